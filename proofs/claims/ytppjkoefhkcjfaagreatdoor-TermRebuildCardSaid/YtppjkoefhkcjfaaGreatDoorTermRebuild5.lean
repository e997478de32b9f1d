/- Law TermRebuild: a part of its proof. No conditions. -/
import Derived.Test.YtppjkoefhkcjfaaGreatDoorTermRebuild3
import Derived.Test.YtppjkoefhkcjfaaGreatDoorProg
import Derived.TacticsInMore
import Derived.LoopNIn
import Derived.LoopIn
import Derived.RangeFuncLeaves
import Derived.RangeFuncBox
import Derived.RangeFuncWrites
import Derived.RangeFuncNested
import Derived.OwnWalkIn
import Derived.Shelf.Abstract
import Derived.WalkKit
import Derived.Lib.Walk
import Derived.BigCall
import Derived.BigGuard
import Derived.Test.YtppjkoefhkcjfaaGreatDoorTermRebuild4
import Derived.Test.YtppjkoefhkcjfaaGreatDoorShelf
import Derived.Lib.ItoaMem
import Derived.Shelf.Strings.Builder1
import Derived.Shelf.Strings.SlTrimAscii
import Derived.IntWalk
import Derived.Lib.ItoaNum
set_option linter.unusedSimpArgs false
set_option linter.unusedVariables false
section
namespace Go.AM
open Go.Proofs Go.RowKit
attribute [local go_sem] Oper.semAt_some
theorem Sb {xs:List Int} {k:Nat} (h:k < xs.length):xs.zipIdx.reverse[k]?=some (xs[xs.length - 1 - k],xs.length - 1 - k):=by
 rw[List.getElem?_reverse (by simpa using h)]
 simp only[List.length_zipIdx,List.getElem?_zipIdx,Nat.zero_add]
 rw[qZ5 (by omega)]
 rfl
set_option maxHeartbeats 1000000 in
theorem ACd (F:Fence) (n:Nat) (h:F.fn 94) (hro:F.round=none) (v:Value) (w:World) (hv:v.oneCell'=true) :
 CallsIn F n Tryz.prog 94 #[v] w fun e w'=>e=.returned (.func (.func 134) #[] #[.pointer (some ⟨w.heap.size,0,none⟩)])/\∃ ty,w'=w.alloc (.cells #[v] ty):=by
 cases v<;>(try (simp[Value.oneCell'] at hv;done))
 all_goals refine callsIn_of_wp Tryz.func94 rfl h ?_ hro
 all_goals simp only[Tryz.ntmps94,List.size_toArray,qY11,List.length_nil,Nat.reduceAdd,Nat.reduceSub,Array.replicate_succ,Array.replicate_zero,List.push_toArray,List.append_toArray,qY15,qY5]
 all_goals gi_wp2
 all_goals go_ret
 all_goals exact ⟨rfl,_,rfl⟩
theorem AFM:HJ Tryz.prog 94 134:=by
 refine ⟨⟨_,Tryz.func94,by decide,rfl⟩,fun v w hv=>(callsIn_wide (n:=0)).1 (CallsIn.mono (ACd Fence.wide 0 trivial rfl v w hv) ?_)⟩
 rintro e w' ⟨rfl,ty,rfl⟩
 exact ⟨ty,rfl,Ext.alloc _ _,by simp,World.alloc_heap_new _ _⟩
set_option maxRecDepth 100000 in
set_option maxHeartbeats 2000000 in
theorem XZ (F:Fence) (n:Nat) (h8:F.fn 134) (hro:F.round=none) (hn:1<=n) (Bs ob:Nat) (ad:Option Addr) (cap:Nat) (xs:List Int) (W:World) (l:Nat) (J:Nat->World->Prop) (hlen:xs.length<=2 ^ 40) (hBs:W.cell? ⟨Bs,ob,none⟩=some (.slice ad xs.length cap))
 (hcs:xs≠[]->∃ b off,ad=some ⟨b,off,none⟩/\∀ (k:Nat) x,xs[k]?=some x->W.cell? ⟨b,off+k,none⟩=some (.int .i64 x))
 (hY:∀ (k:Nat) x W1,xs.zipIdx.reverse[k]?=some x->J k W1->YieldAt F (n - 1) Tryz.prog l (Fx .i64 x) W1 fun e W'=>e=.returned (.bool true)/\J (k+1) W'/\It Bs (ad.map (·.block)) W1 W') (h0:J 0 W) :
 CallsIn F n Tryz.prog 134 #[.func (.yield l) #[] #[],.pointer (some ⟨Bs,ob,none⟩)] W fun e W'=>(∃ v,e=.returned v)/\J xs.length W':=by
 refine callsIn_of_wp Tryz.func134 rfl h8 ?_ hro
 simp only[Tryz.ntmps134,List.size_toArray,qY11,List.length_nil,Nat.reduceAdd,Nat.reduceSub,Array.replicate_succ,Array.replicate_zero,List.push_toArray,List.append_toArray,qY15,qY5]
 gi_wp2
 gi_loopw [3] (fun i wr=>∃ k:Nat,k<=xs.length/\i=.int .i64 ((xs.length:Int) - 1 - k)/\J k wr/\It Bs (ad.map (·.block)) W wr)
  (fun i _=>((RowKit.intOf i)+1).toNat)
 case atStart=>exact ⟨0,Nat.zero_le _,by simp,h0,⟨Nat.le_refl _,rfl,fun _ _=>rfl⟩⟩
 case round=>
  obtain ⟨k,hk,rfl,hJk,hnx⟩:=hrel
  by_cases hlt:k < xs.length
  ·have hz:=Sb hlt
   obtain ⟨fn,tmps,assign,body,hy,hR⟩:=hY k _ wr hz hJk
   dsimp only[Fx] at hy
   have hix:((xs.length - 1 - k:Nat):Int)=(xs.length:Int) - 1 - k:=by omega
   rw[hix] at hy
   have hBx:wr.cell? ⟨Bs,ob,none⟩=some (.slice ad xs.length cap):=by rw[<-hBs];simp only[World.cell?,hnx.2.1]
   obtain ⟨b,off,rfl,hcell⟩:=hcs (by intro e;rw[e] at hlt;simp at hlt)
   have hcx:wr.cell? ⟨b,off+(xs.length - 1 - k),none⟩=some (.int .i64 (xs[xs.length - 1 - k]'(by omega))):=by
    rw[<-hcell (xs.length - 1 - k) _ (qZ5 (by omega))]
    simp only[World.cell?,hnx.2.2 b rfl]
   gi_wp2
   refine hR.mono ?_
   rintro e W3 ⟨rfl,hJ3,hk3⟩
   gi_wp2
   go_roundw
   case rel=>exact ⟨k+1,by omega,by simp;omega,hJ3,⟨Nat.le_trans hnx.1 hk3.1,hk3.2.1.trans hnx.2.1,fun j hj=>(hk3.2.2 j hj).trans (hnx.2.2 j hj)⟩⟩
   case measure=>simp[RowKit.intOf];omega
  ·obtain rfl:k=xs.length:=by omega
   gi_wp2
   go_end0
   exact ⟨⟨_,rfl⟩,hJk⟩
theorem ABV:Ka Tryz.prog 134 .i64:=
 ⟨⟨_,Tryz.func134,by decide,rfl⟩,fun Bs ob ad cap xs W l J hlen hBs hcs hY h0=>(callsIn_wide (n:=0)).2 ((callsIn_wide (n:=1)).1 (XZ Fence.wide 1 trivial rfl (Nat.le_refl _) Bs ob ad cap xs W l J hlen hBs hcs hY h0))⟩
set_option maxHeartbeats 1000000 in
theorem ADs (F:Fence) (n:Nat) (h:F.fn 229) (hro:F.round=none) (v:Value) (w:World) (hv:v.oneCell'=true) :
 CallsIn F n Tryz.prog 229 #[v] w fun e w'=>e=.returned (.func (.func 250) #[] #[.pointer (some ⟨w.heap.size,0,none⟩)])/\∃ ty,w'=w.alloc (.cells #[v] ty):=by
 cases v<;>(try (simp[Value.oneCell'] at hv;done))
 all_goals refine callsIn_of_wp Tryz.func229 rfl h ?_ hro
 all_goals simp only[Tryz.ntmps229,List.size_toArray,qY11,List.length_nil,Nat.reduceAdd,Nat.reduceSub,Array.replicate_succ,Array.replicate_zero,List.push_toArray,List.append_toArray,qY15,qY5]
 all_goals gi_wp2
 all_goals go_ret
 all_goals exact ⟨rfl,_,rfl⟩
theorem AAo:HJ Tryz.prog 229 250:=by
 refine ⟨⟨_,Tryz.func229,by decide,rfl⟩,fun v w hv=>(callsIn_wide (n:=0)).1 (CallsIn.mono (ADs Fence.wide 0 trivial rfl v w hv) ?_)⟩
 rintro e w' ⟨rfl,ty,rfl⟩
 exact ⟨ty,rfl,Ext.alloc _ _,by simp,World.alloc_heap_new _ _⟩
set_option maxRecDepth 100000 in
set_option maxHeartbeats 2000000 in
theorem YB (F:Fence) (n:Nat) (h8:F.fn 250) (hro:F.round=none) (hn:1<=n) (Bs ob:Nat) (ad:Option Addr) (cap:Nat) (xs:List Int) (W:World) (l:Nat) (J:Nat->World->Prop) (hlen:xs.length<=2 ^ 40) (hBs:W.cell? ⟨Bs,ob,none⟩=some (.slice ad xs.length cap))
 (hcs:xs≠[]->∃ b off,ad=some ⟨b,off,none⟩/\∀ (k:Nat) x,xs[k]?=some x->W.cell? ⟨b,off+k,none⟩=some (.int .u32 x))
 (hY:∀ (k:Nat) x W1,xs.zipIdx.reverse[k]?=some x->J k W1->YieldAt F (n - 1) Tryz.prog l (Fx .u32 x) W1 fun e W'=>e=.returned (.bool true)/\J (k+1) W'/\It Bs (ad.map (·.block)) W1 W') (h0:J 0 W) :
 CallsIn F n Tryz.prog 250 #[.func (.yield l) #[] #[],.pointer (some ⟨Bs,ob,none⟩)] W fun e W'=>(∃ v,e=.returned v)/\J xs.length W':=by
 refine callsIn_of_wp Tryz.func250 rfl h8 ?_ hro
 simp only[Tryz.ntmps250,List.size_toArray,qY11,List.length_nil,Nat.reduceAdd,Nat.reduceSub,Array.replicate_succ,Array.replicate_zero,List.push_toArray,List.append_toArray,qY15,qY5]
 gi_wp2
 gi_loopw [3] (fun i wr=>∃ k:Nat,k<=xs.length/\i=.int .i64 ((xs.length:Int) - 1 - k)/\J k wr/\It Bs (ad.map (·.block)) W wr)
  (fun i _=>((RowKit.intOf i)+1).toNat)
 case atStart=>exact ⟨0,Nat.zero_le _,by simp,h0,⟨Nat.le_refl _,rfl,fun _ _=>rfl⟩⟩
 case round=>
  obtain ⟨k,hk,rfl,hJk,hnx⟩:=hrel
  by_cases hlt:k < xs.length
  ·have hz:=Sb hlt
   obtain ⟨fn,tmps,assign,body,hy,hR⟩:=hY k _ wr hz hJk
   dsimp only[Fx] at hy
   have hix:((xs.length - 1 - k:Nat):Int)=(xs.length:Int) - 1 - k:=by omega
   rw[hix] at hy
   have hBx:wr.cell? ⟨Bs,ob,none⟩=some (.slice ad xs.length cap):=by rw[<-hBs];simp only[World.cell?,hnx.2.1]
   obtain ⟨b,off,rfl,hcell⟩:=hcs (by intro e;rw[e] at hlt;simp at hlt)
   have hcx:wr.cell? ⟨b,off+(xs.length - 1 - k),none⟩=some (.int .u32 (xs[xs.length - 1 - k]'(by omega))):=by
    rw[<-hcell (xs.length - 1 - k) _ (qZ5 (by omega))]
    simp only[World.cell?,hnx.2.2 b rfl]
   gi_wp2
   refine hR.mono ?_
   rintro e W3 ⟨rfl,hJ3,hk3⟩
   gi_wp2
   go_roundw
   case rel=>exact ⟨k+1,by omega,by simp;omega,hJ3,⟨Nat.le_trans hnx.1 hk3.1,hk3.2.1.trans hnx.2.1,fun j hj=>(hk3.2.2 j hj).trans (hnx.2.2 j hj)⟩⟩
   case measure=>simp[RowKit.intOf];omega
  ·obtain rfl:k=xs.length:=by omega
   gi_wp2
   go_end0
   exact ⟨⟨_,rfl⟩,hJk⟩
theorem Xe:Ka Tryz.prog 250 .u32:=
 ⟨⟨_,Tryz.func250,by decide,rfl⟩,fun Bs ob ad cap xs W l J hlen hBs hcs hY h0=>(callsIn_wide (n:=0)).2 ((callsIn_wide (n:=1)).1 (YB Fence.wide 1 trivial rfl (Nat.le_refl _) Bs ob ad cap xs W l J hlen hBs hcs hY h0))⟩
end Go.AM
end
section
namespace Go.AM.Num
open Go.Proofs
set_option maxRecDepth 100000
noncomputable section
def tiL:List (Nat×TI):=[(3,⟨.int .i64,1,8,some (.int .i64)⟩),(9,⟨.str,1,16,some .str⟩),(30,⟨.slice 28,1,24,some (.sl An)⟩),(28,⟨.struct [(0,3),(1,3),(2,9),(3,9),(4,3)],5,56,some An⟩),(29,⟨.slice 3,1,24,some (.sl (.int .i64))⟩),(191,⟨.slice 212,1,24,some (.sl (.int .u32))⟩),(4,⟨.bool,1,1,some .bool⟩),(32,⟨.slice 30,1,24,some (.sl (.sl An))⟩),(212,⟨.int .u32,1,4,some (.int .u32)⟩),(93,⟨.slice 98,1,24,some (.sl (.pair (.int .i64) (.pair .str AL)))⟩),(166,⟨.struct [(0,4),(1,9),(2,9)],3,40,some Ia⟩),(98,⟨.struct [(0,3),(1,9),(2,3),(3,3)],4,40,some (.pair (.int .i64) (.pair .str AL))⟩),(65,⟨.slice 5,1,24,some (.sl (.int .u8))⟩),(5,⟨.int .u8,1,1,some (.int .u8)⟩),(82,⟨.struct [(0,30),(1,80)],2,48,some C6⟩),(23,⟨.slice 9,1,24,some (.sl .str)⟩),(127,⟨.struct [(0,9),(1,29),(2,3)],3,48,some (.pair .str AK)⟩),(148,⟨.struct [(0,93),(1,124)],2,32,some (.pair (.sl (.pair (.int .i64) (.pair .str AL))) (.map (.pair .str AK)))⟩),(242,⟨.int .u64,1,8,some (.int .u64)⟩),(193,⟨.struct [(0,4),(1,191),(2,191)],3,56,some E5⟩),(79,⟨.struct [(0,3),(1,3),(2,3)],3,24,some (.pair (.int .i64) AL)⟩),(80,⟨.slice 79,1,24,some (.sl (.pair (.int .i64) AL))⟩),(49,⟨.struct [(0,9),(1,3)],2,24,some Bz⟩),(50,⟨.slice 49,1,24,some (.sl Bz)⟩),(139,⟨.struct [(0,9),(1,3),(2,93),(3,29)],4,72,some (.pair .str (.pair (.int .i64) (.pair (.sl (.pair (.int .i64) (.pair .str AL))) (.sl (.int .i64)))))⟩),(124,⟨.map 9 127,1,8,some (.map (.pair .str AK))⟩),(102,⟨.struct [(0,100),(1,65)],2,32,some (.pair (.ptr .unit) (.sl (.int .u8)))⟩),(35,⟨.int .i64,1,8,some (.int .i64)⟩),(150,⟨.struct [(0,35),(1,3)],2,16,some AL⟩),(108,⟨.struct [(0,3),(1,4),(2,9),(3,23),(4,23)],5,80,some En⟩),(187,⟨.struct [(0,2),(1,2)],2,16,some AL⟩),(105,⟨.struct [(0,29),(1,3)],2,32,some AK⟩),(72,⟨.slice 127,1,24,some (.sl (.pair .str AK))⟩),(2,⟨.int .i64,1,8,some (.int .i64)⟩),(143,⟨.pointer 180,1,8,some (.chain (.pair .str (.sl An)))⟩),(180,⟨.struct [(0,9),(1,30),(2,143)],3,48,some (.pair .str (.pair (.sl An) (.chain (.pair .str (.sl An)))))⟩),(47,⟨.int .u64,1,8,some (.int .u64)⟩),(69,⟨.pointer 82,1,8,some (.ptr C6)⟩),(123,⟨.map 9 49,1,8,some (.map Bz)⟩),(92,⟨.array 5 3,5,40,some (.pair (.int .i64) (.pair (.int .i64) (.pair (.int .i64) AL)))⟩),(253,⟨.map 9 4,1,8,some (.map .bool)⟩)]
theorem Ak:Gf Tryz.prog tiL:=
 (A' (A9 Tryz.underlying3 Tryz.type3 rfl rfl rfl (fun g hg=>by cases hg;exact ⟨rfl,rfl,rfl⟩))
 (A' (A9 Tryz.underlying9 Tryz.type9 rfl rfl rfl (fun g hg=>by cases hg;exact ⟨rfl,rfl,rfl⟩))
 (A' (A9 Tryz.underlying30 Tryz.type30 rfl rfl rfl (fun g hg=>by cases hg;exact ⟨rfl,rfl,rfl⟩))
 (A' (A9 Tryz.underlying28 Tryz.type28 rfl rfl rfl (fun g hg=>by cases hg;exact ⟨rfl,rfl,rfl⟩))
 (A' (A9 Tryz.underlying29 Tryz.type29 rfl rfl rfl (fun g hg=>by cases hg;exact ⟨rfl,rfl,rfl⟩))
 (A' (A9 Tryz.underlying191 Tryz.type191 rfl rfl rfl (fun g hg=>by cases hg;exact ⟨rfl,rfl,rfl⟩))
 (A' (A9 Tryz.underlying4 Tryz.type4 rfl rfl rfl (fun g hg=>by cases hg;exact ⟨rfl,rfl,rfl⟩))
 (A' (A9 Tryz.underlying32 Tryz.type32 rfl rfl rfl (fun g hg=>by cases hg;exact ⟨rfl,rfl,rfl⟩))
 (A' (A9 Tryz.underlying212 Tryz.type212 rfl rfl rfl (fun g hg=>by cases hg;exact ⟨rfl,rfl,rfl⟩))
 (A' (A9 Tryz.underlying93 Tryz.type93 rfl rfl rfl (fun g hg=>by cases hg;exact ⟨rfl,rfl,rfl⟩))
 (A' (A9 Tryz.underlying166 Tryz.type166 rfl rfl rfl (fun g hg=>by cases hg;exact ⟨rfl,rfl,rfl⟩))
 (A' (A9 Tryz.underlying98 Tryz.type98 rfl rfl rfl (fun g hg=>by cases hg;exact ⟨rfl,rfl,rfl⟩))
 (A' (A9 Tryz.underlying65 Tryz.type65 rfl rfl rfl (fun g hg=>by cases hg;exact ⟨rfl,rfl,rfl⟩))
 (A' (A9 Tryz.underlying5 Tryz.type5 rfl rfl rfl (fun g hg=>by cases hg;exact ⟨rfl,rfl,rfl⟩))
 (A' (A9 Tryz.underlying82 Tryz.type82 rfl rfl rfl (fun g hg=>by cases hg;exact ⟨rfl,rfl,rfl⟩))
 (A' (A9 Tryz.underlying23 Tryz.type23 rfl rfl rfl (fun g hg=>by cases hg;exact ⟨rfl,rfl,rfl⟩))
 (A' (A9 Tryz.underlying127 Tryz.type127 rfl rfl rfl (fun g hg=>by cases hg;exact ⟨rfl,rfl,rfl⟩))
 (A' (A9 Tryz.underlying148 Tryz.type148 rfl rfl rfl (fun g hg=>by cases hg;exact ⟨rfl,rfl,rfl⟩))
 (A' (A9 Tryz.underlying242 Tryz.type242 rfl rfl rfl (fun g hg=>by cases hg;exact ⟨rfl,rfl,rfl⟩))
 (A' (A9 Tryz.underlying193 Tryz.type193 rfl rfl rfl (fun g hg=>by cases hg;exact ⟨rfl,rfl,rfl⟩))
 (A' (A9 Tryz.underlying79 Tryz.type79 rfl rfl rfl (fun g hg=>by cases hg;exact ⟨rfl,rfl,rfl⟩))
 (A' (A9 Tryz.underlying80 Tryz.type80 rfl rfl rfl (fun g hg=>by cases hg;exact ⟨rfl,rfl,rfl⟩))
 (A' (A9 Tryz.underlying49 Tryz.type49 rfl rfl rfl (fun g hg=>by cases hg;exact ⟨rfl,rfl,rfl⟩))
 (A' (A9 Tryz.underlying50 Tryz.type50 rfl rfl rfl (fun g hg=>by cases hg;exact ⟨rfl,rfl,rfl⟩))
 (A' (A9 Tryz.underlying139 Tryz.type139 rfl rfl rfl (fun g hg=>by cases hg;exact ⟨rfl,rfl,rfl⟩))
 (A' (A9 Tryz.underlying124 Tryz.type124 rfl rfl rfl (fun g hg=>by cases hg;exact ⟨rfl,rfl,rfl⟩))
 (A' (A9 Tryz.underlying102 Tryz.type102 rfl rfl rfl (fun g hg=>by cases hg;exact ⟨rfl,rfl,rfl⟩))
 (A' (A9 Tryz.underlying35 Tryz.type35 rfl rfl rfl (fun g hg=>by cases hg;exact ⟨rfl,rfl,rfl⟩))
 (A' (A9 Tryz.underlying150 Tryz.type150 rfl rfl rfl (fun g hg=>by cases hg;exact ⟨rfl,rfl,rfl⟩))
 (A' (A9 Tryz.underlying108 Tryz.type108 rfl rfl rfl (fun g hg=>by cases hg;exact ⟨rfl,rfl,rfl⟩))
 (A' (A9 Tryz.underlying187 Tryz.type187 rfl rfl rfl (fun g hg=>by cases hg;exact ⟨rfl,rfl,rfl⟩))
 (A' (A9 Tryz.underlying105 Tryz.type105 rfl rfl rfl (fun g hg=>by cases hg;exact ⟨rfl,rfl,rfl⟩))
 (A' (A9 Tryz.underlying72 Tryz.type72 rfl rfl rfl (fun g hg=>by cases hg;exact ⟨rfl,rfl,rfl⟩))
 (A' (A9 Tryz.underlying2 Tryz.type2 rfl rfl rfl (fun g hg=>by cases hg;exact ⟨rfl,rfl,rfl⟩))
 (A' (A9 Tryz.underlying143 Tryz.type143 rfl rfl rfl (fun g hg=>by cases hg;exact ⟨rfl,rfl,rfl⟩))
 (A' (A9 Tryz.underlying180 Tryz.type180 rfl rfl rfl (fun g hg=>by cases hg;exact ⟨rfl,rfl,rfl⟩))
 (A' (A9 Tryz.underlying47 Tryz.type47 rfl rfl rfl (fun g hg=>by cases hg;exact ⟨rfl,rfl,rfl⟩))
 (A' (A9 Tryz.underlying69 Tryz.type69 rfl rfl rfl (fun g hg=>by cases hg;exact ⟨rfl,rfl,rfl⟩))
 (A' (A9 Tryz.underlying123 Tryz.type123 rfl rfl rfl (fun g hg=>by cases hg;exact ⟨rfl,rfl,rfl⟩))
 (A' (A9 Tryz.underlying92 Tryz.type92 rfl rfl rfl (fun g hg=>by cases hg;exact ⟨rfl,rfl,rfl⟩))
 (A' (A9 Tryz.underlying253 Tryz.type253 rfl rfl rfl (fun g hg=>by cases hg;exact ⟨rfl,rfl,rfl⟩))
 AEU)))))))))))))))))))))))))))))))))))))))))
def l0:FL:=[(75,none,PL),(130,none,Oh),(149,none,Pl),(167,none,MO),(170,none,Np),(173,none,M9),(185,none,Mf),(190,none,NS),(228,none,MJ),(268,none,Nn)]
variable {V:Env} (h0:Fs Tryz.prog V l0)
include h0
theorem g0:Fs Tryz.prog V l0:=h0
def Zu:Callee:=⟨[.val (.sl (.int .i64))],[.box (.dat AK)],fun x=>L' x.1⟩
def l1:FL:=(32,none,Zu)::l0
theorem g1:Fs Tryz.prog V l1:=
 have h:=g0 h0
 h.cons (gz h Ak Tryz.func32 (by kernel_rfl) (fun x=>by kernel_rfl))
def Yn:Callee:=⟨[.val (.int .i64),.val (.int .i64)],[.val (.int .i64)],fun x=>KE x.1 x.2.1⟩
def l2:FL:=(8,none,Yn)::l1
theorem g2:Fs Tryz.prog V l2:=
 have h:=g1 h0
 h.cons (gz h Ak Tryz.func8 (by kernel_rfl) (fun x=>by kernel_rfl))
def ADI:Callee:=⟨[.box (.dat AK),.val (.int .i64)],[.val (.int .i64)],fun x=>A2 x.1 x.2.1⟩
def l3:FL:=(34,none,ADI)::l2
theorem g3:Fs Tryz.prog V l3:=
 have h:=g2 h0
 h.cons (gz h Ak Tryz.func34 (by kernel_rfl) (fun x=>by kernel_rfl))
def Vw:Callee:=⟨[],[.val (.sl Bz)],fun _=>NX⟩
def l4:FL:=(35,none,Vw)::l3
theorem g4:Fs Tryz.prog V l4:=
 have h:=g3 h0
 h.cons (gz h Ak Tryz.func35 (by kernel_rfl) (fun x=>by kernel_rfl))
def AFv:Callee:=⟨[.val (.int .i64)],[.val .str],fun x=>Da x.1⟩
def l5:FL:=(14,none,AFv)::l4
theorem g5:Fs Tryz.prog V l5:=
 have h:=g4 h0
 h.cons (gd [.lp 3 ⟨33,[0,3,4],[.val (.int .i64),.val .str,.val (.int .i64)],[],[]⟩ [.exit 0] Hg] [] [] h Ak AF Tryz.func14 (by kernel_rfl) (fun _=>(AA (fun x=>by kernel_rfl) AG)) (fun x=>by kernel_rfl))
def VE:Callee:=⟨[.val .str],[.val .bool],fun x=>DU x.1⟩
def l6:FL:=(154,none,VE)::l5
theorem g6:Fs Tryz.prog V l6:=
 have h:=g5 h0
 h.cons (gd [.lp 2 ⟨22,[0,2,3],[.val .str,.val .bool,.val (.int .i64)],[],[]⟩ [.exit 0,.ret] Gq] [] [] h Ak AF Tryz.func154 (by kernel_rfl) (fun _=>(AA (fun x=>by kernel_rfl) AG)) (fun x=>by kernel_rfl))
def AHb:Callee:=⟨[.val .str],[.val .str],fun x=>CX x.1⟩
def l7:FL:=(155,none,AHb)::l6
theorem g7:Fs Tryz.prog V l7:=
 have h:=g6 h0
 h.cons (gd [.lp 1 ⟨14,[0],[.val .str],[],[]⟩ [.exit 0] H7] [] [] h Ak AF Tryz.func155 (by kernel_rfl) (fun _=>(AA (fun x=>by kernel_rfl) AG)) (fun x=>by kernel_rfl))
def Xl:Callee:=⟨[.val .str,.val .str],[.val (.int .i64)],fun x=>Jq x.1 x.2.1⟩
def l8:FL:=(183,none,Xl)::l7
theorem g8:Fs Tryz.prog V l8:=
 have h:=g7 h0
 h.cons (gz h Ak Tryz.func183 (by kernel_rfl) (fun x=>by kernel_rfl))
def V9:Callee:=⟨[.val .str,.val .str],[.val .str],fun x=>H3 x.1 x.2.1⟩
def l9:FL:=(184,none,V9)::l8
theorem g9:Fs Tryz.prog V l9:=
 have h:=g8 h0
 h.cons (gd [.lp 4 ⟨61,[0,1,5,6,7],[.val .str,.val .str,.row (.int .u8),.val (.int .i64),.val (.int .i64)],[],[]⟩ [.exit 0] EE] [] [] h Ak AF Tryz.func184 (by kernel_rfl) (fun _=>(AA (fun x=>by kernel_rfl) AG)) (fun x=>by kernel_rfl))
def X':Callee:=⟨[.val .str,.val .str],[.val .str,.val .str],fun x=>Ij x.1 x.2.1⟩
def l10:FL:=(157,none,X')::l9
theorem Y6:Fs Tryz.prog V l10:=
 have h:=g9 h0
 h.cons (gd [.lp 8 ⟨44,[0,1,6,7,8,9],[.val .str,.val .str,.row (.int .u8),.val .str,.val (.int .i64),.val (.int .u8)],[],[]⟩ [.exit 2] HU,.lp 4 ⟨44,[0,1,6,7,8],[.val .str,.val .str,.row (.int .u8),.val .str,.val (.int .i64)],[],[]⟩ [.exit 0] Jk] [] [] h Ak AF Tryz.func157 (by kernel_rfl) (fun _=>(AA (fun x=>by kernel_rfl) (AA (fun x=>by kernel_rfl) AG))) (fun x=>by kernel_rfl))
def YK:Callee:=⟨[.val .str,.val .str],[.val .str],fun x=>Ky x.1 x.2.1⟩
def Ug:FL:=(156,none,YK)::l10
theorem g11:Fs Tryz.prog V Ug:=
 have h:=Y6 h0
 h.cons (gd [.lp 1 ⟨18,[0,1],[.val .str,.val .str],[],[]⟩ [.exit 0] Iw] [] [] h Ak AF Tryz.func156 (by kernel_rfl) (fun _=>(AA (fun x=>by kernel_rfl) AG)) (fun x=>by kernel_rfl))
def ABK:Callee:=⟨[.val .bool,.val .str,.val .str],[.val Ia],fun x=>C_ x.1 x.2.1 x.2.2.1⟩
def OR:FL:=(125,none,ABK)::Ug
theorem g12:Fs Tryz.prog V OR:=
 have h:=g11 h0
 h.cons (gz h Ak Tryz.func125 (by kernel_rfl) (fun x=>by kernel_rfl))
def AFy:Callee:=⟨[.val Ia],[.val .str],fun x=>Cw x.1⟩
def Tq:FL:=(127,none,AFy)::OR
theorem g13:Fs Tryz.prog V Tq:=
 have h:=g12 h0
 h.cons (gz h Ak Tryz.func127 (by kernel_rfl) (fun x=>by kernel_rfl))
def ACI:Callee:=⟨[.val .str],[.val Ia,.val .bool],fun x=>Co x.1⟩
def Uo:FL:=(124,none,ACI)::Tq
theorem g14:Fs Tryz.prog V Uo:=
 have h:=g13 h0
 h.cons (gd [.lp 6 ⟨84,[0,2,4,5,6],[.val .str,.box (.dat Ia),.box (.dat Ia),.val .str,.val (.int .i64)],[],[]⟩ [.exit 0] ES] [] [] h Ak AF Tryz.func124 (by kernel_rfl) (fun _=>(AA (fun x=>by kernel_rfl) AG)) (fun x=>by kernel_rfl))
def AAI:Callee:=⟨[.val .str],[.val .bool],fun x=>B_ x.1⟩
def Sh:FL:=(97,none,AAI)::Uo
theorem g15:Fs Tryz.prog V Sh:=
 have h:=g14 h0
 h.cons (gz h Ak Tryz.func97 (by kernel_rfl) (fun x=>by kernel_rfl))
def AC9:Callee:=⟨[.val .str],[.val .bool],fun x=>DD x.1⟩
def PX:FL:=(98,none,AC9)::Sh
theorem g16:Fs Tryz.prog V PX:=
 have h:=g15 h0
 h.cons (gz h Ak Tryz.func98 (by kernel_rfl) (fun x=>by kernel_rfl))
def V0:Callee:=⟨[.val .str],[.val .str],fun x=>K8 x.1⟩
def SS:FL:=(162,none,V0)::PX
theorem g17:Fs Tryz.prog V SS:=
 have h:=g16 h0
 h.cons (gz h Ak Tryz.func162 (by kernel_rfl) (fun x=>by kernel_rfl))
def AGr:Callee:=⟨[.val .str,.val .str],[.val .str],fun x=>Eb x.1 x.2.1⟩
def Q2:FL:=(126,none,AGr)::SS
theorem Yf:Fs Tryz.prog V Q2:=
 have h:=g17 h0
 h.cons (gd [.lp 6 ⟨78,[0,1,5,6,7],[.val .str,.val .str,.row (.int .i64),.val (.int .i64),.val (.int .i64)],[],[]⟩ [.exit 2] HN,.lp 3 ⟨78,[0,1,5,6],[.val .str,.val .str,.row (.int .i64),.val (.int .i64)],[],[]⟩ [.exit 0] Jo,.lp 12 ⟨78,[5,8,9,10],[.row (.int .i64),.row (.int .u8),.val (.int .i64),.val (.int .i64)],[],[]⟩ [.exit 4] Je] [] [] h Ak AF Tryz.func126 (by kernel_rfl) (fun _=>(AA (fun x=>by kernel_rfl) (AA (fun x=>by kernel_rfl) (AA (fun x=>by kernel_rfl) AG)))) (fun x=>by kernel_rfl))
def AA1:Callee:=⟨[.val .str,.val .str],[.val .str],fun x=>K5 x.1 x.2.1⟩
def S':FL:=(233,none,AA1)::Q2
theorem g19:Fs Tryz.prog V S':=
 have h:=Yf h0
 h.cons (gd [.lp 5 ⟨69,[0,1,5,6,7,8],[.val .str,.val .str,.val (.int .i64),.row (.int .u8),.val (.int .i64),.val (.int .i64)],[],[]⟩ [.exit 0] Ev] [] [] h Ak AF Tryz.func233 (by kernel_rfl) (fun _=>(AA (fun x=>by kernel_rfl) AG)) (fun x=>by kernel_rfl))
def Zy:Callee:=⟨[.val .str,.val .str],[.val .str],fun x=>LJ x.1 x.2.1⟩
def UY:FL:=(212,none,Zy)::S'
theorem g20:Fs Tryz.prog V UY:=
 have h:=g19 h0
 h.cons (gz h Ak Tryz.func212 (by kernel_rfl) (fun x=>by kernel_rfl))
def Zp:Callee:=⟨[.val .str,.val .str],[.val .str],fun x=>KC x.1 x.2.1⟩
def Rk:FL:=(182,none,Zp)::UY
theorem g21:Fs Tryz.prog V Rk:=
 have h:=g20 h0
 h.cons (gz h Ak Tryz.func182 (by kernel_rfl) (fun x=>by kernel_rfl))
def AEC:Callee:=⟨[.val .str],[.val (.int .i64)],fun x=>Hr x.1⟩
def U0:FL:=(100,none,AEC)::Rk
theorem g22:Fs Tryz.prog V U0:=
 have h:=g21 h0
 h.cons (gz h Ak Tryz.func100 (by kernel_rfl) (fun x=>by kernel_rfl))
def AG4:Callee:=⟨[.val .str,.val .str],[.val (.int .i64)],fun x=>Ew x.1 x.2.1⟩
def P9:FL:=(153,none,AG4)::U0
theorem g23:Fs Tryz.prog V P9:=
 have h:=g22 h0
 h.cons (gz h Ak Tryz.func153 (by kernel_rfl) (fun x=>by kernel_rfl))
def YF:Callee:=⟨[.val En],[.val .bool],fun x=>J5 x.1⟩
def Vb:FL:=(119,none,YF)::P9
theorem g24:Fs Tryz.prog V Vb:=
 have h:=g23 h0
 h.cons (gd [.lp 14 ⟨112,[1,2,3],[.box (.dat En),.val .bool,.val (.int .i64)],[],[]⟩ [.exit 1,.ret] D_] [] [] h Ak AF Tryz.func119 (by kernel_rfl) (fun _=>(AA (fun x=>by kernel_rfl) AG)) (fun x=>by kernel_rfl))
def Zz:Callee:=⟨[.val En,.val .str,.val .str],[.val En,.val (.int .i64)],fun x=>Ln x.1 x.2.1 x.2.2.1⟩
def Tc:FL:=(121,none,Zz)::Vb
theorem g25:Fs Tryz.prog V Tc:=
 have h:=g24 h0
 h.cons (gd [.lp 6 ⟨112,[1,2,3,6,8,9,10],[.val .str,.val .str,.box (.dat En),.box (.dat En),.box (.pair (.dat (.int .i64)) (.pair (.dat .bool) (.pair (.dat .str) (.pair (.own .str) (.own .str))))),.val .bool,.val (.int .i64)],[],[]⟩ [.exit 0] Ci] [] [(11,[8],[66,68,74,100075,100076]),(13,[8,3,103],[92,94,96,97,98,108,100109,100110])] h Ak AF Tryz.func121 (by kernel_rfl) (fun _=>(AA (fun x=>by kernel_rfl) AG)) (fun x=>by kernel_rfl))
def AEV:Callee:=⟨[.box (.dat AK),.val (.int .i64)],[.val En],fun x=>F_ x.1 x.2.1⟩
def Qv:FL:=(78,none,AEV)::Tc
theorem g26:Fs Tryz.prog V Qv:=
 have h:=g25 h0
 h.cons (gd [] [] [(6,[5],[25,28,29,100005])] h Ak AF Tryz.func78 (by kernel_rfl) (fun _=>AG) (fun x=>by kernel_rfl))
def AC4:Callee:=⟨[.val .bool],[.val (.sl An)],fun x=>J9 x.1⟩
def Ud:FL:=(120,none,AC4)::Qv
theorem g27:Fs Tryz.prog V Ud:=
 have h:=g26 h0
 h.cons (gz h Ak Tryz.func120 (by kernel_rfl) (fun x=>by kernel_rfl))
def Xo:Callee:=⟨[.val (.int .i64),.val .str],[.val (.sl An)],fun x=>CQ x.1 x.2.1⟩
def Ur:FL:=(38,none,Xo)::Ud
theorem Yo:Fs Tryz.prog V Ur:=
 have h:=g27 h0
 h.cons (gz h Ak Tryz.func38 (by kernel_rfl) (fun x=>by kernel_rfl))
def XX:Callee:=⟨[.val An,.val (.sl (.sl An))],[.val (.sl An)],fun x=>DE x.1 x.2.1⟩
def QW:FL:=(37,none,XX)::Ur
theorem Wy:Fs Tryz.prog V QW:=
 have h:=Yo h0
 h.cons (gd [.lp 4 ⟨25,[1,5,6],[.val (.sl (.sl An)),.row An,.val (.int .i64)],[],[]⟩ [.exit 0] I9] [11] [] h Ak AF Tryz.func37 (by kernel_rfl) (fun _=>(AA (fun x=>by kernel_rfl) AG)) (fun x=>by kernel_rfl))
def Zc:Callee:=⟨[],[.val (.sl .str)],fun _=>Ou⟩
def TC:FL:=(30,none,Zc)::QW
theorem g30:Fs Tryz.prog V TC:=
 have h:=Wy h0
 h.cons (gz h Ak Tryz.func30 (by kernel_rfl) (fun x=>by kernel_rfl))
def AF7:Callee:=⟨[.val (.sl .str),.val .str],[.val .bool],fun x=>KR x.1 x.2.1⟩
def QG:FL:=(29,none,AF7)::TC
theorem g31:Fs Tryz.prog V QG:=
 have h:=g30 h0
 h.cons (gd [.lp 2 ⟨18,[0,1,4,5],[.val (.sl .str),.val .str,.val .bool,.val (.int .i64)],[],[]⟩ [.exit 0,.ret] JK] [] [] h Ak AF Tryz.func29 (by kernel_rfl) (fun _=>(AA (fun x=>by kernel_rfl) AG)) (fun x=>by kernel_rfl))
def AFB:Callee:=⟨[.val (.int .u8)],[.val .bool],fun x=>K1 x.1⟩
def PE:FL:=(31,none,AFB)::QG
theorem W0:Fs Tryz.prog V PE:=
 have h:=g31 h0
 h.cons (gz h Ak Tryz.func31 (by kernel_rfl) (fun x=>by kernel_rfl))
def AE2:Callee:=⟨[.val .str],[.val .bool],fun x=>J0 x.1⟩
def RF:FL:=(11,none,AE2)::PE
theorem g33:Fs Tryz.prog V RF:=
 have h:=W0 h0
 h.cons (gd [.lp 4 ⟨63,[0,2,3],[.val .str,.val .bool,.val (.int .i64)],[],[]⟩ [.exit 0,.ret] IE] [] [] h Ak AF Tryz.func11 (by kernel_rfl) (fun _=>(AA (fun x=>by kernel_rfl) AG)) (fun x=>by kernel_rfl))
def WF:Callee:=⟨[.val (.int .i64)],[.val .bool],fun x=>KP x.1⟩
def Tg:FL:=(99,none,WF)::RF
theorem g34:Fs Tryz.prog V Tg:=
 have h:=g33 h0
 h.cons (gz h Ak Tryz.func99 (by kernel_rfl) (fun x=>by kernel_rfl))
def ABF:Callee:=⟨[.val An],[.val .bool],fun x=>L8 x.1⟩
def S1:FL:=(47,none,ABF)::Tg
theorem Wq:Fs Tryz.prog V S1:=
 have h:=g34 h0
 h.cons (gz h Ak Tryz.func47 (by kernel_rfl) (fun x=>by kernel_rfl))
def ACh:Callee:=⟨[.val (.int .i64),.val (.int .i64)],[.val .bool],fun x=>I7 x.1 x.2.1⟩
def TX:FL:=(48,none,ACh)::S1
theorem g36:Fs Tryz.prog V TX:=
 have h:=Wq h0
 h.cons (gz h Ak Tryz.func48 (by kernel_rfl) (fun x=>by kernel_rfl))
def AD5:Callee:=⟨[.val (.sl (.int .i64)),.val (.int .i64),.val (.int .i64)],[.val (.int .i64)],fun x=>C5 x.1 x.2.1 x.2.2.1⟩
def UO:FL:=(101,none,AD5)::TX
theorem Ym:Fs Tryz.prog V UO:=
 have h:=g36 h0
 h.cons (gd [.lp 2 ⟨21,[0,1,2,6,7],[.val (.sl (.int .i64)),.val (.int .i64),.val (.int .i64),.val (.int .i64),.val (.int .i64)],[],[]⟩ [.exit 0,.ret] Iz] [] [] h Ak AF Tryz.func101 (by kernel_rfl) (fun _=>(AA (fun x=>by kernel_rfl) AG)) (fun x=>by kernel_rfl))
def Zm:Callee:=⟨[.val (.int .i64)],[.val .bool],fun x=>IW x.1⟩
def Uu:FL:=(102,none,Zm)::UO
theorem g38:Fs Tryz.prog V Uu:=
 have h:=Ym h0
 h.cons (gz h Ak Tryz.func102 (by kernel_rfl) (fun x=>by kernel_rfl))
def ACS:Callee:=⟨[.val An,.val (.int .i64),.val (.sl (.int .i64))],[.val (.int .i64)],fun x=>JF x.1 x.2.1 x.2.2.1⟩
def TK:FL:=(50,none,ACS)::Uu
theorem Qn:Fs Tryz.prog V TK:=
 have h:=g38 h0
 h.cons (gz h Ak Tryz.func50 (by kernel_rfl) (fun x=>by kernel_rfl))
def Lq (g:List Aa->Int->Int->Option ((Int×Int×Unit)×Unit)):Callee:=⟨[.val (.sl An),.val (.int .i64),.val (.int .i64)],[.val (.int .i64),.val (.int .i64)],fun x=>g x.1 x.2.1 x.2.2.1⟩
def ABs:Callee:=Lq (E4 Bl)
theorem W7 (AHl:List Aa->Int->Int->Option ((Int×Int×Unit)×Unit)) (r0:Good V 84 (Lq AHl)):Good V 84 (Lq (L0 AHl)):=
 have h:=Qn h0
 gd [.lp 7 ⟨104,[0,1,2,6,7,8,9,10,11],[.val (.sl An),.val (.int .i64),.val (.int .i64),.val (.int .i64),.val (.int .i64),.own (.int .i64),.val (.int .i64),.val .bool,.val (.int .i64)],[],[]⟩ [.exit 0,.ret] (Fq AHl)] [] [] (Fs.cons (s:=none) h r0) Ak AF Tryz.func84 (by kernel_rfl) (fun _=>(AA (fun x=>by kernel_rfl) AG)) (fun x=>by kernel_rfl)
theorem ABW (n:Nat):Good V 84 (Lq (E4 n)):=by
 induction n with
 |zero=>exact D7 ⟨_,h0.prog ▸ Tryz.func84,by decide,rfl⟩ (fun _=>rfl)
 |succ n ih=>exact W7 h0 (E4 n) ih
def O3:FL:=(84,none,ABs)::TK
theorem g40:Fs Tryz.prog V O3:=(Fs.cons (s:=none) (Qn h0) (ABW h0 Bl))
def V_:Callee:=⟨[.val (.sl An),.val (.int .i64)],[.val (.sl (.int .i64))],fun x=>Kx x.1 x.2.1⟩
def R8:FL:=(136,none,V_)::O3
theorem ZZ:Fs Tryz.prog V R8:=
 have h:=g40 h0
 h.cons (gd [.lp 4 ⟨33,[0,1,5,6,7],[.val (.sl An),.val (.int .i64),.own (.int .i64),.val (.int .i64),.val (.int .i64)],[],[]⟩ [.exit 0] Hd] [] [] h Ak AF Tryz.func136 (by kernel_rfl) (fun _=>(AA (fun x=>by kernel_rfl) AG)) (fun x=>by kernel_rfl))
def AC6:Callee:=⟨[.val (.sl An),.val (.int .i64)],[.val (.pair .str AK)],fun x=>Ki x.1 x.2.1⟩
def Qc:FL:=(103,none,AC6)::R8
theorem g42:Fs Tryz.prog V Qc:=
 have h:=ZZ h0
 h.cons (gz h Ak Tryz.func103 (by kernel_rfl) (fun x=>by kernel_rfl))
def ADg:Callee:=⟨[.val (.sl (.int .i64)),.val (.sl (.int .i64))],[.val .bool],fun x=>KN x.1 x.2.1⟩
def Pv:FL:=(104,none,ADg)::Qc
theorem g43:Fs Tryz.prog V Pv:=
 have h:=g42 h0
 h.cons (gd [.lp 4 ⟨26,[0,1,4,5],[.val (.sl (.int .i64)),.val (.sl (.int .i64)),.val .bool,.val (.int .i64)],[],[]⟩ [.exit 0,.ret] IY] [] [] h Ak AF Tryz.func104 (by kernel_rfl) (fun _=>(AA (fun x=>by kernel_rfl) AG)) (fun x=>by kernel_rfl))
def Yr:Callee:=⟨[.val (.sl An)],[.val .bool],fun x=>K4 x.1⟩
def Q5:FL:=(51,none,Yr)::Pv
theorem g44:Fs Tryz.prog V Q5:=
 have h:=g43 h0
 h.cons (gd [.lp 10 ⟨137,[0,2,3,4,5,6,7],[.val (.sl An),.val .bool,.row Bz,.row (.pair .str AK),.val (.int .i64),.val .bool,.val (.int .i64)],[],[]⟩ [.exit 3,.ret] Gy,.lp 22 ⟨137,[0,2,3,4,5,8,9,10],[.val (.sl An),.val .bool,.row Bz,.row (.pair .str AK),.val (.int .i64),.box (.dat (.pair .str AK)),.val .bool,.val (.int .i64)],[],[]⟩ [.exit 5,.ret] Gi,.lp 4 ⟨137,[0,2,3,4,5],[.val (.sl An),.val .bool,.own Bz,.own (.pair .str AK),.val (.int .i64)],[],[]⟩ [.exit 0,.ret] FX,.lp 34 ⟨137,[2,3,4,11,12],[.val .bool,.row Bz,.row (.pair .str AK),.val (.int .i64),.val (.int .i64)],[],[]⟩ [.exit 9,.ret] GM,.lp 31 ⟨137,[2,3,4,11],[.val .bool,.row Bz,.row (.pair .str AK),.val (.int .i64)],[],[]⟩ [.exit 7,.ret] FH] [] [] h Ak AF Tryz.func51 (by kernel_rfl) (fun _=>(AA (fun x=>by kernel_rfl) (AA (fun x=>by kernel_rfl) (AA (fun x=>by kernel_rfl) (AA (fun x=>by kernel_rfl) (AA (fun x=>by kernel_rfl) AG)))))) (fun x=>by kernel_rfl))
def ABT:Callee:=⟨[.val (.sl An)],[.val (.int .i64)],fun x=>E9 x.1⟩
def Pg:FL:=(36,none,ABT)::Q5
theorem g45:Fs Tryz.prog V Pg:=
 have h:=g44 h0
 h.cons (gz h Ak Tryz.func36 (by kernel_rfl) (fun x=>by kernel_rfl))
def ZF:Callee:=⟨[.val (.sl An)],[.val .bool],fun x=>J7 x.1⟩
def Rh:FL:=(46,none,ZF)::Pg
theorem g46:Fs Tryz.prog V Rh:=
 have h:=g45 h0
 h.cons (gz h Ak Tryz.func46 (by kernel_rfl) (fun x=>by kernel_rfl))
def AD4:Callee:=⟨[.val En],[.val (.sl An),.val (.int .i64)],fun x=>FA x.1⟩
def UM:FL:=(77,none,AD4)::Rh
theorem g47:Fs Tryz.prog V UM:=
 have h:=g46 h0
 h.cons (gd [.lp 11 ⟨60,[1,2,3,4,5],[.box (.dat En),.val (.sl An),.val (.int .i64),.val (.sl An),.val (.int .i64)],[],[]⟩ [.exit 1,.ret] H5] [] [] h Ak AF Tryz.func77 (by kernel_rfl) (fun _=>(AA (fun x=>by kernel_rfl) AG)) (fun x=>by kernel_rfl))
def ACY:Callee:=⟨[.box (.dat AK),.val (.int .i64),.val (.sl Bz)],[.val (.sl An)],fun x=>Dh x.1 x.2.1 x.2.2.1⟩
def Rf:FL:=(79,none,ACY)::UM
theorem Yu:Fs Tryz.prog V Rf:=
 have h:=g47 h0
 h.cons (gd [.lp 3 ⟨55,[0,1,2,7,8],[.box (.dat AK),.val (.int .i64),.val (.sl Bz),.own Bz,.val (.int .i64)],[0],[]⟩ [.exit 0] HK] [] [] h Ak AF Tryz.func79 (by kernel_rfl) (fun _=>(AA (fun x=>by kernel_rfl) AG)) (fun x=>by kernel_rfl))
def ABb:Callee:=⟨[.box (.dat AK)],[.val .bool],fun x=>Kr x.1⟩
def RP:FL:=(76,none,ABb)::Rf
theorem YX:Fs Tryz.prog V RP:=
 have h:=Yu h0
 h.cons (gz h Ak Tryz.func76 (by kernel_rfl) (fun x=>by kernel_rfl))
def Wn:Callee:=⟨[.val (.int .i64),.val (.sl (.sl An))],[.val (.sl An)],fun x=>BJ x.1 x.2.1⟩
def Rd:FL:=(81,none,Wn)::RP
theorem g50:Fs Tryz.prog V Rd:=
 have h:=YX h0
 h.cons (gz h Ak Tryz.func81 (by kernel_rfl) (fun x=>by kernel_rfl))
def Z':Callee:=⟨[.val .str,.val .str],[.val .str],fun x=>KG x.1 x.2.1⟩
def SD:FL:=(128,none,Z')::Rd
theorem g51:Fs Tryz.prog V SD:=
 have h:=g50 h0
 h.cons (gz h Ak Tryz.func128 (by kernel_rfl) (fun x=>by kernel_rfl))
def XQ:Callee:=⟨[.box (.dat AK)],[.val .str],fun x=>G4 x.1⟩
def Va:FL:=(86,none,XQ)::SD
theorem YS:Fs Tryz.prog V Va:=
 have h:=g51 h0
 h.cons (gz h Ak Tryz.func86 (by kernel_rfl) (fun x=>by kernel_rfl))
def Vx:Callee:=⟨[.val .str,.val .str],[.val .str],fun x=>Kc x.1 x.2.1⟩
def U1:FL:=(85,none,Vx)::Va
theorem g53:Fs Tryz.prog V U1:=
 have h:=YS h0
 h.cons (gz h Ak Tryz.func85 (by kernel_rfl) (fun x=>by kernel_rfl))
def Zt:Callee:=⟨[.box (.dat AK)],[.val .str],fun x=>GI x.1⟩
def O7:FL:=(39,none,Zt)::U1
theorem g54:Fs Tryz.prog V O7:=
 have h:=g53 h0
 h.cons (gz h Ak Tryz.func39 (by kernel_rfl) (fun x=>by kernel_rfl))
def ZG:Callee:=⟨[.box (.dat AK),.val (.int .i64)],[.val .str],fun x=>Ef x.1 x.2.1⟩
def QI:FL:=(123,none,ZG)::O7
theorem Ho:Fs Tryz.prog V QI:=
 have h:=g54 h0
 h.cons (gz h Ak Tryz.func123 (by kernel_rfl) (fun x=>by kernel_rfl))
def F2 (g:Ac->Int->Int->List Vr->Option (((List Aa)×Unit)×(Ac×Unit))):Callee:=⟨[.box (.dat AK),.val (.int .i64),.val (.int .i64),.val (.sl Bz)],[.val (.sl An)],fun x=>g x.1 x.2.1 x.2.2.1 x.2.2.2.1⟩
def AE5:Callee:=F2 (B6 Bl)
def FD (g:Ac->Int->List Vr->Option (((List Aa)×Unit)×(Ac×Unit))):Callee:=⟨[.box (.dat AK),.val (.int .i64),.val (.sl Bz)],[.val (.sl An)],fun x=>g x.1 x.2.1 x.2.2.1⟩
def AAM:Callee:=FD (Cv Bl)
def FZ (g:Ac->Int->Int->List Vr->Option (((List Aa)×Unit)×(Ac×Unit))):Callee:=⟨[.box (.dat AK),.val (.int .i64),.val (.int .i64),.val (.sl Bz)],[.val (.sl An)],fun x=>g x.1 x.2.1 x.2.2.1 x.2.2.2.1⟩
def WL:Callee:=FZ (CU Bl)
def FN (g:Ac->Int->Int->List Vr->Option (((List Aa)×Unit)×(Ac×Unit))):Callee:=⟨[.box (.dat AK),.val (.int .i64),.val (.int .i64),.val (.sl Bz)],[.val (.sl An)],fun x=>g x.1 x.2.1 x.2.2.1 x.2.2.2.1⟩
def ADw:Callee:=FN (CW Bl)
def Fw (g:Ac->Int->List Vr->Option (((List Aa)×Unit)×(Ac×Unit))):Callee:=⟨[.box (.dat AK),.val (.int .i64),.val (.sl Bz)],[.val (.sl An)],fun x=>g x.1 x.2.1 x.2.2.1⟩
def VI:Callee:=Fw (CE Bl)
theorem Xy (AHh:Ac->Int->Int->List Vr->Option (((List Aa)×Unit)×(Ac×Unit))) (AHg:Ac->Int->List Vr->Option (((List Aa)×Unit)×(Ac×Unit))) (AHk:Ac->Int->Int->List Vr->Option (((List Aa)×Unit)×(Ac×Unit))) (AHi:Ac->Int->Int->List Vr->Option (((List Aa)×Unit)×(Ac×Unit))) (AHj:Ac->Int->List Vr->Option (((List Aa)×Unit)×(Ac×Unit))) (r0:Good V 33 (F2 AHh)) (r1:Good V 80 (FD AHg)) (r2:Good V 82 (FZ AHk)) (r3:Good V 83 (FN AHi)) (r4:Good V 122 (Fw AHj)):Good V 33 (F2 (Hv AHh AHg AHk AHi AHj)):=
 have h:=Ho h0
 gz (Fs.cons (s:=none) (Fs.cons (s:=none) (Fs.cons (s:=none) (Fs.cons (s:=none) (Fs.cons (s:=none) h r0) r1) r2) r3) r4) Ak Tryz.func33 (by kernel_rfl) (fun x=>by kernel_rfl)
theorem ADX (AHh:Ac->Int->Int->List Vr->Option (((List Aa)×Unit)×(Ac×Unit))) (AHg:Ac->Int->List Vr->Option (((List Aa)×Unit)×(Ac×Unit))) (AHk:Ac->Int->Int->List Vr->Option (((List Aa)×Unit)×(Ac×Unit))) (AHi:Ac->Int->Int->List Vr->Option (((List Aa)×Unit)×(Ac×Unit))) (AHj:Ac->Int->List Vr->Option (((List Aa)×Unit)×(Ac×Unit))) (r0:Good V 33 (F2 AHh)) (r1:Good V 80 (FD AHg)) (r2:Good V 82 (FZ AHk)) (r3:Good V 83 (FN AHi)) (r4:Good V 122 (Fw AHj)):Good V 80 (FD (HA AHh AHg AHk AHi AHj)):=
 have h:=Ho h0
 gd [.lp 13 ⟨94,[0,1,2,7,8],[.box (.dat AK),.val (.int .i64),.val (.sl Bz),.own (.sl An),.val (.int .i64)],[0],[]⟩ [.exit 1] (E3 AHh AHg AHk AHi AHj)] [] [] (Fs.cons (s:=none) (Fs.cons (s:=none) (Fs.cons (s:=none) (Fs.cons (s:=none) (Fs.cons (s:=none) h r0) r1) r2) r3) r4) Ak AF Tryz.func80 (by kernel_rfl) (fun _=>(AA (fun x=>by kernel_rfl) AG)) (fun x=>by kernel_rfl)
theorem AAu (AHh:Ac->Int->Int->List Vr->Option (((List Aa)×Unit)×(Ac×Unit))) (AHg:Ac->Int->List Vr->Option (((List Aa)×Unit)×(Ac×Unit))) (AHk:Ac->Int->Int->List Vr->Option (((List Aa)×Unit)×(Ac×Unit))) (AHi:Ac->Int->Int->List Vr->Option (((List Aa)×Unit)×(Ac×Unit))) (AHj:Ac->Int->List Vr->Option (((List Aa)×Unit)×(Ac×Unit))) (r0:Good V 33 (F2 AHh)) (r1:Good V 80 (FD AHg)) (r2:Good V 82 (FZ AHk)) (r3:Good V 83 (FN AHi)) (r4:Good V 122 (Fw AHj)):Good V 82 (FZ (J_ AHh AHg AHk AHi AHj)):=
 have h:=Ho h0
 gz (Fs.cons (s:=none) (Fs.cons (s:=none) (Fs.cons (s:=none) (Fs.cons (s:=none) (Fs.cons (s:=none) h r0) r1) r2) r3) r4) Ak Tryz.func82 (by kernel_rfl) (fun x=>by kernel_rfl)
theorem ABw (AHh:Ac->Int->Int->List Vr->Option (((List Aa)×Unit)×(Ac×Unit))) (AHg:Ac->Int->List Vr->Option (((List Aa)×Unit)×(Ac×Unit))) (AHk:Ac->Int->Int->List Vr->Option (((List Aa)×Unit)×(Ac×Unit))) (AHi:Ac->Int->Int->List Vr->Option (((List Aa)×Unit)×(Ac×Unit))) (AHj:Ac->Int->List Vr->Option (((List Aa)×Unit)×(Ac×Unit))) (r0:Good V 33 (F2 AHh)) (r1:Good V 80 (FD AHg)) (r2:Good V 82 (FZ AHk)) (r3:Good V 83 (FN AHi)) (r4:Good V 122 (Fw AHj)):Good V 83 (FN (Lz AHh AHg AHk AHi AHj)):=
 have h:=Ho h0
 gd [.lp 5 ⟨122,[0,1,2,3,10,11],[.box (.dat AK),.val (.int .i64),.val (.int .i64),.val (.sl Bz),.row (.sl An),.val (.int .i64)],[0],[]⟩ [.exit 1] (Jy AHh AHg AHk AHi AHj)] [24] [(15,[12],[88,89])] (Fs.cons (s:=none) (Fs.cons (s:=none) (Fs.cons (s:=none) (Fs.cons (s:=none) (Fs.cons (s:=none) h r0) r1) r2) r3) r4) Ak AF Tryz.func83 (by kernel_rfl) (fun _=>(AA (fun x=>by kernel_rfl) AG)) (fun x=>by kernel_rfl)
theorem AEm (AHh:Ac->Int->Int->List Vr->Option (((List Aa)×Unit)×(Ac×Unit))) (AHg:Ac->Int->List Vr->Option (((List Aa)×Unit)×(Ac×Unit))) (AHk:Ac->Int->Int->List Vr->Option (((List Aa)×Unit)×(Ac×Unit))) (AHi:Ac->Int->Int->List Vr->Option (((List Aa)×Unit)×(Ac×Unit))) (AHj:Ac->Int->List Vr->Option (((List Aa)×Unit)×(Ac×Unit))) (r0:Good V 33 (F2 AHh)) (r1:Good V 80 (FD AHg)) (r2:Good V 82 (FZ AHk)) (r3:Good V 83 (FN AHi)) (r4:Good V 122 (Fw AHj)):Good V 122 (Fw (Km AHh AHg AHk AHi AHj)):=
 have h:=Ho h0
 gz (Fs.cons (s:=none) (Fs.cons (s:=none) (Fs.cons (s:=none) (Fs.cons (s:=none) (Fs.cons (s:=none) h r0) r1) r2) r3) r4) Ak Tryz.func122 (by kernel_rfl) (fun x=>by kernel_rfl)
theorem Jl (n:Nat):Good V 33 (F2 (B6 n))/\Good V 80 (FD (Cv n))/\Good V 82 (FZ (CU n))/\Good V 83 (FN (CW n))/\Good V 122 (Fw (CE n)):=by
 induction n with
 |zero=>exact ⟨D7 ⟨_,h0.prog ▸ Tryz.func33,by decide,rfl⟩ (fun _=>rfl),D7 ⟨_,h0.prog ▸ Tryz.func80,by decide,rfl⟩ (fun _=>rfl),D7 ⟨_,h0.prog ▸ Tryz.func82,by decide,rfl⟩ (fun _=>rfl),D7 ⟨_,h0.prog ▸ Tryz.func83,by decide,rfl⟩ (fun _=>rfl),D7 ⟨_,h0.prog ▸ Tryz.func122,by decide,rfl⟩ (fun _=>rfl)⟩
 |succ n ih=>exact ⟨Xy h0 (B6 n) (Cv n) (CU n) (CW n) (CE n) ih.1 ih.2.1 ih.2.2.1 ih.2.2.2.1 ih.2.2.2.2,ADX h0 (B6 n) (Cv n) (CU n) (CW n) (CE n) ih.1 ih.2.1 ih.2.2.1 ih.2.2.2.1 ih.2.2.2.2,AAu h0 (B6 n) (Cv n) (CU n) (CW n) (CE n) ih.1 ih.2.1 ih.2.2.1 ih.2.2.2.1 ih.2.2.2.2,ABw h0 (B6 n) (Cv n) (CU n) (CW n) (CE n) ih.1 ih.2.1 ih.2.2.1 ih.2.2.2.1 ih.2.2.2.2,AEm h0 (B6 n) (Cv n) (CU n) (CW n) (CE n) ih.1 ih.2.1 ih.2.2.1 ih.2.2.2.1 ih.2.2.2.2⟩
def RD:FL:=(122,none,VI)::(83,none,ADw)::(82,none,WL)::(80,none,AAM)::(33,none,AE5)::QI
theorem W8:Fs Tryz.prog V RD:=(Fs.cons (s:=none) (Fs.cons (s:=none) (Fs.cons (s:=none) (Fs.cons (s:=none) (Fs.cons (s:=none) (Ho h0) (Jl h0 Bl).1) (Jl h0 Bl).2.1) (Jl h0 Bl).2.2.1) (Jl h0 Bl).2.2.2.1) (Jl h0 Bl).2.2.2.2)
def ACO:Callee:=⟨[.val (.sl (.int .i64))],[.val (.sl An)],fun x=>Ke x.1⟩
def OT:FL:=(12,none,ACO)::RD
theorem g57:Fs Tryz.prog V OT:=
 have h:=W8 h0
 h.cons (gz h Ak Tryz.func12 (by kernel_rfl) (fun x=>by kernel_rfl))
def ADm:Callee:=⟨[.val .str],[.val .bool],fun x=>Ec x.1⟩
def RA:FL:=(131,none,ADm)::OT
theorem g58:Fs Tryz.prog V RA:=
 have h:=g57 h0
 h.cons (gd [.lp 2 ⟨30,[0,2,6,7,8],[.val .str,.val .bool,.val (.sl (.int .u8)),.val (.int .i64),.val (.int .i64)],[],[]⟩ [.exit 0,.ret] EZ] [] [] h Ak AF Tryz.func131 (by kernel_rfl) (fun _=>(AA (fun x=>by kernel_rfl) AG)) (fun x=>by kernel_rfl))
def W9:Callee:=⟨[.val .str],[.val .bool],fun x=>GS x.1⟩
def PR:FL:=(89,none,W9)::RA
theorem g59:Fs Tryz.prog V PR:=
 have h:=g58 h0
 h.cons (gz h Ak Tryz.func89 (by kernel_rfl) (fun x=>by kernel_rfl))
def ZK:Callee:=⟨[.val (.int .i64),.val (.int .i64)],[.val (.int .i64)],fun x=>Gh x.1 x.2.1⟩
def TW:FL:=(186,none,ZK)::PR
theorem g60:Fs Tryz.prog V TW:=
 have h:=g59 h0
 h.cons (gd [.lp 1 ⟨12,[0,1],[.val (.int .i64),.val (.int .i64)],[],[]⟩ [.exit 0] IX] [] [] h Ak AF Tryz.func186 (by kernel_rfl) (fun _=>(AA (fun x=>by kernel_rfl) AG)) (fun x=>by kernel_rfl))
def ADL:Callee:=⟨[.val .str],[.val AL,.val .bool],fun x=>B0 x.1⟩
def Vg:FL:=(158,none,ADL)::TW
theorem XT:Fs Tryz.prog V Vg:=
 have h:=g60 h0
 h.cons (gz h Ak Tryz.func158 (by kernel_rfl) (fun x=>by kernel_rfl))
def YP:Callee:=⟨[.val (.sl (.int .u32))],[.val (.sl (.int .u32))],fun x=>Ey x.1⟩
def US:FL:=(199,none,YP)::Vg
theorem g62:Fs Tryz.prog V US:=
 have h:=XT h0
 h.cons (gd [.lp 2 ⟨21,[0,3],[.val (.sl (.int .u32)),.val (.int .i64)],[],[]⟩ [.exit 0] DN] [] [] h Ak AF Tryz.func199 (by kernel_rfl) (fun _=>(AA (fun x=>by kernel_rfl) AG)) (fun x=>by kernel_rfl))
def YQ:Callee:=⟨[.val .str],[.val (.sl (.int .u32))],fun x=>D0 x.1⟩
def SW:FL:=(172,none,YQ)::US
theorem g63:Fs Tryz.prog V SW:=
 have h:=g62 h0
 h.cons (gd [.lp 7 ⟨39,[0,3,4,5,20,21,22],[.val .str,.row (.int .u32),.val (.int .i64),.val (.int .u32),.val (.sl (.int .u8)),.val (.int .i64),.val (.int .i64)],[],[]⟩ [.exit 2] Ib,.lp 3 ⟨39,[0,3,4],[.val .str,.own (.int .u32),.val (.int .i64)],[],[]⟩ [.exit 0] Ix] [] [] h Ak AF Tryz.func172 (by kernel_rfl) (fun _=>(AA (fun x=>by kernel_rfl) (AA (fun x=>by kernel_rfl) AG))) (fun x=>by kernel_rfl))
def AAA:Callee:=⟨[.val (.sl (.int .u32)),.val (.sl (.int .u32))],[.val (.int .i64)],fun x=>HO x.1 x.2.1⟩
def SZ:FL:=(224,none,AAA)::SW
theorem VK:Fs Tryz.prog V SZ:=
 have h:=g63 h0
 h.cons (gd [.lp 4 ⟨43,[0,1,4,5],[.val (.sl (.int .u32)),.val (.sl (.int .u32)),.val (.int .i64),.val (.int .i64)],[],[]⟩ [.exit 0,.ret] Hh] [] [] h Ak AF Tryz.func224 (by kernel_rfl) (fun _=>(AA (fun x=>by kernel_rfl) AG)) (fun x=>by kernel_rfl))
def AEc:Callee:=⟨[.val (.sl (.int .u32)),.val (.int .u32)],[.val (.sl (.int .u32)),.val (.sl (.int .u32))],fun x=>HS x.1 x.2.1⟩
def R3:FL:=(225,none,AEc)::SZ
theorem Ov:Fs Tryz.prog V R3:=
 have h:=VK h0
 h.cons (gd [.lp 4 ⟨46,[0,1,6,7,8],[.val (.sl (.int .u32)),.val (.int .u32),.row (.int .u32),.val (.int .u64),.val (.int .i64)],[],[]⟩ [.exit 0] J4] [] [] h Ak AF Tryz.func225 (by kernel_rfl) (fun _=>(AA (fun x=>by kernel_rfl) AG)) (fun x=>by kernel_rfl))
def AGl:Callee:=⟨[.row (.int .u32)],[.view 0],fun x=>KJ x.1⟩
theorem AGd:Good V 199 AGl:=
 have h:=Ov h0
 gd [.lp 2 ⟨21,[0,3],[.row (.int .u32),.val (.int .i64)],[0],[]⟩ [.exit 0] Ks] [] [] h Ak AF Tryz.func199 (by kernel_rfl) (fun _=>(AA (fun x=>by kernel_rfl) AG)) (fun x=>by kernel_rfl)
def AA8:Callee:=⟨[.val (.sl (.int .u32)),.val (.sl (.int .u32))],[.own (.int .u32)],fun x=>JH x.1 x.2.1⟩
theorem Ye:Good V 226 AA8:=
 have h:=Ov h0
 gd [.lp 7 ⟨69,[1,5,6,7,8,18,19,20,25,26,27],[.val (.sl (.int .u32)),.row (.int .u32),.val (.int .i64),.val (.int .u32),.val (.int .u64),.val (.sl (.int .u32)),.val (.int .i64),.val (.int .i64),.val (.sl (.int .u32)),.val (.int .i64),.val (.int .i64)],[],[]⟩ [.exit 2] SM,.lp 3 ⟨69,[1,5,18,19,20],[.val (.sl (.int .u32)),.row (.int .u32),.val (.sl (.int .u32)),.val (.int .i64),.val (.int .i64)],[],[]⟩ [.exit 0] Mg] [] [] (Fs.cons (s:=none) h (AGd h0)) Ak AF Tryz.func226 (by kernel_rfl) (fun _=>(AA (fun x=>by kernel_rfl) (AA (fun x=>by kernel_rfl) AG))) (fun x=>by kernel_rfl)
def ABv:Callee:=⟨[.row (.int .u32),.val (.sl (.int .u32)),.val (.int .u64)],[.val .bool],fun x=>IA x.1 x.2.1 x.2.2.1⟩
def T3:FL:=(247,none,ABv)::R3
theorem g66:Fs Tryz.prog V T3:=
 have h:=Ov h0
 h.cons (gd [.lp 3 ⟨54,[0,1,2,7,8,12,13],[.row (.int .u32),.val (.sl (.int .u32)),.val (.int .u64),.val (.int .u64),.val (.int .i64),.val (.int .i64),.val (.int .i64)],[0],[]⟩ [.exit 0] Ed] [] [] h Ak AF Tryz.func247 (by kernel_rfl) (fun _=>(AA (fun x=>by kernel_rfl) AG)) (fun x=>by kernel_rfl))
def Xt:Callee:=⟨[.val (.sl (.int .u32)),.val (.int .i64)],[.val (.int .u32)],fun x=>LL x.1 x.2.1⟩
def RB:FL:=(263,none,Xt)::T3
theorem g67:Fs Tryz.prog V RB:=
 have h:=g66 h0
 h.cons (gz h Ak Tryz.func263 (by kernel_rfl) (fun x=>by kernel_rfl))
def ADh:Callee:=⟨[.row (.int .u32),.val (.sl (.int .u32))],[],fun x=>Jz x.1 x.2.1⟩
def PF:FL:=(248,none,ADh)::RB
theorem g68:Fs Tryz.prog V PF:=
 have h:=g67 h0
 h.cons (gd [.lp 2 ⟨30,[0,1,4,8,9],[.row (.int .u32),.val (.sl (.int .u32)),.val (.int .u32),.val (.int .i64),.val (.int .i64)],[0],[]⟩ [.exit 0] IS] [] [] h Ak AF Tryz.func248 (by kernel_rfl) (fun _=>(AA (fun x=>by kernel_rfl) AG)) (fun x=>by kernel_rfl))
def Xv:Callee:=⟨[.row (.int .u32),.val (.sl (.int .u32))],[.val (.int .u32)],fun x=>IP x.1 x.2.1⟩
def Q0:FL:=(227,none,Xv)::PF
theorem VX:Fs Tryz.prog V Q0:=
 have h:=g68 h0
 h.cons (gd [.lp 4 ⟨77,[0,1,5,7,8,9],[.row (.int .u32),.val (.sl (.int .u32)),.val (.int .i64),.val (.int .u64),.val (.int .u64),.val (.int .u64)],[0],[]⟩ [.exit 0] DQ] [] [] h Ak AF Tryz.func227 (by kernel_rfl) (fun _=>(AA (fun x=>by kernel_rfl) AG)) (fun x=>by kernel_rfl))
def XK:Callee:=⟨[.val (.sl (.int .u32)),.val (.sl (.int .u32))],[.val (.sl (.int .u32)),.val (.sl (.int .u32))],fun x=>HT x.1 x.2.1⟩
def Sa:FL:=(204,none,XK)::Q0
theorem g70:Fs Tryz.prog V Sa:=
 have h:=VX h0
 h.cons (gd [.lp 7 ⟨93,[0,6,7,8],[.val (.sl (.int .u32)),.val (.sl (.int .u32)),.row (.int .u32),.row (.int .u32)],[],[]⟩ [.exit 1] Hn,.lp 11 ⟨93,[6,7,8,9,10],[.val (.sl (.int .u32)),.row (.int .u32),.row (.int .u32),.row (.int .u32),.val (.int .i64)],[],[7]⟩ [.exit 3] Ha] [] [] (Fs.cons (s:=none) h (Ye h0)) Ak AF Tryz.func204 (by kernel_rfl) (fun _=>(AA (fun x=>by kernel_rfl) (AA (fun x=>by kernel_rfl) AG))) (fun x=>by kernel_rfl))
def AA2:Callee:=⟨[.val (.sl (.int .u32)),.val (.sl (.int .u32))],[.val (.sl (.int .u32))],fun x=>Hy x.1 x.2.1⟩
def Tb:FL:=(187,none,AA2)::Sa
theorem g71:Fs Tryz.prog V Tb:=
 have h:=g70 h0
 h.cons (gd [.lp 1 ⟨19,[0,1],[.val (.sl (.int .u32)),.val (.sl (.int .u32))],[],[]⟩ [.exit 0] JE] [] [] h Ak AF Tryz.func187 (by kernel_rfl) (fun _=>(AA (fun x=>by kernel_rfl) AG)) (fun x=>by kernel_rfl))
def ACi:Callee:=⟨[.val (.sl (.int .u32))],[.val .bool],fun x=>Et x.1⟩
def Rb:FL:=(188,none,ACi)::Tb
theorem X2:Fs Tryz.prog V Rb:=
 have h:=g71 h0
 h.cons (gz h Ak Tryz.func188 (by kernel_rfl) (fun x=>by kernel_rfl))
def AAP:Callee:=⟨[.val .str],[.val E5,.val .bool],fun x=>Cz x.1⟩
def Pk:FL:=(159,none,AAP)::Rb
theorem YI:Fs Tryz.prog V Pk:=
 have h:=X2 h0
 h.cons (gz h Ak Tryz.func159 (by kernel_rfl) (fun x=>by kernel_rfl))
def XA:Callee:=⟨[.val .str],[.val .bool],fun x=>FU x.1⟩
def S5:FL:=(129,none,XA)::Pk
theorem g74:Fs Tryz.prog V S5:=
 have h:=YI h0
 h.cons (gz h Ak Tryz.func129 (by kernel_rfl) (fun x=>by kernel_rfl))
def ABZ:Callee:=⟨[.val (.int .i64),.val .str],[.val .bool],fun x=>Kp x.1 x.2.1⟩
def S6:FL:=(87,none,ABZ)::S5
theorem g75:Fs Tryz.prog V S6:=
 have h:=g74 h0
 h.cons (gz h Ak Tryz.func87 (by kernel_rfl) (fun x=>by kernel_rfl))
def ZC:Callee:=⟨[.val (.int .i64)],[.val .bool],fun x=>F6 x.1⟩
def Vo:FL:=(88,none,ZC)::S6
theorem g76:Fs Tryz.prog V Vo:=
 have h:=g75 h0
 h.cons (gz h Ak Tryz.func88 (by kernel_rfl) (fun x=>by kernel_rfl))
def AFd:Callee:=⟨[.val (.int .u8)],[.val .bool],fun x=>JP x.1⟩
def Sq:FL:=(27,none,AFd)::Vo
theorem Zh:Fs Tryz.prog V Sq:=
 have h:=g76 h0
 h.cons (gz h Ak Tryz.func27 (by kernel_rfl) (fun x=>by kernel_rfl))
def W5:Callee:=⟨[.val .str],[.val .bool],fun x=>M' x.1⟩
def TT:FL:=(28,none,W5)::Sq
theorem g78:Fs Tryz.prog V TT:=
 have h:=Zh h0
 h.cons (gz h Ak Tryz.func28 (by kernel_rfl) (fun x=>by kernel_rfl))
def ZB:Callee:=⟨[.val .str],[.val .bool],fun x=>Fm x.1⟩
def QQ:FL:=(10,none,ZB)::TT
theorem g79:Fs Tryz.prog V QQ:=
 have h:=g78 h0
 h.cons (gd [.lp 4 ⟨51,[0,2,23,24],[.val .str,.val .bool,.val (.int .i64),.val (.int .i64)],[],[]⟩ [.exit 0,.ret] Jf] [] [] h Ak AF Tryz.func10 (by kernel_rfl) (fun _=>(AA (fun x=>by kernel_rfl) AG)) (fun x=>by kernel_rfl))
def Z6:Callee:=⟨[.val .str],[.val (.int .i64)],fun x=>Fj x.1⟩
def UV:FL:=(90,none,Z6)::QQ
theorem X_:Fs Tryz.prog V UV:=
 have h:=g79 h0
 h.cons (gz h Ak Tryz.func90 (by kernel_rfl) (fun x=>by kernel_rfl))
def AAD:Callee:=⟨[.val An],[.val .bool],fun x=>IJ x.1⟩
def Vj:FL:=(40,none,AAD)::UV
theorem g81:Fs Tryz.prog V Vj:=
 have h:=X_ h0
 h.cons (gz h Ak Tryz.func40 (by kernel_rfl) (fun x=>by kernel_rfl))
def WM:Callee:=⟨[.val (.int .i64),.val (.int .i64)],[.val .bool],fun x=>Gk x.1 x.2.1⟩
def O0:FL:=(41,none,WM)::Vj
theorem g82:Fs Tryz.prog V O0:=
 have h:=g81 h0
 h.cons (gz h Ak Tryz.func41 (by kernel_rfl) (fun x=>by kernel_rfl))
def AEP:Callee:=⟨[.val (.int .i64),.val (.ptr (.int .i64))],[.val .bool],fun x=>Mx x.1 x.2.1⟩
def O_:FL:=(133,none,AEP)::O0
theorem Wo:Fs Tryz.prog V O_:=
 have h:=g82 h0
 h.cons (gz h Ak Tryz.func133 (by kernel_rfl) (fun x=>by kernel_rfl))
def ZJ:Callee:=⟨[.val (.sl (.int .i64)),.val (.fnv 133 (.ptr (.int .i64)))],[.val (.int .i64)],fun x=>NR x.1 x.2.1⟩
def RC:FL:=(161,some 133,ZJ)::O_
theorem WJ:Fs Tryz.prog V RC:=
 have h:=Wo h0
 h.cons (gd [.lp 2 ⟨19,[0,1,4,7,8],[.val (.sl (.int .i64)),.val (.fnv 133 (.ptr (.int .i64))),.val (.int .i64),.val (.int .i64),.val (.int .i64)],[],[]⟩ [.exit 0,.ret] JR] [] [] h Ak AF Tryz.func161 (by kernel_rfl) (fun _=>(AA (fun x=>by kernel_rfl) AG)) (fun x=>by kernel_rfl))
def WT:Callee:=⟨[.val (.sl (.int .i64)),.val (.fnv 133 (.ptr (.int .i64)))],[.val .bool],fun x=>NV x.1 x.2.1⟩
def Vd:FL:=(132,some 133,WT)::RC
theorem g85:Fs Tryz.prog V Vd:=
 have h:=WJ h0
 h.cons (gz h Ak Tryz.func132 (by kernel_rfl) (fun x=>by kernel_rfl))
def AD0:Callee:=⟨[.val (.sl (.int .i64)),.val (.int .i64)],[.val .bool],fun x=>De x.1 x.2.1⟩
def Um:FL:=(92,none,AD0)::Vd
theorem g86:Fs Tryz.prog V Um:=
 have h:=g85 h0
 h.cons (gz h Ak Tryz.func92 (by kernel_rfl) (fun x=>by kernel_rfl))
def YE:Callee:=⟨[.val .bool,.val (.int .i64)],[.val (.int .i64)],fun x=>BH x.1 x.2.1⟩
def Rq:FL:=(91,none,YE)::Um
theorem g87:Fs Tryz.prog V Rq:=
 have h:=g86 h0
 h.cons (gz h Ak Tryz.func91 (by kernel_rfl) (fun x=>by kernel_rfl))
def AED:Callee:=⟨[.val (.int .i64)],[.val .bool],fun x=>Fi x.1⟩
def Up:FL:=(93,none,AED)::Rq
theorem V8:Fs Tryz.prog V Up:=
 have h:=g87 h0
 h.cons (gz h Ak Tryz.func93 (by kernel_rfl) (fun x=>by kernel_rfl))
def AEd:Callee:=⟨[.val An,.val (.sl (.int .i64))],[.val (.int .i64)],fun x=>Gz x.1 x.2.1⟩
def O2:FL:=(42,none,AEd)::Up
theorem g89:Fs Tryz.prog V O2:=
 have h:=V8 h0
 h.cons (gz h Ak Tryz.func42 (by kernel_rfl) (fun x=>by kernel_rfl))
def RQ:Ann:=⟨142,[4,9,10],[.box (.box (.pair (.dat (.sl An)) (.own (.pair (.int .i64) AL)))),.box (.dat (.pair (.int .i64) AL)),.box (.own (.int .i64))],[0,1,2],[]⟩
def ABI:Callee:=⟨[.val (.sl An)],[.val (.ptr C6),.val .bool],fun x=>Gt x.1⟩
def Un:FL:=(43,none,ABI)::O2
theorem g90:Fs Tryz.prog V Un:=
 have h:=g89 h0
 h.cons (gd [.raw 13 (Jg RQ 134 .i64 (.tmp 64) (fun v i y=>(H6 v i y).bind fun o=>some (Hx y o)) KW),.lp 4 ⟨142,[0,2,3,4,5,6],[.val (.sl An),.val (.ptr C6),.val .bool,.box (.box (.pair (.dat (.sl An)) (.own (.pair (.int .i64) AL)))),.own (.int .i64),.val (.int .i64)],[],[]⟩ [.exit 0,.ret] Fy] [] [] h Ak (Q8 AFM AF) Tryz.func43 (by kernel_rfl) (fun hE=>(OA (O5 (A:=RQ) (merge:=Hx) (outs:=KW) (t1:=65) (t2:=66) (s:=66) (d:=12) (round:=H6) hE (h.prog ▸ ABV) (show pick 13 (Bf (fb Tryz.f43))=bb (sr (sl (sr (sr (sr (sr (sr (bb (sl (sr (lb (bb (sr (sl (sr (sr (sr (fb Tryz.f43)))))))))))))))))) from by kernel_rfl) rfl rfl rfl (fun v i y=>by kernel_rfl) (fun y o=>by kernel_rfl) (fun y=>by kernel_rfl) (fun y=>by kernel_rfl) rfl (fun y=>by kernel_rfl)) (AA (fun x=>by kernel_rfl) AG))) (fun x=>by kernel_rfl))
def AGf:Callee:=⟨[.val (.ptr C6)],[.val .bool],fun x=>E8 x.1⟩
def S0:FL:=(45,none,AGf)::Un
theorem XU:Fs Tryz.prog V S0:=
 have h:=g90 h0
 h.cons (gz h Ak Tryz.func45 (by kernel_rfl) (fun x=>by kernel_rfl))
def AC8:Callee:=⟨[.val (.ptr C6),.val (.int .i64)],[.val (.sl (.int .i64))],fun x=>Io x.1 x.2.1⟩
def Vk:FL:=(53,none,AC8)::S0
theorem g92:Fs Tryz.prog V Vk:=
 have h:=XU h0
 h.cons (gd [.lp 4 ⟨33,[0,5,6,16,17],[.val (.ptr C6),.own (.int .i64),.val (.int .i64),.val (.int .i64),.val (.int .i64)],[],[]⟩ [.exit 0] Ji] [] [] h Ak AF Tryz.func53 (by kernel_rfl) (fun _=>(AA (fun x=>by kernel_rfl) AG)) (fun x=>by kernel_rfl))
def ABE:Callee:=⟨[.val (.ptr C6),.val (.int .i64)],[.val (.pair .str AK)],fun x=>Lc x.1 x.2.1⟩
def P1:FL:=(95,none,ABE)::Vk
theorem XV:Fs Tryz.prog V P1:=
 have h:=g92 h0
 h.cons (gd [.lp 3 ⟨48,[0,4,5,27,28,29],[.val (.ptr C6),.box (.dat (.pair .str AK)),.box (.pair (.dat .str) (.pair (.own (.int .i64)) (.dat (.int .i64)))),.val (.sl (.int .i64)),.val (.int .i64),.val (.int .i64)],[],[]⟩ [.exit 0] t_view_signature_s3] [] [(1,[0,11,19],[100005])] h Ak AF Tryz.func95 (by kernel_rfl) (fun _=>(AA (fun x=>by kernel_rfl) AG)) (fun x=>by kernel_rfl))
def Y0:Callee:=⟨[.val (.sl (.int .i64)),.val (.sl (.int .i64))],[.val .bool],fun x=>L9 x.1 x.2.1⟩
def S8:FL:=(135,none,Y0)::P1
theorem Ze:Fs Tryz.prog V S8:=
 have h:=XV h0
 h.cons (gd [.lp 4 ⟨26,[0,1,4,12,13],[.val (.sl (.int .i64)),.val (.sl (.int .i64)),.val .bool,.val (.int .i64),.val (.int .i64)],[],[]⟩ [.exit 0,.ret] IQ] [] [] h Ak AF Tryz.func135 (by kernel_rfl) (fun _=>(AA (fun x=>by kernel_rfl) AG)) (fun x=>by kernel_rfl))
def ZU:Callee:=⟨[.val (.pair .str AK),.val (.pair .str AK)],[.val .bool],fun x=>IZ x.1 x.2.1⟩
def RM:FL:=(96,none,ZU)::S8
theorem g95:Fs Tryz.prog V RM:=
 have h:=Ze h0
 h.cons (gz h Ak Tryz.func96 (by kernel_rfl) (fun x=>by kernel_rfl))
def Xk:Callee:=⟨[.val (.ptr C6)],[.val (.sl Bz),.val (.sl (.pair .str AK)),.val .bool],fun x=>F7 x.1⟩
def U6:FL:=(44,none,Xk)::RM
theorem g96:Fs Tryz.prog V U6:=
 have h:=g95 h0
 h.cons (gd [.lp 5 ⟨113,[0,2,3,4,5,6,7,8,25,26,27],[.val (.ptr C6),.val (.sl Bz),.val (.sl (.pair .str AK)),.val .bool,.mp Bz,.mp (.pair .str AK),.own Bz,.own (.pair .str AK),.val (.sl An),.val (.int .i64),.val (.int .i64)],[],[]⟩ [.exit 0,.ret] F8] [] [] h Ak AF Tryz.func44 (by kernel_rfl) (fun _=>(AA (fun x=>by kernel_rfl) AG)) (fun x=>by kernel_rfl))
def VA:Callee:=⟨[.val (.sl An)],[.val (.ptr C6),.val .bool],fun x=>E7 x.1⟩
def O6:FL:=(52,none,VA)::U6
theorem g97:Fs Tryz.prog V O6:=
 have h:=g96 h0
 h.cons (gz h Ak Tryz.func52 (by kernel_rfl) (fun x=>by kernel_rfl))
def ABf:Callee:=⟨[.val (.osl An)],[.val (.sl An)],fun x=>KZ x.1⟩
def Ri:FL:=(54,none,ABf)::O6
theorem g98:Fs Tryz.prog V Ri:=
 have h:=g97 h0
 h.cons (gz h Ak Tryz.func54 (by kernel_rfl) (fun x=>by kernel_rfl))
def V':Callee:=⟨[.val (.sl An)],[.val (.sl (.sl An))],fun x=>Ll x.1⟩
def Qo:FL:=(18,none,V')::Ri
theorem WY:Fs Tryz.prog V Qo:=
 have h:=g98 h0
 h.cons (gd [.lp 6 ⟨39,[0,3,5,16,17,18],[.val (.sl An),.val (.ptr C6),.own (.sl An),.val (.sl (.int .i64)),.val (.int .i64),.val (.int .i64)],[],[]⟩ [.exit 0] HZ] [] [] h Ak AF Tryz.func18 (by kernel_rfl) (fun _=>(AA (fun x=>by kernel_rfl) AG)) (fun x=>by kernel_rfl))
def ADN:Callee:=⟨[.val (.sl An)],[.val .bool],fun x=>K3 x.1⟩
def Ql:FL:=(19,none,ADN)::Qo
theorem W4:Fs Tryz.prog V Ql:=
 have h:=WY h0
 h.cons (gz h Ak Tryz.func19 (by kernel_rfl) (fun x=>by kernel_rfl))
def AAn:Callee:=⟨[.val (.sl An)],[.val (.int .i64)],fun x=>JC x.1⟩
def Vp:FL:=(20,none,AAn)::Ql
theorem ADQ:Fs Tryz.prog V Vp:=
 have h:=W4 h0
 h.cons (gz h Ak Tryz.func20 (by kernel_rfl) (fun x=>by kernel_rfl))
def XR:Callee:=⟨[.val (.sl An)],[.val (.int .i64)],fun x=>EK x.1⟩
def UK:FL:=(25,none,XR)::Vp
theorem YC:Fs Tryz.prog V UK:=
 have h:=ADQ h0
 h.cons (gz h Ak Tryz.func25 (by kernel_rfl) (fun x=>by kernel_rfl))
def AGv:Callee:=⟨[.val An,.val (.sl (.sl An))],[.val (.sl An),.val (.int .i64)],fun x=>C7 x.1 x.2.1⟩
def QE:FL:=(15,none,AGv)::UK
theorem AAx:Fs Tryz.prog V QE:=
 have h:=YC h0
 h.cons (gd [.lp 5 ⟨82,[2,4,5,6,7,21,22,23],[.box (.dat An),.val (.sl An),.val (.int .i64),.own (.int .i64),.row An,.val (.sl (.sl An)),.val (.int .i64),.val (.int .i64)],[],[7]⟩ [.exit 0,.ret] FW] [20] [] h Ak AF Tryz.func15 (by kernel_rfl) (fun _=>(AA (fun x=>by kernel_rfl) AG)) (fun x=>by kernel_rfl))
def ACW:Callee:=⟨[.val (.int .i64),.val (.int .i64)],[.val (.int .i64)],fun x=>GH x.1 x.2.1⟩
def Sw:FL:=(69,none,ACW)::QE
theorem AB5:Fs Tryz.prog V Sw:=
 have h:=AAx h0
 h.cons (gz h Ak Tryz.func69 (by kernel_rfl) (fun x=>by kernel_rfl))
def AFh:Callee:=⟨[.val .str,.val .str],[.val (.int .i64)],fun x=>JQ x.1 x.2.1⟩
def PV:FL:=(70,none,AFh)::Sw
theorem AGS:Fs Tryz.prog V PV:=
 have h:=AB5 h0
 h.cons (gz h Ak Tryz.func70 (by kernel_rfl) (fun x=>by kernel_rfl))
def YH:Ann:=⟨72,[0,1,4,5],[.val (.sl An),.val (.sl An),.val (.int .i64),.val (.int .i64)],[],[]⟩
def AFU:Ann:=⟨72,[0,1,4,5,6,7],[.val (.sl An),.val (.sl An),.val (.int .i64),.val (.int .i64),.box (.dat An),.box (.dat An)],[],[]⟩
def AFc:Callee:=⟨[.val (.sl An),.val (.sl An)],[.val (.int .i64)],fun x=>Md x.1 x.2.1⟩
def P3:FL:=(23,none,AFc)::PV
theorem ABz:Fs Tryz.prog V P3:=
 have h:=AGS h0
 h.cons (gd [.raw 1000004 (Ny YH AFU ON),.lp 7 ⟨72,[0,1,4,5,8,9],[.val (.sl An),.val (.sl An),.val (.int .i64),.val (.int .i64),.val (.ptr (.pair (.int .i64) (.pair (.int .i64) (.pair (.int .i64) AL)))),.val (.int .i64)],[],[]⟩ [.exit 2,.ret] DJ,.lp 2 ⟨72,[0,1,4,5],[.val (.sl An),.val (.sl An),.val (.int .i64),.val (.int .i64)],[],[]⟩ [.exit 0,.ret] Ge] [] [(4,[0,1],[100007]),(5,[6,7,31,33,36,38,41,43,46,48,51,53],[100008])] h Ak AF Tryz.func23 (by kernel_rfl) (fun hE=>(OA (ZQ (q:=9) (ps:=[8]) (rid:=4) (ops:=SJ (pick 1000004 (Bf (fb Tryz.f23)))) hE (show pick 1000004 (Bf (fb Tryz.f23))=.region 4 (SJ (pick 1000004 (Bf (fb Tryz.f23)))) true from by kernel_rfl) (by kernel_rfl) (List.forall_mem_cons.2 ⟨fun x=>by kernel_rfl,List.forall_mem_cons.2 ⟨fun x=>by kernel_rfl,fun _ h=>nomatch h⟩⟩)) (AA (fun x=>by kernel_rfl) (AA (fun x=>by kernel_rfl) AG)))) (fun x=>by kernel_rfl))
def AEW:Callee:=⟨[.val (.sl An),.val (.sl An)],[.val .bool],fun x=>KT x.1 x.2.1⟩
def Ru:FL:=(17,none,AEW)::P3
theorem ZR:Fs Tryz.prog V Ru:=
 have h:=ABz h0
 h.cons (gz h Ak Tryz.func17 (by kernel_rfl) (fun x=>by kernel_rfl))
def AF0:Callee:=⟨[.val (.int .u8)],[.val .bool],fun x=>RR x.1⟩
def T7:FL:=(139,none,AF0)::Ru
theorem Yj:Fs Tryz.prog V T7:=
 have h:=ZR h0
 h.cons (gz h Ak Tryz.func139 (by kernel_rfl) (fun x=>by kernel_rfl))
def ADK:Callee:=⟨[.box (.pair (.dat .str) (.pair (.dat (.int .i64)) (.pair (.own (.pair (.int .i64) (.pair .str AL))) (.own (.int .i64)))))],[],fun x=>MP x.1⟩
def Sl:FL:=(109,none,ADK)::T7
theorem ACo:Fs Tryz.prog V Sl:=
 have h:=Yj h0
 h.cons (gd [.lp 5 ⟨64,[0],[.box (.pair (.dat .str) (.pair (.dat (.int .i64)) (.pair (.own (.pair (.int .i64) (.pair .str AL))) (.own (.int .i64)))))],[0],[]⟩ [.exit 3] Tr,.lp 0 ⟨64,[0],[.box (.pair (.dat .str) (.pair (.dat (.int .i64)) (.pair (.own (.pair (.int .i64) (.pair .str AL))) (.own (.int .i64)))))],[0],[]⟩ [.exit 0,.ret] PI] [] [] h Ak AF Tryz.func109 (by kernel_rfl) (fun _=>(AA (fun x=>by kernel_rfl) (AA (fun x=>by kernel_rfl) AG))) (fun x=>by kernel_rfl))
def ABy:Callee:=⟨[.box (.pair (.dat .str) (.pair (.dat (.int .i64)) (.pair (.own (.pair (.int .i64) (.pair .str AL))) (.own (.int .i64))))),.val (.int .i64),.val .str,.val (.int .i64)],[.val (.int .i64)],fun x=>Lo x.1 x.2.1 x.2.2.1 x.2.2.2.1⟩
def Qj:FL:=(140,none,ABy)::Sl
theorem Yw:Fs Tryz.prog V Qj:=
 have h:=ACo h0
 h.cons (gz h Ak Tryz.func140 (by kernel_rfl) (fun x=>by kernel_rfl))
def ACQ:Callee:=⟨[.val (.int .u8)],[.val .bool],fun x=>Oi x.1⟩
def R6:FL:=(165,none,ACQ)::Qj
theorem W_:Fs Tryz.prog V R6:=
 have h:=Yw h0
 h.cons (gz h Ak Tryz.func165 (by kernel_rfl) (fun x=>by kernel_rfl))
def AGh:Callee:=⟨[.box (.pair .slf (.own (.int .u8))),.val (.int .u8)],[.val .err],fun x=>HE x.1 x.2.1⟩
def Pz:FL:=(118,none,AGh)::R6
theorem ACt:Fs Tryz.prog V Pz:=
 have h:=W_ h0
 h.cons (gz h Ak Tryz.func118 (by kernel_rfl) (fun x=>by kernel_rfl))
def AEK:Callee:=⟨[.box (.pair (.dat .str) (.pair (.dat (.int .i64)) (.pair (.own (.pair (.int .i64) (.pair .str AL))) (.own (.int .i64)))))],[.val .str,.val .bool],fun x=>S4 x.1⟩
def Ph:FL:=(141,none,AEK)::Pz
theorem Wg:Fs Tryz.prog V Ph:=
 have h:=ACt h0
 h.cons (gd [.lr 3 ⟨90,[0,2,3,4],[.box (.pair (.dat .str) (.pair (.dat (.int .i64)) (.pair (.own (.pair (.int .i64) (.pair .str AL))) (.own (.int .i64))))),.val .str,.val .bool,.box (.pair .slf (.own (.int .u8)))],[0],[]⟩ ⟨90,[0,2,3],[.box (.pair (.dat .str) (.pair (.dat (.int .i64)) (.pair (.own (.pair (.int .i64) (.pair .str AL))) (.own (.int .i64))))),.val .str,.val .bool],[0],[]⟩ [.exit 0] TU] [] [] h Ak AF Tryz.func141 (by kernel_rfl) (fun _=>(AA7 (fun x=>by kernel_rfl) AG)) (fun x=>by kernel_rfl))
def AG3:Callee:=⟨[.val (.int .u8)],[.val .bool],fun x=>Hb x.1⟩
def PH:FL:=(168,none,AG3)::Ph
theorem AB6:Fs Tryz.prog V PH:=
 have h:=Wg h0
 h.cons (gz h Ak Tryz.func168 (by kernel_rfl) (fun x=>by kernel_rfl))
def AFn:Callee:=⟨[.val (.int .u8)],[.val .bool],fun x=>NW x.1⟩
def Qt:FL:=(166,none,AFn)::PH
theorem ADn:Fs Tryz.prog V Qt:=
 have h:=AB6 h0
 h.cons (gz h Ak Tryz.func166 (by kernel_rfl) (fun x=>by kernel_rfl))
def AGW:Callee:=⟨[.box (.pair (.dat .str) (.pair (.dat (.int .i64)) (.pair (.own (.pair (.int .i64) (.pair .str AL))) (.own (.int .i64)))))],[.val .str],fun x=>T_ x.1⟩
def Sc:FL:=(142,none,AGW)::Qt
theorem Xq:Fs Tryz.prog V Sc:=
 have h:=ADn h0
 h.cons (gd [.lp 2 ⟨47,[0,3],[.box (.pair (.dat .str) (.pair (.dat (.int .i64)) (.pair (.own (.pair (.int .i64) (.pair .str AL))) (.own (.int .i64))))),.val (.int .i64)],[0],[]⟩ [.exit 0] U9] [] [] h Ak AF Tryz.func142 (by kernel_rfl) (fun _=>(AA (fun x=>by kernel_rfl) AG)) (fun x=>by kernel_rfl))
def WQ:Callee:=⟨[.val .str],[.val .bool],fun x=>Rj x.1⟩
def Py:FL:=(169,none,WQ)::Sc
theorem AB9:Fs Tryz.prog V Py:=
 have h:=Xq h0
 h.cons (gz h Ak Tryz.func169 (by kernel_rfl) (fun x=>by kernel_rfl))
def Xm:Callee:=⟨[.val .str],[.val (.int .i64)],fun x=>I_ x.1⟩
def P5:FL:=(143,none,Xm)::Py
theorem AFf:Fs Tryz.prog V P5:=
 have h:=AB9 h0
 h.cons (gz h Ak Tryz.func143 (by kernel_rfl) (fun x=>by kernel_rfl))
def ADi:Callee:=⟨[.box (.pair (.dat .str) (.pair (.dat (.int .i64)) (.pair (.own (.pair (.int .i64) (.pair .str AL))) (.own (.int .i64)))))],[.val (.int .i64)],fun x=>Qa x.1⟩
def Sx:FL:=(110,none,ADi)::P5
theorem Z5:Fs Tryz.prog V Sx:=
 have h:=AFf h0
 h.cons (gz h Ak Tryz.func110 (by kernel_rfl) (fun x=>by kernel_rfl))
def Yl:Callee:=⟨[.val .str],[.val (.sl (.pair (.int .i64) (.pair .str AL))),.val (.int .i64),.val (.int .i64)],fun x=>U' x.1⟩
def UG:FL:=(71,none,Yl)::Sx
theorem AFX:Fs Tryz.prog V UG:=
 have h:=Z5 h0
 h.cons (gd [.lp 5 ⟨47,[0,2,3,4,5],[.val .str,.val (.sl (.pair (.int .i64) (.pair .str AL))),.val (.int .i64),.val (.int .i64),.box (.pair (.dat .str) (.pair (.dat (.int .i64)) (.pair (.own (.pair (.int .i64) (.pair .str AL))) (.own (.int .i64)))))],[],[]⟩ [.exit 0,.ret] Qy] [] [] h Ak AF Tryz.func71 (by kernel_rfl) (fun _=>(AA (fun x=>by kernel_rfl) AG)) (fun x=>by kernel_rfl))
def WR:Callee:=⟨[.val (.pair (.int .i64) (.pair .str AL))],[.val .bool],fun x=>Ue x.1⟩
def T2:FL:=(144,none,WR)::UG
theorem ADW:Fs Tryz.prog V T2:=
 have h:=AFX h0
 h.cons (gd [.lp 6 ⟨63,[1,2,21,22],[.box (.dat (.pair (.int .i64) (.pair .str AL))),.val .bool,.val (.int .i64),.val (.int .i64)],[],[]⟩ [.exit 1,.ret] S2,.lp 16 ⟨63,[1,2,41,42],[.box (.dat (.pair (.int .i64) (.pair .str AL))),.val .bool,.val (.int .i64),.val (.int .i64)],[],[]⟩ [.exit 3,.ret] Lu] [] [] h Ak AF Tryz.func144 (by kernel_rfl) (fun _=>(AA (fun x=>by kernel_rfl) (AA (fun x=>by kernel_rfl) AG))) (fun x=>by kernel_rfl))
def Wa:Callee:=⟨[.val (.sl (.pair (.int .i64) (.pair .str AL)))],[.val .bool],fun x=>Ol x.1⟩
def Ry:FL:=(111,none,Wa)::T2
theorem WW:Fs Tryz.prog V Ry:=
 have h:=ADW h0
 h.cons (gd [.lp 5 ⟨68,[2,3,5,8,9,10],[.val .bool,.row (.int .i64),.box (.dat (.pair (.int .i64) (.pair .str AL))),.val (.sl (.pair (.int .i64) (.pair .str AL))),.val (.int .i64),.val (.int .i64)],[],[]⟩ [.exit 2] TN,.lp 3 ⟨68,[2,3,8,9,10],[.val .bool,.own (.int .i64),.val (.sl (.pair (.int .i64) (.pair .str AL))),.val (.int .i64),.val (.int .i64)],[],[]⟩ [.exit 0,.ret] SL,.lp 15 ⟨68,[2,59,60,61],[.val .bool,.row (.int .i64),.val (.int .i64),.val (.int .i64)],[],[]⟩ [.exit 4,.ret] UN] [] [] h Ak AF Tryz.func111 (by kernel_rfl) (fun _=>(AA (fun x=>by kernel_rfl) (AA (fun x=>by kernel_rfl) (AA (fun x=>by kernel_rfl) AG)))) (fun x=>by kernel_rfl))
def ABo:Callee:=⟨[.val (.sl (.pair (.int .i64) (.pair .str AL))),.val (.int .i64)],[.val (.int .i64)],fun x=>RH x.1 x.2.1⟩
def UQ:FL:=(112,none,ABo)::Ry
theorem ACU:Fs Tryz.prog V UQ:=
 have h:=WW h0
 h.cons (gd [.lp 2 ⟨19,[0,1,5],[.val (.sl (.pair (.int .i64) (.pair .str AL))),.val (.int .i64),.val (.int .i64)],[],[]⟩ [.exit 0] R2] [] [] h Ak AF Tryz.func112 (by kernel_rfl) (fun _=>(AA (fun x=>by kernel_rfl) AG)) (fun x=>by kernel_rfl))
def XD:Callee:=⟨[.val (.sl (.pair (.int .i64) (.pair .str AL)))],[.val (.sl (.int .i64))],fun x=>Sg x.1⟩
def Rm:FL:=(72,none,XD)::UQ
theorem ADa:Fs Tryz.prog V Rm:=
 have h:=ACU h0
 h.cons (gd [.lp 5 ⟨20,[0,3,4],[.val (.sl (.pair (.int .i64) (.pair .str AL))),.own (.int .i64),.val (.int .i64)],[],[]⟩ [.exit 0] Tl] [] [] h Ak AF Tryz.func72 (by kernel_rfl) (fun _=>(AA (fun x=>by kernel_rfl) AG)) (fun x=>by kernel_rfl))
def Y3:Callee:=⟨[.val An],[.val (.sl An)],fun x=>Fc x.1⟩
def UJ:FL:=(145,none,Y3)::Rm
theorem WD:Fs Tryz.prog V UJ:=
 have h:=ADa h0
 h.cons (gz h Ak Tryz.func145 (by kernel_rfl) (fun x=>by kernel_rfl))
def ADo:Callee:=⟨[.val (.sl Bz),.val (.sl (.pair .str AK))],[.val (.chain (.pair .str (.sl An))),.val (.map (.pair .str AK)),.val .bool],fun x=>R4 x.1 x.2.1⟩
def Ut:FL:=(113,none,ADo)::UJ
theorem Wd:Fs Tryz.prog V Ut:=
 have h:=WD h0
 h.cons (gd [.lp 3 ⟨105,[0,1,4,5,6,7,8],[.val (.sl Bz),.val (.sl (.pair .str AK)),.val (.chain (.pair .str (.sl An))),.val (.map (.pair .str AK)),.val .bool,.val (.chain (.pair .str (.sl An))),.val (.int .i64)],[],[]⟩ [.exit 0,.ret] Pt,.lp 16 ⟨105,[4,5,6,7,10,12,50,51,52,62,63,64,68,69,70,74,75,76,79,80,81],[.val (.chain (.pair .str (.sl An))),.val (.map (.pair .str AK)),.val .bool,.val (.chain (.pair .str (.sl An))),.mp (.pair .str AK),.box (.dat (.pair .str AK)),.val (.sl (.pair .str AK)),.val (.int .i64),.val (.int .i64),.val (.int .i64),.val .bool,.val .bool,.val (.sl (.int .i64)),.val (.int .i64),.val .bool,.val (.sl (.int .i64)),.val (.int .i64),.val .bool,.val (.sl (.int .i64)),.val (.int .i64),.val (.int .i64)],[],[]⟩ [.exit 4,.ret] T9,.lp 11 ⟨105,[4,5,6,7,10,50,51,52],[.val (.chain (.pair .str (.sl An))),.val (.map (.pair .str AK)),.val .bool,.val (.chain (.pair .str (.sl An))),.mp (.pair .str AK),.val (.sl (.pair .str AK)),.val (.int .i64),.val (.int .i64)],[],[]⟩ [.exit 2,.ret] QO] [] [] h Ak AF Tryz.func113 (by kernel_rfl) (fun _=>(AA (fun x=>by kernel_rfl) (AA (fun x=>by kernel_rfl) (AA (fun x=>by kernel_rfl) AG)))) (fun x=>by kernel_rfl))
def AFt:Callee:=⟨[.val .str],[.val .bool],fun x=>NP x.1⟩
def PW:FL:=(171,none,AFt)::Ut
theorem AD9:Fs Tryz.prog V PW:=
 have h:=Wd h0
 h.cons (gz h Ak Tryz.func171 (by kernel_rfl) (fun x=>by kernel_rfl))
def ACG:Callee:=⟨[.val .bool,.val (.sl (.int .u32)),.val (.sl (.int .u32))],[.val E5],fun x=>Lf x.1 x.2.1 x.2.2.1⟩
def Vn:FL:=(174,none,ACG)::PW
theorem AFC:Fs Tryz.prog V Vn:=
 have h:=AD9 h0
 h.cons (gz h Ak Tryz.func174 (by kernel_rfl) (fun x=>by kernel_rfl))
def Yy:Callee:=⟨[.box (.pair .slf (.own (.int .u8))),.val .str],[.val (.int .i64),.val .err],fun x=>Ez x.1 x.2.1⟩
def SO:FL:=(115,none,Yy)::Vn
theorem AGM:Fs Tryz.prog V SO:=
 have h:=AFC h0
 h.cons (gz h Ak Tryz.func115 (by kernel_rfl) (fun x=>by kernel_rfl))
def PC:Ann:=⟨37,[3],[.box (.pair .slf (.own (.int .u8)))],[0],[]⟩
def AEo:Callee:=⟨[.val (.sl (.int .u32))],[.val .str],fun x=>Jv x.1⟩
def RE:FL:=(205,none,AEo)::SO
theorem AEl:Fs Tryz.prog V RE:=
 have h:=AGM h0
 h.cons (gd [.raw 6 (Jg PC 250 .u32 (.tmp 24) (fun v i y=>(ND v i y).bind fun o=>some (Nb y o)) N2)] [] [] h Ak (Q8 AAo AF) Tryz.func205 (by kernel_rfl) (fun hE=>(OA (O5 (A:=PC) (merge:=Nb) (outs:=N2) (t1:=25) (t2:=26) (s:=26) (d:=5) (round:=ND) hE (h.prog ▸ Xe) (show pick 6 (Bf (fb Tryz.f205))=bb (sr (sl (sr (sr (sr (sr (fb Tryz.f205))))))) from by kernel_rfl) rfl rfl rfl (fun v i y=>by kernel_rfl) (fun y o=>by kernel_rfl) (fun y=>by kernel_rfl) (fun y=>by kernel_rfl) rfl (fun y=>by kernel_rfl)) AG)) (fun x=>by kernel_rfl))
def Z4:Callee:=⟨[.val E5],[.val .str],fun x=>LT x.1⟩
def Rg:FL:=(175,none,Z4)::RE
theorem ABm:Fs Tryz.prog V Rg:=
 have h:=AEl h0
 h.cons (gz h Ak Tryz.func175 (by kernel_rfl) (fun x=>by kernel_rfl))
def AGj:Callee:=⟨[.val .str],[.val .str,.val .bool],fun x=>Rp x.1⟩
def Uq:FL:=(146,none,AGj)::Rg
theorem Wv:Fs Tryz.prog V Uq:=
 have h:=ABm h0
 h.cons (gz h Ak Tryz.func146 (by kernel_rfl) (fun x=>by kernel_rfl))
def Xz:Callee:=⟨[.val (.chain (.pair .str (.sl An))),.val .str],[.val (.osl An)],fun x=>TO x.1 x.2.1⟩
def SF:FL:=(176,none,Xz)::Uq
theorem AF3:Fs Tryz.prog V SF:=
 have h:=Wv h0
 h.cons (gd [.lp 1 ⟨21,[0,1,4],[.val (.chain (.pair .str (.sl An))),.val .str,.val (.sl An)],[],[]⟩ [.exit 0,.ret] T4] [] [] h Ak AF Tryz.func176 (by kernel_rfl) (fun _=>(AA (fun x=>by kernel_rfl) AG)) (fun x=>by kernel_rfl))
def AFT:Callee:=⟨[.val .str,.val (.int .i64),.val (.chain (.pair .str (.sl An)))],[.val (.sl An),.val AL],fun x=>Uy x.1 x.2.1 x.2.2.1⟩
def Se:FL:=(147,none,AFT)::SF
theorem ABX:Fs Tryz.prog V Se:=
 have h:=AF3 h0
 h.cons (gz h Ak Tryz.func147 (by kernel_rfl) (fun x=>by kernel_rfl))
def AGm:Callee:=⟨[.box (.dat (.pair (.sl (.pair (.int .i64) (.pair .str AL))) (.map (.pair .str AK)))),.val (.int .i64)],[.val (.sl (.int .i64))],fun x=>LI x.1 x.2.1⟩
def Uk:FL:=(177,none,AGm)::Se
theorem AAJ:Fs Tryz.prog V Uk:=
 have h:=ABX h0
 h.cons (gd [.lp 7 ⟨41,[0,5,6,7,17,18],[.box (.dat (.pair (.sl (.pair (.int .i64) (.pair .str AL))) (.map (.pair .str AK)))),.row (.int .i64),.val (.int .i64),.val (.int .i64),.val (.int .i64),.val (.int .i64)],[0],[]⟩ [.exit 2] QU,.lp 4 ⟨41,[0,5,6,17,18],[.box (.dat (.pair (.sl (.pair (.int .i64) (.pair .str AL))) (.map (.pair .str AK)))),.own (.int .i64),.val (.int .i64),.val (.int .i64),.val (.int .i64)],[0],[]⟩ [.exit 0] SU] [] [] h Ak AF Tryz.func177 (by kernel_rfl) (fun _=>(AA (fun x=>by kernel_rfl) (AA (fun x=>by kernel_rfl) AG))) (fun x=>by kernel_rfl))
def ADk:Callee:=⟨[.box (.dat (.pair (.sl (.pair (.int .i64) (.pair .str AL))) (.map (.pair .str AK)))),.val .str],[.val (.int .i64),.val (.int .i64),.val .bool],fun x=>R0 x.1 x.2.1⟩
def UC:FL:=(178,none,ADk)::Uk
theorem AFH:Fs Tryz.prog V UC:=
 have h:=AAJ h0
 h.cons (gz h Ak Tryz.func178 (by kernel_rfl) (fun x=>by kernel_rfl))
def AAi:Callee:=⟨[.val (.sl An)],[.val .bool],fun x=>Hf x.1⟩
def UR:FL:=(230,none,AAi)::UC
theorem Zn:Fs Tryz.prog V UR:=
 have h:=AFH h0
 h.cons (gz h Ak Tryz.func230 (by kernel_rfl) (fun x=>by kernel_rfl))
def AHa:Callee:=⟨[.val (.sl An),.val (.sl An)],[.val (.sl An),.val (.int .i64)],fun x=>PQ x.1 x.2.1⟩
def Rw:FL:=(207,none,AHa)::UR
theorem XF:Fs Tryz.prog V Rw:=
 have h:=Zn h0
 h.cons (gz h Ak Tryz.func207 (by kernel_rfl) (fun x=>by kernel_rfl))
def ADf:Callee:=⟨[.val .str],[.val .str],fun x=>Nm x.1⟩
def Vf:FL:=(150,none,ADf)::Rw
theorem AAS:Fs Tryz.prog V Vf:=
 have h:=XF h0
 h.cons (gz h Ak Tryz.func150 (by kernel_rfl) (fun x=>by kernel_rfl))
def Vv:Callee:=⟨[.val (.sl An)],[.val (.sl An),.val (.int .i64)],fun x=>Mt x.1⟩
def P7:FL:=(231,none,Vv)::Vf
theorem ACL:Fs Tryz.prog V P7:=
 have h:=AAS h0
 h.cons (gz h Ak Tryz.func231 (by kernel_rfl) (fun x=>by kernel_rfl))
def ADl:Callee:=⟨[.val (.sl (.sl An))],[.val (.sl An),.val (.int .i64)],fun x=>TF x.1⟩
def Tv:FL:=(208,none,ADl)::P7
theorem AFY:Fs Tryz.prog V Tv:=
 have h:=ACL h0
 h.cons (gd [.lp 5 ⟨47,[2,3,4,23,24,25],[.val (.sl An),.val (.int .i64),.row (.sl An),.val (.sl (.sl An)),.val (.int .i64),.val (.int .i64)],[],[]⟩ [.exit 0,.ret] PP] [21] [] h Ak AF Tryz.func208 (by kernel_rfl) (fun _=>(AA (fun x=>by kernel_rfl) AG)) (fun x=>by kernel_rfl))
def Wx:Callee:=⟨[.val (.int .i64),.val (.int .i64)],[.val .str],fun x=>Ti x.1 x.2.1⟩
def TJ:FL:=(253,none,Wx)::Tv
theorem YY:Fs Tryz.prog V TJ:=
 have h:=AFY h0
 h.cons (gz h Ak Tryz.func253 (by kernel_rfl) (fun x=>by kernel_rfl))
def VG:Callee:=⟨[.val AL,.val AL],[.val .str],fun x=>OY x.1 x.2.1⟩
def QF:FL:=(252,none,VG)::TJ
theorem Zf:Fs Tryz.prog V QF:=
 have h:=YY h0
 h.cons (gz h Ak Tryz.func252 (by kernel_rfl) (fun x=>by kernel_rfl))
def AFP:Callee:=⟨[.val (.sl (.int .u32)),.val (.sl (.int .u32))],[.val (.sl (.int .u32))],fun x=>Nk x.1 x.2.1⟩
def OV:FL:=(226,none,AFP)::QF
theorem AAf:Fs Tryz.prog V OV:=
 have h:=Zf h0
 h.cons (gd [.lp 7 ⟨69,[1,5,6,7,8,18,19,20,25,26,27],[.val (.sl (.int .u32)),.row (.int .u32),.val (.int .i64),.val (.int .u32),.val (.int .u64),.val (.sl (.int .u32)),.val (.int .i64),.val (.int .i64),.val (.sl (.int .u32)),.val (.int .i64),.val (.int .i64)],[],[]⟩ [.exit 2] G',.lp 3 ⟨69,[1,5,18,19,20],[.val (.sl (.int .u32)),.row (.int .u32),.val (.sl (.int .u32)),.val (.int .i64),.val (.int .i64)],[],[]⟩ [.exit 0] G_] [] [] h Ak AF Tryz.func226 (by kernel_rfl) (fun _=>(AA (fun x=>by kernel_rfl) (AA (fun x=>by kernel_rfl) AG))) (fun x=>by kernel_rfl))
def ZP:Callee:=⟨[.val E5,.val E5],[.val E5],fun x=>TE x.1 x.2.1⟩
def Qf:FL:=(255,none,ZP)::OV
theorem AB3:Fs Tryz.prog V Qf:=
 have h:=AAf h0
 h.cons (gz h Ak Tryz.func255 (by kernel_rfl) (fun x=>by kernel_rfl))
def AHd:Callee:=⟨[.val E5,.val E5],[.val .str],fun x=>NO x.1 x.2.1⟩
def OZ:FL:=(254,none,AHd)::Qf
theorem Z_:Fs Tryz.prog V OZ:=
 have h:=AB3 h0
 h.cons (gz h Ak Tryz.func254 (by kernel_rfl) (fun x=>by kernel_rfl))
def Y':Callee:=⟨[.val .str,.val .str,.val (.fnv 252 .unit),.val (.fnv 254 .unit)],[.val .str],fun x=>Tk x.1 x.2.1 x.2.2.1 x.2.2.2.1⟩
def Rz:FL:=(251,some 252,Y')::OZ
theorem AE9:Fs Tryz.prog V Rz:=
 have h:=Z_ h0
 h.cons (gz h Ak Tryz.func251 (by kernel_rfl) (fun x=>by kernel_rfl))
def AGw:Callee:=⟨[.val .str,.val .str],[.val .str],fun x=>RO x.1 x.2.1⟩
def Qg:FL:=(232,none,AGw)::Rz
theorem AF2:Fs Tryz.prog V Qg:=
 have h:=AE9 h0
 h.cons (gz h Ak Tryz.func232 (by kernel_rfl) (fun x=>by kernel_rfl))
def ACp:Callee:=⟨[.val (.sl An),.val (.sl An)],[.val (.sl An),.val (.int .i64)],fun x=>TZ x.1 x.2.1⟩
def SE:FL:=(209,none,ACp)::Qg
theorem ZW:Fs Tryz.prog V SE:=
 have h:=AF2 h0
 h.cons (gz h Ak Tryz.func209 (by kernel_rfl) (fun x=>by kernel_rfl))
def X1:Callee:=⟨[.box (.dat (.pair (.sl (.pair (.int .i64) (.pair .str AL))) (.map (.pair .str AK)))),.val (.int .i64),.val (.sl An),.val (.int .i64)],[.val (.sl An),.val (.int .i64)],fun x=>NL x.1 x.2.1 x.2.2.1 x.2.2.2.1⟩
def Q7:FL:=(210,none,X1)::SE
theorem AEq:Fs Tryz.prog V Q7:=
 have h:=ZW h0
 h.cons (gz h Ak Tryz.func210 (by kernel_rfl) (fun x=>by kernel_rfl))
def Wr:Callee:=⟨[.val An],[.val .str],fun x=>N5 x.1⟩
def Vm:FL:=(117,none,Wr)::Q7
theorem AFo:Fs Tryz.prog V Vm:=
 have h:=AEq h0
 h.cons (gz h Ak Tryz.func117 (by kernel_rfl) (fun x=>by kernel_rfl))
def AEO:Callee:=⟨[.box (.dat (.pair (.sl (.pair (.int .i64) (.pair .str AL))) (.map (.pair .str AK)))),.val .str,.val (.sl (.sl An))],[.val (.sl An),.val (.int .i64)],fun x=>PS x.1 x.2.1 x.2.2.1⟩
def S7:FL:=(211,none,AEO)::Vm
theorem VM:Fs Tryz.prog V S7:=
 have h:=AFo h0
 h.cons (gd [.lp 4 ⟨46,[0,6,7,8,9,10,28,29,30],[.box (.dat (.pair (.sl (.pair (.int .i64) (.pair .str AL))) (.map (.pair .str AK)))),.val (.sl An),.val (.int .i64),.box (.dat (.pair .str AK)),.val (.sl An),.val (.int .i64),.val (.sl (.sl An)),.val (.int .i64),.val (.int .i64)],[0],[]⟩ [.exit 0,.ret] Ve] [] [] h Ak AF Tryz.func211 (by kernel_rfl) (fun _=>(AA (fun x=>by kernel_rfl) AG)) (fun x=>by kernel_rfl))
def ACl:Callee:=⟨[.box (.dat (.pair (.sl (.pair (.int .i64) (.pair .str AL))) (.map (.pair .str AK)))),.val .str,.val (.sl (.int .i64)),.val (.sl (.sl An))],[.val (.sl An),.val (.int .i64)],fun x=>KS x.1 x.2.1 x.2.2.1 x.2.2.2.1⟩
def Qm:FL:=(180,none,ACl)::S7
theorem AAW:Fs Tryz.prog V Qm:=
 have h:=VM h0
 h.cons (gd [.lp 22 ⟨131,[0,1,3,8,9,12],[.box (.dat (.pair (.sl (.pair (.int .i64) (.pair .str AL))) (.map (.pair .str AK)))),.val .str,.val (.sl (.sl An)),.val (.sl An),.val (.int .i64),.val (.int .i64)],[0],[]⟩ [.exit 1,.ret] S3] [] [] h Ak AF Tryz.func180 (by kernel_rfl) (fun _=>(AA (fun x=>by kernel_rfl) AG)) (fun x=>by kernel_rfl))
def ZS:Callee:=⟨[.box (.dat (.pair (.sl (.pair (.int .i64) (.pair .str AL))) (.map (.pair .str AK)))),.val (.int .i64)],[.val (.sl .str),.val (.sl (.int .i64)),.val .bool],fun x=>QH x.1 x.2.1⟩
def So:FL:=(206,none,ZS)::Qm
theorem LW:Fs Tryz.prog V So:=
 have h:=AAW h0
 h.cons (gd [.lp 7 ⟨107,[0,4,5,6,7,8,9,37,38,39],[.box (.dat (.pair (.sl (.pair (.int .i64) (.pair .str AL))) (.map (.pair .str AK)))),.val (.sl .str),.val (.sl (.int .i64)),.val .bool,.own .str,.own (.int .i64),.mp .bool,.val (.sl (.int .i64)),.val (.int .i64),.val (.int .i64)],[0],[]⟩ [.exit 0,.ret] Si] [] [(12,[0,12,69],[100013]),(16,[12],[95,96,103])] h Ak AF Tryz.func206 (by kernel_rfl) (fun _=>(AA (fun x=>by kernel_rfl) AG)) (fun x=>by kernel_rfl))
def Hq (g:((List (Int×qBs×Af))×List (qBs×qBs×Ac))->Int->(List (qBs×List Aa))->Option (((List Aa)×Af×Unit)×(((List (Int×qBs×Af))×List (qBs×qBs×Ac))×Unit))):Callee:=⟨[.box (.dat (.pair (.sl (.pair (.int .i64) (.pair .str AL))) (.map (.pair .str AK)))),.val (.int .i64),.val (.chain (.pair .str (.sl An)))],[.val (.sl An),.val AL],fun x=>g x.1 x.2.1 x.2.2.1⟩
def AEa:Callee:=Hq (Hc Bl)
def HY (g:((List (Int×qBs×Af))×List (qBs×qBs×Ac))->Int->(List (qBs×List Aa))->Option (((List Aa)×Af×Unit)×(((List (Int×qBs×Af))×List (qBs×qBs×Ac))×Unit))):Callee:=⟨[.box (.dat (.pair (.sl (.pair (.int .i64) (.pair .str AL))) (.map (.pair .str AK)))),.val (.int .i64),.val (.chain (.pair .str (.sl An)))],[.val (.sl An),.val AL],fun x=>g x.1 x.2.1 x.2.2.1⟩
def Xw:Callee:=HY (JM Bl)
def Hm (g:((List (Int×qBs×Af))×List (qBs×qBs×Ac))->Int->List Int->(List (qBs×List Aa))->Option (((List Aa)×Af×Unit)×(((List (Int×qBs×Af))×List (qBs×qBs×Ac))×Unit))):Callee:=⟨[.box (.dat (.pair (.sl (.pair (.int .i64) (.pair .str AL))) (.map (.pair .str AK)))),.val (.int .i64),.val (.sl (.int .i64)),.val (.chain (.pair .str (.sl An)))],[.val (.sl An),.val AL],fun x=>g x.1 x.2.1 x.2.2.1 x.2.2.2.1⟩
def ZH:Callee:=Hm (J3 Bl)
theorem ACM (AHp:((List (Int×qBs×Af))×List (qBs×qBs×Ac))->Int->(List (qBs×List Aa))->Option (((List Aa)×Af×Unit)×(((List (Int×qBs×Af))×List (qBs×qBs×Ac))×Unit))) (AHo:((List (Int×qBs×Af))×List (qBs×qBs×Ac))->Int->(List (qBs×List Aa))->Option (((List Aa)×Af×Unit)×(((List (Int×qBs×Af))×List (qBs×qBs×Ac))×Unit))) (AHn:((List (Int×qBs×Af))×List (qBs×qBs×Ac))->Int->List Int->(List (qBs×List Aa))->Option (((List Aa)×Af×Unit)×(((List (Int×qBs×Af))×List (qBs×qBs×Ac))×Unit))) (r0:Good V 114 (Hq AHp)) (r1:Good V 148 (HY AHo)) (r2:Good V 179 (Hm AHn)):Good V 114 (Hq (S9 AHp AHo AHn)):=
 have h:=LW h0
 gz (Fs.cons (s:=none) (Fs.cons (s:=none) (Fs.cons (s:=none) h r0) r1) r2) Ak Tryz.func114 (by kernel_rfl) (fun x=>by kernel_rfl)
theorem Vs (AHp:((List (Int×qBs×Af))×List (qBs×qBs×Ac))->Int->(List (qBs×List Aa))->Option (((List Aa)×Af×Unit)×(((List (Int×qBs×Af))×List (qBs×qBs×Ac))×Unit))) (AHo:((List (Int×qBs×Af))×List (qBs×qBs×Ac))->Int->(List (qBs×List Aa))->Option (((List Aa)×Af×Unit)×(((List (Int×qBs×Af))×List (qBs×qBs×Ac))×Unit))) (AHn:((List (Int×qBs×Af))×List (qBs×qBs×Ac))->Int->List Int->(List (qBs×List Aa))->Option (((List Aa)×Af×Unit)×(((List (Int×qBs×Af))×List (qBs×qBs×Ac))×Unit))) (r0:Good V 114 (Hq AHp)) (r1:Good V 148 (HY AHo)) (r2:Good V 179 (Hm AHn)):Good V 148 (HY (Uw AHp AHo AHn)):=
 have h:=LW h0
 gd [.lp 16 ⟨132,[0,1,2,6,7,8,9,14,95,96,97],[.box (.dat (.pair (.sl (.pair (.int .i64) (.pair .str AL))) (.map (.pair .str AK)))),.val (.int .i64),.val (.chain (.pair .str (.sl An))),.val (.sl An),.box (.dat AL),.val (.sl (.int .i64)),.val .str,.own (.sl An),.val (.sl (.int .i64)),.val (.int .i64),.val (.int .i64)],[0],[]⟩ [.exit 0,.ret] (KU AHp AHo AHn)] [] [] (Fs.cons (s:=none) (Fs.cons (s:=none) (Fs.cons (s:=none) h r0) r1) r2) Ak AF Tryz.func148 (by kernel_rfl) (fun _=>(AA (fun x=>by kernel_rfl) AG)) (fun x=>by kernel_rfl)
theorem VY (AHp:((List (Int×qBs×Af))×List (qBs×qBs×Ac))->Int->(List (qBs×List Aa))->Option (((List Aa)×Af×Unit)×(((List (Int×qBs×Af))×List (qBs×qBs×Ac))×Unit))) (AHo:((List (Int×qBs×Af))×List (qBs×qBs×Ac))->Int->(List (qBs×List Aa))->Option (((List Aa)×Af×Unit)×(((List (Int×qBs×Af))×List (qBs×qBs×Ac))×Unit))) (AHn:((List (Int×qBs×Af))×List (qBs×qBs×Ac))->Int->List Int->(List (qBs×List Aa))->Option (((List Aa)×Af×Unit)×(((List (Int×qBs×Af))×List (qBs×qBs×Ac))×Unit))) (r0:Good V 114 (Hq AHp)) (r1:Good V 148 (HY AHo)) (r2:Good V 179 (Hm AHn)):Good V 179 (Hm (U_ AHp AHo AHn)):=
 have h:=LW h0
 gd [.lp 6 ⟨67,[0,2,3,8,9,10,13,32,33,34],[.box (.dat (.pair (.sl (.pair (.int .i64) (.pair .str AL))) (.map (.pair .str AK)))),.val (.sl (.int .i64)),.val (.chain (.pair .str (.sl An))),.val (.sl An),.box (.dat AL),.val (.sl .str),.val (.chain (.pair .str (.sl An))),.val (.sl (.int .i64)),.val (.int .i64),.val (.int .i64)],[0],[]⟩ [.exit 0,.ret] (Qq AHp AHo AHn)] [] [] (Fs.cons (s:=none) (Fs.cons (s:=none) (Fs.cons (s:=none) h r0) r1) r2) Ak AF Tryz.func179 (by kernel_rfl) (fun _=>(AA (fun x=>by kernel_rfl) AG)) (fun x=>by kernel_rfl)
theorem Ox (n:Nat):Good V 114 (Hq (Hc n))/\Good V 148 (HY (JM n))/\Good V 179 (Hm (J3 n)):=by
 induction n with
 |zero=>exact ⟨D7 ⟨_,h0.prog ▸ Tryz.func114,by decide,rfl⟩ (fun _=>rfl),D7 ⟨_,h0.prog ▸ Tryz.func148,by decide,rfl⟩ (fun _=>rfl),D7 ⟨_,h0.prog ▸ Tryz.func179,by decide,rfl⟩ (fun _=>rfl)⟩
 |succ n ih=>exact ⟨ACM h0 (Hc n) (JM n) (J3 n) ih.1 ih.2.1 ih.2.2,Vs h0 (Hc n) (JM n) (J3 n) ih.1 ih.2.1 ih.2.2,VY h0 (Hc n) (JM n) (J3 n) ih.1 ih.2.1 ih.2.2⟩
def Tu:FL:=(179,none,ZH)::(148,none,Xw)::(114,none,AEa)::So
theorem AEN:Fs Tryz.prog V Tu:=(Fs.cons (s:=none) (Fs.cons (s:=none) (Fs.cons (s:=none) (LW h0) (Ox h0 Bl).1) (Ox h0 Bl).2.1) (Ox h0 Bl).2.2)
def ABP:Callee:=⟨[.val (.sl (.pair (.int .i64) (.pair .str AL))),.val (.int .i64),.val (.sl Bz),.val (.sl (.pair .str AK))],[.val (.sl An),.val (.int .i64),.val (.int .i64)],fun x=>Su x.1 x.2.1 x.2.2.1 x.2.2.2.1⟩
def Ts:FL:=(73,none,ABP)::Tu
theorem ACa:Fs Tryz.prog V Ts:=
 have h:=AEN h0
 h.cons (gz h Ak Tryz.func73 (by kernel_rfl) (fun x=>by kernel_rfl))
def AF4:Callee:=⟨[.val .str,.val (.sl Bz),.val (.sl (.pair .str AK))],[.val (.sl An),.val (.int .i64),.val (.int .i64)],fun x=>Mv x.1 x.2.1 x.2.2.1⟩
def OQ:FL:=(24,none,AF4)::Ts
theorem Yc:Fs Tryz.prog V OQ:=
 have h:=ACa h0
 h.cons (gz h Ak Tryz.func24 (by kernel_rfl) (fun x=>by kernel_rfl))
def ABr:Callee:=⟨[.val .str],[.val .str],fun x=>Uh x.1⟩
def Vi:FL:=(151,none,ABr)::OQ
theorem ACq:Fs Tryz.prog V Vi:=
 have h:=Yc h0
 h.cons (gz h Ak Tryz.func151 (by kernel_rfl) (fun x=>by kernel_rfl))
def Zd:Callee:=⟨[.val .str],[.val .str],fun x=>TY x.1⟩
def Qp:FL:=(152,none,Zd)::Vi
theorem RV:Fs Tryz.prog V Qp:=
 have h:=ACq h0
 h.cons (gz h Ak Tryz.func152 (by kernel_rfl) (fun x=>by kernel_rfl))
def LY (g:Int->qBs->Option ((qBs×Unit)×Unit)):Callee:=⟨[.val (.int .i64),.val .str],[.val .str],fun x=>g x.1 x.2.1⟩
def AAr:Callee:=LY (Js Bl)
theorem ACg (AHm:Int->qBs->Option ((qBs×Unit)×Unit)) (r0:Good V 116 (LY AHm)):Good V 116 (LY (Pm AHm)):=
 have h:=RV h0
 gz (Fs.cons (s:=none) h r0) Ak Tryz.func116 (by kernel_rfl) (fun x=>by kernel_rfl)
theorem Yi (n:Nat):Good V 116 (LY (Js n)):=by
 induction n with
 |zero=>exact D7 ⟨_,h0.prog ▸ Tryz.func116,by decide,rfl⟩ (fun _=>rfl)
 |succ n ih=>exact ACg h0 (Js n) ih
def Pf:FL:=(116,none,AAr)::Qp
theorem Rn:Fs Tryz.prog V Pf:=(Fs.cons (s:=none) (RV h0) (Yi h0 Bl))
def LF (g:Option A4->(Unit×List Int)->Int->Option ((Unit)×((Unit×List Int)×Unit))):Callee:=⟨[.val (.ptr C6),.box (.pair .slf (.own (.int .u8))),.val (.int .i64)],[],fun x=>g x.1 x.2.1 x.2.2.1⟩
def ABG:Callee:=LF (Jn Bl)
theorem Zb (AHq:Option A4->(Unit×List Int)->Int->Option ((Unit)×((Unit×List Int)×Unit))) (r0:Good V 74 (LF AHq)):Good V 74 (LF (RJ AHq)):=
 have h:=Rn h0
 gd [.lp 4 ⟨71,[0,1,6,25,26,27],[.val (.ptr C6),.box (.pair .slf (.own (.int .u8))),.box (.dat An),.val (.sl (.int .i64)),.val (.int .i64),.val (.int .i64)],[0],[]⟩ [.exit 1] (Pr AHq)] [] [] (Fs.cons (s:=none) h r0) Ak AF Tryz.func74 (by kernel_rfl) (fun _=>(AA (fun x=>by kernel_rfl) AG)) (fun x=>by kernel_rfl)
theorem ABJ (n:Nat):Good V 74 (LF (Jn n)):=by
 induction n with
 |zero=>exact D7 ⟨_,h0.prog ▸ Tryz.func74,by decide,rfl⟩ (fun _=>rfl)
 |succ n ih=>exact Zb h0 (Jn n) ih
def T':FL:=(74,none,ABG)::Pf
theorem Wh:Fs Tryz.prog V T':=(Fs.cons (s:=none) (Rn h0) (ABJ h0 Bl))
def ACV:Callee:=⟨[.val (.sl An)],[.val .str],fun x=>Pq x.1⟩
def Pi:FL:=(26,none,ACV)::T'
theorem AAh:Fs Tryz.prog V Pi:=
 have h:=Wh h0
 h.cons (gz h Ak Tryz.func26 (by kernel_rfl) (fun x=>by kernel_rfl))
def Xa:Callee:=⟨[],[.val .bool],fun _=>N0⟩
def Tz:FL:=(9,none,Xa)::Pi
theorem WB:Fs Tryz.prog V Tz:=
 have h:=AAh h0
 h.cons (gz h Ak Tryz.func9 (by kernel_rfl) (fun x=>by kernel_rfl))
def Ua:Callee:=⟨[.val (.sl (.int .i64))],[.val .bool],fun x=>LN x.1⟩
def Vz:FL:=(5,none,Ua)::Tz
theorem WI:Fs Tryz.prog V Vz:=
 have h:=WB h0
 h.cons (gd [.lp 5 ⟨69,[2,3,4,5,6],[.val .bool,.val (.sl An),.val (.sl (.sl An)),.val (.int .i64),.val (.int .i64)],[],[]⟩ [.exit 0,.ret] HM] [] [] h Ak AF Tryz.func5 (by kernel_rfl) (fun _=>(AA (fun x=>by kernel_rfl) AG)) (fun x=>by kernel_rfl))
end
end Go.AM.Num
end
section
namespace Go.AM
open Go.RowKit (Below)
theorem JX (s:ByteArray):s.size=s.data.toList.length:=by rw[<-ByteArray.size_data,Array.length_toList]
theorem FS {V : Env} {k : FuncId} {C : Callee} (hen : ∃ fn, V.P.funcs[k]? = some fn ∧ (fn.name == "runtime.NumGoroutine") = false ∧ fn.body.isNone = false) (hin : ∀ x, AX C.ps x = []) (hout : ∀ o y, CO C.ps C.rk o y = []) (hk : cntK C.ps = 0)
 (h:∀ x y o,C.g x=some (y,o)->∀ (w:World) (rd:Nat->Nat->Option Value) (I:Nat->Prop) (β:Nat->Option Place) (vs:Array Value),V.G w->RelL rd I β (AY C.ps x 0 (cntK C.ps)) vs.toList->
  Calls V.P k vs w fun e w'=>∃ us,e=.returned (EL us)/\Ext w w'/\∀ rd I' β',RelL rd I' β' (E2 C.ps C.rk y) us):Good V k C:=by
 refine ⟨hen,fun x y o hx w I β vs hG hgb hctx hargs=>Calls.mono (h x y o hx w _ I β vs hG hargs) ?_⟩
 rintro e w' ⟨us,rfl,hext,hres⟩
 rw[hin] at hctx ⊢
 have hn:∀ B,¬ AR [] β B:=fun B=>G1 B
 refine ⟨us,fun B=>I B\/(w.heap.size<=B/\B < w'.heap.size),β,rfl,⟨hext.os,hext.tape,hext.output,hext.size,fun B hB _=>hext.block B hB⟩,⟨?_,?_,?_,?_⟩,hres _ _ _⟩
 ·rw[hout]
  refine ⟨fun b r hb=>by simp at hb,fun b b' r r' p p' hb=>by simp at hb,fun B hB=>⟨?_,G1 B⟩,hctx.dom⟩
  rcases hB with hB | hB
  ·exact Nat.lt_of_lt_of_le (hctx.imm B hB).1 hext.size
  ·exact hB.2
 ·rintro B (hB | hB)
  ·exact .inl hB
  ·exact .inr (.inr hB.1)
 ·intro b r q hb;rw[hout] at hb;simp at hb
 ·intro i hi;rw[hk] at hi;cases hi
end Go.AM
namespace Go.AM.Num
open Go.Proofs
structure GN (w:World):Prop where
 maxLen:∃ m,w.cell? ⟨0,0,none⟩=some (.int .i64 m)
 pow10 : Lib.TabIs Tryz.prog w "internal/strconv.uint64pow10" .u64 Lib.pow10Tab
section
variable {rd:Nat->Nat->Option Value} {I:Nat->Prop} {β:Nat->Option Place}
theorem Fd {x:qBs} {v:Value} (h:RelV rd I β (.str x) v):∃ s:ByteArray,v=.string s/\s.data.toList=x:=by simpa only[RelV] using h
theorem Fp {k:IntKind} {n:Int} {v:Value} (h:RelV rd I β (.int k n) v):v=.int k n:=by simpa only[RelV] using h
theorem O8 {a:AV} {vs:Array Value} (h:RelL rd I β [a] vs.toList):∃ v,vs=#[v]/\RelV rd I β a v:=by
 simp only[RelL] at h
 obtain ⟨v,vs',h1,h2,rfl⟩:=h
 exact ⟨v,by apply Array.ext';simpa using h1,h2⟩
theorem Gu {a b:AV} {vs:Array Value} (h:RelL rd I β [a,b] vs.toList):∃ v v',vs=#[v,v']/\RelV rd I β a v/\RelV rd I β b v':=by
 simp only[RelL] at h
 obtain ⟨v,vs',h1,h2,v',vs2,rfl,h3,rfl⟩:=h
 exact ⟨v,v',by apply Array.ext';simpa using h1,h2,h3⟩
theorem AF1 {a b c:AV} {vs:Array Value} (h:RelL rd I β [a,b,c] vs.toList):∃ v v' v2,vs=#[v,v',v2]/\RelV rd I β a v/\RelV rd I β b v'/\RelV rd I β c v2:=by
 simp only[RelL] at h
 obtain ⟨v,vs',h1,h2,v',vs2,rfl,h3,v2,vs3,rfl,h4,rfl⟩:=h
 exact ⟨v,v',v2,by apply Array.ext';simpa using h1,h2,h3,h4⟩
theorem FT (l:qBs):RelV rd I β (.str l) (.string ⟨l.toArray⟩):=by simp only[RelV];exact ⟨_,rfl,by simp⟩
end
theorem Xn (w:World) (n:Nat):Ext w (w.drewN n):=⟨rfl,rfl,rfl,Nat.le_refl _,fun _ _=>rfl⟩
theorem RX (w:World) (k:Nat) (os:Array Obj):Ext w (Sort.grow (w.drewN k) os):=by
 refine ⟨rfl,rfl,rfl,?_,fun B hB=>?_⟩
 ·show w.heap.size<=(w.heap++os).size
  simp
 ·show (w.heap++os)[B]?=w.heap[B]?
  rw[Array.getElem?_append_left hB]
theorem WK (w:World) (t:ByteArray):Ext w (Lib.bytesWorld w 5 t):=⟨rfl,rfl,rfl,by rw[Lib.bytesWorld_size];omega,fun B hB=>Lib.bytesWorld_at_old w 5 t B hB⟩
section
variable {V:Env} (hP:V.P=Tryz.prog)
include hP
theorem AAG:Good V 130 Oh:=
 FS ⟨_,hP ▸ Tryz.func130,by decide,by rfl⟩ (fun _=>rfl) (fun _ _=>rfl) rfl (fun x y o hx w rd I β vs hG ha=>by
  obtain ⟨v,v',rfl,h1,h2⟩:=Gu ha
  obtain ⟨s,rfl,hs⟩:=Fd h1
  obtain ⟨p,rfl,hp⟩:=Fd h2
  rw[hP]
  refine Calls.mono (Tryz.strings_CutPrefix s p w) ?_
  rintro e w' ⟨rfl,rfl⟩
  refine ⟨[_,_],rfl,Ext.refl _,fun rd I' β'=>?_⟩
  simp only[Oh,strings_CutPrefix,Option.some.injEq] at hx
  cases hx
  show RelL rd I' β' [.str _,.bool _] _
  simp only[RelL]
  exact ⟨_,_,rfl,by rw[hs,hp];exact FT _,_,_,rfl,by simp only[RelV];rw[hs,hp],rfl⟩)
theorem AG6 (hV:∀ w,V.G w->GN w):Good V 167 MO:=
 FS ⟨_,hP ▸ Tryz.func167,by decide,by rfl⟩ (fun _=>rfl) (fun _ _=>rfl) rfl (fun x y o hx w rd I β vs hG ha=>by
  obtain ⟨v,v',rfl,h1,h2⟩:=Gu ha
  obtain ⟨s,rfl,hs⟩:=Fd h1
  obtain ⟨p,rfl,hp⟩:=Fd h2
  simp only[MO,strings_Cut] at hx
  split at hx
  case isFalse=>cases hx
  rename_i hlen
  cases hx
  obtain ⟨m,hm⟩:=(hV w hG).maxLen
  rw[hP]
  refine Calls.mono (Tryz.strings_Cut s p m w (by rw[JX,hs];exact hlen) hm) ?_
  rintro e w' ⟨rfl,n,rfl⟩
  refine ⟨[_,_,_],rfl,Xn w n,fun rd I' β'=>?_⟩
  show RelL rd I' β' [.str _,.str _,.bool _] _
  simp only[RelL]
  exact ⟨_,_,rfl,by rw[hs,hp];exact FT _,_,_,rfl,by rw[hs,hp];exact FT _,_,_,rfl,by simp only[RelV];rw[hs,hp],rfl⟩)
theorem VP (hV:∀ w,V.G w->GN w):Good V 268 Nn:=
 FS ⟨_,hP ▸ Tryz.func268,by decide,by rfl⟩ (fun _=>rfl) (fun _ _=>rfl) rfl (fun x y o hx w rd I β vs hG ha=>by
  obtain ⟨v,v',rfl,h1,h2⟩:=Gu ha
  obtain rfl:=Fp h1
  obtain rfl:=Fp h2
  simp only[Nn,Ip] at hx
  split at hx
  case isFalse=>cases hx
  rename_i hc
  cases hx
  rw[hP,hc.2]
  refine Calls.mono (Tryz.strconv_FormatInt_10 x.1 hc.1.1 hc.1.2 w (hV w hG).pow10) ?_
  rintro e w' ⟨rfl,k,os,rfl⟩
  refine ⟨[_],rfl,RX w k os,fun rd I' β'=>?_⟩
  show RelL rd I' β' [.str _] _
  simp only[RelL]
  exact ⟨_,_,rfl,FT _,rfl⟩)
theorem ADD:Good V 185 Mf:=
 FS ⟨_,hP ▸ Tryz.func185,by decide,by rfl⟩ (fun _=>rfl) (fun _ _=>rfl) rfl (fun x y o hx w rd I β vs hG ha=>by
  obtain ⟨v,v',v2,rfl,h1,h2,h3⟩:=AF1 ha
  obtain ⟨s,rfl,hs⟩:=Fd h1
  obtain rfl:=Fp h2
  obtain rfl:=Fp h3
  simp only[Mf,F4] at hx
  split at hx
  case isFalse=>cases hx
  rename_i hc
  split at hx
  case h_2=>cases hx
  rename_i n hn
  cases hx
  rw[hP,hc.1,hc.2.1]
  refine Calls.mono (Tryz.strconv_ParseInt_10_at64_ok s (by rw[JX,hs];have:=hc.2.2;omega) n (by rw[hs];exact hn) w) ?_
  rintro e w' ⟨rfl,hw⟩
  have hext:Ext w w':=by
   rcases hw with rfl | ⟨t,rfl⟩
   ·exact Ext.refl _
   ·exact WK w t
  refine ⟨[_,_],rfl,hext,fun rd I' β'=>?_⟩
  show RelL rd I' β' [.int .i64 _,.err _] _
  simp only[RelL]
  exact ⟨_,_,rfl,by simp only[RelV],_,_,rfl,by simp[RelV],rfl⟩)
end
end Go.AM.Num
namespace Go.Proofs
open Go.Shelf Go.RowKit Go.Sort Go.Lib
theorem Yg (w:World) (T:TypeId) (nd:Nat) (hs:nd<=24):Holds (fun (b:UInt8)=>Value.int .u8 (b.toNat:Int)) (w.alloc (.cells zeros24 T)) w.heap.size 0 (Array.replicate nd (0:UInt8)):=fun j hj=>by
 have hj':j < nd:=by simpa using hj
 refine ⟨?_,World.frozen?_alloc_new _ _ _ _⟩
 rw[World.cell?_alloc_new,zeros24_at _ (by omega),getElem!_pos _ j hj]
 simp
set_option maxHeartbeats 6400000 in
set_option maxRecDepth 100000 in
theorem Tryz.internal_strconv_FormatUint_10 (u : Nat) (hu64 : u < 18446744073709551616) (w : World) (htab : Lib.TabIs Tryz.prog w "internal/strconv.uint64pow10" .u64 Lib.pow10Tab) :
 Calls Tryz.prog 249 #[.int .u64 u,.int .i64 10] w fun e w'=>e=.returned (.string ⟨(Lib.decDigits u).toArray⟩)/\∃ k os,w'=grow (w.drewN k) os:=by
 by_cases hs:u < 100
 ·go_enter Tryz.func249,Tryz.ntmps249
  go_wp2_with (go_at_call 264;refine (Tryz.internal_strconv_small u hs _).mono ?_;rintro e w' ⟨rfl,rfl⟩)
  go_ret
  exact ⟨rfl,0,#[],by simp[World.drewN_zero]⟩
 ·have hu1:1<=u:=by omega
  have hnd20:Lib.nDigits u<=20:=by have:=Lib.numDigits_eq u hu1 hu64;split at this<;>omega
  have hsl1:∀ W,(Instr.sliceAt 282 (.pointer (some ⟨w.heap.size,0,none⟩)) none (some (.int .i64 (Lib.nDigits u:Int))) none).run Tryz.prog W=.ok (.slice (some ⟨w.heap.size,0,none⟩) (Lib.nDigits u) 24) W:=fun W=>by
   have hal:Tryz.prog.arrayLen 282=24:=by kernel_rfl
   rw[run_sliceAt_array_h W 282 ⟨w.heap.size,0,none⟩ Tryz.underlying282 .i64 (Lib.nDigits u:Int) (by omega) (by rw[hal];omega)]
   rw[hal]
   go_simp
  have hH0:=Yg w 282 (Lib.nDigits u) (by omega)
  have hfmt:=Tryz.internal_strconv_formatBase10 w.heap.size 0 24 u (Array.replicate (Lib.nDigits u) 0) (w.alloc (.cells Lib.zeros24 282)) hH0 (by rw[Array.size_replicate];exact Lib.lt_pow_nDigits u) hu64 (by rw[Array.size_replicate];omega)
  rw[Array.size_replicate] at hfmt
  have HH0:=Lib.hid hH0
  clear hH0
  go_enter Tryz.func249,Tryz.ntmps249
  go_wp2_with (first
   |(go_at_call 265;refine (Tryz.internal_strconv_numDigits u hu1 hu64 _ (Lib.tabIs_alloc htab _)).mono ?_;rintro e w' ⟨rfl,rfl⟩))
  go_at_call 266
  refine hfmt.mono ?_
  rintro e w' ⟨rfl,k,v',dk,rfl,hF⟩
  have hcv:(convert 65 9 (.slice (some ⟨w.heap.size,0,none⟩) (Lib.nDigits u) 24)).run Tryz.prog ((putRow (fun (b:UInt8)=>Value.int .u8 (b.toNat:Int)) (w.alloc (.cells Lib.zeros24 282)) w.heap.size 0 dk).drewN k)=.ok (.string ⟨(Lib.decDigits u).toArray⟩) ((putRow (fun (b:UInt8)=>Value.int .u8 (b.toNat:Int)) (w.alloc (.cells Lib.zeros24 282)) w.heap.size 0 dk).drewN k):=by
   have h:=run_convert_bytes_back (P:=Tryz.prog) ((putRow (fun (b:UInt8)=>Value.int .u8 (b.toNat:Int)) (w.alloc (.cells Lib.zeros24 282)) w.heap.size 0 dk).drewN k) 65 9 5 ⟨w.heap.size,0,none⟩ 24 (Lib.decDigits u) Tryz.underlying65 Tryz.underlying5 Tryz.underlying9 (fun j hj=>by
    rw[Lib.row_is_numeral hF j hj,Lib.add_plain,World.cell?_drewN]
    exact cell?_putRow (fun (b:UInt8)=>Value.int .u8 (b.toNat:Int)) _ w.heap.size 0 _ dk HH0.out (by rw[hF.size,Array.size_replicate]) j (by rw[hF.size];rw[Lib.decDigits_length] at hj;exact hj))
   rw[Lib.decDigits_length] at h
   exact h
  go_wp2
  go_ret
  obtain ⟨os',_,e⟩:=putRow_grow_new (fun (b:UInt8)=>Value.int .u8 (b.toNat:Int)) w #[.cells Lib.zeros24 282] w.heap.size 0 dk (Nat.le_refl _)
  refine ⟨rfl,k,os',?_⟩
  rw[alloc_eq_grow,e]
  rfl
theorem Tryz.strconv_FormatUint_10 (u : Nat) (hu64 : u < 18446744073709551616) (w : World) (htab : Lib.TabIs Tryz.prog w "internal/strconv.uint64pow10" .u64 Lib.pow10Tab) :
 Calls Tryz.prog 228 #[.int .u64 u,.int .i64 10] w fun e w'=>e=.returned (.string ⟨(Lib.decDigits u).toArray⟩)/\∃ k os,w'=grow (w.drewN k) os:=by
 go_enter Tryz.func228,Tryz.ntmps228
 go_wp2_with (go_at_call 249;refine (Tryz.internal_strconv_FormatUint_10 u hu64 _ htab).mono ?_;rintro e w' ⟨rfl,k,os,rfl⟩)
 go_ret
 exact ⟨rfl,k,os,rfl⟩
end Go.Proofs
namespace Go.AM.Num
open Go.Proofs
theorem Zi {V:Env} (hP:V.P=Tryz.prog) (hV:∀ w,V.G w->GN w):Good V 228 MJ:=
 FS ⟨_,hP ▸ Tryz.func228,by decide,by rfl⟩ (fun _=>rfl) (fun _ _=>rfl) rfl (fun x y o hx w rd I β vs hG ha=>by
  obtain ⟨v,v',rfl,h1,h2⟩:=Gu ha
  obtain rfl:=Fp h1
  obtain rfl:=Fp h2
  simp only[MJ,Lm] at hx
  split at hx
  case isFalse=>cases hx
  rename_i hc
  cases hx
  have hn:(x.1.toNat:Int)=x.1:=Int.toNat_of_nonneg hc.1
  have hcall:=Tryz.strconv_FormatUint_10 x.1.toNat (by have:=hc.2.1;omega) w (hV w hG).pow10
  rw[hn] at hcall
  rw[hP,hc.2.2]
  refine Calls.mono hcall ?_
  rintro e w' ⟨rfl,k,os,rfl⟩
  refine ⟨[_],rfl,RX w k os,fun rd I' β'=>?_⟩
  show RelL rd I' β' [.str _] _
  simp only[RelL]
  exact ⟨_,_,rfl,FT _,rfl⟩)
end Go.AM.Num
end
section
namespace Go.Lib
open Go
variable {P:Program} (w:World)
theorem V4 {e:TypeId} (hc:P.cellsOf e=1) (count off n:Nat) (hn:off+n<=count):liesAt P P.depth e count off e n=true:=by
 have hd:P.depth=(2 * (P.types.size+Made.depth)+1)+1:=rfl
 rw[hd]
 simp only[liesAt,Bool.or_eq_true]
 left
 rw[hd]
 simp[rowAt,hc,hn,sameLayout,Nat.mod_one]
theorem PY:∀ (l:List Int) (a:Addr) (acc:ByteArray),(∀ (j:Nat) x,l[j]?=some x->w.cell? (a.add j)=some (.int .u8 x))->
 (loadBytes a acc l.length).run P w=.ok ⟨acc.data++(l.map fun n=>UInt8.ofNat n.toNat).toArray⟩ w
 |[],a,acc,_=>by simp[loadBytes]
 |x::l,a,acc,h=>by
  have h0:w.cell? a=some (.int .u8 x):=by
   have:=h 0 x rfl
   simpa [Addr.add] using this
  have ih:=PY l (a.add 1) (acc.push (UInt8.ofNat x.toNat)) (fun j y hy=>by
   have:=h (j+1) y (by simpa using hy)
   have e:(a.add 1).add j=a.add (j+1):=by
    unfold Addr.add
    by_cases hj:j=0
    ·subst hj;simp
    ·simp[hj];omega
   rw[e];exact this)
  have hx:(x.toNat).toUInt8=UInt8.ofNat x.toNat:=rfl
  simp only[qY11,loadBytes,Sem.run_bind,run_load,h0,Result.andThen,hx]
  rw[ih]
  congr 1
  apply ByteArray.ext
  simp[ByteArray.push]
theorem run_unsafeString_at (pt it ty e:TypeId) (hp:P.underlying pt=some (.pointer e)) (hc:P.cellsOf e=1) (g off cells:Nat) (hsh:w.shape? g=some (e,cells)) (l:List Int) (h0:l≠[]) (hn:off+l.length<=cells) (h63:l.length<=9223372036854775807)
 (hcell:∀ (j:Nat) x,l[j]?=some x->w.cell? ((⟨g,off,none⟩:Addr).add j)=some (.int .u8 x)) :
 (Builtin.unsafeString_ #[pt,it] ty #[.pointer (some ⟨g,off,none⟩),.int .i64 l.length]).run P w=.ok (.string ⟨(l.map fun n=>UInt8.ofNat n.toNat).toArray⟩) (w.freeze ⟨g,off,none⟩ l.length):=by
 have hl:l.length≠0:=by simpa using h0
 have hlb:=PY (P:=P) w l ⟨g,off,none⟩ .empty hcell
 have hlies:=V4 (P:=P) hc (cells / P.cellsOf e) off l.length (by rw[hc];simpa using hn)
 have h63':¬ (9223372036854775807:Int) < (l.length:Int):=by omega
 have hdef:Builtin.unsafeString_ #[pt,it] ty #[.pointer (some ⟨g,off,none⟩),.int .i64 l.length] =
  (do
   let n<-asInt (.int .i64 l.length)
   if n < 0 then runtimePanic (.error "unsafe.String: len out of range")
   if n > IntKind.i64.max then unsupported (.unsafePointer "String: a length above the largest int")
   if n=0 then pure (.string .empty)
   else if<-variablesAt ⟨g,off,none⟩ (<-elemOf pt) n.toNat then do
    let s<-loadBytes ⟨g,off,none⟩ .empty n.toNat
    freeze ⟨g,off,none⟩ n.toNat
    pure (.string s)
   else unsupported (.unsafePointer "String: not so many bytes at ptr")) := rfl
 rw[hdef]
 have hmax:IntKind.i64.max=9223372036854775807:=rfl
 have hneg:¬ (l.length:Int) < 0:=by omega
 simp[asInt,asIntOf,hmax,h63',hneg,hl,variablesAt,hsh,elemOf,run_underlying hp,hlies,hlb]
end Go.Lib
namespace Go.Proofs
open Go.Shelf Go.RowKit Go.Lib
set_option maxHeartbeats 2000000 in
set_option maxRecDepth 100000 in
theorem Tryz.Builder_String_at (b g off cap:Nat) (p:Value) (cur:Array Value) (l:List Int) (w:World) (h0:l≠[]) (hbk:w.heap[b]?=some (.cells #[p,.slice (some ⟨g,off,none⟩) l.length cap] 102 (0,0))) (hg:w.heap[g]?=some (.cells cur 5 (0,0))) (hfit:off+l.length<=cur.size) (hcap:l.length<=cap) (hsm:l.length<=9223372036854775807)
 (hc:∀ (j:Nat) x,l[j]?=some x->cur[off+j]?=some (.int .u8 x)) :
 Calls Tryz.prog 75 #[.pointer (some ⟨b,0,none⟩)] w fun e w'=>e=.returned (.string ⟨(l.map fun n=>UInt8.ofNat n.toNat).toArray⟩)/\∃ W:World,W.heap=w.heap/\W.os=w.os/\W.tape=w.tape/\W.output=w.output/\w'=W.freeze ⟨g,off,none⟩ l.length:=by
 have hl0:l.length≠0:=by simpa using h0
 have c1:w.drew.cell? ⟨b,1,none⟩=some (.slice (some ⟨g,off,none⟩) l.length cap):=by
  have:w.drew.heap[b]?=some (.cells #[p,.slice (some ⟨g,off,none⟩) l.length cap] 102 (0,0)):=hbk
  rw[Lib.cell_of_heap this];rfl
 have hSD:(Builtin.unsafeSliceData_ #[65] 160 #[.slice (some ⟨g,off,none⟩) l.length cap]).run Tryz.prog w.drew=.ok (.pointer (some ⟨g,off,none⟩)) w.drew:=
  Lib.run_unsafeSliceData_row _ _ _ _ _ _ (by omega)
 have hUS:(Builtin.unsafeString_ #[160,3] 9 #[.pointer (some ⟨g,off,none⟩),.int .i64 l.length]).run Tryz.prog w.drew=.ok (.string ⟨(l.map fun n=>UInt8.ofNat n.toNat).toArray⟩) (w.drew.freeze ⟨g,off,none⟩ l.length):=by
  have hg':w.drew.heap[g]?=some (.cells cur 5 (0,0)):=hg
  refine Lib.run_unsafeString_at w.drew 160 3 9 5 Tryz.underlying160 (by kernel_rfl) g off cur.size (by simp[World.shape?,hg']) l h0 hfit hsm ?_
  intro j x hx
  rw[Addr.add_lit,Lib.cell_of_heap hg']
  exact hc j x hx
 have mixed:Tryz.prog.follows .mixedOrders=true:=by kernel_rfl
 go_enter Tryz.func75,Tryz.ntmps75
 go_wp2
 go_region_o
 all_goals (go_wp2;go_ret;exact ⟨rfl,w.drew,rfl,rfl,rfl,rfl,rfl⟩)
theorem Tryz.layB:(∃ j,Tryz.prog.info? 102=some j/\j.size=2):=Option.map_eq_some_iff.1 (show (Tryz.prog.info? 102).map (·.size)=some 2 by kernel_rfl)
set_option maxHeartbeats 1000000 in
set_option maxRecDepth 100000 in
theorem Tryz.copyCheck_used (b:Nat) (w:World) (h0:w.cell? ⟨b,0,none⟩=some (.pointer (some ⟨b,0,none⟩))) :
 Calls Tryz.prog 149 #[.pointer (some ⟨b,0,none⟩)] w fun e w'=>e=.returned (.tuple #[])/\w'=w:=by
 obtain ⟨j,hj,_⟩:=Tryz.layB
 have mixed:Tryz.prog.follows .mixedOrders=true:=by kernel_rfl
 go_enter Tryz.func149,Tryz.ntmps149
 go_wp2
 rw[Lib.run_neq_ptr_same w _ Tryz.underlying100 hj]
 go_wp2
 go_end0
 exact ⟨rfl,rfl⟩
set_option maxHeartbeats 1000000 in
set_option maxRecDepth 100000 in
theorem Tryz.copyCheck_fresh (b:Nat) (w:World) (h0:w.cell? ⟨b,0,none⟩=some (.pointer none)) (hsh:w.shape? b=some (102,2)) (hfz:w.frozen? ⟨b,0,none⟩=false) :
 Calls Tryz.prog 149 #[.pointer (some ⟨b,0,none⟩)] w fun e w'=>e=.returned (.tuple #[])/\w'=w.setCell ⟨b,0,none⟩ (.pointer (some ⟨b,0,none⟩)):=by
 obtain ⟨j,hj,hjs⟩:=Tryz.layB
 have mixed:Tryz.prog.follows .mixedOrders=true:=by kernel_rfl
 go_enter Tryz.func149,Tryz.ntmps149
 go_wp2
 rw[Lib.run_to_unsafe w ⟨b,0,none⟩ Tryz.underlying100 Tryz.underlying207 hj (by rw[hjs];decide) hsh (Nat.zero_lt_succ 1)]
 simp only[Result.andThen]
 rw[Oper.upon_value]
 go_wp2
 rw[run_callFunc_extern Tryz.func181 (by kernel_rfl) (by kernel_rfl) (by kernel_rfl) (e:=Extern.AbiNoEscape.same) (by kernel_rfl)]
 rw[Lib.run_noEscape]
 simp only[Result.andThen]
 rw[Oper.upon_value]
 go_wp2
 rw[Lib.run_from_unsafe w ⟨b,0,none⟩ Tryz.underlying207 Tryz.underlying100 hj hsh (by kernel_rfl)]
 simp only[Result.andThen]
 rw[Oper.upon_value]
 go_wp2
 go_end0
 exact ⟨rfl,rfl⟩
end Go.Proofs
end
section
namespace Go.AM.Num
open Go.Proofs Go.RowKit Go.Lib
theorem Wt {cs:Array Value} {u0 u1:Value} (hs:cs.size=2) (h0:cs[0]?=some u0) (h1:cs[1]?=some u1):cs=#[u0,u1]:=by
 obtain ⟨l⟩:=cs
 match l,hs with
 |[a,b],_=>simp at h0 h1;rw[h0,h1]
theorem Pd {w:World} {I:Nat->Prop} {β:Nat->Option Place} {p:Place} {k j:Nat} (hp:β k=some p) (h:BB w I β p (.cells [.selfp k,.vw j])) :
 p.backed=true/\p.O=0/\∃ u0 u1,w.heap[p.B]?=some (.cells #[u0,u1] bldT (0,0))/\(u0=.pointer none\/u0=.pointer (some ⟨p.B,0,none⟩))/\RelV (Ag w) I β (.vw j) u1/\p.s=2/\p.n=1/\p.z=2:=by
 obtain ⟨h1,h2,h3,cs,ty,g1,⟨g2,g3,g4⟩,us,g5,g6,g7,g8⟩:=h
 obtain ⟨rfl,hO,hsz⟩:=g4 rfl
 simp only[RelL] at g7
 obtain ⟨u0,us',rfl,r0,u1,us2,rfl,r1,rfl⟩:=g7
 have e0:=g6 0 (by simp)
 have e1:=g6 1 (by simp)
 rw[hO] at e0 e1
 obtain rfl:=Wt hsz (by simpa using e0) (by simpa using e1)
 refine ⟨h3,hO,u0,u1,g1,?_,r1,h1,h2,by rw[<-g3];exact hsz⟩
 simp only[RelV] at r0
 rcases r0 with r0 | ⟨q,hq,_,r0⟩
 ·exact .inl r0
 ·rw[hp] at hq;cases hq;rw[hO] at r0;exact .inr r0
theorem Wm {w:World} {I:Nat->Prop} {β:Nat->Option Place} {p:Place} {k j:Nat} {u0 u1:Value} (hp:β k=some p) (hb:p.backed=true) (hO:p.O=0) (hs:p.s=2) (hn:p.n=1) (hz:p.z=2) (hh:w.heap[p.B]?=some (.cells #[u0,u1] bldT (0,0))) (h0:u0=.pointer none\/u0=.pointer (some ⟨p.B,0,none⟩)) (h1:RelV (Ag w) I β (.vw j) u1):BB w I β p (.cells [.selfp k,.vw j]):=by
 have hu0:u0.oneCell'=true:=by rcases h0 with rfl | rfl<;>rfl
 have hu1:u1.oneCell'=true:=by simp only[RelV] at h1;obtain ⟨_,_,_,_,rfl,_⟩:=h1;rfl
 refine ⟨hs,hn,hb,#[u0,u1],bldT,hh,⟨by rw[hO];simp,by rw[hz];rfl,fun _=>⟨rfl,hO,rfl⟩⟩,[u0,u1],rfl,fun i hi=>?_,?_,by simp[hu0,hu1]⟩
 ·rw[hO];simp
 ·simp only[RelL]
  refine ⟨u0,_,rfl,?_,u1,_,rfl,h1,rfl⟩
  simp only[RelV]
  exact h0.imp id fun h=>⟨p,hp,hb,by rw[hO];exact h⟩
theorem AAe {w w':World} {I:Nat->Prop} {β β':Nat->Option Place} {p:Place} {l:List Int} (h:BB w I β p (.typed (.int .u8) l)) (hh:p.backed=true->w'.heap[p.B]?=w.heap[p.B]?):BB w' I β' p (.typed (.int .u8) l):=by
 obtain ⟨h1,h2,h3,h4⟩:=h
 refine ⟨h1,h2,h3,fun hb=>?_⟩
 obtain ⟨cs,ty,g1,g2,g3⟩:=h4 hb
 refine ⟨cs,ty,(hh hb).trans g1,g2,fun i x hi=>?_⟩
 obtain ⟨us,u1,u2,u3⟩:=g3 i x hi
 exact ⟨us,u1,u2,by simpa only[RelC] using u3⟩
section
variable {V:Env} (hP:V.P=Tryz.prog)
include hP
theorem AEM:Good V 149 Pl:=
 ⟨⟨_,hP ▸ Tryz.func149,by decide,rfl⟩,fun (x:(Unit×List Int)×Unit) y o hx w I β vs hG hgb hctx hargs=>by
  obtain ⟨v,rfl,h1⟩:=O8 hargs
  obtain ⟨⟨u,l⟩,u2⟩:=x
  cases hx
  replace h1:RelV (Ag w) I β (.ptr 0 0 0) v:=h1
  simp only[RelV] at h1
  obtain ⟨p,hp,hpb,rfl⟩:=h1
  obtain ⟨p',hp',hbk,hrow⟩:=hctx.rows 0 (.cells [.selfp 0,.vw 1]) rfl
  rw[hp] at hp';cases hp'
  obtain ⟨hb,hO,u0,u1,hh,h0,hu1,hs,hn,hz⟩:=Pd hp hrow
  have hc0:w.cell? ⟨p.B,0,none⟩=some u0:=by simp[World.cell?,hh]
  rw[hP,show (⟨p.B,p.O+0 * p.s+0,none⟩:Addr)=⟨p.B,0,none⟩ by rw[hO];simp]
  let H:Al:=[some (.cells [.selfp 0,.vw 1]),some (.typed (.int .u8) l)]
  show Calls Tryz.prog _ _ _ fun e w'=>∃ (us:List Value) (I':Nat->Prop) (β':Nat->Option Place),e=.returned (EL us)/\FrmC w w' (AR H β)/\OutOK w w' V.gb I β H H 1 I' β'/\RelL (Ag w') I' β' [] us
  have hctx:Ctx V.gb w I β H:=hctx
  have same:∀ i,i < 1->β i=β i/\∀ q,β i=some q->q.backed=true->CH w w q:=fun i hi=>⟨rfl,fun q hq hk=>by
   obtain rfl:i=0:=by omega
   rw[hp] at hq;cases hq
   exact .inr ⟨_,_,_,hh,hh,rfl,fun _ _=>rfl⟩⟩
  rcases h0 with rfl | rfl
  ·refine Calls.mono (Tryz.copyCheck_fresh p.B w hc0 (by simp[World.shape?,hh];rfl) (by simp[World.frozen?,hh])) ?_
   rintro e w' ⟨rfl,rfl⟩
   have hh':(w.setCell ⟨p.B,0,none⟩ (.pointer (some ⟨p.B,0,none⟩))).heap[p.B]?=some (.cells #[.pointer (some ⟨p.B,0,none⟩),u1] bldT (0,0)):=by
    simp only[World.setCell,Array.getElem?_modify,hh]
    simp
   have hoth:∀ B,B≠p.B->(w.setCell ⟨p.B,0,none⟩ (.pointer (some ⟨p.B,0,none⟩))).heap[B]?=w.heap[B]?:=fun B hB=>by
    simp only[World.setCell,Array.getElem?_modify]
    rw[if_neg (fun h=>hB h.symm)]
   have hsz:(w.setCell ⟨p.B,0,none⟩ (.pointer (some ⟨p.B,0,none⟩))).heap.size=w.heap.size:=by simp[World.setCell]
   refine ⟨[],I,β,rfl,⟨rfl,rfl,rfl,Nat.le_of_eq hsz.symm,fun B hB hnl=>hoth B fun e=>hnl ⟨0,_,p,rfl,hp,hb,e.symm⟩⟩,⟨⟨fun b r hbr=>?_,hctx.apart,fun B hB=>⟨by rw[hsz];exact (hctx.imm B hB).1,(hctx.imm B hB).2⟩,hctx.dom⟩,fun B hB=>.inl hB,fun b r q hbr hq hk=>.inl ⟨b,r,q,hbr,hq,hk,rfl⟩,fun i hi=>⟨rfl,fun q hq hk=>?_⟩⟩,by simp only[RelL]⟩
   ·cases b with
    |zero=>cases hbr;exact ⟨p,hp,fun hk=>by rw[hsz];exact hbk hk,Wm hp hb hO hs hn hz hh' (.inr rfl) (by simpa only[RelV] using hu1)⟩
    |succ b=>cases b with
     |zero=>
      cases hbr
      obtain ⟨q,hq,hqk,hqr⟩:=hctx.rows 1 _ rfl
      exact ⟨q,hq,fun hk=>by rw[hsz];exact hqk hk,AAe hqr fun hk=>hoth q.B fun e=>by have:=hctx.apart 1 0 _ _ q p rfl rfl hq hp hk hb e;cases this⟩
     |succ b=>simp[H] at hbr
   ·obtain rfl:i=0:=by omega
    rw[hp] at hq;cases hq
    refine .inr ⟨_,_,_,hh,hh',rfl,fun o ho=>?_⟩
    rw[hO,hn,hs] at ho
    rw[Array.getElem?_eq_none (by simp;omega),Array.getElem?_eq_none (by simp;omega)]
  ·refine Calls.mono (Tryz.copyCheck_used p.B w hc0) ?_
   rintro e w' ⟨rfl,rfl⟩
   exact ⟨[],I,β,rfl,⟨rfl,rfl,rfl,Nat.le_refl _,fun _ _ _=>rfl⟩,⟨hctx,fun B hB=>.inl hB,fun b r q hbr hq hk=>.inl ⟨b,r,q,hbr,hq,hk,rfl⟩,same⟩,by simp only[RelL]⟩⟩
theorem AFl:Good V 75 PL:=
 ⟨⟨_,hP ▸ Tryz.func75,by decide,rfl⟩,fun (x:(Unit×List Int)×Unit) y o hx w I β vs hG hgb hctx hargs=>by
  obtain ⟨v,rfl,h1⟩:=O8 hargs
  obtain ⟨⟨u,l⟩,u2⟩:=x
  obtain ⟨hm,hx⟩:=UD hx
  cases hx
  simp only[decide_eq_true_eq] at hm
  replace hm:0 < l.length:=hm
  replace h1:RelV (Ag w) I β (.ptr 0 0 0) v:=h1
  simp only[RelV] at h1
  obtain ⟨p,hp,hpb,rfl⟩:=h1
  obtain ⟨p',hp',hbk,hrow⟩:=hctx.rows 0 (.cells [.selfp 0,.vw 1]) rfl
  rw[hp] at hp';cases hp'
  obtain ⟨hb,hO,u0,u1,hh,h0,hu1,hs,hn,hz⟩:=Pd hp hrow
  obtain ⟨q,hq,hqk,hqr⟩:=hctx.rows 1 (.typed (.int .u8) l) rfl
  simp only[RelV] at hu1
  obtain ⟨q',hq',a,c,rfl,hqc,ha⟩:=hu1
  rw[hq] at hq';cases hq'
  obtain ⟨q1,q2,_,q4⟩:=hqr
  obtain ⟨hqb,rfl,_⟩:=ha.resolve_left (by omega)
  obtain ⟨cs,ty,g1,⟨g2,g3,g4,g5⟩,g6⟩:=q4 hqb
  obtain rfl:=g4 rfl
  have q1:q.s=1:=q1
  rw[q1,q2] at g2
  rw[hP,show (⟨p.B,p.O+0 * p.s+0,none⟩:Addr)=⟨p.B,0,none⟩ by rw[hO];simp]
  let H:Al:=[some (.cells [.selfp 0,.vw 1]),some (.typed (.int .u8) l)]
  show Calls Tryz.prog _ _ _ fun e w'=>∃ (us:List Value) (I':Nat->Prop) (β':Nat->Option Place),e=.returned (EL us)/\FrmC w w' (AR H β)/\OutOK w w' V.gb I β H [] 0 I' β'/\RelL (Ag w') I' β' [.str (l.map fun n=>UInt8.ofNat n.toNat)] us
  have hcall:=Tryz.Builder_String_at p.B q.B q.O c u0 cs l w (by intro e;rw[e] at hm;simp at hm) (by rw[<-q2];exact hh) g1 (by simpa using g2) (by rw[<-q2];exact hqc) (by have:cs.size<=FG * 1:=g5;unfold FG at this;omega) (fun j x hx=>by
   obtain ⟨us,e1,e2,e3⟩:=g6 j x hx
   have:=e2 0 (by decide)
   simp only[RelC] at e3
   subst e3
   simpa [GT.cells] using this)
  refine Calls.mono hcall ?_
  rintro e w' ⟨rfl,W,w1,w2,w3,w4,rfl⟩
  have hfz:∀ B,B≠q.B->(W.freeze ⟨q.B,q.O,none⟩ l.length).heap[B]?=w.heap[B]?:=fun B hB=>by
   rw[<-w1]
   unfold World.freeze
   split
   ·rfl
   ·simp only[Array.getElem?_modify];rw[if_neg (fun h=>hB h.symm)]
  have hfs:(W.freeze ⟨q.B,q.O,none⟩ l.length).heap.size=w.heap.size:=by
   rw[<-w1];unfold World.freeze;split<;>simp
  have hfo:(W.freeze ⟨q.B,q.O,none⟩ l.length).os=w.os/\(W.freeze ⟨q.B,q.O,none⟩ l.length).tape=w.tape/\(W.freeze ⟨q.B,q.O,none⟩ l.length).output=w.output:=by
   unfold World.freeze;split<;>exact ⟨w2,w3,w4⟩
  have hctx:Ctx V.gb w I β H:=hctx
  refine ⟨[_],I,fun _=>none,rfl,⟨hfo.1,hfo.2.1,hfo.2.2,Nat.le_of_eq hfs.symm,fun B hB hnl=>hfz B fun e=>hnl ⟨1,_,q,rfl,hq,hqb,e.symm⟩⟩,⟨⟨fun b r hbr=>by simp at hbr,fun b b' r r' q q' hb=>by simp at hb,fun B hB=>⟨by rw[hfs];exact (hctx.imm B hB).1,G1 B⟩,fun _ _=>rfl⟩,fun B hB=>.inl hB,fun b r q hbr=>by simp at hbr,fun i hi=>by cases hi⟩,?_⟩
  simp only[RelL]
  exact ⟨_,[],rfl,FT _,rfl⟩⟩
end
end Go.AM.Num
end
section
namespace Go.AM.Num
open Go.Proofs
section
variable {V:Env} (hP:V.P=Tryz.prog)
include hP
theorem Zk (_:∀ w,V.G w->GN w):Good V 173 M9:=
 FS ⟨_,hP ▸ Tryz.func173,by decide,by rfl⟩ (fun _=>rfl) (fun _ _=>rfl) rfl (fun x y o hx w rd I β vs hG ha=>by
  obtain ⟨v,v',rfl,h1,h2⟩:=Gu ha
  obtain ⟨s,rfl,hs⟩:=Fd h1
  obtain rfl:=Fp h2
  simp only[M9,strings_Repeat] at hx
  split at hx
  case isFalse=>cases hx
  rename_i hc
  cases hx
  rw[hP]
  have hn:(x.2.1.toNat:Int)=x.2.1:=Int.toNat_of_nonneg hc.1
  have hcall:=Tryz.strings_Repeat s x.2.1.toNat w (by have:=hc.2.1;omega) (by rw[JX,hs];exact hc.2.2)
  rw[hn] at hcall
  refine Calls.mono hcall ?_
  rintro e w' ⟨rfl,hb⟩
  refine ⟨[_],rfl,Ext.of_below hb,fun rd I' β'=>?_⟩
  show RelL rd I' β' [.str _] _
  simp only[RelL]
  exact ⟨_,_,rfl,by rw[hs];exact FT _,rfl⟩)
theorem AEy:Good V 190 NS:=
 FS ⟨_,hP ▸ Tryz.func190,by decide,by rfl⟩ (fun _=>rfl) (fun _ _=>rfl) rfl (fun x y o hx w rd I β vs hG ha=>by
  obtain ⟨v,v',rfl,h1,h2⟩:=Gu ha
  obtain ⟨s,rfl,hs⟩:=Fd h1
  obtain rfl:=Fp h2
  simp only[NS,strings_IndexByte,Option.some.injEq] at hx
  cases hx
  rw[hP]
  refine Calls.mono (Tryz.strings_IndexByte s x.2.1 w) ?_
  rintro e w' ⟨rfl,rfl⟩
  refine ⟨[_],rfl,Ext.refl _,fun rd I' β'=>?_⟩
  show RelL rd I' β' [.int .i64 _] _
  simp only[RelL,RelV]
  exact ⟨_,_,rfl,by rw[hs],rfl⟩)
theorem AHf (_:∀ w,V.G w->GN w):Good V 170 Np:=
 FS ⟨_,hP ▸ Tryz.func170,by decide,by rfl⟩ (fun _=>rfl) (fun _ _=>rfl) rfl (fun x y o hx w rd I β vs hG ha=>by
  obtain ⟨v,v',rfl,h1,h2⟩:=Gu ha
  obtain ⟨s,rfl,hs⟩:=Fd h1
  obtain ⟨p,rfl,hp⟩:=Fd h2
  simp only[Np,I6] at hx
  split at hx
  case isFalse=>cases hx
  rename_i hc
  cases hx
  rw[hP]
  refine Calls.mono (Any.strings_Trim_laid Tryz.lays160 (by kernel_rfl) s p w (by rw[JX,hs];exact hc.1) (by rw[JX,hp];exact hc.2.1) (ascii_of_all (by rw[hp];exact hc.2.2))) ?_
  rintro e w' ⟨rfl,hb⟩
  refine ⟨[_],rfl,Ext.of_below hb,fun rd I' β'=>?_⟩
  show RelL rd I' β' [.str _] _
  simp only[RelL]
  exact ⟨_,_,rfl,by rw[hs,hp];exact FT _,rfl⟩)
end
end Go.AM.Num
end
section
namespace Go.AM.Num
theorem BD {α:Type} {step:α->Option (Ex×α)} {Q:Ex×α->Prop} (I:Nat->α->Prop)
 (h:∀ n x,I n x->(∃ r,step x=some r/\r.1≠.normal/\Q r)\/(∃ m y,step x=some (.normal,y)/\m < n/\I m y)) :
 ∀ n x,I n x->∃ r,Am step x=some r/\Q r:=by
 intro n
 induction n using Nat.strongRecOn with
 |_ n ih=>
  intro x hx
  rcases h n x hx with ⟨⟨ex,y⟩,hs,hne,hq⟩ | ⟨m,y,hs,hm,hy⟩
  ·refine ⟨_,?_,hq⟩
   rw[KA,hs]
   cases ex with
   |normal=>exact absurd rfl hne
   |exit id=>rfl
   |ret=>rfl
  ·obtain ⟨r,hr,hq⟩:=ih m hm y hy
   exact ⟨r,by rw[KA,hs];exact hr,hq⟩
theorem A8 {α:Type} {step:α->Option (Ex×α)} {x y:α} (h:step x=some (.normal,y)):Am step x=Am step y:=by
 rw[KA,h]
theorem Ba {α:Type} {step:α->Option (Ex×α)} {x y:α} {e:Ex} (h:step x=some (e,y)) (he:e≠.normal):Am step x=some (e,y):=by
 rw[KA,h]
 cases e with
 |normal=>exact absurd rfl he
 |exit id=>rfl
 |ret=>rfl
theorem Bh (i:Nat):Ex.same (.exit i) (.exit i)=true:=by simp[Ex.same]
theorem Ca:Ex.same .ret .ret=true:=by simp[Ex.same]
theorem Cc (i:Nat):Ex.same .ret (.exit i)=false:=by simp[Ex.same]
theorem RI (i:Nat):Ex.same (.exit i) .ret=false:=by simp[Ex.same]
section
variable {ρ:Type}
theorem Cg (k:Option ρ):Ab true k=k:=rfl
theorem Ap (a b:Bool) (k:Option ρ):Ab (a&&b) k=Ab a (Ab b k):=by cases a<;>rfl
theorem Ad {p:Prop} {_:Decidable p} (h:p:=by omega) (k:Option ρ):Ab (decide p) k=k:=by rw[qZ10 h];rfl
theorem Eg {x y:Int} (h:x≠y) (k:Option ρ):Ab (x !=y) k=k:=by
 have:(x !=y)=true:=by simpa using h
 rw[this];rfl
theorem Az {α:Type} (a b:α):cond true a b=a:=rfl
theorem AE {α:Type} (a b:α):cond false a b=b:=rfl
theorem Aw {α:Type} {p:Prop} {_:Decidable p} (h:p:=by omega) (a b:α):cond (decide p) a b=a:=by rw[qZ10 h];rfl
theorem AC {α:Type} {p:Prop} {_:Decidable p} (h:¬ p:=by omega) (a b:α):cond (decide p) a b=b:=by rw[qZ9 h];rfl
theorem Av {α:Type} {x y:Int} (h:x=y:=by omega) (a b:α):cond (x==y) a b=a:=by
 have:(x==y)=true:=by simpa using h
 rw[this];rfl
theorem Aj {α:Type} {x y:Int} (h:x≠y:=by omega) (a b:α):cond (x==y) a b=b:=by
 have:(x==y)=false:=by simpa using h
 rw[this];rfl
theorem B5 {α:Type} {x y:Int} (h:x≠y:=by omega) (a b:α):cond (x !=y) a b=a:=by
 have:(x !=y)=true:=by simpa using h
 rw[this];rfl
theorem BX {α:Type} {x y:Int} (h:x=y:=by omega) (a b:α):cond (x !=y) a b=b:=by
 have:(x !=y)=false:=by simpa using h
 rw[this];rfl
theorem Ae {α β:Type} (x:α) (f:α->Option β):(some x).bind f=f x:=rfl
end
theorem AB {x:Int} (h:-9223372036854775808<=x/\x<=9223372036854775807:=by omega):qI x=x:=IntWalk.i64_in x h
theorem KO {x:Int} (h:0<=x/\x<=18446744073709551615):qU x=x:=IntWalk.u64_in x h
theorem OG {x:Int} (h:0<=x/\x<=4294967295):IntKind.u32.wrap x=x:=IntWalk.u32_in x h
theorem I5 {x:Int} (h:0<=x/\x<=255):IntKind.u8.wrap x=x:=IntWalk.u8_in x h
theorem tm {x y:Int} (h:0<=x):x.tmod y=x % y:=Int.tmod_eq_emod_of_nonneg h
theorem td {x y:Int} (h:0<=x):x.tdiv y=x / y:=Int.tdiv_eq_ediv_of_nonneg h
theorem Mw (a b:Int):BN a b=if b > a then b else a:=rfl
theorem AES (a b:Int):EH a b=if b < a then b else a:=rfl
theorem Ah:type_of% @Cg/\type_of% @Ap/\type_of% @Ad/\type_of% @Eg/\type_of% @Aw/\type_of% @AC/\type_of% @Av/\type_of% @Aj/\type_of% @B5/\type_of% @BX/\type_of% @AB/\type_of% @KO/\type_of% @OG/\type_of% @I5/\type_of% @tm/\type_of% @td/\type_of% @Ae/\type_of% @Bh/\type_of% @RI/\type_of% @Cc/\type_of% @Ca/\type_of% @Az/\type_of% @AE/\(!true)=false/\(!false)=true:=⟨@Cg,@Ap,@Ad,@Eg,@Aw,@AC,@Av,@Aj,@B5,@BX,@AB,@KO,@OG,@I5,@tm,@td,@Ae,@Bh,@RI,@Cc,@Ca,@Az,@AE,rfl,rfl⟩
theorem Ai:As=68719476736/\(∀ (α:Type) (a b:List α),(a++b).length=a.length+b.length)/\(∀ (α:Type) (x:α) (l:List α),(x::l).length=l.length+1)/\(∀ α:Type,([]:List α).length=0)/\(∀ (α:Type) (l:List α) (n:Nat) (x:α),(l.set n x).length=l.length)/\
 (∀ (α:Type) (n:Nat) (x:α),(List.replicate n x).length=n)/\(∀ (α:Type) (n:Nat) (l:List α),(l.take n).length=min n l.length)/\(∀ (α:Type) (n:Nat) (l:List α),(l.drop n).length=l.length - n):=
 ⟨rfl,fun _ _ _=>qZ6,fun _ _ _=>qY11,fun _=>List.length_nil,fun _ _ _ _=>List.length_set,fun _ _ _=>List.length_replicate,fun _ _ _=>List.length_take,fun _ _ _=>List.length_drop⟩
def bp (i:Nat):Int:=1000000000 ^ i
theorem Dp (i:Nat):bp (i+1)=1000000000 * bp i:=by unfold bp;rw[Int.pow_succ,Int.mul_comm]
theorem Dj (i:Nat):0 < bp i:=by
 induction i with
 |zero=>decide
 |succ i ih=>rw[Dp];omega
theorem Is (i j:Nat):bp (i+j)=bp i * bp j:=by unfold bp;exact Int.pow_add ..
theorem PZ {i j:Nat} (h:i<=j):bp i<=bp j:=by
 obtain ⟨k,rfl⟩:=Nat.exists_eq_add_of_le h
 rw[Is]
 have h1:=Dj i
 have h2:=Dj k
 have:bp i * 1<=bp i * bp k:=Int.mul_le_mul_of_nonneg_left (by omega) (by omega)
 omega
def lv:List Int->Int
 |[]=>0
 |x::r=>x+1000000000 * lv r
def Wf (l:List Int):Prop:=∀ x∈l,0<=x/\x < 1000000000
theorem Wf.nil:Wf []:=by simp[Wf]
theorem Wf.cons {x:Int} {l:List Int} (h:0<=x/\x < 1000000000) (hl:Wf l):Wf (x::l):=by
 intro y hy
 rcases List.mem_cons.1 hy with rfl | hy
 ·exact h
 ·exact hl y hy
theorem Wf.app {a b:List Int} (ha:Wf a) (hb:Wf b):Wf (a++b):=by
 intro y hy
 rcases List.mem_append.1 hy with hy | hy
 ·exact ha y hy
 ·exact hb y hy
theorem Wf.one {x:Int} (h:0<=x/\x < 1000000000):Wf [x]:=Wf.cons h Wf.nil
theorem Wf.take {l:List Int} (h:Wf l) (n:Nat):Wf (l.take n):=fun x hx=>h x (List.mem_of_mem_take hx)
theorem Wf.drop {l:List Int} (h:Wf l) (n:Nat):Wf (l.drop n):=fun x hx=>h x (List.mem_of_mem_drop hx)
theorem Wf.set {l:List Int} (h:Wf l) (i:Nat) {x:Int} (hx:0<=x/\x < 1000000000):Wf (l.set i x):=by
 intro y hy
 rcases List.mem_or_eq_of_mem_set hy with hy | rfl
 ·exact h y hy
 ·exact hx
theorem Wf.at {l:List Int} (h:Wf l) (i:Nat):0<=l.getD i 0/\l.getD i 0 < 1000000000:=by
 by_cases hi:i < l.length
 ·rw[qZ4,qZ5 hi]
  exact h _ (List.getElem_mem hi)
 ·rw[qZ4,List.getElem?_eq_none (by omega)]
  decide
theorem Wf.zeros (n:Nat):Wf (List.replicate n (0:Int)):=by
 intro x hx
 rw[List.eq_of_mem_replicate hx]
 decide
theorem Le (a b:List Int):lv (a++b)=lv a+bp a.length * lv b:=by
 induction a with
 |nil=>simp[lv,bp]
 |cons x a ih=>
  simp only[qY5,lv,ih,qY11,Dp]
  grind
theorem Nl (x:Int):lv [x]=x:=by simp[lv]
theorem Ng (a:List Int) (x:Int):lv (a++[x])=lv a+x * bp a.length:=by rw[Le,Nl,Int.mul_comm]
theorem AA0 (n:Nat):lv (List.replicate n (0:Int))=0:=by
 induction n with
 |zero=>rfl
 |succ n ih=>simp[List.replicate_succ,lv,ih]
theorem Cu {l:List Int} (h:Wf l):0<=lv l:=by
 induction l with
 |nil=>simp[lv]
 |cons x l ih=>
  have h1:=h x (by simp)
  have h2:=ih fun y hy=>h y (by simp[hy])
  simp only[lv];omega
theorem DM {l:List Int} (h:Wf l):lv l < bp l.length:=by
 induction l with
 |nil=>simp[lv,bp]
 |cons x l ih=>
  have h1:=h x (by simp)
  have h2:=ih fun y hy=>h y (by simp[hy])
  simp only[lv,qY11,Dp];omega
theorem Dr (l:List Int) (n:Nat) (h:n<=l.length):lv l=lv (l.take n)+bp n * lv (l.drop n):=by
 have:=Le (l.take n) (l.drop n)
 rw[List.take_append_drop] at this
 rw[this,List.length_take,Nat.min_eq_left h]
theorem Ie {l:List Int} {i:Nat} (h:i < l.length):l.getD i 0=l[i]:=by
 rw[qZ4,qZ5 h];rfl
theorem LZ {l:List Int} {i:Nat} (h:l.length<=i):l.getD i 0=0:=by
 rw[qZ4,List.getElem?_eq_none h];rfl
theorem AER {l:List Int} {i:Nat} (h:i < l.length):l.take (i+1)=l.take i++[l.getD i 0]:=by
 rw[Ie h,List.take_succ_eq_append_getElem h]
theorem AEt {l:List Int} {i:Nat} (h:i < l.length):lv (l.take (i+1))=lv (l.take i)+l.getD i 0 * bp i:=by
 rw[AER h,Ng,List.length_take,Nat.min_eq_left (by omega)]
theorem K' (l:List Int) (i:Nat):lv (l.take (i+1))=lv (l.take i)+l.getD i 0 * bp i:=by
 by_cases h:i < l.length
 ·exact AEt h
 ·rw[List.take_of_length_le (by omega),List.take_of_length_le (by omega),LZ (by omega)];simp
theorem CG {l:List Int} {i:Nat} (h:i < l.length):lv (l.drop i)=l.getD i 0+1000000000 * lv (l.drop (i+1)):=by
 rw[qY6 h,lv,Ie h]
theorem LR {l:List Int} {i:Nat} (h:i < l.length) (x:Int):lv (l.set i x)=lv l+(x - l.getD i 0) * bp i:=by
 induction l generalizing i with
 |nil=>simp at h
 |cons y l ih=>
  cases i with
  |zero=>simp[lv,bp];omega
  |succ i=>
   simp only[List.set_cons_succ,lv,qZ2,Dp]
   rw[ih (by simpa using h)]
   grind
theorem HB {l:List Int} {i j:Nat} (h:i < l.length) (x:Int):(l.set i x).getD j 0=if i=j then x else l.getD j 0:=by
 rw[qZ4,List.getElem?_set]
 split
 ·rename_i e;subst e;simp[h]
 ·rw[qZ4]
def Aq (n:Nat):List Int:=if h:n=0 then [] else ((n % 1000000000:Nat):Int)::Aq (n / 1000000000)
 termination_by n
 decreasing_by omega
theorem limbs_zero:Aq 0=[]:=by rw[Aq,dif_pos rfl]
theorem Hl {n:Nat} (h:n≠0):Aq n=((n % 1000000000:Nat):Int)::Aq (n / 1000000000):=by rw[Aq,dif_neg h]
theorem Fo (n:Nat):Wf (Aq n):=by
 induction n using Nat.strongRecOn with
 |_ n ih=>
  by_cases h:n=0
  ·subst h;rw[limbs_zero];exact Wf.nil
  ·rw[Hl h];exact Wf.cons (by omega) (ih _ (by omega))
theorem DZ (n:Nat):lv (Aq n)=n:=by
 induction n using Nat.strongRecOn with
 |_ n ih=>
  by_cases h:n=0
  ·subst h;rw[limbs_zero];rfl
  ·rw[Hl h,lv,ih _ (by omega)];omega
theorem limbs_nil {n:Nat}:Aq n=[] ↔ n=0:=by
 constructor
 ·intro h
  have:=DZ n
  rw[h] at this;simp[lv] at this;omega
 ·rintro rfl;exact limbs_zero
theorem LK (n i:Nat) (h:i+1=(Aq n).length):(Aq n).getD i 0≠0:=by
 induction n using Nat.strongRecOn generalizing i with
 |_ n ih=>
  by_cases h0:n=0
  ·subst h0;rw[limbs_zero] at h;simp at h
  ·rw[Hl h0] at h ⊢
   cases i with
   |zero=>
    simp only[qY11] at h
    have:Aq (n / 1000000000)=[]:=List.eq_nil_of_length_eq_zero (by omega)
    rw[limbs_nil] at this
    simp;omega
   |succ i=>
    simp only[qY11] at h
    simpa using ih (n / 1000000000) (by omega) i (by omega)
theorem AAm {l:List Int} (h:Wf l) (ht:∀ i,i+1=l.length->l.getD i 0≠0):l=Aq (lv l).toNat:=by
 induction l with
 |nil=>simp[lv,limbs_zero]
 |cons x l ih=>
  have hx:=h x (by simp)
  have hl:Wf l:=fun y hy=>h y (by simp[hy])
  have hn:=Cu hl
  have ih':=ih hl fun i hi=>by
   have:=ht (i+1) (by simp[hi])
   simpa using this
  have hpos:(lv (x::l)).toNat≠0:=by
   simp only[lv]
   cases l with
   |nil=>
    have:=ht 0 (by simp)
    simp only[qZ3] at this
    simp only[lv];omega
   |cons y l'=>
    have:lv (y::l')≠0:=by
     intro e
     rw[e] at ih'
     simp[limbs_zero] at ih'
    omega
  rw[Hl hpos]
  have e1:(lv (x::l)).toNat / 1000000000=(lv l).toNat:=by simp only[lv];omega
  have e2:(((lv (x::l)).toNat % 1000000000:Nat):Int)=x:=by simp only[lv];omega
  rw[e1,e2,<-ih']
theorem HF (n:Nat):(n:Int) < bp (Aq n).length:=by
 have:=DM (Fo n)
 rwa [DZ] at this
theorem SX {n:Nat} (h:n≠0):bp ((Aq n).length - 1)<=n:=by
 induction n using Nat.strongRecOn with
 |_ n ih=>
  rw[Hl h]
  by_cases h0:n / 1000000000=0
  ·rw[h0,limbs_zero];simp[bp];omega
  ·have:=ih (n / 1000000000) (by omega) h0
   have hl:(Aq (n / 1000000000)).length≠0:=by
    intro e;exact h0 (limbs_nil.1 (List.eq_nil_of_length_eq_zero e))
   simp only[qY11,Nat.add_sub_cancel]
   have e:(Aq (n / 1000000000)).length=((Aq (n / 1000000000)).length - 1)+1:=by omega
   rw[e,Dp];omega
theorem ACv {i j:Nat} (h:bp i < bp j):i < j:=by
 apply Nat.lt_of_not_le
 intro hle
 have:=PZ hle
 omega
theorem Kh {n k:Nat} (h:(n:Int) < bp k):(Aq n).length<=k:=by
 by_cases h0:n=0
 ·subst h0;rw[limbs_zero];simp
 ·have:=SX h0
  have h2:(Aq n).length - 1 < k:=ACv (by omega)
  omega
theorem LS {m n:Nat} (h:m<=n):(Aq m).length<=(Aq n).length:=
 Kh (by have:=HF n;omega)
theorem TS (m n:Nat):(Aq (m * n)).length<=(Aq m).length+(Aq n).length:=by
 apply Kh
 rw[Is,Int.natCast_mul]
 have h1:=HF m
 have h2:=HF n
 exact Int.mul_lt_mul' (by omega) h2 (by omega) (by have:=Dj (Aq m).length;omega)
theorem limbs_small {n:Nat} (h0:n≠0) (h:n < 1000000000):Aq n=[(n:Int)]:=by
 rw[Hl h0,Nat.mod_eq_of_lt h,Nat.div_eq_of_lt h,limbs_zero]
end Go.AM.Num
end
section
namespace Go.AM.Num
theorem C4:As=68719476736:=rfl
theorem Hu {l:List Int} (hw:Wf l) (hl:l.length<=1000000000000):Ey l=some ((Aq (lv l).toNat,()),()):=by
 obtain ⟨r,hr,n,rfl,hn,hz,ht⟩:=BD (step:=DN) (Q:=fun r=>∃ n:Nat,r=(Ex.exit 0,(l,(n:Int),()))/\n<=l.length/\lv (l.drop n)=0/\∀ i,i+1=n->l.getD i 0≠0)
  (fun m x=>x=(l,(m:Int),())/\m<=l.length/\lv (l.drop m)=0) (by
   rintro n x ⟨rfl,hn,hz⟩
   by_cases h0:n=0
   ·subst h0
    refine .inl ⟨_,?_,?_,0,rfl,hn,hz,by omega⟩
    ·simp (disch:=omega) only[DN,AC]
    ·simp
   ·have e:((n:Int) - 1).toNat=n - 1:=by omega
    have hi:n - 1 < l.length:=by omega
    by_cases hx:l.getD (n - 1) 0=0
    ·refine .inr ⟨n - 1,_,?_,by omega,rfl,by omega,?_⟩
     ·simp (disch:=omega) only[DN,Aw,Ap,Ad,AB,e,Av]
      rw[show ((n:Int) - 1)=((n - 1:Nat):Int) by omega]
     ·rw[CG hi,hx,show n - 1+1=n by omega,hz];rfl
    ·refine .inl ⟨_,?_,?_,n,rfl,hn,hz,fun i hi'=>by rw[show i=n - 1 by omega];exact hx⟩
     ·simp (disch:=omega) only[DN,Aw,Ap,Ad,AB,e,Aj]
     ·simp) l.length (l,(l.length:Int),()) ⟨rfl,Nat.le_refl _,by rw[List.drop_length];rfl⟩
 unfold Ey
 rw[hr]
 have e:((n:Int)).toNat=n:=by omega
 simp (disch:=omega) only[Ae,Bh,Az,Ap,Ad,e]
 congr 2
 congr 1
 rw[AAm (hw.take n) (fun i hi=>by
  rw[List.length_take,Nat.min_eq_left hn] at hi
  have:(l.take n).getD i 0=l.getD i 0:=by
   rw[qZ4,List.getElem?_take,if_pos (by omega),qZ4]
  rw[this];exact ht i hi)]
 have:=Dr l n hn
 rw[hz] at this
 rw[this];simp
theorem Xi (l:List Int) {i:Int} (h0:0<=i):LL l i=some ((l.getD i.toNat 0,()),()):=by
 unfold LL
 by_cases h:i < l.length
 ·simp (disch:=omega) only[AC,Aw,Ap,Ad]
 ·simp (disch:=omega) only[AC,Aw,Ap,Ad]
  rw[LZ (by omega)]
theorem Y9 (n:Nat):Et (Aq n)=some ((decide (n=1),()),()):=by
 unfold Et
 by_cases h0:n=0
 ·subst h0;rw[limbs_zero];simp[cond]
 ·by_cases hl:(Aq n).length=1
  ·have hlt:n < 1000000000:=by
    have:=HF n
    rw[hl] at this;simp[bp] at this;omega
   rw[limbs_small h0 hlt]
   simp (disch:=(first | omega | (simp only[Ai];omega))) only[Ah]
   by_cases h1:n=1
   ·subst h1;rfl
   ·have e:((n:Int)==1)=false:=by rw[beq_eq_false_iff_ne];omega
    show some (((n:Int)==1,()),())=_
    rw[e,qZ9 h1]
  ·have:n≠1:=by rintro rfl;exact hl (by rw[limbs_small (by decide) (by decide)];rfl)
   simp (disch:=(first | omega | (simp only[Ai];omega))) only[Ah]
   simp[this]
theorem AEZ (a b:Nat):BN (a:Int) (b:Int)=((max a b:Nat):Int):=by
 rw[Mw];split<;>omega
end Go.AM.Num
end
section
namespace Go.AM.Num
theorem lv_lt_of_top {a b:List Int} (ha:Wf a) (hb:Wf b) {i:Nat} (hal:i < a.length) (hbl:i < b.length) (hd:a.drop (i+1)=b.drop (i+1)) (h:a.getD i 0 < b.getD i 0):lv a < lv b:=by
 have h1:=Dr a i (by omega)
 have h2:=Dr b i (by omega)
 rw[CG hal,hd] at h1
 rw[CG hbl] at h2
 have h3:=DM (ha.take i)
 have h4:=Cu (hb.take i)
 rw[List.length_take,Nat.min_eq_left (by omega)] at h3
 have h5:=Dj i
 have h6:bp i * (a.getD i 0+1)<=bp i * b.getD i 0:=Int.mul_le_mul_of_nonneg_left (by omega) (by omega)
 rw[Int.mul_add] at h1 h2 h6
 omega
theorem R1 {a b:List Int} (ha:Wf a) (hb:Wf b) (ht:b.getD (b.length - 1) 0≠0) (h:a.length < b.length):lv a < lv b:=by
 have h1:=DM ha
 have h2:=Dr b (b.length - 1) (by omega)
 rw[CG (by omega),show b.length - 1+1=b.length by omega,List.drop_length] at h2
 have h4:=Cu (hb.take (b.length - 1))
 have h5:=hb.at (b.length - 1)
 have h6:=PZ (show a.length<=b.length - 1 by omega)
 have h7:=Dj (b.length - 1)
 have h8:bp (b.length - 1) * 1<=bp (b.length - 1) * b.getD (b.length - 1) 0:=Int.mul_le_mul_of_nonneg_left (by omega) (by omega)
 simp only[lv] at h2
 rw[Int.mul_add] at h2
 omega
theorem ACK (m n:Nat) (hm:(Aq m).length<=1000000000) (hn:(Aq n).length<=1000000000):∃ c,HO (Aq m) (Aq n)=some ((c,()),())/\(c < 0 ↔ m < n)/\(c=0 ↔ m=n):=by
 have ha:=Fo m
 have hb:=Fo n
 have hma:=DZ m
 have hnb:=DZ n
 by_cases hl:(Aq m).length=(Aq n).length
 ·obtain ⟨a,hae⟩:∃ a,a=Aq m:=⟨_,rfl⟩
  obtain ⟨b,hbe⟩:∃ b,b=Aq n:=⟨_,rfl⟩
  rw[<-hae] at ha hma hl hm ⊢
  rw[<-hbe] at hb hnb hl hn ⊢
  obtain ⟨r,hr,hq⟩:=BD (step:=Hh) (Q:=fun r=>(∃ x,r=(Ex.exit 0,x)/\lv a=lv b)\/(∃ c i,r=(Ex.ret,(a,b,c,i,()))/\(c < 0 ↔ lv a < lv b)/\c≠0/\lv a≠lv b))
   (fun k x=>x=(a,b,0,(k:Int) - 1,())/\k<=a.length/\a.drop k=b.drop k) (by
    rintro k x ⟨rfl,hk,hd⟩
    by_cases h0:k=0
    ·subst h0
     refine .inl ⟨(Ex.exit 0,(a,b,0,((0:Nat):Int) - 1,())),?_,?_,.inl ⟨_,rfl,by simpa using congrArg lv hd⟩⟩
     ·simp (disch:=(first | omega | (simp only[Ai];omega))) only[Hh,Ah]
     ·simp
    ·have e:((k:Int) - 1).toNat=k - 1:=by omega
     have h1:=ha.at (k - 1)
     have h2:=hb.at (k - 1)
     by_cases hx:a.getD (k - 1) 0=b.getD (k - 1) 0
     ·refine .inr ⟨k - 1,_,?_,by omega,rfl,by omega,?_⟩
      ·simp (disch:=(first | omega | (simp only[Ai];omega))) only[Hh,e,Ah]
       rw[show ((k - 1:Nat):Int) - 1=(k:Int) - 1 - 1 by omega]
      ·rw[qY6 (show k - 1 < a.length by omega),qY6 (show k - 1 < b.length by omega),show k - 1+1=k by omega,hd]
       rw[Ie (by omega),Ie (by omega)] at hx
       rw[hx]
     ·have hd':a.drop (k - 1+1)=b.drop (k - 1+1):=by rw[show k - 1+1=k by omega];exact hd
      refine .inl ⟨_,?_,?_,.inr ⟨a.getD (k - 1) 0 - b.getD (k - 1) 0,(k:Int) - 1,rfl,?_,by omega,?_⟩⟩
      ·simp (disch:=(first | omega | (simp only[Ai];omega))) only[Hh,e,Ah]
      ·simp
      ·constructor
       ·intro h;exact lv_lt_of_top ha hb (by omega) (by omega) hd' (by omega)
       ·intro h
        by_cases hy:a.getD (k - 1) 0 < b.getD (k - 1) 0
        ·omega
        ·have:=lv_lt_of_top hb ha (i:=k - 1) (by omega) (by omega) hd'.symm (by omega)
         omega
      ·intro h
       by_cases hy:a.getD (k - 1) 0 < b.getD (k - 1) 0
       ·have:=lv_lt_of_top ha hb (i:=k - 1) (by omega) (by omega) hd' (by omega)
        omega
       ·have:=lv_lt_of_top hb ha (i:=k - 1) (by omega) (by omega) hd'.symm (by omega)
        omega) a.length (a,b,0,(a.length:Int) - 1,()) ⟨rfl,Nat.le_refl _,by rw[List.drop_length,hl,List.drop_length]⟩
  rcases hq with ⟨x,rfl,he⟩ | ⟨c,i,rfl,h1,h2,h3⟩
  ·refine ⟨0,?_,?_,?_⟩
   ·unfold HO
    simp (disch:=(first | omega | (simp only[Ai];omega))) only[hr,Ah]
   ·omega
   ·omega
  ·refine ⟨c,?_,?_,?_⟩
   ·unfold HO
    simp (disch:=(first | omega | (simp only[Ai];omega))) only[hr,Ah]
   ·omega
   ·omega
 ·have hcases:(Aq m).length < (Aq n).length/\m < n\/(Aq n).length < (Aq m).length/\n < m:=by
   rcases Nat.lt_or_ge (Aq m).length (Aq n).length with h | h
   ·refine .inl ⟨h,?_⟩
    have:=R1 ha hb (LK n _ (by omega)) h
    omega
   ·have h':(Aq n).length < (Aq m).length:=by omega
    refine .inr ⟨h',?_⟩
    have:=R1 hb ha (LK m _ (by omega)) h'
    omega
  refine ⟨((Aq m).length:Int) - (Aq n).length,?_,?_,?_⟩
  ·unfold HO
   simp (disch:=(first | omega | (simp only[Ai];omega))) only[Ah]
  ·omega
  ·omega
end Go.AM.Num
end
section
namespace Go.AM.Num
def dig (c:UInt8):Nat:=c.toNat - 48
def EM (c:UInt8):Prop:=48<=c.toNat/\c.toNat<=57
def AN (s:qBs):Prop:=∀ c∈s,EM c
def dval (s:qBs):Nat:=s.foldl (fun v c=>10 * v+dig c) 0
theorem AGV:dval []=0:=rfl
theorem FI (s:qBs) (c:UInt8):dval (s++[c])=10 * dval s+dig c:=by simp[dval]
theorem ABY (s:qBs) (v:Nat):s.foldl (fun v c=>10 * v+dig c) v=v * 10 ^ s.length+dval s:=by
 induction s generalizing v with
 |nil=>simp[dval]
 |cons c s ih=>
  simp only[List.foldl_cons,dval,qY11,Nat.pow_succ]
  rw[ih (10 * v+dig c),ih (10 * 0+dig c)]
  grind
theorem Vc (a b:qBs):dval (a++b)=dval a * 10 ^ b.length+dval b:=by
 show (a++b).foldl (fun v c=>10 * v+dig c) 0=_
 rw[List.foldl_append,ABY]
 rfl
theorem EF (c:UInt8) (s:qBs):dval (c::s)=dig c * 10 ^ s.length+dval s:=by
 have:=Vc [c] s
 simpa [dval] using this
theorem AN.app {a b:qBs} (ha:AN a) (hb:AN b):AN (a++b):=fun c hc=>(List.mem_append.1 hc).elim (ha c) (hb c)
theorem AN.take {s:qBs} (h:AN s) (n:Nat):AN (s.take n):=fun c hc=>h c (List.mem_of_mem_take hc)
theorem AN.drop {s:qBs} (h:AN s) (n:Nat):AN (s.drop n):=fun c hc=>h c (List.mem_of_mem_drop hc)
theorem N6 {c:UInt8} (h:EM c):dig c < 10:=by unfold dig;have:=h.2;omega
theorem Ej {s:qBs} (h:AN s):dval s < 10 ^ s.length:=by
 induction s with
 |nil=>simp[dval]
 |cons c s ih=>
  have h1:=N6 (h c (by simp))
  have h2:=ih fun c' hc'=>h c' (by simp[hc'])
  rw[EF,qY11,Nat.pow_succ]
  have:dig c * 10 ^ s.length<=9 * 10 ^ s.length:=Nat.mul_le_mul_right _ (by omega)
  omega
theorem RT (k:Nat):bp k=((10 ^ (9 * k):Nat):Int):=by
 induction k with
 |zero=>rfl
 |succ k ih=>rw[Dp,ih,show 9 * (k+1)=9 * k+9 by omega,Nat.pow_add];simp;omega
theorem Xc (s:qBs) (out:List Int) (e:Int) (ch:qBs) (hd:AN ch) (hl:ch.length<=9) :
 Am Ib (s,out,e,0,ch.map (fun b=>(b.toNat:Int)),(ch.length:Int),0,())=some (Ex.exit 2,(s,out,e,(dval ch:Int),ch.map (fun b=>(b.toNat:Int)),(ch.length:Int),(ch.length:Int),())):=by
 obtain ⟨r,hr,rfl⟩:=BD (step:=Ib) (Q:=fun r=>r=(Ex.exit 2,(s,out,e,(dval ch:Int),ch.map (fun b=>(b.toNat:Int)),(ch.length:Int),(ch.length:Int),())))
  (fun m x=>∃ k:Nat,m+k=ch.length/\x=(s,out,e,(dval (ch.take k):Int),ch.map (fun b=>(b.toNat:Int)),(ch.length:Int),(k:Int),())) (by
   rintro m x ⟨k,hm,rfl⟩
   by_cases hk:k < ch.length
   ·have hc:=hd _ (List.getElem_mem hk)
    have hg:(ch.map (fun b=>(b.toNat:Int))).getD k 0=(ch[k].toNat:Int):=by
     rw[qZ4,List.getElem?_map,qZ5 hk];rfl
    have hlt:=Ej (hd.take k)
    have hp:10 ^ (ch.take k).length<=10 ^ 8:=Nat.pow_le_pow_right (by decide) (by rw[List.length_take];omega)
    have hs:dval (ch.take (k+1))=10 * dval (ch.take k)+dig ch[k]:=by
     rw[List.take_succ_eq_append_getElem hk,FI]
    have hk':(k:Int).toNat=k:=by omega
    have h1:=hc.1
    have h2:=hc.2
    have hdig:(dig ch[k]:Int)=(ch[k].toNat:Int) - 48:=by unfold dig;omega
    refine .inr ⟨m - 1,_,?_,by omega,k+1,by omega,rfl⟩
    ·rw[hs]
     have hml:(ch.map (fun b=>(b.toNat:Int))).length=ch.length:=by simp
     simp (disch:=(first | omega | (simp only[Ai];omega))) only[Ib,hk',hg,hml,Ah]
     rw[show ((10 * dval (ch.take k)+dig ch[k]:Nat):Int)=(dval (ch.take k):Int) * 10+((ch[k].toNat:Int) - 48) by omega]
     rfl
   ·refine .inl ⟨_,?_,?_,rfl⟩
    ·simp (disch:=(first | omega | (simp only[Ai];omega))) only[Ib,Ah]
     rw[show k=ch.length by omega,List.take_length]
    ·simp) ch.length _ ⟨0,by omega,rfl⟩
 exact hr
theorem MI {s:qBs} (hd:AN s) (hl:s.length<=1000000000):D0 s=some ((Aq (dval s),()),()):=by
 obtain ⟨r,hr,out,e,rfl,ho,hw,hv⟩:=BD (step:=Ix) (Q:=fun r=>∃ (out:List Int) (e:Int),r=(Ex.exit 0,(s,out,e,()))/\out.length<=s.length+1/\Wf out/\lv out=dval s)
  (fun m x=>∃ (k:Nat) (out:List Int),x=(s,out,(s.length:Int) - 9 * k,())/\m+9 * k=s.length+9/\out.length=k/\Wf out/\lv out=dval (s.drop (s.length - 9 * k))) (by
   rintro m x ⟨k,out,rfl,hm,ho,hw,hv⟩
   by_cases hpos:9 * k < s.length
   ·obtain ⟨lo,hlo⟩:∃ lo:Nat,lo=s.length - 9 * k - 9:=⟨_,rfl⟩
    obtain ⟨hi,hhi⟩:∃ hi:Nat,hi=s.length - 9 * k:=⟨_,rfl⟩
    have hie:(s.length:Int) - 9 * k=(hi:Int):=by omega
    have hmx:BN ((hi:Int) - 9) 0=(lo:Int):=by rw[Mw];split<;>omega
    have hin:(hi:Int).toNat=hi:=by omega
    have hln:(lo:Int).toNat=lo:=by omega
    obtain ⟨ch,hch⟩:∃ ch,ch=(s.take hi).drop lo:=⟨_,rfl⟩
    have hchl:ch.length=hi - lo:=by rw[hch,List.length_drop,List.length_take];omega
    have hcd:AN ch:=by rw[hch];exact (hd.take hi).drop lo
    have hlt:=Ej hcd
    have hp:10 ^ ch.length<=10 ^ 9:=Nat.pow_le_pow_right (by decide) (by omega)
    have hin7:=Xc s out (hi:Int) ch hcd (by omega)
    have hsplit:s.drop lo=ch++s.drop hi:=by
     rw[hch]
     have h1:s=s.take hi++s.drop hi:=(List.take_append_drop hi s).symm
     conv=>lhs;rw[h1,List.drop_append_of_le_length (by rw[List.length_take];omega)]
    rw[hie]
    refine .inr ⟨m - 9,(s,out++[(dval ch:Int)],(hi:Int) - 9,()),?_,by omega,k+1,out++[(dval ch:Int)],?_,by omega,by simp[ho],hw.app (Wf.one (by omega)),?_⟩
    ·have hcl:((ch.map (fun b=>(b.toNat:Int))).length:Int)=(ch.length:Int):=by simp
     have hmap:((s.take hi).drop lo).map (fun b=>(b.toNat:Int))=ch.map (fun b=>(b.toNat:Int)):=by rw[hch]
     simp (disch:=(first | omega | (simp only[Ai];omega))) only[Ix,hmx,hin,hln,hmap,hcl,hin7,Ah]
    ·rw[show (s.length:Int) - 9 * ((k+1:Nat):Int)=(hi:Int) - 9 by omega]
    ·rw[Ng,ho,hv,<-hhi,show s.length - 9 * (k+1)=lo by omega,hsplit,Vc,RT,List.length_drop,show s.length - hi=9 * k by omega]
     simp;omega
   ·refine .inl ⟨(Ex.exit 0,(s,out,(s.length:Int) - 9 * k,())),?_,by simp,out,_,rfl,by omega,hw,?_⟩
    ·simp (disch:=(first | omega | (simp only[Ai];omega))) only[Ix,Ah]
    ·rw[hv,show s.length - 9 * k=0 by omega,List.drop_zero]) (s.length+9) (s,[],(s.length:Int),()) ⟨0,[],by simp,by omega,rfl,Wf.nil,by simp[lv,dval]⟩
 unfold D0
 rw[hr]
 have ht:=Hu hw (by omega)
 simp (disch:=(first | omega | (simp only[Ai];omega))) only[ht,Ah]
 rw[hv];simp
end Go.AM.Num
end
section
namespace Go.AM.Num
theorem Ms {x y:Int} (hx:0<=x/\x < 1000000000) (hy:0<=y/\y < 1000000000):0<=x * y/\x * y<=999999998000000001:=by
 refine ⟨Int.mul_nonneg hx.1 hy.1,?_⟩
 have h1:x * y<=999999999 * y:=Int.mul_le_mul_of_nonneg_right (by omega) hy.1
 omega
theorem Y4 {b out0:List Int} {i:Nat} {x:Int} (hb:Wf b) (ho:Wf out0) (hx:0<=x/\x < 1000000000) (hl:i+b.length < out0.length) (hL:out0.length<=2000000000) (t18:List Int) (t19 t20:Int) :
 ∃ out c,Am G' (b,out0,(i:Int),x,0,t18,t19,t20,b,(b.length:Int),0,())=some (Ex.exit 2,(b,out,(i:Int),x,c,t18,t19,t20,b,(b.length:Int),(b.length:Int),()))/\
  out.length=out0.length/\Wf out/\(0<=c/\c < 1000000000)/\lv out+c * bp (i+b.length)=lv out0+x * lv b * bp i/\∀ j,i+b.length<=j->out.getD j 0=out0.getD j 0:=by
 obtain ⟨r,hr,out,c,rfl,h1,h2,h3,h4,h5⟩:=BD (step:=G') (Q:=fun r=>∃ (out:List Int) (c:Int),r=(Ex.exit 2,(b,out,(i:Int),x,c,t18,t19,t20,b,(b.length:Int),(b.length:Int),()))/\
  out.length=out0.length/\Wf out/\(0<=c/\c < 1000000000)/\lv out+c * bp (i+b.length)=lv out0+x * lv b * bp i/\∀ j,i+b.length<=j->out.getD j 0=out0.getD j 0)
  (fun m y=>∃ (k:Nat) (out:List Int) (c:Int),m+k=b.length/\y=(b,out,(i:Int),x,c,t18,t19,t20,b,(b.length:Int),(k:Int),())/\
   out.length=out0.length/\Wf out/\(0<=c/\c < 1000000000)/\lv out+c * bp (i+k)=lv out0+x * lv (b.take k) * bp i/\∀ j,i+k<=j->out.getD j 0=out0.getD j 0) (by
   rintro m y ⟨k,out,c,hm,rfl,h1,h2,h3,h4,h5⟩
   by_cases hk:k < b.length
   ·have hy:=hb.at k
    have hz:=h2.at (i+k)
    have hxy:=Ms hx hy
    have e1:(k:Int).toNat=k:=by omega
    have e2:((i:Int)+k).toNat=i+k:=by omega
    obtain ⟨v,hv⟩:∃ v,v=out.getD (i+k) 0+x * b.getD k 0+c:=⟨_,rfl⟩
    refine .inr ⟨m - 1,(b,out.set (i+k) (v % 1000000000),(i:Int),x,v / 1000000000,t18,t19,t20,b,(b.length:Int),((k+1:Nat):Int),()),?_,by omega,k+1,_,_,by omega,rfl,by simpa using h1,h2.set _ (by omega),by omega,?_,?_⟩
    ·rw[hv]
     simp (disch:=(first | omega | (simp only[Ai];omega))) only[G',e1,e2,Ah]
     rfl
    ·rw[LR (by omega),K',show i+(k+1)=i+k+1 by omega,Dp,Is] at *
     have:=Int.emod_add_mul_ediv v 1000000000
     grind
    ·intro j hj
     rw[HB (by omega),if_neg (by omega)]
     exact h5 j (by omega)
   ·refine .inl ⟨(Ex.exit 2,(b,out,(i:Int),x,c,t18,t19,t20,b,(b.length:Int),(b.length:Int),())),?_,by simp,out,c,rfl,h1,h2,h3,?_,?_⟩
    ·simp (disch:=(first | omega | (simp only[Ai];omega))) only[G',Ah]
     rw[show k=b.length by omega]
    ·rw[show k=b.length by omega,List.take_length] at h4;exact h4
    ·intro j hj;exact h5 j (by omega)) b.length _ ⟨0,out0,0,by omega,rfl,rfl,ho,by omega,by simp[lv],fun j _=>rfl⟩
 exact ⟨out,c,hr,h1,h2,h3,h4,h5⟩
theorem XC {a b:List Int} (ha:Wf a) (hb:Wf b) (hal:a.length<=1000000000) (hbl:b.length<=1000000000) :
 ∃ out,Am G_ (b,List.replicate (a.length+b.length) 0,a,(a.length:Int),0,())=some (Ex.exit 0,(b,out,a,(a.length:Int),(a.length:Int),()))/\Wf out/\out.length=a.length+b.length/\lv out=lv a * lv b:=by
 obtain ⟨r,hr,out,rfl,h1,h2,h3⟩:=BD (step:=G_) (Q:=fun r=>∃ (out:List Int),r=(Ex.exit 0,(b,out,a,(a.length:Int),(a.length:Int),()))/\Wf out/\out.length=a.length+b.length/\lv out=lv a * lv b)
  (fun m y=>∃ (i:Nat) (out:List Int),m+i=a.length/\y=(b,out,a,(a.length:Int),(i:Int),())/\Wf out/\out.length=a.length+b.length/\lv out=lv (a.take i) * lv b/\∀ j,i+b.length<=j->out.getD j 0=0) (by
   rintro m y ⟨i,out,hm,rfl,h1,h2,h3,h4⟩
   by_cases hi:i < a.length
   ·have hx:=ha.at i
    have e1:(i:Int).toNat=i:=by omega
    obtain ⟨o2,c,hin,g1,g2,g3,g4,g5⟩:=Y4 (i:=i) hb h1 hx (by omega) (by omega) a (a.length:Int) (i:Int)
    have e2:((i:Int)+b.length).toNat=i+b.length:=by omega
    refine .inr ⟨m - 1,(b,o2.set (i+b.length) c,a,(a.length:Int),((i+1:Nat):Int),()),?_,by omega,i+1,_,by omega,rfl,g2.set _ g3,by simp;omega,?_,?_⟩
    ·simp (disch:=(first | omega | (simp only[Ai];omega))) only[G_,e1,hin,e2,Ah]
     rfl
    ·rw[LR (by omega),g5 _ (Nat.le_refl _),h4 _ (Nat.le_refl _),K']
     grind
    ·intro j hj
     rw[HB (by omega),if_neg (by omega),g5 j (by omega)]
     exact h4 j (by omega)
   ·refine .inl ⟨(Ex.exit 0,(b,out,a,(a.length:Int),(a.length:Int),())),?_,by simp,out,rfl,h1,h2,?_⟩
    ·simp (disch:=(first | omega | (simp only[Ai];omega))) only[G_,Ah]
     rw[show i=a.length by omega]
    ·rw[show i=a.length by omega,List.take_length] at h3;exact h3) a.length _ ⟨0,List.replicate (a.length+b.length) 0,by omega,rfl,Wf.zeros _,by simp,by rw[AA0];simp[lv],fun j _=>by
     rw[qZ4,List.getElem?_replicate];split<;>rfl⟩
 exact ⟨out,hr,h1,h2,h3⟩
theorem ABc:Ks=DN:=by
 funext x
 unfold Ks DN
 obtain ⟨a,n,u⟩:=x
 simp only
 cases h:decide (n > 0)
 ·rfl
 ·simp only[Az]
  cases h2:(decide (0<=qI (n - 1))&&decide (qI (n - 1) < a.length))
  ·rfl
  ·simp only[Cg]
   simp only[qY0,decide_eq_true_eq] at h2
   rw[Ad]
theorem ABa {l:List Int} (hw:Wf l) (hl:l.length<=1000000000000):∃ n,KJ l=some ((n,()),l,())/\l.take n=Aq (lv l).toNat/\n<=l.length:=by
 have h:=Hu hw hl
 unfold Ey at h
 unfold KJ
 rw[ABc]
 have hst:∀ x r,Am DN x=some r->r.2.1=x.1:=by
  intro x r hr
  obtain ⟨n,hn⟩:=Nu.1 hr
  clear hr
  have hs:∀ x e y,DN x=some (e,y)->y.1=x.1:=by
   intro x e y h
   unfold DN at h
   simp only[Ab] at h
   cases h1:decide (x.2.1 > 0)<;>rw[h1] at h<;>simp only[cond] at h
   ·cases h;rfl
   ·cases h2:(decide (0<=qI (x.2.1 - 1))&&decide (qI (x.2.1 - 1) < x.1.length))<;>rw[h2] at h<;>simp only at h
    ·cases h
    ·split at h<;>cases h<;>rfl
  induction hn with
  |done h _=>exact hs _ _ _ h
  |more h _ ih=>rw[ih];exact hs _ _ _ h
 cases hr:Am DN (l,(l.length:Int),()) with
 |none=>rw[hr] at h;cases h
 |some r=>
  have hl1:=hst _ _ hr
  rw[hr] at h
  obtain ⟨e,a,n,u⟩:=r
  simp only at hl1
  subst hl1
  simp only[Ae,Ab] at h ⊢
  cases h1:Ex.same e (Ex.exit 0)<;>rw[h1] at h<;>simp only[cond] at h ⊢
  ·cases h
  ·cases h2:(decide (0<=n)&&decide (n<=a.length))<;>rw[h2] at h<;>simp only at h ⊢
   ·cases h
   ·simp only[qY0,decide_eq_true_eq] at h2
    simp only[Option.some.injEq,Prod.mk.injEq,and_true] at h
    exact ⟨n.toNat,rfl,h,by omega⟩
theorem ACe:Mg=G_:=rfl
theorem Po {a b:List Int} (ha:Wf a) (hb:Wf b) (hal:a.length<=1000000000) (hbl:b.length<=1000000000):JH a b=some ((Aq (lv a * lv b).toNat,()),()):=by
 obtain ⟨out,hr,h1,h2,h3⟩:=XC ha hb hal hbl
 unfold JH
 rw[ACe]
 have e:((a.length:Int)+b.length).toNat=a.length+b.length:=by omega
 obtain ⟨n,ht,htk,_⟩:=ABa h1 (by omega)
 simp (disch:=(first | omega | (simp only[Ai];omega))) only[e,hr,ht,Ah]
 rw[htk,h3]
end Go.AM.Num
end
section
namespace Go.AM.Num
theorem Wi {a:List Int} {b:Int} (ha:Wf a) (hal:a.length<=1000000000) (hb:0 < b/\b < 1000000000) :
 HS a b=some ((Aq (lv a / b).toNat,Aq (lv a % b).toNat,()),()):=by
 obtain ⟨r,hr,q,rest,rfl,h1,h2,h3,h4⟩:=BD (step:=J4) (Q:=fun r=>∃ (q:List Int) (rest:Int),r=(Ex.exit 0,(a,b,q,rest,-1,()))/\Wf q/\q.length=a.length/\(0<=rest/\rest < b)/\lv a=b * lv q+rest)
  (fun k x=>∃ (q:List Int) (rest:Int),x=(a,b,q,rest,(k:Int) - 1,())/\k<=a.length/\Wf q/\q.length=a.length/\(0<=rest/\rest < b)/\lv (a.drop k)=b * lv (q.drop k)+rest) (by
   rintro k x ⟨q,rest,rfl,hk,h1,h2,h3,h4⟩
   by_cases h0:k=0
   ·subst h0
    refine .inl ⟨_,?_,?_,q,rest,rfl,h1,h2,h3,by simpa using h4⟩
    ·simp (disch:=(first | omega | (simp only[Ai];omega))) only[J4,Ah]
     rfl
    ·simp
   ·have hz:=ha.at (k - 1)
    have e:((k:Int) - 1).toNat=k - 1:=by omega
    obtain ⟨v,hv⟩:∃ v,v=rest * 1000000000+a.getD (k - 1) 0:=⟨_,rfl⟩
    have hvb:v < b * 1000000000:=by
     have:rest * 1000000000<=(b - 1) * 1000000000:=Int.mul_le_mul_of_nonneg_right (by omega) (by omega)
     omega
    have hq0:0<=v / b:=Int.ediv_nonneg (by omega) (by omega)
    have hq1:v / b < 1000000000:=Int.ediv_lt_of_lt_mul hb.1 (by rw[Int.mul_comm];exact hvb)
    have hr0:=Int.emod_nonneg v (show b≠0 by omega)
    have hr1:=Int.emod_lt_of_pos v hb.1
    refine .inr ⟨k - 1,(a,b,q.set (k - 1) (v / b),v % b,(k:Int) - 1 - 1,()),?_,by omega,q.set (k - 1) (v / b),v % b,?_,by omega,h1.set _ ⟨hq0,hq1⟩,by simpa using h2,⟨hr0,hr1⟩,?_⟩
    ·rw[hv] at hq0 hq1 ⊢
     simp (disch:=(first | omega | (simp only[Ai];omega))) only[J4,e,Ah]
    ·rw[show ((k:Int) - 1 - 1)=((k - 1:Nat):Int) - 1 by omega]
    ·have hs:lv ((q.set (k - 1) (v / b)).drop (k - 1))=v / b+1000000000 * lv (q.drop k):=by
      rw[CG (by simp;omega),HB (by omega),if_pos rfl,List.drop_set_of_lt (by omega),show k - 1+1=k by omega]
     rw[hs,CG (by omega),show k - 1+1=k by omega,h4]
     have:=Int.emod_add_mul_ediv v b
     grind) a.length (a,b,List.replicate (a.length:Int).toNat 0,0,(a.length:Int) - 1,()) ⟨_,0,rfl,Nat.le_refl _,Wf.zeros _,by simp,by omega,by rw[List.drop_length,List.drop_of_length_le (by simp)];simp[lv]⟩
 have hdiv:lv a / b=lv q:=by
  rw[h4,Int.mul_comm,Int.add_comm,Int.add_mul_ediv_right _ _ (by omega),Int.ediv_eq_zero_of_lt h3.1 h3.2];omega
 have hmod:lv a % b=rest:=by
  rw[h4,Int.add_comm,Int.add_mul_emod_self_left,Int.emod_eq_of_lt h3.1 h3.2]
 unfold HS
 have ht:=Hu h1 (by omega)
 have ht2:=Hu (l:=[rest]) (Wf.one (by omega)) (by simp)
 have hw:IntKind.u32.wrap rest=rest:=OG (by omega)
 have hw2:qI ((a.length:Int) - 1)=(a.length:Int) - 1:=AB
 rw[hw2,hr]
 simp (disch:=(first | omega | (simp only[Ai];omega))) only[ht,hw,ht2,Ah]
 rw[hdiv,hmod,Nl]
theorem Tt (m:Nat) (b:Nat) (hm:(Aq m).length<=1000000000) (hb:0 < b/\b < 1000000000):HS (Aq m) (b:Int)=some ((Aq (m / b),Aq (m % b),()),()):=by
 rw[Wi (Fo m) hm (by omega),DZ,<-Int.natCast_ediv,<-Int.natCast_emod,qZ0,qZ0]
theorem XY {u v:List Int} {t:Int} (hu:Wf u) (hv:Wf v) (hl:v.length < u.length) (hL:u.length<=2000000000) (ht:0<=t/\t < 1000000000) :
 ∃ (neg:Bool) (o:List Int),IA u v t=some ((neg,()),(o,()))/\Wf o/\o.length=u.length/\lv o=lv u - t * lv v+(if neg then bp u.length else 0):=by
 obtain ⟨r,hr,o,br,rfl,h1,h2,h3,h4⟩:=BD (step:=Ed) (Q:=fun r=>∃ (o:List Int) (br:Int),r=(Ex.exit 0,(o,v,t,0,br,(u.length:Int),(u.length:Int),()))/\Wf o/\o.length=u.length/\(0<=br/\br<=1)/\lv o=lv u - t * lv v+br * bp u.length)
  (fun m x=>∃ (k:Nat) (o:List Int) (c br:Int),m+k=u.length/\x=(o,v,t,c,br,(u.length:Int),(k:Int),())/\Wf o/\o.length=u.length/\(0<=br/\br<=1)/\(0<=c/\c < 1000000000)/\(v.length < k->c=0)/\
   lv o=lv u - t * lv (v.take k)+(c+br) * bp k/\∀ j,k<=j->o.getD j 0=u.getD j 0) (by
   rintro m x ⟨k,o,c,br,hm,rfl,h1,h2,h3,h4,h5,h6,h7⟩
   by_cases hk:k < u.length
   ·have e:(k:Int).toNat=k:=by omega
    have hz:=h1.at k
    have hy:=hv.at k
    have hty:=Ms ht hy
    obtain ⟨c',hc'⟩:∃ c',c'=c+t * v.getD k 0:=⟨_,rfl⟩
    have hcb:0<=c'/\c' < 1000000000000000000:=by omega
    have hzero:v.length<=k->c'=c:=fun h=>by rw[hc',LZ h];simp
    have hnew:v.length < k+1->c' / 1000000000=0:=fun h=>by rw[hzero (by omega)];omega
    have key:∀ d br':Int,d=o.getD k 0 - br - c' % 1000000000+br' * 1000000000->(0<=br'/\br'<=1)->(0<=d/\d < 1000000000)->
     Ed (o,v,t,c,br,(u.length:Int),(k:Int),())=some (Ex.normal,(o.set k d,v,t,c' / 1000000000,br',(u.length:Int),((k+1:Nat):Int),()))->
     (∃ (m':Nat) (y:_),Ed (o,v,t,c,br,(u.length:Int),(k:Int),())=some (Ex.normal,y)/\m' < m/\∃ (k:Nat) (o:List Int) (c br:Int),m'+k=u.length/\y=(o,v,t,c,br,(u.length:Int),(k:Int),())/\Wf o/\o.length=u.length/\(0<=br/\br<=1)/\(0<=c/\c < 1000000000)/\(v.length < k->c=0)/\
      lv o=lv u - t * lv (v.take k)+(c+br) * bp k/\∀ j,k<=j->o.getD j 0=u.getD j 0):=by
     intro d br' hd hbr hd' hst
     refine ⟨m - 1,_,hst,by omega,k+1,o.set k d,c' / 1000000000,br',by omega,rfl,h1.set _ hd',by simpa using h2,hbr,by omega,hnew,?_,?_⟩
     ·rw[LR (by omega),K',Dp,h6]
      have:=Int.emod_add_mul_ediv c' 1000000000
      grind
     ·intro j hj
      rw[HB (by omega),if_neg (by omega)]
      exact h7 j (by omega)
    by_cases hkv:k < v.length
    ·by_cases hneg:o.getD k 0 - br - c' % 1000000000 < 0
     ·refine .inr (key (o.getD k 0 - br - c' % 1000000000+1000000000) 1 (by omega) (by omega) (by omega) ?_)
      rw[hc'] at hneg hcb ⊢
      simp (disch:=(first | omega | (simp only[Ai];omega))) only[Ed,e,Ah]
      rfl
     ·refine .inr (key (o.getD k 0 - br - c' % 1000000000) 0 (by omega) (by omega) (by omega) ?_)
      rw[hc'] at hneg hcb ⊢
      simp (disch:=(first | omega | (simp only[Ai];omega))) only[Ed,e,Ah]
      rfl
    ·have hcc:=hzero (by omega)
     by_cases hneg:o.getD k 0 - br - c' % 1000000000 < 0
     ·refine .inr (key (o.getD k 0 - br - c' % 1000000000+1000000000) 1 (by omega) (by omega) (by omega) ?_)
      rw[hcc] at hneg hcb ⊢
      simp (disch:=(first | omega | (simp only[Ai];omega))) only[Ed,e,Ah]
      rfl
     ·refine .inr (key (o.getD k 0 - br - c' % 1000000000) 0 (by omega) (by omega) (by omega) ?_)
      rw[hcc] at hneg hcb ⊢
      simp (disch:=(first | omega | (simp only[Ai];omega))) only[Ed,e,Ah]
      rfl
   ·have hkl:k=u.length:=by omega
    subst hkl
    have hc0:=h5 hl
    subst hc0
    refine .inl ⟨(Ex.exit 0,(o,v,t,0,br,(u.length:Int),(u.length:Int),())),?_,by simp,o,br,rfl,h1,h2,h3,?_⟩
    ·simp (disch:=(first | omega | (simp only[Ai];omega))) only[Ed,Ah]
    ·rw[List.take_of_length_le (by omega)] at h6
     rw[h6];simp) u.length (u,v,t,0,0,(u.length:Int),0,()) ⟨0,u,0,0,by omega,rfl,hu,rfl,by omega,by omega,by omega,by simp[lv],fun j _=>rfl⟩
 refine ⟨decide (br > 0),o,?_,h1,h2,?_⟩
 ·unfold IA
  rw[hr]
  simp (disch:=(first | omega | (simp only[Ai];omega))) only[Ah]
 ·rw[h4]
  rcases (show br=0\/br=1 by omega) with rfl | rfl<;>simp
theorem XI {u v:List Int} (hu:Wf u) (hv:Wf v) (hl:v.length<=u.length) (hL:u.length<=2000000000) :
 ∃ (c:Int) (o:List Int),Jz u v=some ((),(o,()))/\Wf o/\o.length=u.length/\(0<=c/\c<=1)/\lv o=lv u+lv v - c * bp u.length:=by
 obtain ⟨r,hr,o,c,rfl,h1,h2,h3,h4⟩:=BD (step:=IS) (Q:=fun r=>∃ (o:List Int) (c:Int),r=(Ex.exit 0,(o,v,c,(u.length:Int),(u.length:Int),()))/\Wf o/\o.length=u.length/\(0<=c/\c<=1)/\lv o=lv u+lv v - c * bp u.length)
  (fun m x=>∃ (k:Nat) (o:List Int) (c:Int),m+k=u.length/\x=(o,v,c,(u.length:Int),(k:Int),())/\Wf o/\o.length=u.length/\(0<=c/\c<=1)/\lv o=lv u+lv (v.take k) - c * bp k/\∀ j,k<=j->o.getD j 0=u.getD j 0) (by
   rintro m x ⟨k,o,c,hm,rfl,h1,h2,h3,h4,h5⟩
   by_cases hk:k < u.length
   ·have e:(k:Int).toNat=k:=by omega
    have hz:=h1.at k
    have hy:=hv.at k
    have e2:=Xi v (i:=(k:Int)) (by omega)
    rw[e] at e2
    obtain ⟨s,hs⟩:∃ s,s=o.getD k 0+v.getD k 0+c:=⟨_,rfl⟩
    refine .inr ⟨m - 1,(o.set k (s % 1000000000),v,s / 1000000000,(u.length:Int),((k+1:Nat):Int),()),?_,by omega,k+1,_,_,by omega,rfl,h1.set _ (by omega),by simpa using h2,by omega,?_,?_⟩
    ·rw[hs]
     simp (disch:=(first | omega | (simp only[Ai];omega))) only[IS,e,e2,Ah]
     rfl
    ·rw[LR (by omega),K',Dp,h4]
     have:=Int.emod_add_mul_ediv s 1000000000
     grind
    ·intro j hj
     rw[HB (by omega),if_neg (by omega)]
     exact h5 j (by omega)
   ·have hkl:k=u.length:=by omega
    subst hkl
    refine .inl ⟨(Ex.exit 0,(o,v,c,(u.length:Int),(u.length:Int),())),?_,by simp,o,c,rfl,h1,h2,h3,?_⟩
    ·simp (disch:=(first | omega | (simp only[Ai];omega))) only[IS,Ah]
    ·rw[List.take_of_length_le (by omega)] at h4;exact h4) u.length (u,v,0,(u.length:Int),0,()) ⟨0,u,0,by omega,rfl,hu,rfl,by omega,by simp[lv],fun j _=>rfl⟩
 refine ⟨c,o,?_,h1,h2,h3,h4⟩
 unfold Jz
 rw[hr]
 simp (disch:=(first | omega | (simp only[Ai];omega))) only[Ah]
end Go.AM.Num
end
section
namespace Go.AM.Num
theorem To {V U g V2 U3 R lv' lu':Int} (hV:V=V2 * R+lv') (hU:U=U3 * R+lu') (h1:0<=lv'/\lv' < R) (h2:0<=lu') (hg:0<=g/\g<=1000000000) (h:g * V2<=U3) (hb:1000000000 * R<=V) (hV0:0 < V):g<=U / V+1:=by
 have e1:g * V2 * R<=U3 * R:=Int.mul_le_mul_of_nonneg_right h (by omega)
 have e2:g * lv'<=g * R:=Int.mul_le_mul_of_nonneg_left (by omega) hg.1
 have e3:g * R<=1000000000 * R:=Int.mul_le_mul_of_nonneg_right hg.2 (by omega)
 have e5:g * V=g * V2 * R+g * lv':=by rw[hV,Int.mul_add,Int.mul_assoc]
 have e4:(g - 1) * V<=U:=by
  rw[Int.sub_mul,Int.one_mul]
  omega
 have:=Int.le_ediv_of_mul_le hV0 e4
 omega
theorem Ss {V U q V2 U3 R lv' lu':Int} (hV:V=V2 * R+lv') (hU:U=U3 * R+lu') (h1:0<=lv') (h2:0<=lu'/\lu' < R) (hq0:0<=q) (hq:q * V<=U):q * V2<=U3:=by
 have e2:0<=q * lv':=Int.mul_nonneg hq0 h1
 have e5:q * V=q * V2 * R+q * lv':=by rw[hV,Int.mul_add,Int.mul_assoc]
 have e3:q * V2 * R < (U3+1) * R:=by
  rw[Int.add_mul,Int.one_mul]
  omega
 have:=Int.lt_of_mul_lt_mul_right e3 (by omega)
 omega
theorem AG2 {u v:List Int} {n:Nat} (hu:Wf u) (hv:Wf v) (hn:v.length=n) (hn2:2<=n) (hul:u.length=n+1) (hN:n<=1000000000) (ht:v.getD (n - 1) 0≠0) (hlt:lv u < lv v * 1000000000) (g r:Int)
 (hgr:u.getD n 0 * 1000000000+u.getD (n - 1) 0=g * v.getD (n - 1) 0+r) (hr0:0<=r/\r < v.getD (n - 1) 0) (hg0:0<=g) :
 ∃ g' r',Am DQ (u,v,(n:Int),v.getD (n - 1) 0,g,r,())=some (Ex.exit 0,(u,v,(n:Int),v.getD (n - 1) 0,g',r',()))/\(g'=lv u / lv v\/g'=lv u / lv v+1)/\0<=g'/\g' < 1000000000:=by
 obtain ⟨f,hf⟩:∃ f,f=v.getD (n - 1) 0:=⟨_,rfl⟩
 obtain ⟨v2,hv2⟩:∃ x,x=v.getD (n - 2) 0:=⟨_,rfl⟩
 obtain ⟨u0,hu0⟩:∃ x,x=u.getD n 0:=⟨_,rfl⟩
 obtain ⟨u1,hu1⟩:∃ x,x=u.getD (n - 1) 0:=⟨_,rfl⟩
 obtain ⟨u2,hu2⟩:∃ x,x=u.getD (n - 2) 0:=⟨_,rfl⟩
 have bf:=hv.at (n - 1)
 have bv2:=hv.at (n - 2)
 have bu0:=hu.at n
 have bu1:=hu.at (n - 1)
 have bu2:=hu.at (n - 2)
 rw[<-hf] at ht hgr hr0 bf ⊢
 rw[<-hv2] at bv2
 rw[<-hu0] at hgr bu0
 rw[<-hu1] at hgr bu1
 rw[<-hu2] at bu2
 obtain ⟨R,hR⟩:∃ R,R=bp (n - 2):=⟨_,rfl⟩
 have hRp:=Dj (n - 2)
 rw[<-hR] at hRp
 have hPR:bp (n - 1)=1000000000 * R:=by rw[hR,show n - 1=n - 2+1 by omega,Dp]
 have sv:lv v=(f * 1000000000+v2) * R+lv (v.take (n - 2)):=by
  have:=Dr v (n - 2) (by omega)
  rw[CG (by omega),CG (by omega),show n - 2+1=n - 1 by omega,show n - 1+1=n by omega,List.drop_of_length_le (by omega),<-hf,<-hv2,<-hR] at this
  simp only[lv] at this
  grind
 have su:lv u=((u0 * 1000000000+u1) * 1000000000+u2) * R+lv (u.take (n - 2)):=by
  have:=Dr u (n - 2) (by omega)
  rw[CG (by omega),CG (by omega),CG (by omega),show n - 2+1=n - 1 by omega,show n - 1+1=n by omega,List.drop_of_length_le (by omega),<-hu0,<-hu1,<-hu2,<-hR] at this
  simp only[lv] at this
  grind
 have sv1:lv v=f * (1000000000 * R)+lv (v.take (n - 1)):=by
  have:=Dr v (n - 1) (by omega)
  rw[CG (by omega),show n - 1+1=n by omega,List.drop_of_length_le (by omega),<-hf,hPR] at this
  simp only[lv] at this
  grind
 have su1:lv u=(u0 * 1000000000+u1) * (1000000000 * R)+lv (u.take (n - 1)):=by
  have:=Dr u (n - 1) (by omega)
  rw[CG (by omega),CG (by omega),show n - 1+1=n by omega,List.drop_of_length_le (by omega),<-hu0,<-hu1,hPR] at this
  simp only[lv] at this
  grind
 have lvv:=DM (hv.take (n - 2))
 have lvv0:=Cu (hv.take (n - 2))
 have luu:=DM (hu.take (n - 2))
 have luu0:=Cu (hu.take (n - 2))
 have lvv1:=DM (hv.take (n - 1))
 have lvv10:=Cu (hv.take (n - 1))
 have luu1:=DM (hu.take (n - 1))
 have luu10:=Cu (hu.take (n - 1))
 rw[List.length_take,Nat.min_eq_left (by omega),<-hR] at lvv luu
 rw[List.length_take,Nat.min_eq_left (by omega),hPR] at lvv1 luu1
 have hVbig:1000000000 * R<=lv v:=by
  have:1 * (1000000000 * R)<=f * (1000000000 * R):=Int.mul_le_mul_of_nonneg_right (by omega) (by omega)
  omega
 have hV0:0 < lv v:=by omega
 obtain ⟨q,hq⟩:∃ q,q=lv u / lv v:=⟨_,rfl⟩
 have hq0:0<=q:=by rw[hq];exact Int.ediv_nonneg (Cu hu) (by omega)
 have hqB:q < 1000000000:=by rw[hq];exact Int.ediv_lt_of_lt_mul hV0 (by rw[Int.mul_comm];exact hlt)
 have hqV:q * lv v<=lv u:=by rw[hq];exact Int.ediv_mul_le _ (by omega)
 have htop:u0 * 1000000000+u1 < f * 1000000000+1000000000:=by
  have e:(u0 * 1000000000+u1) * (1000000000 * R) < (f * 1000000000+1000000000) * (1000000000 * R):=by grind
  exact Int.lt_of_mul_lt_mul_right e (by omega)
 have hqf:q * f<=u0 * 1000000000+u1:=Ss sv1 su1 lvv10 ⟨luu10,luu1⟩ hq0 hqV
 have hqg:q<=g:=by
  have:q * f < (g+1) * f:=by grind
  have:=Int.lt_of_mul_lt_mul_right this (by omega)
  omega
 rw[<-hq]
 obtain ⟨r',hr',g',rr,rfl,hfin⟩:=BD (step:=DQ) (Q:=fun z=>∃ g' r',z=(Ex.exit 0,(u,v,(n:Int),f,g',r',()))/\(g'=q\/g'=q+1)/\0<=g'/\g' < 1000000000)
  (fun m x=>∃ g r:Int,x=(u,v,(n:Int),f,g,r,())/\(m:Int)=1000000000 - r/\u0 * 1000000000+u1=g * f+r/\(0<=r/\r < 1000000000)/\q<=g/\g<=1000000000000000000) (by
   rintro m x ⟨g,r,rfl,hm,hgr,hr,hqg,hgb⟩
   have en:((n:Int) - 2).toNat=n - 2:=by omega
   have hw:qI ((n:Int) - 2)=(n:Int) - 2:=AB
   have dec:q<=g - 1->(DQ (u,v,(n:Int),f,g,r,())=cond (decide (r+f>=1000000000)) (some (Ex.exit 0,(u,v,(n:Int),f,g - 1,r+f,()))) (some (Ex.normal,(u,v,(n:Int),f,g - 1,r+f,()))))->
    ((∃ z,DQ (u,v,(n:Int),f,g,r,())=some z/\z.1≠.normal/\∃ g' r',z=(Ex.exit 0,(u,v,(n:Int),f,g',r',()))/\(g'=q\/g'=q+1)/\0<=g'/\g' < 1000000000)\/
     ∃ m' y,DQ (u,v,(n:Int),f,g,r,())=some (Ex.normal,y)/\m' < m/\∃ g r:Int,y=(u,v,(n:Int),f,g,r,())/\(m':Int)=1000000000 - r/\u0 * 1000000000+u1=g * f+r/\(0<=r/\r < 1000000000)/\q<=g/\g<=1000000000000000000):=by
    intro hqg1 hst
    rw[hst]
    by_cases hb:r+f>=1000000000
    ·have hg1:g - 1 < 1000000000:=by
      have:(g - 1) * f < 1000000000 * f:=by grind
      exact Int.lt_of_mul_lt_mul_right this (by omega)
     have hm2:(g - 1) * v2<=1000000000 * v2:=Int.mul_le_mul_of_nonneg_right (by omega) (by omega)
     have hhi:=To (g:=g - 1) sv su ⟨lvv0,lvv⟩ luu0 (by omega) (by grind) hVbig hV0
     rw[<-hq] at hhi
     rw[qZ10 hb]
     exact .inl ⟨_,rfl,by simp,g - 1,r+f,rfl,by omega,by omega,hg1⟩
    ·rw[qZ9 hb]
     exact .inr ⟨(1000000000 - (r+f)).toNat,_,rfl,by omega,g - 1,r+f,rfl,by omega,by grind,by omega,hqg1,by omega⟩
   by_cases hgB:g>=1000000000
   ·refine dec (by omega) ?_
    simp (disch:=(first | omega | (simp only[Ai];omega))) only[DQ,Ah]
   ·have hgv:=Ms (x:=g) (y:=v2) (by omega) bv2
    by_cases hc:g * v2 > r * 1000000000+u2
    ·have hne:q≠g:=by
      rintro rfl
      have:=Ss sv su lvv0 ⟨luu0,luu⟩ hq0 hqV
      grind
     refine dec (by omega) ?_
     rw[hv2,hu2] at hc
     rw[hv2] at hgv bv2
     rw[hu2] at bu2
     simp (disch:=(first | omega | (simp only[Ai];omega))) only[DQ,en,Ah]
    ·have hhi:=To (g:=g) sv su ⟨lvv0,lvv⟩ luu0 (by omega) (by grind) hVbig hV0
     rw[<-hq] at hhi
     refine .inl ⟨(Ex.exit 0,(u,v,(n:Int),f,g,r,())),?_,by simp,g,r,rfl,by omega,by omega,by omega⟩
     rw[hv2,hu2] at hc
     rw[hv2] at hgv bv2
     rw[hu2] at bu2
     simp (disch:=(first | omega | (simp only[Ai];omega))) only[DQ,en,Ah]) (1000000000 - r).toNat _ ⟨g,r,rfl,by omega,hgr,by omega,hqg,by
    have:g * 1<=g * f:=Int.mul_le_mul_of_nonneg_left (by omega) hg0
    omega⟩
 exact ⟨g',rr,hr',hfin⟩
theorem ABR {u v:List Int} {n:Nat} (hu:Wf u) (hv:Wf v) (hn:v.length=n) (hn2:2<=n) (hul:u.length=n+1) (hN:n<=1000000000) (ht:v.getD (n - 1) 0≠0) (hlt:lv u < lv v * 1000000000) :
 ∃ o,IP u v=some ((lv u / lv v,()),(o,()))/\Wf o/\o.length=n+1/\lv o=lv u % lv v/\0<=lv u / lv v/\lv u / lv v < 1000000000:=by
 have bf:=hv.at (n - 1)
 have bu0:=hu.at n
 have bu1:=hu.at (n - 1)
 obtain ⟨top,htop⟩:∃ t,t=u.getD n 0 * 1000000000+u.getD (n - 1) 0:=⟨_,rfl⟩
 have hf0:0 < v.getD (n - 1) 0:=by omega
 have hr0:=Int.emod_nonneg top (show v.getD (n - 1) 0≠0 by omega)
 have hr1:=Int.emod_lt_of_pos top hf0
 have hg0:0<=top / v.getD (n - 1) 0:=Int.ediv_nonneg (by omega) (by omega)
 have hg1:top / v.getD (n - 1) 0<=top:=Int.ediv_le_self _ (by omega)
 obtain ⟨g',r',hloop,hg',hgl,hgB⟩:=AG2 hu hv hn hn2 hul hN ht hlt (top / v.getD (n - 1) 0) (top % v.getD (n - 1) 0) (by
  rw[<-htop];have:=Int.emod_add_mul_ediv top (v.getD (n - 1) 0);grind) ⟨hr0,hr1⟩ hg0
 obtain ⟨neg,o,hs,ho1,ho2,ho3⟩:=XY hu hv (by omega) (by omega) ⟨hgl,hgB⟩
 have hVp:0 < lv v:=by
  have:=Dr v (n - 1) (by omega)
  rw[CG (by omega),show n - 1+1=n by omega,List.drop_of_length_le (by omega)] at this
  simp only[lv] at this
  have h1:=Cu (hv.take (n - 1))
  have h2:=Dj (n - 1)
  have h3:bp (n - 1) * 1<=bp (n - 1) * v.getD (n - 1) 0:=Int.mul_le_mul_of_nonneg_left (by omega) (by omega)
  grind
 have hdm:=Int.emod_add_mul_ediv (lv u) (lv v)
 have hm0:=Int.emod_nonneg (lv u) (show lv v≠0 by omega)
 have hm1:=Int.emod_lt_of_pos (lv u) hVp
 have hol:=DM ho1
 have hol0:=Cu ho1
 rw[ho2] at hol
 have hbp:=Dj u.length
 have hq0:0<=lv u / lv v:=Int.ediv_nonneg (Cu hu) (by omega)
 have hqB:lv u / lv v < 1000000000:=Int.ediv_lt_of_lt_mul hVp (by rw[Int.mul_comm];exact hlt)
 have en:((n:Int) - 1).toNat=n - 1:=by omega
 have en2:(n:Int).toNat=n:=by omega
 have hne:v.getD (n - 1) 0≠0:=by omega
 have hA:IP u v=(Am DQ (u,v,(n:Int),v.getD (n - 1) 0,top / v.getD (n - 1) 0,top % v.getD (n - 1) 0,())).bind fun y1=>
  cond (Ex.same y1.1 (Ex.exit 0)) ((IA y1.2.1 y1.2.2.1 y1.2.2.2.2.2.1).bind fun r2=>
   cond (r2.1.1) ((Jz r2.2.1 y1.2.2.1).bind fun r3=>some ((IntKind.u32.wrap (qU (y1.2.2.2.2.2.1 - (1:Int))),()),r3.2.1,()))
    (some ((IntKind.u32.wrap (y1.2.2.2.2.2.1),()),r2.2.1,()))) (none):=by
  rw[htop]
  rw[htop] at hg0 hg1 hr0 hr1
  unfold IP
  rw[hn]
  simp (disch:=(first | omega | (simp only[C4];omega))) only[Ap,Ad,Eg,AB,KO,tm,td,en,en2]
 rw[hA,hloop]
 rcases hg' with rfl | rfl
 ·have hneg:neg=false:=by
   cases neg with
   |false=>rfl
   |true=>simp only[if_true] at ho3;grind
  subst hneg
  refine ⟨o,?_,ho1,by omega,?_,hq0,hqB⟩
  ·simp (disch:=(first | omega | (simp only[Ai];omega))) only[hs,Ah]
  ·simp at ho3;grind
 ·have hneg:neg=true:=by
   cases neg with
   |true=>rfl
   |false=>simp at ho3;grind
  subst hneg
  simp only[if_true] at ho3
  obtain ⟨c,o2,hre,hc1,hc2,hc3,hc4⟩:=XI ho1 hv (by omega) (by omega)
  have hcl:=DM hc1
  have hcl0:=Cu hc1
  rw[hc2,ho2] at hcl
  rw[ho2] at hc4
  have hce:c=1:=by
   rcases (show c=0\/c=1 by omega) with rfl | rfl
   ·grind
   ·rfl
  subst hce
  refine ⟨o2,?_,hc1,by omega,by grind,hq0,hqB⟩
  simp (disch:=(first | omega | (simp only[Ai];omega))) only[hs,hre,Ah]
  congr 3
  omega
end Go.AM.Num
end
section
namespace Go.AM.Num
theorem AC3 {l:List Int} {k:Nat} (h:Wf l) (hk:lv l < bp k) (hkl:k<=l.length):lv (l.drop k)=0:=by
 have h1:=Dr l k hkl
 have h2:=Cu (h.take k)
 have h3:=Cu (h.drop k)
 rcases Int.lt_or_eq_of_le h3 with h4 | h4
 ·have h5:bp k * 1<=bp k * lv (l.drop k):=Int.mul_le_mul_of_nonneg_left (by omega) (by have:=Dj k;omega)
  omega
 ·exact h4.symm
theorem AFE {u v:List Int} {sc:List Int} {lb K:Nat} (hu:Wf u) (hv:Wf v) (hvl:v.length=lb) (hlb:2<=lb) (hul:u.length=K+lb) (hN:K+lb<=1000000000) (ht:v.getD (lb - 1) 0≠0) (hlt:lv u < lv v * bp K) :
 ∃ u' q,Am Ha (sc,u,v,List.replicate K 0,(K:Int) - 1,())=some (Ex.exit 3,(sc,u',v,q,-1,()))/\Wf u'/\u'.length=K+lb/\Wf q/\q.length=K/\lv u' < lv v/\lv u=lv u'+lv v * lv q:=by
 obtain ⟨V,hV⟩:∃ V,V=lv v:=⟨_,rfl⟩
 have hVl:V < bp lb:=by rw[hV,<-hvl];exact DM hv
 have hV0:0<=V:=by rw[hV];exact Cu hv
 rw[<-hV] at hlt ⊢
 obtain ⟨r,hr,u',q,rfl,h1,h2,h3,h4,h5,h6⟩:=BD (step:=Ha) (Q:=fun r=>∃ u' q,r=(Ex.exit 3,(sc,u',v,q,-1,()))/\Wf u'/\u'.length=K+lb/\Wf q/\q.length=K/\lv u' < V/\lv u=lv u'+V * lv q)
  (fun k x=>∃ u' q:List Int,x=(sc,u',v,q,(k:Int) - 1,())/\k<=K/\Wf u'/\u'.length=K+lb/\Wf q/\q.length=K/\lv u' < V * bp k/\lv u=lv u'+V * bp k * lv (q.drop k)) (by
   rintro k x ⟨u',q,rfl,hk,h1,h2,h3,h4,h5,h6⟩
   by_cases h0:k=0
   ·subst h0
    refine .inl ⟨(Ex.exit 3,(sc,u',v,q,-1,())),?_,by simp,u',q,rfl,h1,h2,h3,h4,by simpa [bp] using h5,by simpa [bp] using h6⟩
    simp (disch:=(first | omega | (simp only[Ai];omega))) only[Ha,Ah]
    rfl
   ·obtain ⟨j,rfl⟩:∃ j,k=j+1:=⟨k - 1,by omega⟩
    have ej:((j:Int)).toNat=j:=by omega
    have ek:(((j+1:Nat):Int) - 1)=(j:Int):=by omega
    have eh:((j:Int)+lb+1).toNat - j=lb+1:=by omega
    have hvl':(v.length:Int)=(lb:Int):=by omega
    obtain ⟨w,hw⟩:∃ w,w=(u'.drop j).take (lb+1):=⟨_,rfl⟩
    have hww:Wf w:=by rw[hw];exact (h1.drop j).take _
    have hwl:w.length=lb+1:=by rw[hw,List.length_take,List.length_drop];omega
    have hbj:=Dj j
    have huz:lv (u'.drop (j+(lb+1)))=0:=by
     refine AC3 h1 ?_ (by omega)
     have e1:V * bp (j+1)<=bp lb * bp (j+1):=Int.mul_le_mul_of_nonneg_right (by omega) (by have:=Dj (j+1);omega)
     rw[<-Is] at e1
     rw[show j+(lb+1)=lb+(j+1) by omega]
     omega
    have hsplit:lv u'=lv (u'.take j)+bp j * lv w:=by
     rw[Dr u' j (by omega)]
     have:=Dr (u'.drop j) (lb+1) (by rw[List.length_drop];omega)
     rw[List.drop_drop,huz,<-hw] at this
     rw[this];simp
    have htk0:=Cu (h1.take j)
    have htk:=DM (h1.take j)
    rw[List.length_take,Nat.min_eq_left (by omega)] at htk
    have hwV:lv w < lv v * 1000000000:=by
     rw[<-hV]
     have:bp j * lv w < bp j * (V * 1000000000):=by
      rw[Dp] at h5
      have e:bp j * (V * 1000000000)=V * (1000000000 * bp j):=by grind
      omega
     exact Int.lt_of_mul_lt_mul_left this (by omega)
    obtain ⟨o,hred,ho1,ho2,ho3,ho4,ho5⟩:=ABR hww hv hvl hlb hwl (by omega) ht hwV
    rw[<-hV] at hred ho3 ho4 ho5
    have hV1:0 < V:=by
     rcases Int.lt_or_eq_of_le hV0 with h | h
     ·exact h
     ·rw[<-h] at h5;simp at h5;have:=Cu h1;omega
    have hom:=Int.emod_lt_of_pos (lv w) hV1
    have hdm:=Int.emod_add_mul_ediv (lv w) V
    have hz:lv (u'.drop (j+(lb+1)))=0:=huz
    have hnew:lv (u'.take j++o++u'.drop (j+(lb+1)))=lv (u'.take j)+bp j * (lv w % V):=by
     rw[Le,huz,Le,List.length_take,Nat.min_eq_left (by omega),ho3];simp
    refine .inr ⟨j,(sc,u'.take j++o++u'.drop (j+(lb+1)),v,q.set j (lv w / V),(j:Int) - 1,()),?_,by omega,_,_,rfl,by omega,?_,?_,h3.set _ ⟨ho4,ho5⟩,by simpa using h4,?_,?_⟩
    ·have e0:(lv w / V,()).1=lv w / V:=rfl
     rw[ek]
     simp (disch:=(first | omega | (simp only[Ai];omega))) only[Ha,ej,hvl',eh,<-hw,hred,Ah]
    ·exact ((h1.take j).app ho1).app (h1.drop _)
    ·simp only[qZ6,List.length_take,List.length_drop];omega
    ·rw[hnew]
     have:bp j * (lv w % V)<=bp j * (V - 1):=Int.mul_le_mul_of_nonneg_left (by omega) (by omega)
     rw[Int.mul_sub] at this
     rw[Int.mul_comm V]
     omega
    ·rw[hnew,CG (by simpa using (show j < q.length by omega)),HB (by omega),if_pos rfl,List.drop_set_of_lt (by omega),h6,hsplit,Dp]
     grind) K (sc,u,v,List.replicate K 0,(K:Int) - 1,()) ⟨u,_,rfl,Nat.le_refl _,hu,hul,Wf.zeros _,by simp,hlt,by rw[List.drop_of_length_le (by simp)];simp[lv]⟩
 exact ⟨u',q,hr,h1,h2,h3,h4,h5,h6⟩
theorem AEL {u sc v a:List Int} (hu:Wf u) (hl:u.length<=a.length+1) (hN:a.length<=1000000000) :
 ∃ u',Am Hn (a,sc,u,v,())=some (Ex.exit 1,(a,sc,u',v,()))/\Wf u'/\u'.length=a.length+1/\lv u'=lv u:=by
 obtain ⟨r,hr,u',rfl,h1,h2,h3⟩:=BD (step:=Hn) (Q:=fun r=>∃ u',r=(Ex.exit 1,(a,sc,u',v,()))/\Wf u'/\u'.length=a.length+1/\lv u'=lv u)
  (fun m x=>∃ u':List Int,x=(a,sc,u',v,())/\m+u'.length=a.length+1/\Wf u'/\lv u'=lv u) (by
   rintro m x ⟨u',rfl,hm,h1,h2⟩
   by_cases h:u'.length<=a.length
   ·refine .inr ⟨m - 1,(a,sc,u'++[0],v,()),?_,by omega,_,rfl,by simp;omega,h1.app (Wf.one (by omega)),by rw[Ng,h2];simp⟩
    simp (disch:=(first | omega | (simp only[Ai];omega))) only[Hn,Ah]
   ·refine .inl ⟨(Ex.exit 1,(a,sc,u',v,())),?_,by simp,u',rfl,h1,by omega,h2⟩
    simp (disch:=(first | omega | (simp only[Ai];omega))) only[Hn,Ah]) (a.length+1 - u.length) _ ⟨u,rfl,by omega,hu,rfl⟩
 exact ⟨u',hr,h1,h2,h3⟩
theorem AD8 (m n:Nat) (hm:(Aq m).length<=100000000) (hn:(Aq n).length<=100000000) (h0:n≠0) :
 HT (Aq m) (Aq n)=some ((Aq (m / n),Aq (m % n),()),()):=by
 obtain ⟨c,hc,hc1,hc2⟩:=ACK m n (by omega) (by omega)
 unfold HT
 rw[hc]
 by_cases hlt:m < n
 ·have:=hc1.2 hlt
  simp (disch:=(first | omega | (simp only[Ai];omega))) only[Ah]
  rw[Nat.div_eq_of_lt hlt,Nat.mod_eq_of_lt hlt,limbs_zero]
 ·have hc0:¬ c < 0:=fun h=>hlt (hc1.1 h)
  by_cases hl1:(Aq n).length=1
  ·have hnB:n < 1000000000:=by
    have:=HF n
    rw[hl1] at this;simp[bp] at this;omega
   have hq:=Tt m n (by omega) (by omega)
   have hg:(Aq n).getD 0 0=(n:Int):=by rw[limbs_small h0 hnB];rfl
   have h00:((0:Int)).toNat=0:=rfl
   simp (disch:=(first | omega | (simp only[Ai];omega))) only[h00,hg,hq,Ah]
  ·obtain ⟨lb,hlb⟩:∃ lb,lb=(Aq n).length:=⟨_,rfl⟩
   obtain ⟨la,hla⟩:∃ la,la=(Aq m).length:=⟨_,rfl⟩
   have hlb2:2<=lb:=by
    rcases Nat.lt_or_ge (Aq n).length 1 with h | h
    ·have:Aq n=[]:=List.eq_nil_of_length_eq_zero (by omega)
     exact absurd (limbs_nil.1 this) h0
    ·omega
   have hab:lb<=la:=by rw[hlb,hla];exact LS (by omega)
   have hbw:=Fo n
   obtain ⟨t,ht⟩:∃ t,t=(Aq n).getD (lb - 1) 0:=⟨_,rfl⟩
   have htb:=hbw.at (lb - 1)
   have htop:=LK n (lb - 1) (by omega)
   rw[<-ht] at htb htop
   obtain ⟨s,hs⟩:∃ s:Nat,(s:Int)=1000000000 / (t+1):=⟨(1000000000 / (t+1)).toNat,by have:=Int.ediv_nonneg (show (0:Int)<=1000000000 by omega) (show 0<=t+1 by omega);omega⟩
   have hs1:1<=(s:Int):=by rw[hs];exact Int.le_ediv_of_mul_le (by omega) (by omega)
   have hst:(s:Int) * (t+1)<=1000000000:=by rw[hs];exact Int.ediv_mul_le _ (by omega)
   have hs2:(s:Int)<=500000000:=by
    have:(s:Int) * 2<=(s:Int) * (t+1):=Int.mul_le_mul_of_nonneg_left (by omega) (by omega)
    omega
   have hsl:Aq s=[(s:Int)]:=limbs_small (by omega) (by omega)
   have hau:=Po (Fo m) (Wf.one (x:=(s:Int)) (by omega)) (by omega) (by simp)
   have hbu:=Po hbw (Wf.one (x:=(s:Int)) (by omega)) (by omega) (by simp)
   rw[DZ,Nl,<-Int.natCast_mul,qZ0] at hau hbu
   have hls:(Aq s).length=1:=by rw[hsl];rfl
   have hnlt:(n:Int) < (t+1) * bp (lb - 1):=by
    have e:=Dr (Aq n) (lb - 1) (by omega)
    rw[CG (by omega),show lb - 1+1=lb by omega,List.drop_of_length_le (by omega),DZ,<-ht] at e
    have h1:=DM (hbw.take (lb - 1))
    rw[List.length_take,Nat.min_eq_left (by omega)] at h1
    simp only[lv] at e
    grind
   have hvlen:(Aq (n * s)).length=lb:=by
    have hup:(Aq (n * s)).length<=lb:=by
     refine Kh ?_
     rw[Int.natCast_mul]
     have e1:(n:Int) * s < (t+1) * bp (lb - 1) * s:=Int.mul_lt_mul_of_pos_right hnlt (by omega)
     have e2:s * (t+1) * bp (lb - 1)<=1000000000 * bp (lb - 1):=Int.mul_le_mul_of_nonneg_right hst (by have:=Dj (lb - 1);omega)
     have e3:bp lb=1000000000 * bp (lb - 1):=by rw[<-Dp,show lb - 1+1=lb by omega]
     grind
    have hlo:(Aq n).length<=(Aq (n * s)).length:=LS (Nat.le_mul_of_pos_right n (by omega))
    omega
   have hulen:(Aq (m * s)).length<=(Aq m).length+1:=by
    have:=TS m s
    omega
   obtain ⟨u',hpad,hu1,hu2,hu3⟩:=AEL (u:=Aq (m * s)) (sc:=[(s:Int)]) (v:=Aq (n * s)) (a:=Aq m) (Fo _) hulen (by omega)
   obtain ⟨K,hK⟩:∃ K:Nat,K=la+1 - lb:=⟨_,rfl⟩
   have hvt:=LK (n * s) (lb - 1) (by omega)
   rw[DZ] at hu3
   have hVK:lv u' < lv (Aq (n * s)) * bp K:=by
    rw[hu3,DZ,Int.natCast_mul,Int.natCast_mul]
    have e1:(m:Int) < bp la:=by rw[hla];exact HF m
    have e2:bp (lb - 1)<=(n:Int):=by rw[hlb];exact SX h0
    have e3:bp la=bp (lb - 1) * bp K:=by rw[<-Is,show lb - 1+K=la by omega]
    have e4:bp (lb - 1) * bp K<=(n:Int) * bp K:=Int.mul_le_mul_of_nonneg_right e2 (by have:=Dj K;omega)
    have e5:(m:Int) * s < (n:Int) * bp K * s:=Int.mul_lt_mul_of_pos_right (by omega) (by omega)
    grind
   obtain ⟨u2,q,hloop,g1,g2,g3,g4,g5,g6⟩:=AFE (sc:=[(s:Int)]) (K:=K) hu1 (Fo (n * s)) hvlen hlb2 (by omega) (by omega) hvt hVK
   rw[hu3,DZ] at g6
   rw[DZ] at g5
   have hns:0 < n * s:=Nat.mul_pos (by omega) (by omega)
   have hu20:=Cu g1
   have hdiv:lv q=((m / n:Nat):Int):=by
    have e:((m * s:Nat):Int) / ((n * s:Nat):Int)=lv q:=by
     rw[g6,Int.add_mul_ediv_left _ _ (by omega),Int.ediv_eq_zero_of_lt hu20 g5];omega
    rw[<-e,<-Int.natCast_ediv,Nat.mul_div_mul_right _ _ (by omega)]
   have hmod:lv u2=((m % n * s:Nat):Int):=by
    have e:((m * s:Nat):Int) % ((n * s:Nat):Int)=lv u2:=by
     rw[g6,Int.add_mul_emod_self_left,Int.emod_eq_of_lt hu20 g5]
    rw[<-e,<-Int.natCast_emod,Nat.mul_mod_mul_right]
   have ht7:=Hu g1 (by omega)
   rw[hmod,qZ0] at ht7
   have hlen7:(Aq (m % n * s)).length<=1000000000:=by
    have h1:=TS (m % n) s
    have h2:=LS (Nat.le_of_lt (Nat.mod_lt m (show n > 0 by omega)))
    omega
   have hq8:=Tt (m % n * s) s hlen7 (by omega)
   rw[Nat.mul_div_cancel _ (by omega)] at hq8
   have ht9:=Hu g3 (by omega)
   rw[hdiv,qZ0] at ht9
   have hwrap:((lb:Int) - 1).toNat=lb - 1:=by omega
   have hKi:((la+1:Nat):Int) - (lb:Int)=(K:Int):=by omega
   have hKn:((K:Int)).toNat=K:=by omega
   have hlbi:((Aq n).length:Int)=(lb:Int):=by omega
   have hvli:((Aq (n * s)).length:Int)=(lb:Int):=by omega
   have hu2i:((u'.length:Nat):Int)=((la+1:Nat):Int):=by omega
   have hrl:(((List.replicate K (0:Int)).length:Nat):Int)=(K:Int):=by simp
   have h00:((0:Int)).toNat=0:=rfl
   have hg0:([(s:Int)]:List Int).getD 0 0=(s:Int):=rfl
   simp (disch:=(first | omega | (simp only[Ai];omega))) only[hwrap,hlbi,<-ht,<-hs,hau,hbu,hpad,hu2i,hvli,hKi,hKn,hrl,hloop,ht7,h00,hg0,hq8,ht9,Ah]
end Go.AM.Num
end
section
namespace Go.AM.Num
theorem Y7 (m n:Nat) (hm:(Aq m).length<=100000000) (hn:(Aq n).length<=100000000):Hy (Aq m) (Aq n)=some ((Aq (Nat.gcd m n),()),()):=by
 obtain ⟨r,hr,b,rfl⟩:=BD (step:=JE) (Q:=fun r=>∃ b,r=(Ex.exit 0,(Aq (Nat.gcd m n),b,())))
  (fun k x=>∃ a b:Nat,x=(Aq a,Aq b,())/\k=b/\Nat.gcd a b=Nat.gcd m n/\(Aq a).length<=100000000/\(Aq b).length<=100000000) (by
   rintro k x ⟨a,b,rfl,rfl,hg,ha,hb⟩
   by_cases h0:k=0
   ·subst h0
    refine .inl ⟨_,?_,?_,Aq 0,rfl⟩
    ·rw[limbs_zero]
     simp only[JE]
     rw[<-hg,Nat.gcd_zero_right]
     rfl
    ·simp
   ·have hl:(Aq k).length≠0:=fun e=>h0 (limbs_nil.1 (List.eq_nil_of_length_eq_zero e))
    have hq:=AD8 a k ha hb h0
    refine .inr ⟨a % k,_,?_,Nat.mod_lt _ (by omega),k,a % k,rfl,rfl,?_,hb,?_⟩
    ·simp (disch:=(first | omega | (simp only[Ai];omega))) only[JE,hq,Ah]
    ·rw[Nat.gcd_comm,<-Nat.gcd_rec,Nat.gcd_comm,hg]
    ·exact Nat.le_trans (LS (Nat.le_of_lt (Nat.mod_lt _ (by omega)))) hb) n _ ⟨m,n,rfl,rfl,rfl,hm,hn⟩
 unfold Hy
 rw[hr]
 simp (disch:=(first | omega | (simp only[Ai];omega))) only[Ah]
theorem ABk:Aq 1=[1]:=by rw[limbs_small (by decide) (by decide)];rfl
abbrev dd (n:Nat):qBs:=Lib.decDigits n
theorem EJ {n:Nat} (h:n < 10):dd n=[UInt8.ofNat (48+n)]:=by unfold dd;rw[Lib.decDigits,dif_pos h]
theorem Gr {n:Nat} (h:¬ n < 10):dd n=dd (n / 10)++[UInt8.ofNat (48+n % 10)]:=by unfold dd;rw[Lib.decDigits,dif_neg h]
theorem dig_of {k:Nat} (h:k < 10):dig (UInt8.ofNat (48+k))=k/\EM (UInt8.ofNat (48+k)):=by
 have:(UInt8.ofNat (48+k)).toNat=48+k:=by simp[UInt8.toNat_ofNat];omega
 exact ⟨by unfold dig;omega,by unfold EM;omega⟩
theorem Fe (n:Nat):dd n≠[]:=by
 by_cases h:n < 10
 ·rw[EJ h];simp
 ·rw[Gr h];simp
theorem BZ (n:Nat):AN (dd n):=by
 induction n using Nat.strongRecOn with
 |_ n ih=>
  by_cases h:n < 10
  ·rw[EJ h];intro c hc;rw[List.mem_singleton.1 hc];exact (dig_of h).2
  ·rw[Gr h]
   refine (ih (n / 10) (by omega)).app fun c hc=>?_
   rw[List.mem_singleton.1 hc];exact (dig_of (by omega)).2
theorem B4 (n:Nat):dval (dd n)=n:=by
 induction n using Nat.strongRecOn with
 |_ n ih=>
  by_cases h:n < 10
  ·rw[EJ h,show [UInt8.ofNat (48+n)]=[]++[UInt8.ofNat (48+n)] from rfl,FI,(dig_of h).1];simp[dval]
  ·rw[Gr h,FI,ih (n / 10) (by omega),(dig_of (by omega)).1];omega
theorem Do {m n:Nat} (h:dd m=dd n):m=n:=by rw[<-B4 m,h,B4]
theorem Bt:dd 0=[48]:=by rw[EJ (by decide)];rfl
theorem Ee:dd 1=[49]:=by rw[EJ (by decide)];rfl
theorem Pa {n:Nat} (h:n≠0):∃ c s,dd n=c::s/\EM c/\c≠48:=by
 induction n using Nat.strongRecOn with
 |_ n ih=>
  by_cases h1:n < 10
  ·refine ⟨UInt8.ofNat (48+n),[],EJ h1,(dig_of h1).2,fun e=>?_⟩
   have:=(dig_of h1).1
   rw[e] at this
   simp[dig] at this;omega
  ·obtain ⟨c,s,e,hc⟩:=ih (n / 10) (by omega) (by omega)
   exact ⟨c,s++[UInt8.ofNat (48+n % 10)],by rw[Gr h1,e];rfl,hc⟩
theorem MY {s:qBs} (hd:AN s) (hne:s≠[]) (hc:s=[48]\/s.head?≠some 48):s=dd (dval s):=by
 rcases hc with rfl | hc
 ·rw[show dval [48]=0 from rfl,Bt]
 ·have key:∀ (n:Nat) (s:qBs),s.length=n->AN s->s≠[]->s.head?≠some 48->s=dd (dval s)/\dval s≠0:=by
   intro n
   induction n with
   |zero=>intro s hl _ hne;exact absurd (List.eq_nil_of_length_eq_zero hl) hne
   |succ n ih=>
    intro s hl hd hne hc
    obtain ⟨t,c,rfl⟩:∃ t c,s=t++[c]:=⟨s.dropLast,s.getLast hne,(List.dropLast_concat_getLast hne).symm⟩
    have hcd:EM c:=hd c (by simp)
    have hcl:=N6 hcd
    have hofc:UInt8.ofNat (48+dig c)=c:=by
     have h1:=hcd.1
     have:48+dig c=c.toNat:=by unfold dig;omega
     rw[this];simp
    by_cases ht:t=[]
    ·subst ht
     have h0:dig c≠0:=by
      intro e
      apply hc
      have h1:=hcd.1
      have h2:c.toNat=48:=by unfold dig at e;omega
      simp only[qY15,List.head?_cons,Option.some.injEq]
      exact UInt8.toNat_inj.1 h2
     rw[FI,AGV]
     refine ⟨?_,by omega⟩
     rw[EJ (by omega)]
     simp[hofc]
    ·obtain ⟨e1,e2⟩:=ih t (by simpa using hl) (fun x hx=>hd x (by simp[hx])) ht (by
      cases t with
      |nil=>exact absurd rfl ht
      |cons x t=>simpa using hc)
     rw[FI]
     refine ⟨?_,by omega⟩
     rw[Gr (by omega),show (10 * dval t+dig c) / 10=dval t by omega,show (10 * dval t+dig c) % 10=dig c by omega,<-e1,hofc]
  exact (key _ s rfl hd hne hc).1
theorem Gn {n k:Nat} (h:n < 10 ^ k) (hk:0 < k):(dd n).length<=k:=by
 induction k generalizing n with
 |zero=>omega
 |succ k ih=>
  by_cases h1:n < 10
  ·rw[EJ h1];simp
  ·rw[Gr h1,qZ6]
   have hk0:0 < k:=by
    rcases Nat.eq_zero_or_pos k with h0 | h0
    ·subst h0;simp at h;omega
    ·exact h0
   have:=ih (n:=n / 10) (by rw[Nat.pow_succ] at h;omega) hk0
   simp;omega
theorem Fn (n:Nat):n < 10 ^ (dd n).length:=by
 have:=Ej (BZ n)
 rwa [B4] at this
theorem HR (n:Nat):0 < (dd n).length:=List.length_pos_iff.2 (Fe n)
theorem Cs {m n:Nat} (h:m<=n):(dd m).length<=(dd n).length:=Gn (Nat.lt_of_le_of_lt h (Fn n)) (HR n)
theorem My (m n:Nat):(dd (m+n)).length<=max (dd m).length (dd n).length+1:=by
 apply Gn _ (by omega)
 have h1:=Fn m
 have h2:=Fn n
 have h3:10 ^ (dd m).length<=10 ^ (max (dd m).length (dd n).length):=Nat.pow_le_pow_right (by decide) (by omega)
 have h4:10 ^ (dd n).length<=10 ^ (max (dd m).length (dd n).length):=Nat.pow_le_pow_right (by decide) (by omega)
 rw[Nat.pow_succ];omega
theorem CF (m n:Nat):(dd (m * n)).length<=(dd m).length+(dd n).length:=by
 apply Gn _ (by have:=HR m;omega)
 rw[Nat.pow_add]
 exact Nat.mul_lt_mul'' (Fn m) (Fn n)
theorem SA (n:Nat):(Aq n).length<=(dd n).length:=by
 apply Kh
 rw[RT]
 have h1:=Fn n
 have h2:10 ^ (dd n).length<=10 ^ (9 * (dd n).length):=Nat.pow_le_pow_right (by decide) (by omega)
 omega
abbrev bs (s:qBs):List Int:=s.map fun c=>((c.toNat:Nat):Int)
end Go.AM.Num
end
section
namespace Go.AM.Num
def Ay (q:Rat):qBs:=(if q.num < 0 then [45] else [])++dd q.num.natAbs++(if q.den=1 then [] else 47::dd q.den)
def sg (neg:Bool) (m:Nat):Int:=if neg then -(m:Int) else m
def tx (neg:Bool) (m d:Nat):qBs:=(if neg=true/\m≠0 then [45] else [])++dd m++(if d=1 then [] else 47::dd d)
theorem Fz (neg:Bool) (m:Nat):(sg neg m).natAbs=m:=by cases neg<;>simp[sg]
theorem KI (neg:Bool) (m:Nat):sg neg m < 0 ↔ neg=true/\m≠0:=by
 cases neg<;>simp[sg]<;>omega
theorem Lj (a b:Bool) (m n:Nat):sg a m * sg b n=sg (a !=b) (m * n):=by
 cases a<;>cases b<;>simp[sg,Int.neg_mul,Int.mul_neg]
theorem I0 (q:Rat):sg (decide (q.num < 0)) q.num.natAbs=q.num:=by
 unfold sg
 by_cases h:q.num < 0
 ·rw[qZ10 h];simp;omega
 ·rw[qZ9 h];simp;omega
theorem ABS (neg:Bool) (m g:Nat) (h:g ∣ m):sg neg m / (g:Int)=sg neg (m / g):=by
 cases neg with
 |false=>simp[sg]
 |true=>
  simp only[sg,if_true]
  rw[Int.neg_ediv_of_dvd (Int.natCast_dvd_natCast.2 h),<-Int.natCast_ediv]
theorem TB (neg:Bool) (m d:Nat) (hd:d≠0):tx neg (m / Nat.gcd m d) (d / Nat.gcd m d)=Ay (mkRat (sg neg m) d):=by
 have hn:(mkRat (sg neg m) d).num=sg neg (m / Nat.gcd m d):=by
  rw[Rat.num_mkRat,if_neg hd,Fz,Nat.gcd_comm d m,ABS _ _ _ (Nat.gcd_dvd_left m d)]
 have hde:(mkRat (sg neg m) d).den=d / Nat.gcd m d:=by
  rw[Rat.den_mkRat,if_neg hd,Fz,Nat.gcd_comm d m]
 unfold Ay tx
 rw[hn,hde,Fz]
 simp only[KI]
theorem LP (neg:Bool) (m d:Nat) (hd:d≠0) (hg:Nat.gcd m d=1):tx neg m d=Ay (mkRat (sg neg m) d):=by
 have:=TB neg m d hd
 rwa [hg,Nat.div_one,Nat.div_one] at this
theorem Fl {n:Nat}:(47:UInt8)∉dd n:=fun h=>by have:=(BZ n _ h).1;simp at this
theorem AGa {n:Nat}:(45:UInt8)∉dd n:=fun h=>by have:=(BZ n _ h).1;simp at this
theorem N9 (n:Nat) (r:qBs) (s:qBs):dd n++r≠45::s:=by
 intro h
 cases e:dd n with
 |nil=>exact Fe n e
 |cons c t=>
  rw[e] at h
  simp only[qY5,List.cons.injEq] at h
  have:(45:UInt8)∈dd n:=by rw[e,h.1];simp
  exact AGa this
theorem Nt {a b x y:qBs} (ha:(47:UInt8)∉a) (hx:(47:UInt8)∉x) (h:a++47::b=x++47::y):a=x/\b=y:=by
 induction a generalizing x with
 |nil=>
  cases x with
  |nil=>simpa using h
  |cons c x=>simp only[qY15,qY5,List.cons.injEq] at h;exact absurd (h.1 ▸ List.mem_cons_self) hx
 |cons c a ih=>
  cases x with
  |nil=>simp only[qY15,qY5,List.cons.injEq] at h;exact absurd (h.1 ▸ List.mem_cons_self) ha
  |cons e x=>
   simp only[qY5,List.cons.injEq] at h
   obtain ⟨h1,h2⟩:=ih (fun hm=>ha (qY13 _ hm)) (fun hm=>hx (qY13 _ hm)) h.2
   exact ⟨by rw[h.1,h1],h2⟩
theorem txt_inj {p q:Rat} (h:Ay p=Ay q):p=q:=by
 unfold Ay at h
 have hs:(p.num < 0 ↔ q.num < 0):=by
  by_cases h1:p.num < 0<;>by_cases h2:q.num < 0
  ·simp[h1,h2]
  ·rw[if_pos h1,if_neg h2] at h
   simp only[qY15,qZ1,qY5] at h
   exact absurd h.symm (N9 _ _ _)
  ·rw[if_neg h1,if_pos h2] at h
   simp only[qY15,qZ1,qY5] at h
   exact absurd h (N9 _ _ _)
  ·simp[h1,h2]
 have h':dd p.num.natAbs++(if p.den=1 then [] else 47::dd p.den)=dd q.num.natAbs++(if q.den=1 then [] else 47::dd q.den):=by
  by_cases h1:p.num < 0
  ·rw[if_pos h1,if_pos (hs.1 h1)] at h
   simpa using h
  ·rw[if_neg h1,if_neg (fun h2=>h1 (hs.2 h2))] at h
   simpa using h
 have key:p.num.natAbs=q.num.natAbs/\p.den=q.den:=by
  by_cases h1:p.den=1<;>by_cases h2:q.den=1
  ·rw[if_pos h1,if_pos h2] at h'
   simp only[qY4] at h'
   exact ⟨Do h',by omega⟩
  ·rw[if_pos h1,if_neg h2] at h'
   simp only[qY4] at h'
   exact absurd (show (47:UInt8)∈dd p.num.natAbs by rw[h'];simp) Fl
  ·rw[if_neg h1,if_pos h2] at h'
   simp only[qY4] at h'
   exact absurd (show (47:UInt8)∈dd q.num.natAbs by rw[<-h'];simp) Fl
  ·rw[if_neg h1,if_neg h2] at h'
   obtain ⟨e1,e2⟩:=Nt Fl Fl h'
   exact ⟨Do e1,Do e2⟩
 exact Rat.ext (by omega) key.2
open Classical in
noncomputable def rd (a:qBs):Option Rat:=if h:∃ q,a=Ay q then some h.choose else none
theorem Df (q:Rat):rd (Ay q)=some q:=by
 have h:∃ p,Ay q=Ay p:=⟨q,rfl⟩
 unfold rd
 rw[dif_pos h]
 exact congrArg some (txt_inj h.choose_spec).symm
theorem Eu {a:qBs} {q:Rat} (h:rd a=some q):a=Ay q:=by
 unfold rd at h
 split at h
 ·rename_i hh
  have:=hh.choose_spec
  rw[Option.some.inj h] at this
  exact this
 ·cases h
theorem Oj {a:qBs} (h:∀ q,a≠Ay q):rd a=none:=by
 cases e:rd a with
 |none=>rfl
 |some q=>exact absurd (Eu e) (h q)
def D (q:Rat):Nat:=(dd q.num.natAbs).length+(dd q.den).length
theorem Em (q:Rat):(Ay q).length<=D q+2:=by
 unfold Ay D
 simp only[qZ6]
 have h1:(if q.num < 0 then [(45:UInt8)] else []).length<=1:=by split<;>simp
 have h2:(if q.den=1 then ([]:qBs) else 47::dd q.den).length<=(dd q.den).length+1:=by split<;>simp
 omega
theorem IK (q:Rat):D q<=(Ay q).length+1:=by
 unfold Ay D
 simp only[qZ6]
 by_cases h:q.den=1
 ·rw[if_pos h,h,Ee];simp
 ·rw[if_neg h];simp;omega
theorem UW (n:Int) (d:Nat) (hd:d≠0):D (mkRat n d)<=(dd n.natAbs).length+(dd d).length:=by
 unfold D
 rw[Rat.num_mkRat,Rat.den_mkRat,if_neg hd,if_neg hd]
 have h1:(n / (d.gcd n.natAbs:Nat)).natAbs<=n.natAbs:=by
  obtain ⟨k,hk⟩:((d.gcd n.natAbs:Nat):Int) ∣ n:=by
   have:=Nat.gcd_dvd_right d n.natAbs
   exact Int.ofNat_dvd_left.2 this
  have hg:((d.gcd n.natAbs:Nat):Int)≠0:=fun e=>hd (Nat.gcd_eq_zero_iff.1 (by exact_mod_cast e)).1
  have e1:n / (d.gcd n.natAbs:Nat)=k:=by
   conv=>lhs;lhs;rw[hk]
   exact Int.mul_ediv_cancel_left _ hg
  rw[e1]
  conv=>rhs;rw[hk,Int.natAbs_mul]
  exact Nat.le_mul_of_pos_left _ (by omega)
 have h2:=Nat.div_le_self d (d.gcd n.natAbs)
 have:=Cs h1
 have:=Cs h2
 omega
theorem Qx (a b:Int):(a+b).natAbs<=a.natAbs+b.natAbs:=by omega
theorem ACD (p q:Rat):D (p+q)<=2 * (D p+D q)+1:=by
 rw[Rat.add_def']
 refine Nat.le_trans (UW _ _ (Nat.mul_ne_zero p.den_nz q.den_nz)) ?_
 have h1:=Cs (Qx (p.num * q.den) (q.num * p.den))
 have h2:=My (p.num * q.den).natAbs (q.num * p.den).natAbs
 rw[Int.natAbs_mul,Int.natAbs_mul,Int.natAbs_natCast,Int.natAbs_natCast] at h1 h2
 have h3:=CF p.num.natAbs q.den
 have h4:=CF q.num.natAbs p.den
 have h5:=CF p.den q.den
 unfold D
 omega
theorem SG (p q:Rat):D (p * q)<=D p+D q:=by
 rw[Rat.mul_def']
 refine Nat.le_trans (UW _ _ (Nat.mul_ne_zero p.den_nz q.den_nz)) ?_
 have h1:=CF p.num.natAbs q.num.natAbs
 have h5:=CF p.den q.den
 rw[Int.natAbs_mul]
 unfold D
 omega
theorem PA (q:Rat):D (-q)=D q:=by unfold D;rw[Rat.neg_num,Rat.neg_den,Int.natAbs_neg]
theorem ACX (q:Rat):D q⁻¹<=D q:=by
 unfold D
 rw[Rat.num_inv,Rat.den_inv]
 by_cases h:q.num=0
 ·rw[if_pos h,h];simp[Bt,Ee];have:=HR q.den;omega
 ·rw[if_neg h,Int.natAbs_mul]
  have:(q.num.sign).natAbs=1:=Int.natAbs_sign_of_ne_zero h
  rw[this,Int.natAbs_natCast,Nat.one_mul];omega
theorem Y2 (n:Int):D (n:Rat)=(dd n.natAbs).length+1:=by
 unfold D;rw[Rat.num_intCast,Rat.den_intCast,Ee];rfl
end Go.AM.Num
end
section
namespace Go.AM.Num
theorem AA3 (r:qBs) (c:UInt8):strings_CutPrefix (c::r) [c]=some ((r,true,()),()):=by
 simp[strings_CutPrefix,Lib.trimPrefix,Lib.hasPrefix]
theorem ADU {s:qBs} {c:UInt8} (h:∀ r,s≠c::r):strings_CutPrefix s [c]=some ((s,false,()),()):=by
 have hp:Lib.hasPrefix s [c]=false:=by
  unfold Lib.hasPrefix
  cases s with
  |nil=>rfl
  |cons b t=>
   simp only[List.isPrefixOf,Bool.and_true,beq_eq_false_iff_ne,ne_eq]
   rintro rfl
   exact h t rfl
 simp[strings_CutPrefix,Lib.trimPrefix,hp]
theorem AAX {x y:qBs} {c:UInt8} (hx:c∉x):Lib.index (x++c::y) [c]=x.length:=by
 induction x with
 |nil=>unfold Lib.index;simp[List.isPrefixOf]
 |cons b x ih=>
  have hb:(c==b)=false:=by rw[beq_eq_false_iff_ne];rintro rfl;exact hx List.mem_cons_self
  have:=ih fun h=>hx (qY13 _ h)
  simp only[qY5]
  unfold Lib.index
  simp only[List.isPrefixOf,hb,Bool.false_and,this]
  have h1:((x.length:Int)==-1)=false:=by rw[beq_eq_false_iff_ne];omega
  simp[h1]
theorem ABD {s:qBs} {c:UInt8} (hs:c∉s):Lib.index s [c]=-1:=by
 induction s with
 |nil=>rfl
 |cons b s ih=>
  have hb:(c==b)=false:=by rw[beq_eq_false_iff_ne];rintro rfl;exact hs List.mem_cons_self
  unfold Lib.index
  simp[List.isPrefixOf,hb,ih fun h=>hs (qY13 _ h)]
theorem Pu {x y:qBs} {c:UInt8} (hx:c∉x) (hl:(x++c::y).length<=1000000000):strings_Cut (x++c::y) [c]=some ((x,y,true,()),()):=by
 unfold strings_Cut
 rw[if_pos (by omega)]
 simp[Lib.cut,AAX hx]
theorem Qk {s:qBs} {c:UInt8} (hs:c∉s) (hl:s.length<=1000000000):strings_Cut s [c]=some ((s,[],false,()),()):=by
 unfold strings_Cut
 rw[if_pos (by omega)]
 simp[Lib.cut,ABD hs]
theorem QY (c:UInt8) (s:qBs):(∃ x y,s=x++c::y/\c∉x)\/c∉s:=by
 induction s with
 |nil=>exact .inr (by simp)
 |cons b s ih=>
  by_cases h:b=c
  ·subst h;exact .inl ⟨[],s,rfl,by simp⟩
  ·rcases ih with ⟨x,y,rfl,hx⟩ | hs
   ·refine .inl ⟨b::x,y,rfl,?_⟩
    intro hm
    rcases List.mem_cons.1 hm with rfl | hm
    ·exact h rfl
    ·exact hx hm
   ·refine .inr ?_
    intro hm
    rcases List.mem_cons.1 hm with rfl | hm
    ·exact h rfl
    ·exact hs hm
theorem We {s:qBs} {k:Nat} (h:k < s.length):(s.map (fun b=>(b.toNat:Int))).getD k 0=(s[k].toNat:Int):=by
 rw[qZ4,List.getElem?_map,qZ5 h];rfl
theorem ABj (s:qBs) (hl:s.length<=1000000000) :
 (AN s/\Am EZ (s,false,s.map (fun b=>(b.toNat:Int)),(s.length:Int),0,())=some (Ex.exit 0,(s,false,s.map (fun b=>(b.toNat:Int)),(s.length:Int),(s.length:Int),())))\/
 (¬ AN s/\∃ i,Am EZ (s,false,s.map (fun b=>(b.toNat:Int)),(s.length:Int),0,())=some (Ex.ret,(s,false,s.map (fun b=>(b.toNat:Int)),(s.length:Int),i,()))):=by
 obtain ⟨r,hr,hq⟩:=BD (step:=EZ) (Q:=fun r=>(AN s/\r=(Ex.exit 0,(s,false,s.map (fun b=>(b.toNat:Int)),(s.length:Int),(s.length:Int),())))\/(¬ AN s/\∃ i,r=(Ex.ret,(s,false,s.map (fun b=>(b.toNat:Int)),(s.length:Int),i,()))))
  (fun m x=>∃ k:Nat,m+k=s.length/\x=(s,false,s.map (fun b=>(b.toNat:Int)),(s.length:Int),(k:Int),())/\AN (s.take k)) (by
   rintro m x ⟨k,hm,rfl,hd⟩
   by_cases hk:k < s.length
   ·have hg:=We hk
    have e:(k:Int).toNat=k:=by omega
    have hml:(s.map (fun b=>(b.toNat:Int))).length=s.length:=by simp
    have hmem:s[k]∈s:=List.getElem_mem hk
    by_cases h1:s[k].toNat < 48
    ·refine .inl ⟨_,?_,?_,.inr ⟨fun h=>?_,(k:Int),rfl⟩⟩
     ·simp (disch:=(first | omega | (simp only[Ai];omega))) only[EZ,e,hg,hml,Ah]
     ·simp
     ·have:=(h _ hmem).1;omega
    ·by_cases h2:s[k].toNat > 57
     ·refine .inl ⟨_,?_,?_,.inr ⟨fun h=>?_,(k:Int),rfl⟩⟩
      ·simp (disch:=(first | omega | (simp only[Ai];omega))) only[EZ,e,hg,hml,Ah]
      ·simp
      ·have:=(h _ hmem).2;omega
     ·refine .inr ⟨m - 1,_,?_,by omega,k+1,by omega,rfl,?_⟩
      ·simp (disch:=(first | omega | (simp only[Ai];omega))) only[EZ,e,hg,hml,Ah]
       rfl
      ·rw[List.take_succ_eq_append_getElem hk]
       refine hd.app fun c hc=>?_
       rw[List.mem_singleton.1 hc]
       exact ⟨by omega,by omega⟩
   ·have hks:k=s.length:=by omega
    subst hks
    refine .inl ⟨_,?_,?_,.inl ⟨by simpa using hd,rfl⟩⟩
    ·simp (disch:=(first | omega | (simp only[Ai];omega))) only[EZ,Ah]
    ·simp) s.length _ ⟨0,by omega,rfl,by simp[AN]⟩
 rcases hq with ⟨h,rfl⟩ | ⟨h,i,rfl⟩
 ·exact .inl ⟨h,hr⟩
 ·exact .inr ⟨h,i,hr⟩
theorem Bb {s t:qBs} (h:s=t):(s==t)=true:=by simpa using h
theorem A7 {s t:qBs} (h:s≠t):(s==t)=false:=by simpa using h
theorem Bm (s:qBs) (hl:s.length<=1000000000):Ec s=some ((s==dd (dval s),()),()):=by
 unfold Ec
 have hml:((s.map (fun b=>(b.toNat:Int))).length:Int)=(s.length:Int):=by simp
 rw[hml]
 rcases ABj s hl with ⟨hd,hr⟩ | ⟨hd,i,hr⟩
 ·simp (disch:=(first | omega | (simp only[Ai];omega))) only[hr,Ah]
  by_cases h48:s=[48]
  ·subst h48
   rw[Bb rfl]
   have:([48]==dd (dval [48]))=true:=Bb (by rw[show dval [48]=0 from rfl,Bt])
   rw[this];rfl
  ·rw[A7 h48]
   cases s with
   |nil=>
    have:([]==dd (dval []))=false:=A7 (fun h=>Fe _ h.symm)
    rw[this];rfl
   |cons c t=>
    have hne:((c::t:qBs)==[])=false:=rfl
    rw[hne]
    simp only[qY1,Az]
    simp (disch:=(first | omega | (simp only[Ai];omega))) only[Ah]
    by_cases hc:c=48
    ·subst hc
     have:((48::t:qBs)==dd (dval (48::t)))=false:=A7 (fun h=>by
      by_cases h0:dval (48::t)=0
      ·rw[h0,Bt] at h;exact h48 h
      ·obtain ⟨c',s',e,_,hne'⟩:=Pa h0
       rw[e] at h
       simp only[List.cons.injEq] at h
       exact hne' h.1.symm)
     rw[this];rfl
    ·have:((c::t:qBs)==dd (dval (c::t)))=true:=Bb (MY hd (by simp) (.inr (by simpa using hc)))
     rw[this]
     have hcn:((c.toNat:Int) !=48)=true:=by
      simp only[bne_iff_ne,ne_eq]
      intro e
      exact hc (UInt8.toNat_inj.1 (by show c.toNat=48;omega))
     show some (((((c::t).getD 0 0).toNat:Int) !=48,()),())=_
     rw[show ((c::t:qBs).getD 0 0)=c from rfl,hcn]
 ·simp (disch:=(first | omega | (simp only[Ai];omega))) only[hr,Ah]
  have:(s==dd (dval s))=false:=A7 (fun h=>hd (h ▸ BZ _))
  rw[this]
end Go.AM.Num
end
section
namespace Go.AM.Num
def Kn (q:Rat):Bool×List Int×List Int:=(decide (q.num < 0),Aq q.num.natAbs,Aq q.den)
def GG (neg:Bool):qBs:=if neg then [45] else []
theorem Ku {neg:Bool} {s:qBs} {q:Rat} (hs:neg=false->∀ r,s≠45::r) (h:GG neg++s=Ay q):neg=decide (q.num < 0)/\s=dd q.num.natAbs++(if q.den=1 then [] else 47::dd q.den):=by
 unfold Ay GG at h
 cases neg with
 |true=>
  by_cases hq:q.num < 0
  ·rw[if_pos hq] at h
   simp only[if_true,List.singleton_append,qY5,qZ1,qY15,List.cons.injEq,true_and] at h
   exact ⟨(qZ10 hq).symm,h⟩
  ·rw[if_neg hq] at h
   simp only[if_true,List.singleton_append,qY15] at h
   exact absurd h.symm (N9 _ _ _)
 |false=>
  by_cases hq:q.num < 0
  ·rw[if_pos hq] at h
   simp only[Bool.false_eq_true,if_false,qY15,qY5,qZ1] at h
   exact absurd h (hs rfl _)
  ·rw[if_neg hq] at h
   simp only[Bool.false_eq_true,if_false,qY15] at h
   exact ⟨(qZ9 hq).symm,h⟩
theorem MU (a:qBs):∃ neg s,strings_CutPrefix a [45]=some ((s,neg,()),())/\a=GG neg++s/\(neg=false->∀ r,s≠45::r):=by
 by_cases h:∃ r,a=45::r
 ·obtain ⟨r,rfl⟩:=h
  exact ⟨true,r,AA3 r 45,rfl,fun h=>by cases h⟩
 ·have h':∀ r,a≠45::r:=fun r e=>h ⟨r,e⟩
  exact ⟨false,a,ADU h',rfl,fun _=>h'⟩
theorem MS (neg:Bool) (m d:Nat) (hd:d≠0) (hg:Nat.gcd m d=1):(mkRat (sg neg m) d).num=sg neg m/\(mkRat (sg neg m) d).den=d:=by
 rw[Rat.num_mkRat,Rat.den_mkRat,if_neg hd,if_neg hd,Fz,Nat.gcd_comm d m,hg]
 simp
theorem IN {neg:Bool} {m d:Nat} (h:neg=true->m≠0):GG neg++(dd m++(if d=1 then [] else 47::dd d))=tx neg m d:=by
 unfold GG tx
 cases neg with
 |true=>simp[h rfl]
 |false=>simp
theorem Ta {neg:Bool} {m d:Nat} (hd:d≠0) (hg:Nat.gcd m d=1) (h:neg=true->m≠0):Kn (mkRat (sg neg m) d)=(neg,Aq m,Aq d):=by
 obtain ⟨h1,h2⟩:=MS neg m d hd hg
 unfold Kn
 rw[h1,h2,Fz]
 congr 1
 cases neg with
 |true=>exact qZ10 ((KI _ _).2 ⟨rfl,h rfl⟩)
 |false=>exact qZ9 (fun e=>by simpa using ((KI _ _).1 e).1)
theorem ADY (a:qBs) (hl:a.length<=10000000) :
 ∃ r ok,Cz a=some ((r,ok,()),())/\((ok=true/\∃ q,a=Ay q/\r=Kn q)\/(ok=false/\∀ q,a≠Ay q)):=by
 obtain ⟨neg,s,hcp,ha,hs⟩:=MU a
 have hsl:s.length<=10000000:=by rw[ha,qZ6] at hl;omega
 have shp:∀ q,a=Ay q->neg=decide (q.num < 0)/\s=dd q.num.natAbs++(if q.den=1 then [] else 47::dd q.den):=fun q h=>Ku hs (ha ▸ h)
 have o:∀ n,Et (Aq n)=some ((decide (n=1),()),()):=Y9
 rcases QY 47 s with ⟨x,y,rfl,hx⟩ | hx
 ·have hxl:x.length<=10000000:=by rw[qZ6] at hsl;omega
  have hyl:y.length<=10000000:=by rw[qZ6,qY11] at hsl;omega
  have hcut:=Pu (y:=y) hx (by omega)
  have shp':∀ q,a=Ay q->neg=decide (q.num < 0)/\q.den≠1/\x=dd q.num.natAbs/\y=dd q.den:=by
   intro q h
   obtain ⟨h1,h2⟩:=shp q h
   by_cases hd:q.den=1
   ·rw[if_pos hd,qY4] at h2
    exact absurd (show (47:UInt8)∈dd q.num.natAbs by rw[<-h2];simp) Fl
   ·rw[if_neg hd] at h2
    obtain ⟨e1,e2⟩:=Nt hx Fl h2
    exact ⟨h1,hd,e1,e2⟩
  by_cases hnx:x=dd (dval x)
  ·have hox:=Bb hnx
   by_cases h0:x=[48]
   ·refine ⟨(false,[],[]),false,?_,.inr ⟨rfl,fun q h=>?_⟩⟩
    ·unfold Cz
     simp (disch:=(first | omega | (simp only[Ai];omega))) only[hcp,hcut,Bm x (by omega),hox,Bb h0,Ah]
     cases neg<;>rfl
    ·obtain ⟨_,h2,h3,_⟩:=shp' q h
     have hq0:q.num.natAbs=0:=Do (by rw[<-h3,h0,Bt])
     have:Nat.gcd q.num.natAbs q.den=1:=q.reduced
     rw[hq0,Nat.gcd_zero_left] at this
     exact h2 this
   ·have hno:=MI (s:=x) (hnx ▸ BZ _) (by omega)
    have hm0:dval x≠0:=fun e=>h0 (by rw[hnx,e,Bt])
    by_cases hny:y=dd (dval y)
    ·by_cases hy0:y=[48]
     ·refine ⟨(false,[],[]),false,?_,.inr ⟨rfl,fun q h=>?_⟩⟩
      ·unfold Cz
       simp (disch:=(first | omega | (simp only[Ai];omega))) only[hcp,hcut,Bm x (by omega),hox,A7 h0,hno,Bm y (by omega),Bb hny,Bb hy0,Ah]
      ·obtain ⟨_,h2,h3,h4⟩:=shp' q h
       exact q.den_nz (Do (by rw[<-h4,hy0,Bt]))
     ·by_cases hy1:y=[49]
      ·refine ⟨(false,[],[]),false,?_,.inr ⟨rfl,fun q h=>?_⟩⟩
       ·unfold Cz
        simp (disch:=(first | omega | (simp only[Ai];omega))) only[hcp,hcut,Bm x (by omega),hox,A7 h0,hno,Bm y (by omega),Bb hny,A7 hy0,Bb hy1,Ah]
       ·obtain ⟨_,h2,h3,h4⟩:=shp' q h
        exact h2 (Do (by rw[<-h4,hy1,Ee]))
      ·have hno2:=MI (s:=y) (hny ▸ BZ _) (by omega)
       have hd0:dval y≠0:=fun e=>hy0 (by rw[hny,e,Bt])
       have hd1:dval y≠1:=fun e=>hy1 (by rw[hny,e,Ee])
       have hg:=Y7 (dval x) (dval y) (Nat.le_trans (SA _) (by rw[<-hnx];omega)) (Nat.le_trans (SA _) (by rw[<-hny];omega))
       refine ⟨(neg,Aq (dval x),Aq (dval y)),decide (Nat.gcd (dval x) (dval y)=1),?_,?_⟩
       ·unfold Cz
        simp (disch:=(first | omega | (simp only[Ai];omega))) only[hcp,hcut,Bm x (by omega),hox,A7 h0,hno,Bm y (by omega),Bb hny,A7 hy0,A7 hy1,hno2,hg,o,Ah]
       ·by_cases hg1:Nat.gcd (dval x) (dval y)=1
        ·refine .inl ⟨qZ10 hg1,mkRat (sg neg (dval x)) (dval y),?_,(Ta hd0 hg1 (fun _=>hm0)).symm⟩
         rw[<-LP neg _ _ hd0 hg1,<-IN (fun _=>hm0),if_neg hd1,<-hnx,<-hny]
         exact ha
        ·refine .inr ⟨qZ9 hg1,fun q h=>?_⟩
         obtain ⟨_,h2,h3,h4⟩:=shp' q h
         rw[h3,h4,B4,B4] at hg1
         exact hg1 q.reduced
    ·refine ⟨(false,[],[]),false,?_,.inr ⟨rfl,fun q h=>?_⟩⟩
     ·unfold Cz
      simp (disch:=(first | omega | (simp only[Ai];omega))) only[hcp,hcut,Bm x (by omega),hox,A7 h0,hno,Bm y (by omega),A7 hny,Ah]
     ·obtain ⟨_,h2,h3,h4⟩:=shp' q h
      exact hny (by rw[h4,B4])
  ·refine ⟨(false,[],[]),false,?_,.inr ⟨rfl,fun q h=>?_⟩⟩
   ·unfold Cz
    simp (disch:=(first | omega | (simp only[Ai];omega))) only[hcp,hcut,Bm x (by omega),A7 hnx,Ah]
   ·obtain ⟨_,h2,h3,h4⟩:=shp' q h
    exact hnx (by rw[h3,B4])
 ·have hcut:=Qk hx (by omega)
  have shp':∀ q,a=Ay q->neg=decide (q.num < 0)/\q.den=1/\s=dd q.num.natAbs:=by
   intro q h
   obtain ⟨h1,h2⟩:=shp q h
   by_cases hd:q.den=1
   ·rw[if_pos hd,qY4] at h2
    exact ⟨h1,hd,h2⟩
   ·rw[if_neg hd] at h2
    exact absurd (by rw[h2];simp) hx
  by_cases hnx:s=dd (dval s)
  ·have hox:=Bb hnx
   have hno:=MI (s:=s) (hnx ▸ BZ _) (by omega)
   have fin:(neg=true->dval s≠0)->a=Ay (mkRat (sg neg (dval s)) 1)/\(neg,Aq (dval s),([1]:List Int))=Kn (mkRat (sg neg (dval s)) 1):=by
    intro h
    constructor
    ·rw[<-LP neg _ _ (by decide) (Nat.gcd_one_right _),<-IN h]
     simp only[if_true,qY4]
     rw[<-hnx];exact ha
    ·rw[Ta (by decide) (Nat.gcd_one_right _) h,ABk]
   by_cases h0:s=[48]
   ·cases hneg:neg with
    |true=>
     subst hneg
     refine ⟨(false,[],[]),false,?_,.inr ⟨rfl,fun q h=>?_⟩⟩
     ·unfold Cz
      simp (disch:=(first | omega | (simp only[Ai];omega))) only[hcp,hcut,Bm s (by omega),hox,Bb h0,Ah]
     ·obtain ⟨h1,h2,h3⟩:=shp' q h
      have hq0:q.num.natAbs=0:=Do (by rw[<-h3,h0,Bt])
      have:=of_decide_eq_true h1.symm
      omega
    |false=>
     subst hneg
     obtain ⟨f1,f2⟩:=fin (fun h=>by cases h)
     refine ⟨_,true,?_,.inl ⟨rfl,_,f1,f2⟩⟩
     unfold Cz
     simp (disch:=(first | omega | (simp only[Ai];omega))) only[hcp,hcut,Bm s (by omega),hox,Bb h0,hno,Ah]
   ·have hm0:dval s≠0:=fun e=>h0 (by rw[hnx,e,Bt])
    obtain ⟨f1,f2⟩:=fin (fun _=>hm0)
    refine ⟨_,true,?_,.inl ⟨rfl,_,f1,f2⟩⟩
    unfold Cz
    simp (disch:=(first | omega | (simp only[Ai];omega))) only[hcp,hcut,Bm s (by omega),hox,A7 h0,hno,Ah]
  ·refine ⟨(false,[],[]),false,?_,.inr ⟨rfl,fun q h=>?_⟩⟩
   ·unfold Cz
    simp (disch:=(first | omega | (simp only[Ai];omega))) only[hcp,hcut,Bm s (by omega),A7 hnx,Ah]
   ·obtain ⟨_,h2,h3⟩:=shp' q h
    exact hnx (by rw[h3,B4])
end Go.AM.Num
end
section
namespace Go.AM.Num
theorem VB (M:Nat) (hM:1000000000000000000<=M) (s:qBs) (acc:Nat) (hd:AN s) (h:acc * 10 ^ s.length+dval s < 1000000000000000000):Lib.parseUintM M acc s=.ok (acc * 10 ^ s.length+dval s):=by
 induction s generalizing acc with
 |nil=>simp[Lib.parseUintM,dval]
 |cons c s ih=>
  have hc:=hd c (by simp)
  have hdc:c.toNat - 48=dig c:=rfl
  rw[EF,qY11,Nat.pow_succ] at h ⊢
  have hp:1<=10 ^ s.length:=Nat.one_le_pow _ _ (by decide)
  have e:acc * (10 ^ s.length * 10)+(dig c * 10 ^ s.length+dval s)=(acc * 10+dig c) * 10 ^ s.length+dval s:=by grind
  rw[e] at h ⊢
  have h1:(acc * 10+dig c) * 1<=(acc * 10+dig c) * 10 ^ s.length:=Nat.mul_le_mul_left _ hp
  unfold Lib.parseUintM
  rw[if_pos ⟨hc.1,hc.2⟩,if_neg (by omega),hdc,if_neg (by omega)]
  exact ih (acc * 10+dig c) (fun x hx=>hd x (by simp[hx])) h
theorem NU (n:Nat) (h:n < 1000000000):F4 (dd n) 10 64=some (((n:Int),false,()),()):=by
 have hl:(dd n).length<=9:=Gn (by simpa using h) (by decide)
 have hm:=VB (2 ^ 64 - 1) (by decide) (dd n) 0 (BZ n) (by rw[B4];omega)
 rw[B4,Nat.zero_mul,Nat.zero_add] at hm
 unfold F4
 rw[if_pos ⟨rfl,rfl,by omega⟩]
 have:Lib.parseIntB 64 (dd n)=.ok (n:Int):=by
  cases e:dd n with
  |nil=>exact absurd e (Fe n)
  |cons c r=>
   have hc:=BZ n c (by rw[e];simp)
   unfold Lib.parseIntB
   have h1:¬ (c.toNat=43\/c.toNat=45):=by have:=hc.1;omega
   have h2:¬ c.toNat=45:=by have:=hc.1;omega
   simp only[if_neg h1]
   unfold Lib.parseUintB
   rw[if_neg (by simp),<-e,hm]
   simp[h2]
   omega
 rw[this]
theorem X0 (m n:Nat):Gh (m:Int) (n:Int)=some ((((Nat.gcd m n:Nat):Int),()),()):=by
 obtain ⟨r,hr,b,rfl⟩:=BD (step:=IX) (Q:=fun r=>∃ b,r=(Ex.exit 0,(((Nat.gcd m n:Nat):Int),b,())))
  (fun k x=>∃ a b:Nat,x=((a:Int),(b:Int),())/\k=b/\Nat.gcd a b=Nat.gcd m n) (by
   rintro k x ⟨a,b,rfl,rfl,hg⟩
   by_cases h0:k=0
   ·subst h0
    refine .inl ⟨(Ex.exit 0,((a:Int),0,())),?_,by simp,0,?_⟩
    ·simp (disch:=(first | omega | (simp only[Ai];omega))) only[IX,Ah]
     rfl
    ·rw[<-hg,Nat.gcd_zero_right]
   ·refine .inr ⟨a % k,_,?_,Nat.mod_lt _ (by omega),k,a % k,rfl,rfl,?_⟩
    ·simp (disch:=(first | omega | (simp only[Ai];omega))) only[IX,Ah]
     rw[<-Int.natCast_emod]
    ·rw[Nat.gcd_comm,<-Nat.gcd_rec,Nat.gcd_comm,hg]) n _ ⟨m,n,rfl,rfl,rfl⟩
 unfold Gh
 rw[hr]
 simp (disch:=(first | omega | (simp only[Ai];omega))) only[Ah]
def Lx (a:qBs) (r:Int×Int):Prop:=∃ q,a=Ay q/\r=(q.num,(q.den:Int))/\q.num.natAbs < 1000000000/\q.den < 1000000000
theorem Om {n:Nat} (h:(dd n).length<=9):n < 1000000000:=by
 have:=Fn n
 have h2:10 ^ (dd n).length<=10 ^ 9:=Nat.pow_le_pow_right (by decide) h
 omega
theorem Yt (a:qBs) (hl:a.length<=10000000):∃ r ok,B0 a=some ((r,ok,()),())/\(ok=true->Lx a r):=by
 obtain ⟨neg,s,hcp,ha,hs⟩:=MU a
 have hsl:s.length<=10000000:=by rw[ha,qZ6] at hl;omega
 have nope:∀ (r:Int×Int),B0 a=some ((r,false,()),())->∃ r ok,B0 a=some ((r,ok,()),())/\(ok=true->Lx a r):=fun r h=>⟨r,false,h,fun h=>by cases h⟩
 rcases QY 47 s with ⟨x,y,rfl,hx⟩ | hx
 ·have hxl:x.length<=10000000:=by rw[qZ6] at hsl;omega
  have hyl:y.length<=10000000:=by rw[qZ6,qY11] at hsl;omega
  have hcut:=Pu (y:=y) hx (by omega)
  by_cases h9:x.length<=9
  ·by_cases hy9:y.length<=9
   ·by_cases hnx:x=dd (dval x)
    ·have hox:=Bb hnx
     by_cases h0:x=[48]
     ·refine nope (0,0) ?_
      unfold B0
      simp (disch:=(first | omega | (simp only[Ai];omega))) only[hcp,hcut,Bm x (by omega),hox,Bb h0,Ah]
      cases neg<;>rfl
     ·have hm0:dval x≠0:=fun e=>h0 (by rw[hnx,e,Bt])
      have hmB:dval x < 1000000000:=Om (by rw[<-hnx];exact h9)
      have hp:=NU (dval x) hmB
      rw[<-hnx] at hp
      by_cases hny:y=dd (dval y)
      ·have hdB:dval y < 1000000000:=Om (by rw[<-hny];exact hy9)
       have hpy:=NU (dval y) hdB
       rw[<-hny] at hpy
       by_cases h2:dval y < 2
       ·refine nope (0,0) ?_
        unfold B0
        simp (disch:=(first | omega | (simp only[Ai];omega))) only[hcp,hcut,Bm x (by omega),hox,A7 h0,hp,Bm y (by omega),Bb hny,hpy,Ah]
       ·have hdv:=X0 (dval x) (dval y)
        by_cases hg:Nat.gcd (dval x) (dval y)=1
        ·have hd0:dval y≠0:=by omega
         obtain ⟨e1,e2⟩:=MS neg (dval x) (dval y) hd0 hg
         have hsm:Lx a (sg neg (dval x),((dval y:Nat):Int)):=by
          refine ⟨mkRat (sg neg (dval x)) (dval y),?_,by rw[e1,e2],by rw[e1,Fz];exact hmB,by rw[e2];exact hdB⟩
          rw[<-LP neg _ _ hd0 hg,<-IN (fun _=>hm0),if_neg (by omega),<-hnx,<-hny]
          exact ha
         rw[hg] at hdv
         cases neg with
         |true=>
          refine ⟨_,true,?_,fun _=>hsm⟩
          unfold B0
          simp (disch:=(first | omega | (simp only[Ai];omega))) only[hcp,hcut,Bm x (by omega),hox,A7 h0,hp,Bm y (by omega),Bb hny,hpy,hdv,Ah]
          simp[sg]
         |false=>
          refine ⟨_,true,?_,fun _=>hsm⟩
          unfold B0
          simp (disch:=(first | omega | (simp only[Ai];omega))) only[hcp,hcut,Bm x (by omega),hox,A7 h0,hp,Bm y (by omega),Bb hny,hpy,hdv,Ah]
          simp[sg]
        ·refine nope (0,0) ?_
         unfold B0
         simp (disch:=(first | omega | (simp only[Ai];omega))) only[hcp,hcut,Bm x (by omega),hox,A7 h0,hp,Bm y (by omega),Bb hny,hpy,hdv,Ah]
      ·refine nope (0,0) ?_
       unfold B0
       simp (disch:=(first | omega | (simp only[Ai];omega))) only[hcp,hcut,Bm x (by omega),hox,A7 h0,hp,Bm y (by omega),A7 hny,Ah]
    ·refine nope (0,0) ?_
     unfold B0
     simp (disch:=(first | omega | (simp only[Ai];omega))) only[hcp,hcut,Bm x (by omega),A7 hnx,Ah]
   ·refine nope (0,0) ?_
    unfold B0
    simp (disch:=(first | omega | (simp only[Ai];omega))) only[hcp,hcut,Ah]
  ·refine nope (0,0) ?_
   unfold B0
   simp (disch:=(first | omega | (simp only[Ai];omega))) only[hcp,hcut,Ah]
 ·have hcut:=Qk hx (by omega)
  have hnil:(([]:qBs).length:Int)=0:=rfl
  by_cases h9:s.length<=9
  ·by_cases hnx:s=dd (dval s)
   ·have hox:=Bb hnx
    have hmB:dval s < 1000000000:=Om (by rw[<-hnx];exact h9)
    have hp:=NU (dval s) hmB
    rw[<-hnx] at hp
    have fin:(neg=true->dval s≠0)->Lx a (sg neg (dval s),1):=by
     intro h
     obtain ⟨e1,e2⟩:=MS neg (dval s) 1 (by decide) (Nat.gcd_one_right _)
     refine ⟨mkRat (sg neg (dval s)) 1,?_,by rw[e1,e2];rfl,by rw[e1,Fz];exact hmB,by rw[e2];decide⟩
     rw[<-LP neg _ _ (by decide) (Nat.gcd_one_right _),<-IN h]
     simp only[if_true,qY4]
     rw[<-hnx];exact ha
    by_cases h0:s=[48]
    ·cases neg with
     |true=>
      refine nope (0,0) ?_
      unfold B0
      simp (disch:=(first | omega | (simp only[Ai];omega))) only[hcp,hcut,hnil,Bm s (by omega),hox,Bb h0,Ah]
     |false=>
      refine ⟨_,true,?_,fun _=>fin (fun h=>by cases h)⟩
      unfold B0
      simp (disch:=(first | omega | (simp only[Ai];omega))) only[hcp,hcut,hnil,Bm s (by omega),hox,Bb h0,hp,Ah]
      simp[sg]
    ·have hm0:dval s≠0:=fun e=>h0 (by rw[hnx,e,Bt])
     cases neg with
     |true=>
      refine ⟨_,true,?_,fun _=>fin (fun _=>hm0)⟩
      unfold B0
      simp (disch:=(first | omega | (simp only[Ai];omega))) only[hcp,hcut,hnil,Bm s (by omega),hox,A7 h0,hp,Ah]
      simp[sg]
     |false=>
      refine ⟨_,true,?_,fun _=>fin (fun _=>hm0)⟩
      unfold B0
      simp (disch:=(first | omega | (simp only[Ai];omega))) only[hcp,hcut,hnil,Bm s (by omega),hox,A7 h0,hp,Ah]
      simp[sg]
   ·refine nope (0,0) ?_
    unfold B0
    simp (disch:=(first | omega | (simp only[Ai];omega))) only[hcp,hcut,hnil,Bm s (by omega),A7 hnx,Ah]
  ·refine nope (0,0) ?_
   unfold B0
   simp (disch:=(first | omega | (simp only[Ai];omega))) only[hcp,hcut,Ah]
theorem GK:A3=1152921504606846976:=rfl
end Go.AM.Num
end
section
namespace Go.AM.Num
theorem Gv (q:Rat):(dd q.num.natAbs).length<=D q:=by unfold D;omega
theorem GU (q:Rat):(dd q.den).length<=D q:=by unfold D;omega
theorem WO (p q:Rat):p+q=mkRat (sg (decide (p.num < 0)) (p.num.natAbs * q.den)+sg (decide (q.num < 0)) (q.num.natAbs * p.den)) (p.den * q.den):=by
 rw[Rat.add_def']
 congr 1
 have h1:=Lj (decide (p.num < 0)) false p.num.natAbs q.den
 have h2:=Lj (decide (q.num < 0)) false q.num.natAbs p.den
 rw[I0] at h1 h2
 simp only[Bool.bne_false] at h1 h2
 rw[<-h1,<-h2];rfl
theorem Xg (q:Rat) (h:q≠0):q⁻¹=mkRat (sg (decide (q.num < 0)) q.den) q.num.natAbs:=by
 have hn:q.num≠0:=fun e=>h (Rat.num_eq_zero.1 e)
 rw[Rat.inv_def]
 by_cases hs:q.num < 0
 ·rw[qZ10 hs,<-Rat.neg_divInt_neg]
  have e:-q.num=(q.num.natAbs:Int):=by omega
  rw[e,Rat.divInt_ofNat];rfl
 ·rw[qZ9 hs]
  have e:q.num=(q.num.natAbs:Int):=by omega
  conv=>lhs;rw[e]
  rw[Rat.divInt_ofNat];rfl
end Go.AM.Num
end
section
namespace Go.AM.Num
noncomputable def CA (f:Rat->Rat->qBs) (a b:qBs):qBs:=
 match rd a,rd b with
 |some p,some q=>f p q
 |_,_=>[]
theorem Jd (f:Rat->Rat->qBs) (p q:Rat):CA f (Ay p) (Ay q)=f p q:=by unfold CA;rw[Df,Df]
theorem OL {f:Rat->Rat->qBs} {a b:qBs} (h:rd a=none):CA f a b=[]:=by unfold CA;rw[h]
theorem Iy {f:Rat->Rat->qBs} {a b:qBs} (h:rd b=none):CA f a b=[]:=by
 unfold CA;rw[h];cases rd a<;>rfl
theorem ACm {q:Rat} {n:Nat} (h:(Ay q).length<=n):D q<=n+1:=by have:=IK q;omega
section
variable {a b:qBs}
theorem txt_zero:Ay 0=[48]:=by unfold Ay;simp[Bt]
noncomputable def Ob (p q:Rat):qBs:=if q=0 then [] else Ay (p / q)
end
theorem QA {a:qBs} (ha:a.length<=10000000):FU a=some (((rd a).isSome,()),()):=by
 obtain ⟨r1,k1,e1,s1⟩:=Yt a ha
 unfold FU
 cases k1 with
 |true=>
  obtain ⟨p,rfl,rfl,b1,b2⟩:=s1 rfl
  simp (disch:=(first | omega | (simp only[Ai];omega))) only[e1,Ah]
  rw[Df];rfl
 |false=>
  obtain ⟨r,o1,e3,q1⟩:=ADY a ha
  rcases q1 with ⟨rfl,p,rfl,rfl⟩ | ⟨rfl,hn⟩
  ·simp (disch:=(first | omega | (simp only[Ai];omega))) only[e1,e3,Ah]
   rw[Df];rfl
  ·simp (disch:=(first | omega | (simp only[Ai];omega))) only[e1,e3,Ah]
   rw[Oj hn];rfl
noncomputable def E0 (a:qBs):Int:=match rd a with | some q=>q.num.sign | none=>0
theorem Tw (q:Rat):(q.num < 0->∃ s,Ay q=45::s)/\(0 < q.num->∃ c s,Ay q=c::s/\c≠45):=by
 unfold Ay
 constructor
 ·intro h;rw[if_pos h];exact ⟨_,rfl⟩
 ·intro h
  rw[if_neg (by omega)]
  obtain ⟨c,s,e,hc,_⟩:=Pa (n:=q.num.natAbs) (by omega)
  refine ⟨c,_,by rw[e];rfl,?_⟩
  rintro rfl
  have:=hc.1;simp at this
theorem QZ {q:Rat}:Ay q=[48] ↔ q=0:=by
 constructor
 ·intro h;rw[<-txt_zero] at h;exact txt_inj h
 ·rintro rfl;exact txt_zero
theorem V7 {a:qBs} (ha:a.length<=10000000):Fj a=some ((E0 a,()),()):=by
 have hv:=QA ha
 unfold Fj E0
 cases hr:rd a with
 |none=>rw[hr] at hv;simp (disch:=(first | omega | (simp only[Ai];omega))) only[hv,Option.isSome_none,Ah]
 |some q=>
  rw[hr] at hv
  have hq:=Eu hr
  rcases Int.lt_trichotomy q.num 0 with h | h | h
  ·obtain ⟨s,e⟩:=(Tw q).1 h
   have hne:a≠[48]:=by rw[hq,e];simp
   have e2:((a.getD 0 0).toNat:Int)=45:=by rw[hq,e];rfl
   have hal:0 < a.length:=by rw[hq,e];simp
   have h00:((0:Int)).toNat=0:=rfl
   simp (disch:=(first | omega | (simp only[Ai];omega))) only[hv,Option.isSome_some,A7 hne,h00,e2,Ah]
   rw[Int.sign_eq_neg_one_of_neg h]
  ·have hz:a=[48]:=by rw[hq];exact QZ.2 (Rat.num_eq_zero.1 h)
   simp (disch:=(first | omega | (simp only[Ai];omega))) only[hv,Option.isSome_some,Bb hz,Ah]
   rw[h];rfl
  ·obtain ⟨c,s,e,hc⟩:=(Tw q).2 h
   have hne:a≠[48]:=fun e0=>by
    rw[hq,QZ] at e0;rw[e0] at h;simp at h
   have e2:((a.getD 0 0).toNat:Int)≠45:=by
    rw[hq,e]
    show ((c.toNat:Nat):Int)≠45
    intro h45
    exact hc (UInt8.toNat_inj.1 (by show c.toNat=45;omega))
   have hal:0 < a.length:=by rw[hq,e];simp
   have h00:((0:Int)).toNat=0:=rfl
   simp (disch:=(first | omega | (simp only[Ai];omega))) only[hv,Option.isSome_some,A7 hne,h00,Aj e2,Ah]
   rw[Int.sign_eq_one_of_pos h]
noncomputable def un (f:Rat->qBs) (a:qBs):qBs:=match rd a with | some q=>f q | none=>[]
theorem WX (f:Rat->qBs) (q:Rat):un f (Ay q)=f q:=by unfold un;rw[Df]
theorem ACj {f:Rat->qBs} {a:qBs} (h:rd a=none):un f a=[]:=by unfold un;rw[h]
theorem MG:rd []=none:=Oj fun q h=>by
 unfold Ay at h
 have:=Fe q.num.natAbs
 simp at h
 exact this h.2.1
theorem AAR {f:Rat->Rat} {k:Nat} (hf:∀ q,D (f q)<=D q) {a:qBs} (ha:a.length<=k):(un (fun q=>Ay (f q)) a).length<=k+3:=by
 unfold un
 cases hr:rd a with
 |none=>simp
 |some q=>
  have hq:=Eu hr
  have h1:=Em (f q)
  have h2:=hf q
  have h3:=IK q
  rw[<-hq] at h3
  show (Ay (f q)).length<=k+3
  omega
theorem X5 {k:Nat} {a:qBs} (ha:a.length<=k):(un (fun q=>Ay (-q)) a).length<=k+3:=AAR (fun q=>by rw[PA];exact Nat.le_refl _) ha
theorem ZY {f:Rat->Rat->Rat} {k:Nat} (hf:∀ p q,D (f p q)<=2 * (D p+D q)+1) {a b:qBs} (ha:a.length<=k) (hb:b.length<=k):(CA (fun p q=>Ay (f p q)) a b).length<=4 * k+8:=by
 unfold CA
 cases hr:rd a with
 |none=>simp
 |some p=>
  cases hr2:rd b with
  |none=>simp
  |some q=>
   have h1:=Em (f p q)
   have h2:=hf p q
   have h3:=IK p
   have h4:=IK q
   rw[<-Eu hr] at h3
   rw[<-Eu hr2] at h4
   show (Ay (f p q)).length<=_
   omega
noncomputable def Dt (a b:qBs):Int:=
 match rd a,rd b with
 |some p,some q=>(p - q).num.sign
 |_,_=>0
theorem Yz (a b:qBs):E0 (CA (fun p q=>Ay (p - q)) a b)=Dt a b:=by
 unfold E0 Dt CA
 cases hr:rd a with
 |none=>simp only[MG]
 |some p=>
  cases hr2:rd b with
  |none=>simp only[MG]
  |some q=>simp only[Df]
theorem AGN (a b:qBs):CA (fun p q=>Ay (p+q)) a (un (fun q=>Ay (-q)) b)=CA (fun p q=>Ay (p - q)) a b:=by
 unfold un
 cases hr:rd b with
 |none=>rw[Iy MG,Iy hr]
 |some q=>
  have hq:=Eu hr
  unfold CA
  rw[Df,hr]
  cases rd a with
  |none=>rfl
  |some p=>simp only[Rat.sub_eq_add_neg]
end Go.AM.Num
end
