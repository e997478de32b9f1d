/- Law ValueEvalRaw of the values: a machine of plain values, what the program's functions compute in it, and what that is. No condition beyond what the statement says. -/
import Derived.Test.YtmckcoeongfmhaaGreatDoorValueEvalRaw3
import Derived.Test.YtmckcoeongfmhaaGreatDoorProg
import Derived.TacticsInMore
import Derived.LoopNIn
import Derived.LoopIn
import Derived.RangeFuncLeaves
import Derived.RangeFuncBox
import Derived.RangeFuncWrites
import Derived.RangeFuncNested
import Derived.OwnWalkIn
import Derived.Shelf.Abstract
import Derived.WalkKit
import Derived.Lib.Walk
import Derived.BigCall
import Derived.BigGuard
import Derived.Test.YtmckcoeongfmhaaGreatDoorValueEvalRaw4
import Derived.Test.YtmckcoeongfmhaaGreatDoorShelf
import Derived.Lib.ItoaMem
import Derived.Shelf.Spec.SlicesInsert
import Derived.Shelf.Spec.SlicesInsertGrow
import Derived.Shelf.Strings.Builder1
import Derived.IntWalk
set_option linter.unusedSimpArgs false
set_option linter.unusedVariables false
section
namespace Go.AM
open Go.Proofs Go.RowKit
attribute [local go_sem] Oper.semAt_some
theorem qRaf {xs:List Int} {k:Nat} (h:k < xs.length):xs.zipIdx.reverse[k]?=some (xs[xs.length - 1 - k],xs.length - 1 - k):=by
 rw[List.getElem?_reverse (by simpa using h)]
 simp only[List.length_zipIdx,List.getElem?_zipIdx,Nat.zero_add]
 rw[qZ5 (by omega)]
 rfl
set_option maxHeartbeats 1000000 in
theorem qCv (F:Fence) (n:Nat) (h:F.fn 194) (hro:F.round=none) (v:Value) (w:World) (hv:v.oneCell'=true) :
 CallsIn F n Tryz.prog 194 #[v] w fun e w'=>e=.returned (.func (.func 247) #[] #[.pointer (some ⟨w.heap.size,0,none⟩)])/\∃ ty,w'=w.alloc (.cells #[v] ty):=by
 cases v<;>(try (simp[Value.oneCell'] at hv;done))
 all_goals refine callsIn_of_wp Tryz.func194 rfl h ?_ hro
 all_goals simp only[Tryz.ntmps194,List.size_toArray,qY11,List.length_nil,Nat.reduceAdd,Nat.reduceSub,Array.replicate_succ,Array.replicate_zero,List.push_toArray,List.append_toArray,qY15,qY5]
 all_goals gi_wp2
 all_goals go_ret
 all_goals exact ⟨rfl,_,rfl⟩
theorem qMp:qUV Tryz.prog 194 247:=by
 refine ⟨⟨_,Tryz.func194,by decide,rfl⟩,fun v w hv=>(callsIn_wide (n:=0)).1 (CallsIn.mono (qCv Fence.wide 0 trivial rfl v w hv) ?_)⟩
 rintro e w' ⟨rfl,ty,rfl⟩
 exact ⟨ty,rfl,Ext.alloc _ _,by simp,World.alloc_heap_new _ _⟩
set_option maxRecDepth 100000 in
set_option maxHeartbeats 2000000 in
theorem qWp (F:Fence) (n:Nat) (h8:F.fn 247) (hro:F.round=none) (hn:1<=n) (Bs ob:Nat) (ad:Option Addr) (cap:Nat) (xs:List Int) (W:World) (l:Nat) (J:Nat->World->Prop) (hlen:xs.length<=2 ^ 40) (hBs:W.cell? ⟨Bs,ob,none⟩=some (.slice ad xs.length cap))
 (hcs:xs≠[]->∃ b off,ad=some ⟨b,off,none⟩/\∀ (k:Nat) x,xs[k]?=some x->W.cell? ⟨b,off+k,none⟩=some (.int .i64 x))
 (hY:∀ (k:Nat) x W1,xs.zipIdx.reverse[k]?=some x->J k W1->YieldAt F (n - 1) Tryz.prog l (encI .i64 x) W1 fun e W'=>e=.returned (.bool true)/\J (k+1) W'/\qNa Bs (ad.map (·.block)) W1 W') (h0:J 0 W) :
 CallsIn F n Tryz.prog 247 #[.func (.yield l) #[] #[],.pointer (some ⟨Bs,ob,none⟩)] W fun e W'=>(∃ v,e=.returned v)/\J xs.length W':=by
 refine callsIn_of_wp Tryz.func247 rfl h8 ?_ hro
 simp only[Tryz.ntmps247,List.size_toArray,qY11,List.length_nil,Nat.reduceAdd,Nat.reduceSub,Array.replicate_succ,Array.replicate_zero,List.push_toArray,List.append_toArray,qY15,qY5]
 gi_wp2
 gi_loopw [3] (fun i wr=>∃ k:Nat,k<=xs.length/\i=.int .i64 ((xs.length:Int) - 1 - k)/\J k wr/\qNa Bs (ad.map (·.block)) W wr)
  (fun i _=>((RowKit.intOf i)+1).toNat)
 case atStart=>exact ⟨0,Nat.zero_le _,by simp,h0,⟨Nat.le_refl _,rfl,fun _ _=>rfl⟩⟩
 case round=>
  obtain ⟨k,hk,rfl,hJk,hnx⟩:=hrel
  by_cases hlt:k < xs.length
  ·have hz:=qRaf hlt
   obtain ⟨fn,tmps,assign,body,hy,hR⟩:=hY k _ wr hz hJk
   dsimp only[encI] at hy
   have hix:((xs.length - 1 - k:Nat):Int)=(xs.length:Int) - 1 - k:=by omega
   rw[hix] at hy
   have hBx:wr.cell? ⟨Bs,ob,none⟩=some (.slice ad xs.length cap):=by rw[<-hBs];simp only[World.cell?,hnx.2.1]
   obtain ⟨b,off,rfl,hcell⟩:=hcs (by intro e;rw[e] at hlt;simp at hlt)
   have hcx:wr.cell? ⟨b,off+(xs.length - 1 - k),none⟩=some (.int .i64 (xs[xs.length - 1 - k]'(by omega))):=by
    rw[<-hcell (xs.length - 1 - k) _ (qZ5 (by omega))]
    simp only[World.cell?,hnx.2.2 b rfl]
   gi_wp2
   refine hR.mono ?_
   rintro e W3 ⟨rfl,hJ3,hk3⟩
   gi_wp2
   go_roundw
   case rel=>exact ⟨k+1,by omega,by simp;omega,hJ3,⟨Nat.le_trans hnx.1 hk3.1,hk3.2.1.trans hnx.2.1,fun j hj=>(hk3.2.2 j hj).trans (hnx.2.2 j hj)⟩⟩
   case measure=>simp[RowKit.intOf];omega
  ·obtain rfl:k=xs.length:=by omega
   gi_wp2
   go_end0
   exact ⟨⟨_,rfl⟩,hJk⟩
theorem qTx:qJx Tryz.prog 247 .i64:=
 ⟨⟨_,Tryz.func247,by decide,rfl⟩,fun Bs ob ad cap xs W l J hlen hBs hcs hY h0=>(callsIn_wide (n:=0)).2 ((callsIn_wide (n:=1)).1 (qWp Fence.wide 1 trivial rfl (Nat.le_refl _) Bs ob ad cap xs W l J hlen hBs hcs hY h0))⟩
set_option maxHeartbeats 1000000 in
theorem qUu (F:Fence) (n:Nat) (h:F.fn 205) (hro:F.round=none) (v:Value) (w:World) (hv:v.oneCell'=true) :
 CallsIn F n Tryz.prog 205 #[v] w fun e w'=>e=.returned (.func (.func 260) #[] #[.pointer (some ⟨w.heap.size,0,none⟩)])/\∃ ty,w'=w.alloc (.cells #[v] ty):=by
 cases v<;>(try (simp[Value.oneCell'] at hv;done))
 all_goals refine callsIn_of_wp Tryz.func205 rfl h ?_ hro
 all_goals simp only[Tryz.ntmps205,List.size_toArray,qY11,List.length_nil,Nat.reduceAdd,Nat.reduceSub,Array.replicate_succ,Array.replicate_zero,List.push_toArray,List.append_toArray,qY15,qY5]
 all_goals gi_wp2
 all_goals go_ret
 all_goals exact ⟨rfl,_,rfl⟩
theorem qEp:qUV Tryz.prog 205 260:=by
 refine ⟨⟨_,Tryz.func205,by decide,rfl⟩,fun v w hv=>(callsIn_wide (n:=0)).1 (CallsIn.mono (qUu Fence.wide 0 trivial rfl v w hv) ?_)⟩
 rintro e w' ⟨rfl,ty,rfl⟩
 exact ⟨ty,rfl,Ext.alloc _ _,by simp,World.alloc_heap_new _ _⟩
set_option maxRecDepth 100000 in
set_option maxHeartbeats 2000000 in
theorem qIq (F:Fence) (n:Nat) (h8:F.fn 260) (hro:F.round=none) (hn:1<=n) (Bs ob:Nat) (ad:Option Addr) (cap:Nat) (xs:List Int) (W:World) (l:Nat) (J:Nat->World->Prop) (hlen:xs.length<=2 ^ 40) (hBs:W.cell? ⟨Bs,ob,none⟩=some (.slice ad xs.length cap))
 (hcs:xs≠[]->∃ b off,ad=some ⟨b,off,none⟩/\∀ (k:Nat) x,xs[k]?=some x->W.cell? ⟨b,off+k,none⟩=some (.int .u32 x))
 (hY:∀ (k:Nat) x W1,xs.zipIdx.reverse[k]?=some x->J k W1->YieldAt F (n - 1) Tryz.prog l (encI .u32 x) W1 fun e W'=>e=.returned (.bool true)/\J (k+1) W'/\qNa Bs (ad.map (·.block)) W1 W') (h0:J 0 W) :
 CallsIn F n Tryz.prog 260 #[.func (.yield l) #[] #[],.pointer (some ⟨Bs,ob,none⟩)] W fun e W'=>(∃ v,e=.returned v)/\J xs.length W':=by
 refine callsIn_of_wp Tryz.func260 rfl h8 ?_ hro
 simp only[Tryz.ntmps260,List.size_toArray,qY11,List.length_nil,Nat.reduceAdd,Nat.reduceSub,Array.replicate_succ,Array.replicate_zero,List.push_toArray,List.append_toArray,qY15,qY5]
 gi_wp2
 gi_loopw [3] (fun i wr=>∃ k:Nat,k<=xs.length/\i=.int .i64 ((xs.length:Int) - 1 - k)/\J k wr/\qNa Bs (ad.map (·.block)) W wr)
  (fun i _=>((RowKit.intOf i)+1).toNat)
 case atStart=>exact ⟨0,Nat.zero_le _,by simp,h0,⟨Nat.le_refl _,rfl,fun _ _=>rfl⟩⟩
 case round=>
  obtain ⟨k,hk,rfl,hJk,hnx⟩:=hrel
  by_cases hlt:k < xs.length
  ·have hz:=qRaf hlt
   obtain ⟨fn,tmps,assign,body,hy,hR⟩:=hY k _ wr hz hJk
   dsimp only[encI] at hy
   have hix:((xs.length - 1 - k:Nat):Int)=(xs.length:Int) - 1 - k:=by omega
   rw[hix] at hy
   have hBx:wr.cell? ⟨Bs,ob,none⟩=some (.slice ad xs.length cap):=by rw[<-hBs];simp only[World.cell?,hnx.2.1]
   obtain ⟨b,off,rfl,hcell⟩:=hcs (by intro e;rw[e] at hlt;simp at hlt)
   have hcx:wr.cell? ⟨b,off+(xs.length - 1 - k),none⟩=some (.int .u32 (xs[xs.length - 1 - k]'(by omega))):=by
    rw[<-hcell (xs.length - 1 - k) _ (qZ5 (by omega))]
    simp only[World.cell?,hnx.2.2 b rfl]
   gi_wp2
   refine hR.mono ?_
   rintro e W3 ⟨rfl,hJ3,hk3⟩
   gi_wp2
   go_roundw
   case rel=>exact ⟨k+1,by omega,by simp;omega,hJ3,⟨Nat.le_trans hnx.1 hk3.1,hk3.2.1.trans hnx.2.1,fun j hj=>(hk3.2.2 j hj).trans (hnx.2.2 j hj)⟩⟩
   case measure=>simp[RowKit.intOf];omega
  ·obtain rfl:k=xs.length:=by omega
   gi_wp2
   go_end0
   exact ⟨⟨_,rfl⟩,hJk⟩
theorem qCaa:qJx Tryz.prog 260 .u32:=
 ⟨⟨_,Tryz.func260,by decide,rfl⟩,fun Bs ob ad cap xs W l J hlen hBs hcs hY h0=>(callsIn_wide (n:=0)).2 ((callsIn_wide (n:=1)).1 (qIq Fence.wide 1 trivial rfl (Nat.le_refl _) Bs ob ad cap xs W l J hlen hBs hcs hY h0))⟩
end Go.AM
end
section
namespace Go.AM.Num
open Go.Proofs
set_option maxRecDepth 100000
noncomputable section
def tiL:List (Nat×TI):=[(9,⟨.str,1,16,some .str⟩),(3,⟨.int .i64,1,8,some (.int .i64)⟩),(24,⟨.struct [(0,3),(1,4),(2,9),(3,22),(4,22)],5,80,some qBE⟩),(4,⟨.bool,1,1,some .bool⟩),(22,⟨.slice 9,1,24,some (.sl .str)⟩),(54,⟨.struct [(0,3),(1,3),(2,9),(3,9),(4,3)],5,56,some qTG⟩),(31,⟨.slice 54,1,24,some (.sl qTG)⟩),(127,⟨.slice 198,1,24,some (.sl (.int .u32))⟩),(25,⟨.slice 3,1,24,some (.sl (.int .i64))⟩),(198,⟨.int .u32,1,4,some (.int .u32)⟩),(30,⟨.slice 24,1,24,some (.sl qBE)⟩),(129,⟨.struct [(0,4),(1,127),(2,127)],3,56,some gRt⟩),(144,⟨.struct [(0,4),(1,9),(2,9)],3,40,some qCl⟩),(120,⟨.slice 5,1,24,some (.sl (.int .u8))⟩),(5,⟨.int .u8,1,1,some (.int .u8)⟩),(67,⟨.slice 31,1,24,some (.sl (.sl qTG))⟩),(231,⟨.int .u64,1,8,some (.int .u64)⟩),(123,⟨.struct [(0,2),(1,2)],2,16,some gSml⟩),(63,⟨.slice 30,1,24,some (.sl (.sl qBE))⟩),(119,⟨.struct [(0,31),(1,117)],2,48,some qOa⟩),(2,⟨.int .i64,1,8,some (.int .i64)⟩),(65,⟨.struct [(0,9),(1,63),(2,30),(3,24)],8,144,some qEE⟩),(224,⟨.struct [(0,9),(1,25),(2,3)],3,48,some (.pair .str qTB)⟩),(150,⟨.struct [(0,148),(1,120)],2,32,some (.pair (.ptr .unit) (.sl (.int .u8)))⟩),(47,⟨.slice 50,1,24,some (.sl qQN)⟩),(50,⟨.struct [(0,9),(1,24)],6,96,some qQN⟩),(116,⟨.struct [(0,3),(1,3),(2,3)],3,24,some (.pair (.int .i64) gSml)⟩),(117,⟨.slice 116,1,24,some (.sl (.pair (.int .i64) gSml))⟩),(96,⟨.struct [(0,9),(1,3)],2,24,some gVr⟩),(45,⟨.slice 96,1,24,some (.sl gVr)⟩),(109,⟨.struct [(0,31),(1,3),(2,101),(3,104)],4,48,some gEvl⟩),(157,⟨.struct [(0,31),(1,47),(2,60)],3,72,some (.pair (.sl qTG) (.pair (.sl qQN) (.sl qEE)))⟩),(101,⟨.map 9 24,1,8,some (.map qBE)⟩),(104,⟨.map 9 65,1,8,some (.map qEE)⟩),(60,⟨.slice 65,1,24,some (.sl qEE)⟩),(93,⟨.struct [(0,25),(1,3)],2,32,some qTB⟩),(84,⟨.int .u64,1,8,some (.int .u64)⟩),(172,⟨.slice 224,1,24,some (.sl (.pair .str qTB))⟩),(112,⟨.pointer 119,1,8,some (.ptr qOa)⟩),(220,⟨.map 9 96,1,8,some (.map gVr)⟩),(221,⟨.map 9 224,1,8,some (.map (.pair .str qTB))⟩)]
theorem qMA:qBy Tryz.prog tiL:=
 (qPD (qOD Tryz.underlying9 Tryz.type9 rfl rfl rfl (fun g hg=>by cases hg;exact ⟨rfl,rfl,rfl⟩))
 (qPD (qOD Tryz.underlying3 Tryz.type3 rfl rfl rfl (fun g hg=>by cases hg;exact ⟨rfl,rfl,rfl⟩))
 (qPD (qOD Tryz.underlying24 Tryz.type24 rfl rfl rfl (fun g hg=>by cases hg;exact ⟨rfl,rfl,rfl⟩))
 (qPD (qOD Tryz.underlying4 Tryz.type4 rfl rfl rfl (fun g hg=>by cases hg;exact ⟨rfl,rfl,rfl⟩))
 (qPD (qOD Tryz.underlying22 Tryz.type22 rfl rfl rfl (fun g hg=>by cases hg;exact ⟨rfl,rfl,rfl⟩))
 (qPD (qOD Tryz.underlying54 Tryz.type54 rfl rfl rfl (fun g hg=>by cases hg;exact ⟨rfl,rfl,rfl⟩))
 (qPD (qOD Tryz.underlying31 Tryz.type31 rfl rfl rfl (fun g hg=>by cases hg;exact ⟨rfl,rfl,rfl⟩))
 (qPD (qOD Tryz.underlying127 Tryz.type127 rfl rfl rfl (fun g hg=>by cases hg;exact ⟨rfl,rfl,rfl⟩))
 (qPD (qOD Tryz.underlying25 Tryz.type25 rfl rfl rfl (fun g hg=>by cases hg;exact ⟨rfl,rfl,rfl⟩))
 (qPD (qOD Tryz.underlying198 Tryz.type198 rfl rfl rfl (fun g hg=>by cases hg;exact ⟨rfl,rfl,rfl⟩))
 (qPD (qOD Tryz.underlying30 Tryz.type30 rfl rfl rfl (fun g hg=>by cases hg;exact ⟨rfl,rfl,rfl⟩))
 (qPD (qOD Tryz.underlying129 Tryz.type129 rfl rfl rfl (fun g hg=>by cases hg;exact ⟨rfl,rfl,rfl⟩))
 (qPD (qOD Tryz.underlying144 Tryz.type144 rfl rfl rfl (fun g hg=>by cases hg;exact ⟨rfl,rfl,rfl⟩))
 (qPD (qOD Tryz.underlying120 Tryz.type120 rfl rfl rfl (fun g hg=>by cases hg;exact ⟨rfl,rfl,rfl⟩))
 (qPD (qOD Tryz.underlying5 Tryz.type5 rfl rfl rfl (fun g hg=>by cases hg;exact ⟨rfl,rfl,rfl⟩))
 (qPD (qOD Tryz.underlying67 Tryz.type67 rfl rfl rfl (fun g hg=>by cases hg;exact ⟨rfl,rfl,rfl⟩))
 (qPD (qOD Tryz.underlying231 Tryz.type231 rfl rfl rfl (fun g hg=>by cases hg;exact ⟨rfl,rfl,rfl⟩))
 (qPD (qOD Tryz.underlying123 Tryz.type123 rfl rfl rfl (fun g hg=>by cases hg;exact ⟨rfl,rfl,rfl⟩))
 (qPD (qOD Tryz.underlying63 Tryz.type63 rfl rfl rfl (fun g hg=>by cases hg;exact ⟨rfl,rfl,rfl⟩))
 (qPD (qOD Tryz.underlying119 Tryz.type119 rfl rfl rfl (fun g hg=>by cases hg;exact ⟨rfl,rfl,rfl⟩))
 (qPD (qOD Tryz.underlying2 Tryz.type2 rfl rfl rfl (fun g hg=>by cases hg;exact ⟨rfl,rfl,rfl⟩))
 (qPD (qOD Tryz.underlying65 Tryz.type65 rfl rfl rfl (fun g hg=>by cases hg;exact ⟨rfl,rfl,rfl⟩))
 (qPD (qOD Tryz.underlying224 Tryz.type224 rfl rfl rfl (fun g hg=>by cases hg;exact ⟨rfl,rfl,rfl⟩))
 (qPD (qOD Tryz.underlying150 Tryz.type150 rfl rfl rfl (fun g hg=>by cases hg;exact ⟨rfl,rfl,rfl⟩))
 (qPD (qOD Tryz.underlying47 Tryz.type47 rfl rfl rfl (fun g hg=>by cases hg;exact ⟨rfl,rfl,rfl⟩))
 (qPD (qOD Tryz.underlying50 Tryz.type50 rfl rfl rfl (fun g hg=>by cases hg;exact ⟨rfl,rfl,rfl⟩))
 (qPD (qOD Tryz.underlying116 Tryz.type116 rfl rfl rfl (fun g hg=>by cases hg;exact ⟨rfl,rfl,rfl⟩))
 (qPD (qOD Tryz.underlying117 Tryz.type117 rfl rfl rfl (fun g hg=>by cases hg;exact ⟨rfl,rfl,rfl⟩))
 (qPD (qOD Tryz.underlying96 Tryz.type96 rfl rfl rfl (fun g hg=>by cases hg;exact ⟨rfl,rfl,rfl⟩))
 (qPD (qOD Tryz.underlying45 Tryz.type45 rfl rfl rfl (fun g hg=>by cases hg;exact ⟨rfl,rfl,rfl⟩))
 (qPD (qOD Tryz.underlying109 Tryz.type109 rfl rfl rfl (fun g hg=>by cases hg;exact ⟨rfl,rfl,rfl⟩))
 (qPD (qOD Tryz.underlying157 Tryz.type157 rfl rfl rfl (fun g hg=>by cases hg;exact ⟨rfl,rfl,rfl⟩))
 (qPD (qOD Tryz.underlying101 Tryz.type101 rfl rfl rfl (fun g hg=>by cases hg;exact ⟨rfl,rfl,rfl⟩))
 (qPD (qOD Tryz.underlying104 Tryz.type104 rfl rfl rfl (fun g hg=>by cases hg;exact ⟨rfl,rfl,rfl⟩))
 (qPD (qOD Tryz.underlying60 Tryz.type60 rfl rfl rfl (fun g hg=>by cases hg;exact ⟨rfl,rfl,rfl⟩))
 (qPD (qOD Tryz.underlying93 Tryz.type93 rfl rfl rfl (fun g hg=>by cases hg;exact ⟨rfl,rfl,rfl⟩))
 (qPD (qOD Tryz.underlying84 Tryz.type84 rfl rfl rfl (fun g hg=>by cases hg;exact ⟨rfl,rfl,rfl⟩))
 (qPD (qOD Tryz.underlying172 Tryz.type172 rfl rfl rfl (fun g hg=>by cases hg;exact ⟨rfl,rfl,rfl⟩))
 (qPD (qOD Tryz.underlying112 Tryz.type112 rfl rfl rfl (fun g hg=>by cases hg;exact ⟨rfl,rfl,rfl⟩))
 (qPD (qOD Tryz.underlying220 Tryz.type220 rfl rfl rfl (fun g hg=>by cases hg;exact ⟨rfl,rfl,rfl⟩))
 (qPD (qOD Tryz.underlying221 Tryz.type221 rfl rfl rfl (fun g hg=>by cases hg;exact ⟨rfl,rfl,rfl⟩))
 qPav)))))))))))))))))))))))))))))))))))))))))
def l0:FL:=[(109,none,qFL),(119,none,qJL),(129,none,qBI),(130,none,qGI),(137,none,qKI),(145,none,qCL),(161,none,qSS),(162,none,qXL),(204,none,qVJ),(231,none,qAJ)]
theorem g0 {V:Env} (h0:Fs Tryz.prog V l0):Fs Tryz.prog V l0:=h0
def qCak:Callee:=⟨[.val (.int .i64)],[.val qBE,.val (.int .i64)],fun x=>qFan x.1⟩
def l1:FL:=(28,none,qCak)::l0
theorem g1 {V:Env} (h0:Fs Tryz.prog V l0):Fs Tryz.prog V l1:=
 have h:=g0 h0
 h.cons (gd [] [] [] h qMA qKA Tryz.func28 (by kernel_rfl) (fun _=>qLA) (fun x=>by kernel_rfl))
def qKz:Callee:=⟨[.val qBE],[.val .bool],fun x=>qHW x.1⟩
def l2:FL:=(62,none,qKz)::l1
theorem g2 {V:Env} (h0:Fs Tryz.prog V l0):Fs Tryz.prog V l2:=
 have h:=g1 h0
 h.cons (gd [] [] [] h qMA qKA Tryz.func62 (by kernel_rfl) (fun _=>qLA) (fun x=>by kernel_rfl))
def qWr:Callee:=⟨[.val .str],[.val .bool],fun x=>qGK x.1⟩
def l3:FL:=(110,none,qWr)::l2
theorem g3 {V:Env} (h0:Fs Tryz.prog V l0):Fs Tryz.prog V l3:=
 have h:=g2 h0
 h.cons (gd [.lp 2 ⟨30,[0,2,6,7,8],[.val .str,.val .bool,.val (.sl (.int .u8)),.val (.int .i64),.val (.int .i64)],[],[]⟩ [.exit 0,.ret] qPG] [] [] h qMA qKA Tryz.func110 (by kernel_rfl) (fun _=>(qMG (fun x=>by kernel_rfl) qLA)) (fun x=>by kernel_rfl))
def qXab:Callee:=⟨[.val .str],[.val .bool],fun x=>qJI x.1⟩
def l4:FL:=(63,none,qXab)::l3
theorem g4 {V:Env} (h0:Fs Tryz.prog V l0):Fs Tryz.prog V l4:=
 have h:=g3 h0
 h.cons (gd [] [] [] h qMA qKA Tryz.func63 (by kernel_rfl) (fun _=>qLA) (fun x=>by kernel_rfl))
def qWu:Callee:=⟨[.val (.int .i64),.val (.int .i64)],[.val (.int .i64)],fun x=>qTP x.1 x.2.1⟩
def l5:FL:=(144,none,qWu)::l4
theorem g5 {V:Env} (h0:Fs Tryz.prog V l0):Fs Tryz.prog V l5:=
 have h:=g4 h0
 h.cons (gd [.lp 1 ⟨12,[0,1],[.val (.int .i64),.val (.int .i64)],[],[]⟩ [.exit 0] qJO] [] [] h qMA qKA Tryz.func144 (by kernel_rfl) (fun _=>(qMG (fun x=>by kernel_rfl) qLA)) (fun x=>by kernel_rfl))
def qJt:Callee:=⟨[.val .str],[.val gSml,.val .bool],fun x=>qDC x.1⟩
def l6:FL:=(111,none,qJt)::l5
theorem g6 {V:Env} (h0:Fs Tryz.prog V l0):Fs Tryz.prog V l6:=
 have h:=g5 h0
 h.cons (gd [] [] [] h qMA qKA Tryz.func111 (by kernel_rfl) (fun _=>qLA) (fun x=>by kernel_rfl))
def qWo:Callee:=⟨[.val (.sl (.int .u32))],[.val (.sl (.int .u32))],fun x=>qLG x.1⟩
def l7:FL:=(203,none,qWo)::l6
theorem g7 {V:Env} (h0:Fs Tryz.prog V l0):Fs Tryz.prog V l7:=
 have h:=g6 h0
 h.cons (gd [.lp 2 ⟨21,[0,3],[.val (.sl (.int .u32)),.val (.int .i64)],[],[]⟩ [.exit 0] qHD] [] [] h qMA qKA Tryz.func203 (by kernel_rfl) (fun _=>(qMG (fun x=>by kernel_rfl) qLA)) (fun x=>by kernel_rfl))
def qAac:Callee:=⟨[.val .str],[.val (.sl (.int .u32))],fun x=>qNY x.1⟩
def l8:FL:=(163,none,qAac)::l7
theorem g8 {V:Env} (h0:Fs Tryz.prog V l0):Fs Tryz.prog V l8:=
 have h:=g7 h0
 h.cons (gd [.lp 7 ⟨39,[0,3,4,5,20,21,22],[.val .str,.row (.int .u32),.val (.int .i64),.val (.int .u32),.val (.sl (.int .u8)),.val (.int .i64),.val (.int .i64)],[],[]⟩ [.exit 2] qNP,.lp 3 ⟨39,[0,3,4],[.val .str,.own (.int .u32),.val (.int .i64)],[],[]⟩ [.exit 0] qJS] [] [] h qMA qKA Tryz.func163 (by kernel_rfl) (fun _=>(qMG (fun x=>by kernel_rfl) (qMG (fun x=>by kernel_rfl) qLA))) (fun x=>by kernel_rfl))
def qFs:Callee:=⟨[.val (.sl (.int .u32)),.val (.sl (.int .u32))],[.val (.int .i64)],fun x=>qQQ x.1 x.2.1⟩
def l9:FL:=(199,none,qFs)::l8
theorem g9 {V:Env} (h0:Fs Tryz.prog V l0):Fs Tryz.prog V l9:=
 have h:=g8 h0
 h.cons (gd [.lp 4 ⟨43,[0,1,4,5],[.val (.sl (.int .u32)),.val (.sl (.int .u32)),.val (.int .i64),.val (.int .i64)],[],[]⟩ [.exit 0,.ret] qIL] [] [] h qMA qKA Tryz.func199 (by kernel_rfl) (fun _=>(qMG (fun x=>by kernel_rfl) qLA)) (fun x=>by kernel_rfl))
def qAh:Callee:=⟨[.val (.sl (.int .u32)),.val (.int .u32)],[.val (.sl (.int .u32)),.val (.sl (.int .u32))],fun x=>qNJ x.1 x.2.1⟩
def l10:FL:=(257,none,qAh)::l9
theorem g10 {V:Env} (h0:Fs Tryz.prog V l0):Fs Tryz.prog V l10:=
 have h:=g9 h0
 h.cons (gd [.lp 4 ⟨46,[0,1,6,7,8],[.val (.sl (.int .u32)),.val (.int .u32),.row (.int .u32),.val (.int .u64),.val (.int .i64)],[],[]⟩ [.exit 0] qFI] [] [] h qMA qKA Tryz.func257 (by kernel_rfl) (fun _=>(qMG (fun x=>by kernel_rfl) qLA)) (fun x=>by kernel_rfl))
def qPi:Callee:=⟨[.row (.int .u32)],[.view 0],fun x=>qCR x.1⟩
theorem qNg {V:Env} (h0:Fs Tryz.prog V l0):Good V 203 qPi:=
 have h:=g10 h0
 gd [.lp 2 ⟨21,[0,3],[.row (.int .u32),.val (.int .i64)],[0],[]⟩ [.exit 0] qOM] [] [] h qMA qKA Tryz.func203 (by kernel_rfl) (fun _=>(qMG (fun x=>by kernel_rfl) qLA)) (fun x=>by kernel_rfl)
def qOm:Callee:=⟨[.val (.sl (.int .u32)),.val (.sl (.int .u32))],[.own (.int .u32)],fun x=>qAQ x.1 x.2.1⟩
theorem qAj {V:Env} (h0:Fs Tryz.prog V l0):Good V 147 qOm:=
 have h:=g10 h0
 gd [.lp 7 ⟨69,[1,5,6,7,8,18,19,20,25,26,27],[.val (.sl (.int .u32)),.row (.int .u32),.val (.int .i64),.val (.int .u32),.val (.int .u64),.val (.sl (.int .u32)),.val (.int .i64),.val (.int .i64),.val (.sl (.int .u32)),.val (.int .i64),.val (.int .i64)],[],[]⟩ [.exit 2] qMX,.lp 3 ⟨69,[1,5,18,19,20],[.val (.sl (.int .u32)),.row (.int .u32),.val (.sl (.int .u32)),.val (.int .i64),.val (.int .i64)],[],[]⟩ [.exit 0] qMR] [] [] (Fs.cons (s:=none) h (qNg h0)) qMA qKA Tryz.func147 (by kernel_rfl) (fun _=>(qMG (fun x=>by kernel_rfl) (qMG (fun x=>by kernel_rfl) qLA))) (fun x=>by kernel_rfl)
def qFo:Callee:=⟨[.row (.int .u32),.val (.sl (.int .u32)),.val (.int .u64)],[.val .bool],fun x=>qUR x.1 x.2.1 x.2.2.1⟩
def l11:FL:=(306,none,qFo)::l10
theorem g11 {V:Env} (h0:Fs Tryz.prog V l0):Fs Tryz.prog V l11:=
 have h:=g10 h0
 h.cons (gd [.lp 3 ⟨54,[0,1,2,7,8,12,13],[.row (.int .u32),.val (.sl (.int .u32)),.val (.int .u64),.val (.int .u64),.val (.int .i64),.val (.int .i64),.val (.int .i64)],[0],[]⟩ [.exit 0] qCF] [] [] h qMA qKA Tryz.func306 (by kernel_rfl) (fun _=>(qMG (fun x=>by kernel_rfl) qLA)) (fun x=>by kernel_rfl))
def qGab:Callee:=⟨[.val (.sl (.int .u32)),.val (.int .i64)],[.val (.int .u32)],fun x=>qET x.1 x.2.1⟩
def l12:FL:=(252,none,qGab)::l11
theorem g12 {V:Env} (h0:Fs Tryz.prog V l0):Fs Tryz.prog V l12:=
 have h:=g11 h0
 h.cons (gd [] [] [] h qMA qKA Tryz.func252 (by kernel_rfl) (fun _=>qLA) (fun x=>by kernel_rfl))
def qXr:Callee:=⟨[.row (.int .u32),.val (.sl (.int .u32))],[],fun x=>qAV x.1 x.2.1⟩
def l13:FL:=(307,none,qXr)::l12
theorem g13 {V:Env} (h0:Fs Tryz.prog V l0):Fs Tryz.prog V l13:=
 have h:=g12 h0
 h.cons (gd [.lp 2 ⟨30,[0,1,4,8,9],[.row (.int .u32),.val (.sl (.int .u32)),.val (.int .u32),.val (.int .i64),.val (.int .i64)],[0],[]⟩ [.exit 0] qPN] [] [] h qMA qKA Tryz.func307 (by kernel_rfl) (fun _=>(qMG (fun x=>by kernel_rfl) qLA)) (fun x=>by kernel_rfl))
def qKy:Callee:=⟨[.row (.int .u32),.val (.sl (.int .u32))],[.val (.int .u32)],fun x=>qKZ x.1 x.2.1⟩
def l14:FL:=(258,none,qKy)::l13
theorem g14 {V:Env} (h0:Fs Tryz.prog V l0):Fs Tryz.prog V l14:=
 have h:=g13 h0
 h.cons (gd [.lp 4 ⟨77,[0,1,5,7,8,9],[.row (.int .u32),.val (.sl (.int .u32)),.val (.int .i64),.val (.int .u64),.val (.int .u64),.val (.int .u64)],[0],[]⟩ [.exit 0] qAG] [] [] h qMA qKA Tryz.func258 (by kernel_rfl) (fun _=>(qMG (fun x=>by kernel_rfl) qLA)) (fun x=>by kernel_rfl))
def qMj:Callee:=⟨[.val (.sl (.int .u32)),.val (.sl (.int .u32))],[.val (.sl (.int .u32)),.val (.sl (.int .u32))],fun x=>qSI x.1 x.2.1⟩
def l15:FL:=(202,none,qMj)::l14
theorem g15 {V:Env} (h0:Fs Tryz.prog V l0):Fs Tryz.prog V l15:=
 have h:=g14 h0
 h.cons (gd [.lp 7 ⟨93,[0,6,7,8],[.val (.sl (.int .u32)),.val (.sl (.int .u32)),.row (.int .u32),.row (.int .u32)],[],[]⟩ [.exit 1] qCH,.lp 11 ⟨93,[6,7,8,9,10],[.val (.sl (.int .u32)),.row (.int .u32),.row (.int .u32),.row (.int .u32),.val (.int .i64)],[],[7]⟩ [.exit 3] qIG] [] [] (Fs.cons (s:=none) h (qAj h0)) qMA qKA Tryz.func202 (by kernel_rfl) (fun _=>(qMG (fun x=>by kernel_rfl) (qMG (fun x=>by kernel_rfl) qLA))) (fun x=>by kernel_rfl))
def qAap:Callee:=⟨[.val (.sl (.int .u32)),.val (.sl (.int .u32))],[.val (.sl (.int .u32))],fun x=>qCy x.1 x.2.1⟩
def l16:FL:=(164,none,qAap)::l15
theorem g16 {V:Env} (h0:Fs Tryz.prog V l0):Fs Tryz.prog V l16:=
 have h:=g15 h0
 h.cons (gd [.lp 1 ⟨19,[0,1],[.val (.sl (.int .u32)),.val (.sl (.int .u32))],[],[]⟩ [.exit 0] qDa] [] [] h qMA qKA Tryz.func164 (by kernel_rfl) (fun _=>(qMG (fun x=>by kernel_rfl) qLA)) (fun x=>by kernel_rfl))
def qGr:Callee:=⟨[.val (.sl (.int .u32))],[.val .bool],fun x=>qNK x.1⟩
def l17:FL:=(149,none,qGr)::l16
theorem g17 {V:Env} (h0:Fs Tryz.prog V l0):Fs Tryz.prog V l17:=
 have h:=g16 h0
 h.cons (gd [] [] [] h qMA qKA Tryz.func149 (by kernel_rfl) (fun _=>qLA) (fun x=>by kernel_rfl))
def qBak:Callee:=⟨[.val .str],[.val gRt,.val .bool],fun x=>qLH x.1⟩
def l18:FL:=(112,none,qBak)::l17
theorem g18 {V:Env} (h0:Fs Tryz.prog V l0):Fs Tryz.prog V l18:=
 have h:=g17 h0
 h.cons (gd [] [] [] h qMA qKA Tryz.func112 (by kernel_rfl) (fun _=>qLA) (fun x=>by kernel_rfl))
def qIad:Callee:=⟨[.val .str],[.val .bool],fun x=>qNR x.1⟩
def l19:FL:=(64,none,qIad)::l18
theorem g19 {V:Env} (h0:Fs Tryz.prog V l0):Fs Tryz.prog V l19:=
 have h:=g18 h0
 h.cons (gd [] [] [] h qMA qKA Tryz.func64 (by kernel_rfl) (fun _=>qLA) (fun x=>by kernel_rfl))
def qTal:Callee:=⟨[.val .str],[.val (.int .i64)],fun x=>qMb x.1⟩
def l20:FL:=(104,none,qTal)::l19
theorem g20 {V:Env} (h0:Fs Tryz.prog V l0):Fs Tryz.prog V l20:=
 have h:=g19 h0
 h.cons (gd [] [] [] h qMA qKA Tryz.func104 (by kernel_rfl) (fun _=>qLA) (fun x=>by kernel_rfl))
def qIar:Callee:=⟨[.val .str],[.val .str],fun x=>qKag x.1⟩
def l21:FL:=(151,none,qIar)::l20
theorem g21 {V:Env} (h0:Fs Tryz.prog V l0):Fs Tryz.prog V l21:=
 have h:=g20 h0
 h.cons (gd [] [] [] h qMA qKA Tryz.func151 (by kernel_rfl) (fun _=>qLA) (fun x=>by kernel_rfl))
def qFq:Callee:=⟨[.val (.int .i64),.val (.int .i64)],[.val .str],fun x=>qCN x.1 x.2.1⟩
def l22:FL:=(99,none,qFq)::l21
theorem g22 {V:Env} (h0:Fs Tryz.prog V l0):Fs Tryz.prog V l22:=
 have h:=g21 h0
 h.cons (gd [] [] [] h qMA qKA Tryz.func99 (by kernel_rfl) (fun _=>qLA) (fun x=>by kernel_rfl))
def qFah:Callee:=⟨[.val gSml,.val gSml],[.val .str],fun x=>qEh x.1 x.2.1⟩
def l23:FL:=(141,none,qFah)::l22
theorem g23 {V:Env} (h0:Fs Tryz.prog V l0):Fs Tryz.prog V l23:=
 have h:=g22 h0
 h.cons (gd [] [] [] h qMA qKA Tryz.func141 (by kernel_rfl) (fun _=>qLA) (fun x=>by kernel_rfl))
def qKs:Callee:=⟨[.val (.sl (.int .u32)),.val (.sl (.int .u32))],[.val (.sl (.int .u32))],fun x=>qWL x.1 x.2.1⟩
def l24:FL:=(147,none,qKs)::l23
theorem g24 {V:Env} (h0:Fs Tryz.prog V l0):Fs Tryz.prog V l24:=
 have h:=g23 h0
 h.cons (gd [.lp 7 ⟨69,[1,5,6,7,8,18,19,20,25,26,27],[.val (.sl (.int .u32)),.row (.int .u32),.val (.int .i64),.val (.int .u32),.val (.int .u64),.val (.sl (.int .u32)),.val (.int .i64),.val (.int .i64),.val (.sl (.int .u32)),.val (.int .i64),.val (.int .i64)],[],[]⟩ [.exit 2] qOL,.lp 3 ⟨69,[1,5,18,19,20],[.val (.sl (.int .u32)),.row (.int .u32),.val (.sl (.int .u32)),.val (.int .i64),.val (.int .i64)],[],[]⟩ [.exit 0] qDJ] [] [] h qMA qKA Tryz.func147 (by kernel_rfl) (fun _=>(qMG (fun x=>by kernel_rfl) (qMG (fun x=>by kernel_rfl) qLA))) (fun x=>by kernel_rfl))
def qSu:Callee:=⟨[.val (.sl (.int .u32)),.val (.sl (.int .u32))],[.val (.sl (.int .u32))],fun x=>qDS x.1 x.2.1⟩
def l25:FL:=(198,none,qSu)::l24
theorem g25 {V:Env} (h0:Fs Tryz.prog V l0):Fs Tryz.prog V l25:=
 have h:=g24 h0
 h.cons (gd [.lp 4 ⟨46,[0,1,5,6,20,21],[.val (.sl (.int .u32)),.val (.sl (.int .u32)),.row (.int .u32),.val (.int .u32),.val (.int .i64),.val (.int .i64)],[],[]⟩ [.exit 0] qIO] [] [] h qMA qKA Tryz.func198 (by kernel_rfl) (fun _=>(qMG (fun x=>by kernel_rfl) qLA)) (fun x=>by kernel_rfl))
def qUz:Callee:=⟨[.val .bool,.val (.sl (.int .u32)),.val (.sl (.int .u32))],[.val gRt],fun x=>qJR x.1 x.2.1 x.2.2.1⟩
def l26:FL:=(146,none,qUz)::l25
theorem g26 {V:Env} (h0:Fs Tryz.prog V l0):Fs Tryz.prog V l26:=
 have h:=g25 h0
 h.cons (gd [] [] [] h qMA qKA Tryz.func146 (by kernel_rfl) (fun _=>qLA) (fun x=>by kernel_rfl))
def qIu:Callee:=⟨[.val (.sl (.int .u32)),.val (.sl (.int .u32))],[.val (.sl (.int .u32))],fun x=>qCQ x.1 x.2.1⟩
def l27:FL:=(200,none,qIu)::l26
theorem g27 {V:Env} (h0:Fs Tryz.prog V l0):Fs Tryz.prog V l27:=
 have h:=g26 h0
 h.cons (gd [.lp 4 ⟨41,[0,1,5,6,13,14],[.val (.sl (.int .u32)),.val (.sl (.int .u32)),.row (.int .u32),.val (.int .i64),.val (.int .i64),.val (.int .i64)],[],[]⟩ [.exit 0] qNL] [] [] h qMA qKA Tryz.func200 (by kernel_rfl) (fun _=>(qMG (fun x=>by kernel_rfl) qLA)) (fun x=>by kernel_rfl))
def qEs:Callee:=⟨[.val gRt,.val gRt],[.val gRt],fun x=>qXZ x.1 x.2.1⟩
def l28:FL:=(143,none,qEs)::l27
theorem g28 {V:Env} (h0:Fs Tryz.prog V l0):Fs Tryz.prog V l28:=
 have h:=g27 h0
 h.cons (gd [] [] [] h qMA qKA Tryz.func143 (by kernel_rfl) (fun _=>qLA) (fun x=>by kernel_rfl))
def qTO:Callee:=⟨[.box (.pair .slf (.own (.int .u8))),.val .str],[.val (.int .i64),.val .err],fun x=>qQA x.1 x.2.1⟩
def l29:FL:=(169,none,qTO)::l28
theorem g29 {V:Env} (h0:Fs Tryz.prog V l0):Fs Tryz.prog V l29:=
 have h:=g28 h0
 h.cons (gd [] [] [] h qMA qKA Tryz.func169 (by kernel_rfl) (fun _=>qLA) (fun x=>by kernel_rfl))
def qXU:Ann:=⟨37,[3],[.box (.pair .slf (.own (.int .u8)))],[0],[]⟩
def qEo:Callee:=⟨[.val (.sl (.int .u32))],[.val .str],fun x=>qWM x.1⟩
def l30:FL:=(148,none,qEo)::l29
theorem g30 {V:Env} (h0:Fs Tryz.prog V l0):Fs Tryz.prog V l30:=
 have h:=g29 h0
 h.cons (gd [.raw 6 (qNp qXU 260 .u32 (.tmp 24) (fun v i y=>(qSJ v i y).bind fun o=>some (qBM y o)) qUM)] [] [] h qMA (qYam qEp qKA) Tryz.func148 (by kernel_rfl) (fun hE=>(qUas (qEau (A:=qXU) (merge:=qBM) (outs:=qUM) (t1:=25) (t2:=26) (s:=26) (d:=5) (round:=qSJ) hE (h.prog ▸ qCaa) (show pick 6 (qIC (fb Tryz.f148))=bb (sr (sl (sr (sr (sr (sr (fb Tryz.f148))))))) from by kernel_rfl) rfl rfl rfl (fun v i y=>by kernel_rfl) (fun y o=>by kernel_rfl) (fun y=>by kernel_rfl) (fun y=>by kernel_rfl) rfl (fun y=>by kernel_rfl)) qLA)) (fun x=>by kernel_rfl))
def qRp:Callee:=⟨[.val gRt],[.val .str],fun x=>qGL x.1⟩
def l31:FL:=(102,none,qRp)::l30
theorem g31 {V:Env} (h0:Fs Tryz.prog V l0):Fs Tryz.prog V l31:=
 have h:=g30 h0
 h.cons (gd [] [] [] h qMA qKA Tryz.func102 (by kernel_rfl) (fun _=>qLA) (fun x=>by kernel_rfl))
def qEad:Callee:=⟨[.val gRt,.val gRt],[.val .str],fun x=>qNf x.1 x.2.1⟩
def l32:FL:=(142,none,qEad)::l31
theorem g32 {V:Env} (h0:Fs Tryz.prog V l0):Fs Tryz.prog V l32:=
 have h:=g31 h0
 h.cons (gd [] [] [] h qMA qKA Tryz.func142 (by kernel_rfl) (fun _=>qLA) (fun x=>by kernel_rfl))
def qIT:Callee:=⟨[.val .str,.val .str,.val (.fnv 141 .unit),.val (.fnv 142 .unit)],[.val .str],fun x=>qRD x.1 x.2.1 x.2.2.1 x.2.2.2.1⟩
def l33:FL:=(97,some 141,qIT)::l32
theorem g33 {V:Env} (h0:Fs Tryz.prog V l0):Fs Tryz.prog V l33:=
 have h:=g32 h0
 h.cons (gd [] [] [] h qMA qKA Tryz.func97 (by kernel_rfl) (fun _=>qLA) (fun x=>by kernel_rfl))
def qPap:Callee:=⟨[.val .str,.val .str],[.val .str],fun x=>qNy x.1 x.2.1⟩
def l34:FL:=(96,none,qPap)::l33
theorem g34 {V:Env} (h0:Fs Tryz.prog V l0):Fs Tryz.prog V l34:=
 have h:=g33 h0
 h.cons (gd [] [] [] h qMA qKA Tryz.func96 (by kernel_rfl) (fun _=>qLA) (fun x=>by kernel_rfl))
def qTaq:Callee:=⟨[.val .str,.val .str],[.val .str],fun x=>qLag x.1 x.2.1⟩
def l35:FL:=(105,none,qTaq)::l34
theorem g35 {V:Env} (h0:Fs Tryz.prog V l0):Fs Tryz.prog V l35:=
 have h:=g34 h0
 h.cons (gd [] [] [] h qMA qKA Tryz.func105 (by kernel_rfl) (fun _=>qLA) (fun x=>by kernel_rfl))
def qXan:Callee:=⟨[.val .str,.val .str],[.val (.int .i64)],fun x=>qSW x.1 x.2.1⟩
def l36:FL:=(55,none,qXan)::l35
theorem g36 {V:Env} (h0:Fs Tryz.prog V l0):Fs Tryz.prog V l36:=
 have h:=g35 h0
 h.cons (gd [] [] [] h qMA qKA Tryz.func55 (by kernel_rfl) (fun _=>qLA) (fun x=>by kernel_rfl))
def qSp:Callee:=⟨[.val qBE],[.val .bool],fun x=>qXV x.1⟩
def l37:FL:=(65,none,qSp)::l36
theorem g37 {V:Env} (h0:Fs Tryz.prog V l0):Fs Tryz.prog V l37:=
 have h:=g36 h0
 h.cons (gd [.lp 4 ⟨58,[1,2,13,14,15],[.box (.dat qBE),.val .bool,.val (.sl .str),.val (.int .i64),.val (.int .i64)],[],[]⟩ [.exit 0,.ret] qIM] [] [] h qMA qKA Tryz.func65 (by kernel_rfl) (fun _=>(qMG (fun x=>by kernel_rfl) qLA)) (fun x=>by kernel_rfl))
def qJae:Callee:=⟨[.val qBE],[.val .bool],fun x=>qRV x.1⟩
def l38:FL:=(21,none,qJae)::l37
theorem g38 {V:Env} (h0:Fs Tryz.prog V l0):Fs Tryz.prog V l38:=
 have h:=g37 h0
 h.cons (gd [] [] [] h qMA qKA Tryz.func21 (by kernel_rfl) (fun _=>qLA) (fun x=>by kernel_rfl))
def qYad:Callee:=⟨[.val qBE],[.val .bool],fun x=>qTab x.1⟩
def l39:FL:=(88,none,qYad)::l38
theorem g39 {V:Env} (h0:Fs Tryz.prog V l0):Fs Tryz.prog V l39:=
 have h:=g38 h0
 h.cons (gd [] [] [] h qMA qKA Tryz.func88 (by kernel_rfl) (fun _=>qLA) (fun x=>by kernel_rfl))
def qCai:Callee:=⟨[.val qBE],[.obj (.pair (.dat (.int .i64)) (.pair (.dat .bool) (.pair (.dat .str) (.pair (.own .str) (.own .str)))))],fun x=>qOc x.1⟩
def l40:FL:=(94,none,qCai)::l39
theorem g40 {V:Env} (h0:Fs Tryz.prog V l0):Fs Tryz.prog V l40:=
 have h:=g39 h0
 h.cons (gd [] [] [(1,[1],[4,8,100009,100010])] h qMA qKA Tryz.func94 (by kernel_rfl) (fun _=>qLA) (fun x=>by kernel_rfl))
def qVF:Callee:=⟨[.val (.sl .str),.val .str,.val (.fnv 55 .unit)],[.val (.int .i64),.val .bool],fun x=>qTA x.1 x.2.1 x.2.2.1⟩
def l41:FL:=(180,some 55,qVF)::l40
theorem g41 {V:Env} (h0:Fs Tryz.prog V l0):Fs Tryz.prog V l41:=
 have h:=g40 h0
 h.cons (gd [.lp 3 ⟨49,[0,1,2,8,9,10],[.val (.sl .str),.val .str,.val (.fnv 55 .unit),.val (.int .i64),.val (.int .i64),.val (.int .i64)],[],[]⟩ [.exit 0] qNA] [] [] h qMA qKA Tryz.func180 (by kernel_rfl) (fun _=>(qMG (fun x=>by kernel_rfl) qLA)) (fun x=>by kernel_rfl))
def qIae:Callee:=⟨[.val qBE,.val .str],[.val (.int .i64),.val .bool],fun x=>qEc x.1 x.2.1⟩
def l42:FL:=(128,none,qIae)::l41
theorem g42 {V:Env} (h0:Fs Tryz.prog V l0):Fs Tryz.prog V l42:=
 have h:=g41 h0
 h.cons (gd [] [] [] h qMA qKA Tryz.func128 (by kernel_rfl) (fun _=>qLA) (fun x=>by kernel_rfl))
def qAad:Callee:=⟨[.val qBE,.val .str,.val .str],[.val qBE],fun x=>qMc x.1 x.2.1 x.2.2.1⟩
def l43:FL:=(89,none,qAad)::l42
theorem g43 {V:Env} (h0:Fs Tryz.prog V l0):Fs Tryz.prog V l43:=
 have h:=g42 h0
 h.cons (gd [] [] [(4,[3],[26,36,100037,100038]),(8,[3],[52,55,62,100063,100064])] h qMA qKA Tryz.func89 (by kernel_rfl) (fun _=>qLA) (fun x=>by kernel_rfl))
def qGag:Callee:=⟨[.val qBE,.val .str,.val .str],[.val qBE,.val (.int .i64)],fun x=>qCu x.1 x.2.1 x.2.2.1⟩
def l44:FL:=(44,none,qGag)::l43
theorem g44 {V:Env} (h0:Fs Tryz.prog V l0):Fs Tryz.prog V l44:=
 have h:=g43 h0
 h.cons (gd [] [] [] h qMA qKA Tryz.func44 (by kernel_rfl) (fun _=>qLA) (fun x=>by kernel_rfl))
def qTai:Callee:=⟨[.val (.int .i64),.val .str],[.val (.sl qTG)],fun x=>qXO x.1 x.2.1⟩
def l45:FL:=(37,none,qTai)::l44
theorem g45 {V:Env} (h0:Fs Tryz.prog V l0):Fs Tryz.prog V l45:=
 have h:=g44 h0
 h.cons (gd [] [] [] h qMA qKA Tryz.func37 (by kernel_rfl) (fun _=>qLA) (fun x=>by kernel_rfl))
def qPaj:Callee:=⟨[.val qTG,.val (.sl (.sl qTG))],[.val (.sl qTG)],fun x=>qFd x.1 x.2.1⟩
def l46:FL:=(36,none,qPaj)::l45
theorem g46 {V:Env} (h0:Fs Tryz.prog V l0):Fs Tryz.prog V l46:=
 have h:=g45 h0
 h.cons (gd [.lp 4 ⟨25,[1,5,6],[.val (.sl (.sl qTG)),.row qTG,.val (.int .i64)],[],[]⟩ [.exit 0] qRU] [11] [] h qMA qKA Tryz.func36 (by kernel_rfl) (fun _=>(qMG (fun x=>by kernel_rfl) qLA)) (fun x=>by kernel_rfl))
def qQo:Callee:=⟨[.val (.sl qQN)],[.val (.map qBE),.val .bool],fun x=>qIS x.1⟩
def l47:FL:=(91,none,qQo)::l46
theorem g47 {V:Env} (h0:Fs Tryz.prog V l0):Fs Tryz.prog V l47:=
 have h:=g46 h0
 h.cons (gd [.lp 3 ⟨36,[2,3,4,10,11,12],[.val (.map qBE),.val .bool,.mp qBE,.val (.sl qQN),.val (.int .i64),.val (.int .i64)],[],[]⟩ [.exit 0,.ret] qRG] [] [] h qMA qKA Tryz.func91 (by kernel_rfl) (fun _=>(qMG (fun x=>by kernel_rfl) qLA)) (fun x=>by kernel_rfl))
def qEj:Callee:=⟨[.val qBE],[.val .bool],fun x=>qOd x.1⟩
def l48:FL:=(184,none,qEj)::l47
theorem g48 {V:Env} (h0:Fs Tryz.prog V l0):Fs Tryz.prog V l48:=
 have h:=g47 h0
 h.cons (gd [] [] [] h qMA qKA Tryz.func184 (by kernel_rfl) (fun _=>qLA) (fun x=>by kernel_rfl))
def qTH:Callee:=⟨[.val (.sl qBE),.val (.fnv 184 .unit)],[.val (.int .i64)],fun x=>qSE x.1 x.2.1⟩
def l49:FL:=(242,some 184,qTH)::l48
theorem g49 {V:Env} (h0:Fs Tryz.prog V l0):Fs Tryz.prog V l49:=
 have h:=g48 h0
 h.cons (gd [.lp 2 ⟨19,[0,1,4,7,8],[.val (.sl qBE),.val (.fnv 184 .unit),.val (.int .i64),.val (.int .i64),.val (.int .i64)],[],[]⟩ [.exit 0,.ret] qXD] [] [] h qMA qKA Tryz.func242 (by kernel_rfl) (fun _=>(qMG (fun x=>by kernel_rfl) qLA)) (fun x=>by kernel_rfl))
def qWG:Callee:=⟨[.val (.sl qBE),.val (.fnv 184 .unit)],[.val .bool],fun x=>qAE x.1 x.2.1⟩
def l50:FL:=(183,some 184,qWG)::l49
theorem g50 {V:Env} (h0:Fs Tryz.prog V l0):Fs Tryz.prog V l50:=
 have h:=g49 h0
 h.cons (gd [] [] [] h qMA qKA Tryz.func183 (by kernel_rfl) (fun _=>qLA) (fun x=>by kernel_rfl))
def qAp:Callee:=⟨[.val (.sl qBE)],[.val .bool],fun x=>qBc x.1⟩
def l51:FL:=(131,none,qAp)::l50
theorem g51 {V:Env} (h0:Fs Tryz.prog V l0):Fs Tryz.prog V l51:=
 have h:=g50 h0
 h.cons (gd [] [] [] h qMA qKA Tryz.func131 (by kernel_rfl) (fun _=>qLA) (fun x=>by kernel_rfl))
def qWi:Callee:=⟨[.val (.sl qBE)],[.val .bool],fun x=>qNd x.1⟩
def l52:FL:=(133,none,qWi)::l51
theorem g52 {V:Env} (h0:Fs Tryz.prog V l0):Fs Tryz.prog V l52:=
 have h:=g51 h0
 h.cons (gd [] [] [] h qMA qKA Tryz.func133 (by kernel_rfl) (fun _=>qLA) (fun x=>by kernel_rfl))
def qUH:Callee:=⟨[.val (.sl (.sl qBE)),.val (.fnv 133 .unit)],[.val (.int .i64)],fun x=>qRE x.1 x.2.1⟩
def l53:FL:=(185,some 133,qUH)::l52
theorem g53 {V:Env} (h0:Fs Tryz.prog V l0):Fs Tryz.prog V l53:=
 have h:=g52 h0
 h.cons (gd [.lp 2 ⟨19,[0,1,4,7,8],[.val (.sl (.sl qBE)),.val (.fnv 133 .unit),.val (.int .i64),.val (.int .i64),.val (.int .i64)],[],[]⟩ [.exit 0,.ret] qWD] [] [] h qMA qKA Tryz.func185 (by kernel_rfl) (fun _=>(qMG (fun x=>by kernel_rfl) qLA)) (fun x=>by kernel_rfl))
def qXG:Callee:=⟨[.val (.sl (.sl qBE)),.val (.fnv 133 .unit)],[.val .bool],fun x=>qVD x.1 x.2.1⟩
def l54:FL:=(132,some 133,qXG)::l53
theorem g54 {V:Env} (h0:Fs Tryz.prog V l0):Fs Tryz.prog V l54:=
 have h:=g53 h0
 h.cons (gd [] [] [] h qMA qKA Tryz.func132 (by kernel_rfl) (fun _=>qLA) (fun x=>by kernel_rfl))
def qNo:Callee:=⟨[.val (.sl qEE)],[.val (.map qEE),.val .bool],fun x=>qDc x.1⟩
def l55:FL:=(92,none,qNo)::l54
theorem g55 {V:Env} (h0:Fs Tryz.prog V l0):Fs Tryz.prog V l55:=
 have h:=g54 h0
 h.cons (gd [.lp 3 ⟨53,[2,3,4,10,11,12],[.val (.map qEE),.val .bool,.mp qEE,.val (.sl qEE),.val (.int .i64),.val (.int .i64)],[],[]⟩ [.exit 0,.ret] qFZ] [] [] h qMA qKA Tryz.func92 (by kernel_rfl) (fun _=>(qMG (fun x=>by kernel_rfl) qLA)) (fun x=>by kernel_rfl))
def qIp:Callee:=⟨[.val (.int .i64),.val .str],[.val .bool],fun x=>qOW x.1 x.2.1⟩
def l56:FL:=(244,none,qIp)::l55
theorem g56 {V:Env} (h0:Fs Tryz.prog V l0):Fs Tryz.prog V l56:=
 have h:=g55 h0
 h.cons (gd [] [] [] h qMA qKA Tryz.func244 (by kernel_rfl) (fun _=>qLA) (fun x=>by kernel_rfl))
def qXx:Callee:=⟨[.val (.int .i64)],[.val .bool],fun x=>qNZ x.1⟩
def l57:FL:=(245,none,qXx)::l56
theorem g57 {V:Env} (h0:Fs Tryz.prog V l0):Fs Tryz.prog V l57:=
 have h:=g56 h0
 h.cons (gd [] [] [] h qMA qKA Tryz.func245 (by kernel_rfl) (fun _=>qLA) (fun x=>by kernel_rfl))
def qNaa:Callee:=⟨[.val (.int .u8)],[.val .bool],fun x=>qQY x.1⟩
def l58:FL:=(297,none,qNaa)::l57
theorem g58 {V:Env} (h0:Fs Tryz.prog V l0):Fs Tryz.prog V l58:=
 have h:=g57 h0
 h.cons (gd [] [] [] h qMA qKA Tryz.func297 (by kernel_rfl) (fun _=>qLA) (fun x=>by kernel_rfl))
def qOai:Callee:=⟨[.val .str],[.val .bool],fun x=>qBag x.1⟩
def l59:FL:=(298,none,qOai)::l58
theorem g59 {V:Env} (h0:Fs Tryz.prog V l0):Fs Tryz.prog V l59:=
 have h:=g58 h0
 h.cons (gd [] [] [] h qMA qKA Tryz.func298 (by kernel_rfl) (fun _=>qLA) (fun x=>by kernel_rfl))
def qFy:Callee:=⟨[.val .str],[.val .bool],fun x=>qCa x.1⟩
def l60:FL:=(246,none,qFy)::l59
theorem g60 {V:Env} (h0:Fs Tryz.prog V l0):Fs Tryz.prog V l60:=
 have h:=g59 h0
 h.cons (gd [.lp 4 ⟨51,[0,2,23,24],[.val .str,.val .bool,.val (.int .i64),.val (.int .i64)],[],[]⟩ [.exit 0,.ret] qEQ] [] [] h qMA qKA Tryz.func246 (by kernel_rfl) (fun _=>(qMG (fun x=>by kernel_rfl) qLA)) (fun x=>by kernel_rfl))
def qSy:Callee:=⟨[.val qTG],[.val .bool],fun x=>qAf x.1⟩
def l61:FL:=(192,none,qSy)::l60
theorem g61 {V:Env} (h0:Fs Tryz.prog V l0):Fs Tryz.prog V l61:=
 have h:=g60 h0
 h.cons (gd [] [] [] h qMA qKA Tryz.func192 (by kernel_rfl) (fun _=>qLA) (fun x=>by kernel_rfl))
def qSad:Callee:=⟨[.val (.int .i64),.val (.int .i64)],[.val .bool],fun x=>qHg x.1 x.2.1⟩
def l62:FL:=(193,none,qSad)::l61
theorem g62 {V:Env} (h0:Fs Tryz.prog V l0):Fs Tryz.prog V l62:=
 have h:=g61 h0
 h.cons (gd [] [] [] h qMA qKA Tryz.func193 (by kernel_rfl) (fun _=>qLA) (fun x=>by kernel_rfl))
def qHag:Callee:=⟨[.val (.int .i64),.val (.ptr (.int .i64))],[.val .bool],fun x=>qPt x.1 x.2.1⟩
def l63:FL:=(300,none,qHag)::l62
theorem g63 {V:Env} (h0:Fs Tryz.prog V l0):Fs Tryz.prog V l63:=
 have h:=g62 h0
 h.cons (gd [] [] [] h qMA qKA Tryz.func300 (by kernel_rfl) (fun _=>qLA) (fun x=>by kernel_rfl))
def qQL:Callee:=⟨[.val (.sl (.int .i64)),.val (.fnv 300 (.ptr (.int .i64)))],[.val (.int .i64)],fun x=>qOE x.1 x.2.1⟩
def l64:FL:=(337,some 300,qQL)::l63
theorem g64 {V:Env} (h0:Fs Tryz.prog V l0):Fs Tryz.prog V l64:=
 have h:=g63 h0
 h.cons (gd [.lp 2 ⟨19,[0,1,4,7,8],[.val (.sl (.int .i64)),.val (.fnv 300 (.ptr (.int .i64))),.val (.int .i64),.val (.int .i64),.val (.int .i64)],[],[]⟩ [.exit 0,.ret] qOB] [] [] h qMA qKA Tryz.func337 (by kernel_rfl) (fun _=>(qMG (fun x=>by kernel_rfl) qLA)) (fun x=>by kernel_rfl))
def qXJ:Callee:=⟨[.val (.sl (.int .i64)),.val (.fnv 300 (.ptr (.int .i64)))],[.val .bool],fun x=>qJD x.1 x.2.1⟩
def l65:FL:=(299,some 300,qXJ)::l64
theorem g65 {V:Env} (h0:Fs Tryz.prog V l0):Fs Tryz.prog V l65:=
 have h:=g64 h0
 h.cons (gd [] [] [] h qMA qKA Tryz.func299 (by kernel_rfl) (fun _=>qLA) (fun x=>by kernel_rfl))
def qTar:Callee:=⟨[.val (.sl (.int .i64)),.val (.int .i64)],[.val .bool],fun x=>qVa x.1 x.2.1⟩
def l66:FL:=(249,none,qTar)::l65
theorem g66 {V:Env} (h0:Fs Tryz.prog V l0):Fs Tryz.prog V l66:=
 have h:=g65 h0
 h.cons (gd [] [] [] h qMA qKA Tryz.func249 (by kernel_rfl) (fun _=>qLA) (fun x=>by kernel_rfl))
def qJal:Callee:=⟨[.val .bool,.val (.int .i64)],[.val (.int .i64)],fun x=>qMH x.1 x.2.1⟩
def l67:FL:=(248,none,qJal)::l66
theorem g67 {V:Env} (h0:Fs Tryz.prog V l0):Fs Tryz.prog V l67:=
 have h:=g66 h0
 h.cons (gd [] [] [] h qMA qKA Tryz.func248 (by kernel_rfl) (fun _=>qLA) (fun x=>by kernel_rfl))
def qOr:Callee:=⟨[.val (.int .i64)],[.val .bool],fun x=>qXP x.1⟩
def l68:FL:=(250,none,qOr)::l67
theorem g68 {V:Env} (h0:Fs Tryz.prog V l0):Fs Tryz.prog V l68:=
 have h:=g67 h0
 h.cons (gd [] [] [] h qMA qKA Tryz.func250 (by kernel_rfl) (fun _=>qLA) (fun x=>by kernel_rfl))
def qXaa:Callee:=⟨[.val qTG,.val (.sl (.int .i64))],[.val (.int .i64)],fun x=>qMe x.1 x.2.1⟩
def l69:FL:=(195,none,qXaa)::l68
theorem g69 {V:Env} (h0:Fs Tryz.prog V l0):Fs Tryz.prog V l69:=
 have h:=g68 h0
 h.cons (gd [] [] [] h qMA qKA Tryz.func195 (by kernel_rfl) (fun _=>qLA) (fun x=>by kernel_rfl))
def qSd:Ann:=⟨142,[4,9,10],[.box (.box (.pair (.dat (.sl qTG)) (.own (.pair (.int .i64) gSml)))),.box (.dat (.pair (.int .i64) gSml)),.box (.own (.int .i64))],[0,1,2],[]⟩
def qVal:Callee:=⟨[.val (.sl qTG)],[.val (.ptr qOa),.val .bool],fun x=>qTv x.1⟩
def l70:FL:=(138,none,qVal)::l69
theorem g70 {V:Env} (h0:Fs Tryz.prog V l0):Fs Tryz.prog V l70:=
 have h:=g69 h0
 h.cons (gd [.raw 13 (qNp qSd 247 .i64 (.tmp 64) (fun v i y=>(qRP v i y).bind fun o=>some (qKL y o)) qGR),.lp 4 ⟨142,[0,2,3,4,5,6],[.val (.sl qTG),.val (.ptr qOa),.val .bool,.box (.box (.pair (.dat (.sl qTG)) (.own (.pair (.int .i64) gSml)))),.own (.int .i64),.val (.int .i64)],[],[]⟩ [.exit 0,.ret] qFO] [] [] h qMA (qYam qMp qKA) Tryz.func138 (by kernel_rfl) (fun hE=>(qUas (qEau (A:=qSd) (merge:=qKL) (outs:=qGR) (t1:=65) (t2:=66) (s:=66) (d:=12) (round:=qRP) hE (h.prog ▸ qTx) (show pick 13 (qIC (fb Tryz.f138))=bb (sr (sl (sr (sr (sr (sr (sr (bb (sl (sr (lb (bb (sr (sl (sr (sr (sr (fb Tryz.f138)))))))))))))))))) from by kernel_rfl) rfl rfl rfl (fun v i y=>by kernel_rfl) (fun y o=>by kernel_rfl) (fun y=>by kernel_rfl) (fun y=>by kernel_rfl) rfl (fun y=>by kernel_rfl)) (qMG (fun x=>by kernel_rfl) qLA))) (fun x=>by kernel_rfl))
def qUi:Callee:=⟨[.val (.ptr qOa)],[.val .bool],fun x=>qXQ x.1⟩
def l71:FL:=(139,none,qUi)::l70
theorem g71 {V:Env} (h0:Fs Tryz.prog V l0):Fs Tryz.prog V l71:=
 have h:=g70 h0
 h.cons (gd [] [] [] h qMA qKA Tryz.func139 (by kernel_rfl) (fun _=>qLA) (fun x=>by kernel_rfl))
def qGn:Callee:=⟨[.val (.ptr qOa),.val (.int .i64)],[.val (.sl (.int .i64))],fun x=>qJQ x.1 x.2.1⟩
def l72:FL:=(172,none,qGn)::l71
theorem g72 {V:Env} (h0:Fs Tryz.prog V l0):Fs Tryz.prog V l72:=
 have h:=g71 h0
 h.cons (gd [.lp 4 ⟨33,[0,5,6,16,17],[.val (.ptr qOa),.own (.int .i64),.val (.int .i64),.val (.int .i64),.val (.int .i64)],[],[]⟩ [.exit 0] qQK] [] [] h qMA qKA Tryz.func172 (by kernel_rfl) (fun _=>(qMG (fun x=>by kernel_rfl) qLA)) (fun x=>by kernel_rfl))
def qUY:Callee:=⟨[.val (.ptr qOa),.val (.int .i64)],[.val (.pair .str qTB)],fun x=>qRK x.1 x.2.1⟩
def l73:FL:=(196,none,qUY)::l72
theorem g73 {V:Env} (h0:Fs Tryz.prog V l0):Fs Tryz.prog V l73:=
 have h:=g72 h0
 h.cons (gd [.lp 3 ⟨48,[0,4,5,27,28,29],[.val (.ptr qOa),.box (.dat (.pair .str qTB)),.box (.pair (.dat .str) (.pair (.own (.int .i64)) (.dat (.int .i64)))),.val (.sl (.int .i64)),.val (.int .i64),.val (.int .i64)],[],[]⟩ [.exit 0] t_view_signature_s3] [] [(1,[0,11,19],[100005])] h qMA qKA Tryz.func196 (by kernel_rfl) (fun _=>(qMG (fun x=>by kernel_rfl) qLA)) (fun x=>by kernel_rfl))
def qDU:Callee:=⟨[.val (.sl (.int .i64)),.val (.sl (.int .i64))],[.val .bool],fun x=>qAH x.1 x.2.1⟩
def l74:FL:=(251,none,qDU)::l73
theorem g74 {V:Env} (h0:Fs Tryz.prog V l0):Fs Tryz.prog V l74:=
 have h:=g73 h0
 h.cons (gd [.lp 4 ⟨26,[0,1,4,12,13],[.val (.sl (.int .i64)),.val (.sl (.int .i64)),.val .bool,.val (.int .i64),.val (.int .i64)],[],[]⟩ [.exit 0,.ret] qGE] [] [] h qMA qKA Tryz.func251 (by kernel_rfl) (fun _=>(qMG (fun x=>by kernel_rfl) qLA)) (fun x=>by kernel_rfl))
def qBam:Callee:=⟨[.val (.pair .str qTB),.val (.pair .str qTB)],[.val .bool],fun x=>qSo x.1 x.2.1⟩
def l75:FL:=(197,none,qBam)::l74
theorem g75 {V:Env} (h0:Fs Tryz.prog V l0):Fs Tryz.prog V l75:=
 have h:=g74 h0
 h.cons (gd [] [] [] h qMA qKA Tryz.func197 (by kernel_rfl) (fun _=>qLA) (fun x=>by kernel_rfl))
def qOj:Callee:=⟨[.val (.ptr qOa)],[.val (.sl gVr),.val (.sl (.pair .str qTB)),.val .bool],fun x=>qGO x.1⟩
def l76:FL:=(140,none,qOj)::l75
theorem g76 {V:Env} (h0:Fs Tryz.prog V l0):Fs Tryz.prog V l76:=
 have h:=g75 h0
 h.cons (gd [.lp 5 ⟨113,[0,2,3,4,5,6,7,8,25,26,27],[.val (.ptr qOa),.val (.sl gVr),.val (.sl (.pair .str qTB)),.val .bool,.mp gVr,.mp (.pair .str qTB),.own gVr,.own (.pair .str qTB),.val (.sl qTG),.val (.int .i64),.val (.int .i64)],[],[]⟩ [.exit 0,.ret] qHF] [] [] h qMA qKA Tryz.func140 (by kernel_rfl) (fun _=>(qMG (fun x=>by kernel_rfl) qLA)) (fun x=>by kernel_rfl))
def qXad:Callee:=⟨[.val (.sl qTG)],[.val (.ptr qOa),.val .bool],fun x=>qCc x.1⟩
def l77:FL:=(95,none,qXad)::l76
theorem g77 {V:Env} (h0:Fs Tryz.prog V l0):Fs Tryz.prog V l77:=
 have h:=g76 h0
 h.cons (gd [] [] [] h qMA qKA Tryz.func95 (by kernel_rfl) (fun _=>qLA) (fun x=>by kernel_rfl))
def qNah:Callee:=⟨[.val (.sl qTG)],[.val .bool],fun x=>qVg x.1⟩
def l78:FL:=(59,none,qNah)::l77
theorem g78 {V:Env} (h0:Fs Tryz.prog V l0):Fs Tryz.prog V l78:=
 have h:=g77 h0
 h.cons (gd [] [] [] h qMA qKA Tryz.func59 (by kernel_rfl) (fun _=>qLA) (fun x=>by kernel_rfl))
def qHU:Callee:=⟨[.box (.dat gEvl),.val qTG],[.val qBE,.val (.int .i64)],fun x=>qFK x.1 x.2.1⟩
def l79:FL:=(134,none,qHU)::l78
theorem g79 {V:Env} (h0:Fs Tryz.prog V l0):Fs Tryz.prog V l79:=
 have h:=g78 h0
 h.cons (gd [] [] [(1,[0,3,12],[100006])] h qMA qKA Tryz.func134 (by kernel_rfl) (fun _=>qLA) (fun x=>by kernel_rfl))
def qFP:Callee:=⟨[.val (.sl .str),.val (.sl .str)],[.val .bool],fun x=>qXC x.1 x.2.1⟩
def l80:FL:=(72,none,qFP)::l79
theorem g80 {V:Env} (h0:Fs Tryz.prog V l0):Fs Tryz.prog V l80:=
 have h:=g79 h0
 h.cons (gd [.lp 4 ⟨26,[0,1,4,12,13],[.val (.sl .str),.val (.sl .str),.val .bool,.val (.int .i64),.val (.int .i64)],[],[]⟩ [.exit 0,.ret] qHC] [] [] h qMA qKA Tryz.func72 (by kernel_rfl) (fun _=>(qMG (fun x=>by kernel_rfl) qLA)) (fun x=>by kernel_rfl))
def qOag:Callee:=⟨[.val qBE,.val qBE],[.val .bool],fun x=>qPX x.1 x.2.1⟩
def l81:FL:=(26,none,qOag)::l80
theorem g81 {V:Env} (h0:Fs Tryz.prog V l0):Fs Tryz.prog V l81:=
 have h:=g80 h0
 h.cons (gd [] [] [] h qMA qKA Tryz.func26 (by kernel_rfl) (fun _=>qLA) (fun x=>by kernel_rfl))
def qFG:Callee:=⟨[.val (.sl qBE),.val (.sl qBE),.val (.fnv 26 .unit)],[.val .bool],fun x=>qBD x.1 x.2.1 x.2.2.1⟩
def l82:FL:=(187,some 26,qFG)::l81
theorem g82 {V:Env} (h0:Fs Tryz.prog V l0):Fs Tryz.prog V l82:=
 have h:=g81 h0
 h.cons (gd [.lp 4 ⟨32,[1,2,6,15,16,17],[.val (.sl qBE),.val (.fnv 26 .unit),.val .bool,.val (.sl qBE),.val (.int .i64),.val (.int .i64)],[],[]⟩ [.exit 0,.ret] qPC] [] [] h qMA qKA Tryz.func187 (by kernel_rfl) (fun _=>(qMG (fun x=>by kernel_rfl) qLA)) (fun x=>by kernel_rfl))
def qXW:Callee:=⟨[.val (.sl qBE),.val (.ptr (.sl qBE))],[.val .bool],fun x=>qKR x.1 x.2.1⟩
def l83:FL:=(186,none,qXW)::l82
theorem g83 {V:Env} (h0:Fs Tryz.prog V l0):Fs Tryz.prog V l83:=
 have h:=g82 h0
 h.cons (gd [] [] [] h qMA qKA Tryz.func186 (by kernel_rfl) (fun _=>qLA) (fun x=>by kernel_rfl))
def qHG:Callee:=⟨[.val (.sl (.sl qBE)),.val (.fnv 186 (.ptr (.sl qBE)))],[.val (.int .i64)],fun x=>qED x.1 x.2.1⟩
def l84:FL:=(185,some 186,qHG)::l83
theorem g84 {V:Env} (h0:Fs Tryz.prog V l0):Fs Tryz.prog V l84:=
 have h:=g83 h0
 h.cons (gd [.lp 2 ⟨19,[0,1,4,7,8],[.val (.sl (.sl qBE)),.val (.fnv 186 (.ptr (.sl qBE))),.val (.int .i64),.val (.int .i64),.val (.int .i64)],[],[]⟩ [.exit 0,.ret] qVC] [] [] h qMA qKA Tryz.func185 (by kernel_rfl) (fun _=>(qMG (fun x=>by kernel_rfl) qLA)) (fun x=>by kernel_rfl))
def qIb:Callee:=⟨[.box (.dat gEvl),.val qTG,.val (.sl qBE)],[.val qBE,.val (.int .i64)],fun x=>qNO x.1 x.2.1 x.2.2.1⟩
def l85:FL:=(135,none,qIb)::l84
theorem g85 {V:Env} (h0:Fs Tryz.prog V l0):Fs Tryz.prog V l85:=
 have h:=g84 h0
 h.cons (gd [] [] [(1,[0,4,16],[100008])] h qMA qKA Tryz.func135 (by kernel_rfl) (fun _=>qLA) (fun x=>by kernel_rfl))
def qNap:Callee:=⟨[.val qBE],[.val .bool],fun x=>qHr x.1⟩
def l86:FL:=(189,none,qNap)::l85
theorem g86 {V:Env} (h0:Fs Tryz.prog V l0):Fs Tryz.prog V l86:=
 have h:=g85 h0
 h.cons (gd [] [] [] h qMA qKA Tryz.func189 (by kernel_rfl) (fun _=>qLA) (fun x=>by kernel_rfl))
def qJK:Callee:=⟨[.val (.sl qBE),.val (.fnv 189 .unit)],[.val (.int .i64)],fun x=>qUD x.1 x.2.1⟩
def l87:FL:=(242,some 189,qJK)::l86
theorem g87 {V:Env} (h0:Fs Tryz.prog V l0):Fs Tryz.prog V l87:=
 have h:=g86 h0
 h.cons (gd [.lp 2 ⟨19,[0,1,4,7,8],[.val (.sl qBE),.val (.fnv 189 .unit),.val (.int .i64),.val (.int .i64),.val (.int .i64)],[],[]⟩ [.exit 0,.ret] qIB] [] [] h qMA qKA Tryz.func242 (by kernel_rfl) (fun _=>(qMG (fun x=>by kernel_rfl) qLA)) (fun x=>by kernel_rfl))
def qXI:Callee:=⟨[.val (.sl qBE),.val (.fnv 189 .unit)],[.val .bool],fun x=>qGB x.1 x.2.1⟩
def l88:FL:=(183,some 189,qXI)::l87
theorem g88 {V:Env} (h0:Fs Tryz.prog V l0):Fs Tryz.prog V l88:=
 have h:=g87 h0
 h.cons (gd [] [] [] h qMA qKA Tryz.func183 (by kernel_rfl) (fun _=>qLA) (fun x=>by kernel_rfl))
def qAai:Callee:=⟨[.val .bool],[.val qBE],fun x=>qSO x.1⟩
def l89:FL:=(188,none,qAai)::l88
theorem g89 {V:Env} (h0:Fs Tryz.prog V l0):Fs Tryz.prog V l89:=
 have h:=g88 h0
 h.cons (gd [] [] [] h qMA qKA Tryz.func188 (by kernel_rfl) (fun _=>qLA) (fun x=>by kernel_rfl))
def qJau:Callee:=⟨[.val qBE],[.val .bool],fun x=>v_is x.1⟩
def l90:FL:=(190,none,qJau)::l89
theorem g90 {V:Env} (h0:Fs Tryz.prog V l0):Fs Tryz.prog V l90:=
 have h:=g89 h0
 h.cons (gd [] [] [] h qMA qKA Tryz.func190 (by kernel_rfl) (fun _=>qLA) (fun x=>by kernel_rfl))
def qBL:Callee:=⟨[.val (.sl qBE),.val (.fnv 190 .unit)],[.val (.int .i64)],fun x=>qCE x.1 x.2.1⟩
def l91:FL:=(242,some 190,qBL)::l90
theorem g91 {V:Env} (h0:Fs Tryz.prog V l0):Fs Tryz.prog V l91:=
 have h:=g90 h0
 h.cons (gd [.lp 2 ⟨19,[0,1,4,7,8],[.val (.sl qBE),.val (.fnv 190 .unit),.val (.int .i64),.val (.int .i64),.val (.int .i64)],[],[]⟩ [.exit 0,.ret] qJB] [] [] h qMA qKA Tryz.func242 (by kernel_rfl) (fun _=>(qMG (fun x=>by kernel_rfl) qLA)) (fun x=>by kernel_rfl))
def qTJ:Callee:=⟨[.val (.sl qBE),.val (.fnv 190 .unit)],[.val .bool],fun x=>qKB x.1 x.2.1⟩
def l92:FL:=(183,some 190,qTJ)::l91
theorem g92 {V:Env} (h0:Fs Tryz.prog V l0):Fs Tryz.prog V l92:=
 have h:=g91 h0
 h.cons (gd [] [] [] h qMA qKA Tryz.func183 (by kernel_rfl) (fun _=>qLA) (fun x=>by kernel_rfl))
def qTq:Callee:=⟨[.val (.int .i64),.val .str],[.val qBE],fun x=>qPL x.1 x.2.1⟩
def l93:FL:=(243,none,qTq)::l92
theorem g93 {V:Env} (h0:Fs Tryz.prog V l0):Fs Tryz.prog V l93:=
 have h:=g92 h0
 h.cons (gd [] [] [] h qMA qKA Tryz.func243 (by kernel_rfl) (fun _=>qLA) (fun x=>by kernel_rfl))
def qSah:Callee:=⟨[.val gSml,.val gSml],[.val .str],fun x=>qPg x.1 x.2.1⟩
def l94:FL:=(98,none,qSah)::l93
theorem g94 {V:Env} (h0:Fs Tryz.prog V l0):Fs Tryz.prog V l94:=
 have h:=g93 h0
 h.cons (gd [] [] [] h qMA qKA Tryz.func98 (by kernel_rfl) (fun _=>qLA) (fun x=>by kernel_rfl))
def qGu:Callee:=⟨[.val gRt,.val gRt],[.val gRt],fun x=>qIU x.1 x.2.1⟩
def l95:FL:=(101,none,qGu)::l94
theorem g95 {V:Env} (h0:Fs Tryz.prog V l0):Fs Tryz.prog V l95:=
 have h:=g94 h0
 h.cons (gd [] [] [] h qMA qKA Tryz.func101 (by kernel_rfl) (fun _=>qLA) (fun x=>by kernel_rfl))
def qLaf:Callee:=⟨[.val gRt,.val gRt],[.val .str],fun x=>qMg x.1 x.2.1⟩
def l96:FL:=(100,none,qLaf)::l95
theorem g96 {V:Env} (h0:Fs Tryz.prog V l0):Fs Tryz.prog V l96:=
 have h:=g95 h0
 h.cons (gd [] [] [] h qMA qKA Tryz.func100 (by kernel_rfl) (fun _=>qLA) (fun x=>by kernel_rfl))
def qPS:Callee:=⟨[.val .str,.val .str,.val (.fnv 98 .unit),.val (.fnv 100 .unit)],[.val .str],fun x=>qTD x.1 x.2.1 x.2.2.1 x.2.2.2.1⟩
def l97:FL:=(97,some 98,qPS)::l96
theorem g97 {V:Env} (h0:Fs Tryz.prog V l0):Fs Tryz.prog V l97:=
 have h:=g96 h0
 h.cons (gd [] [] [] h qMA qKA Tryz.func97 (by kernel_rfl) (fun _=>qLA) (fun x=>by kernel_rfl))
def qNar:Callee:=⟨[.val .str,.val .str],[.val .str],fun x=>qBah x.1 x.2.1⟩
def l98:FL:=(52,none,qNar)::l97
theorem g98 {V:Env} (h0:Fs Tryz.prog V l0):Fs Tryz.prog V l98:=
 have h:=g97 h0
 h.cons (gd [] [] [] h qMA qKA Tryz.func52 (by kernel_rfl) (fun _=>qLA) (fun x=>by kernel_rfl))
def qSi:Callee:=⟨[.val gRt,.val gRt],[.val gRt,.val gRt],fun x=>qIR x.1 x.2.1⟩
def l99:FL:=(150,none,qSi)::l98
theorem g99 {V:Env} (h0:Fs Tryz.prog V l0):Fs Tryz.prog V l99:=
 have h:=g98 h0
 h.cons (gd [] [] [] h qMA qKA Tryz.func150 (by kernel_rfl) (fun _=>qLA) (fun x=>by kernel_rfl))
def qVx:Callee:=⟨[.val .str,.val .str],[.val .str,.val .str],fun x=>qMa x.1 x.2.1⟩
def l100:FL:=(103,none,qVx)::l99
theorem g100 {V:Env} (h0:Fs Tryz.prog V l0):Fs Tryz.prog V l100:=
 have h:=g99 h0
 h.cons (gd [] [] [] h qMA qKA Tryz.func103 (by kernel_rfl) (fun _=>qLA) (fun x=>by kernel_rfl))
def qZan:Callee:=⟨[.val .str,.val .str],[.val .str],fun x=>qFad x.1 x.2.1⟩
def l101:FL:=(53,none,qZan)::l100
theorem g101 {V:Env} (h0:Fs Tryz.prog V l0):Fs Tryz.prog V l101:=
 have h:=g100 h0
 h.cons (gd [] [] [] h qMA qKA Tryz.func53 (by kernel_rfl) (fun _=>qLA) (fun x=>by kernel_rfl))
def qEar:Callee:=⟨[.val .str,.val .str],[.val .str],fun x=>qQad x.1 x.2.1⟩
def l102:FL:=(54,none,qEar)::l101
theorem g102 {V:Env} (h0:Fs Tryz.prog V l0):Fs Tryz.prog V l102:=
 have h:=g101 h0
 h.cons (gd [] [] [] h qMA qKA Tryz.func54 (by kernel_rfl) (fun _=>qLA) (fun x=>by kernel_rfl))
def qQat:Callee:=⟨[.val qBE,.val .str],[.val .str],fun x=>v_at x.1 x.2.1⟩
def l103:FL:=(90,none,qQat)::l102
theorem g103 {V:Env} (h0:Fs Tryz.prog V l0):Fs Tryz.prog V l103:=
 have h:=g102 h0
 h.cons (gd [] [] [] h qMA qKA Tryz.func90 (by kernel_rfl) (fun _=>qLA) (fun x=>by kernel_rfl))
def qWt:Callee:=⟨[.val qTG,.val (.sl qBE)],[.val qBE],fun x=>qFb x.1 x.2.1⟩
def l104:FL:=(191,none,qWt)::l103
theorem g104 {V:Env} (h0:Fs Tryz.prog V l0):Fs Tryz.prog V l104:=
 have h:=g103 h0
 h.cons (gd [.lp 7 ⟨102,[1,4,5,19,20,21],[.val (.sl qBE),.box (.dat qBE),.val .str,.val (.sl qBE),.val (.int .i64),.val (.int .i64)],[],[]⟩ [.exit 1] qON] [] [] h qMA qKA Tryz.func191 (by kernel_rfl) (fun _=>(qMG (fun x=>by kernel_rfl) qLA)) (fun x=>by kernel_rfl))
def qKu:Callee:=⟨[.val qTG,.val (.sl qBE)],[.val qBE],fun x=>qMV x.1 x.2.1⟩
def l105:FL:=(136,none,qKu)::l104
theorem g105 {V:Env} (h0:Fs Tryz.prog V l0):Fs Tryz.prog V l105:=
 have h:=g104 h0
 h.cons (gd [] [] [] h qMA qKA Tryz.func136 (by kernel_rfl) (fun _=>qLA) (fun x=>by kernel_rfl))
def qOH (g:Evl->Option ((Val×Int×Unit)×(Evl×Unit))):Callee:=⟨[.box (.dat gEvl)],[.val qBE,.val (.int .i64)],fun x=>g x.1⟩
def qVZ:Callee:=qOH (qTC big)
theorem qOX {V:Env} (h0:Fs Tryz.prog V l0) (qOaE:Evl->Option ((Val×Int×Unit)×(Evl×Unit))) (r0:Good V 93 (qOH qOaE)):Good V 93 (qOH (qOI qOaE)):=
 have h:=g105 h0
 gd [.lp 5 ⟨63,[0,2,3,4,5,26,27],[.box (.dat gEvl),.box (.dat qBE),.val (.int .i64),.box (.dat qTG),.own qBE,.val (.int .i64),.val (.int .i64)],[0],[]⟩ [.exit 0,.ret] (qXB qOaE)] [] [(1,[0,11],[100004])] (Fs.cons (s:=none) h r0) qMA qKA Tryz.func93 (by kernel_rfl) (fun _=>(qMG (fun x=>by kernel_rfl) qLA)) (fun x=>by kernel_rfl)
theorem qQX {V:Env} (h0:Fs Tryz.prog V l0) (n:Nat):Good V 93 (qOH (qTC n)):=by
 induction n with
 |zero=>exact qLK ⟨_,h0.prog ▸ Tryz.func93,by decide,rfl⟩ (fun _=>rfl)
 |succ n ih=>exact qOX h0 (qTC n) ih
def l106:FL:=(93,none,qVZ)::l105
theorem g106 {V:Env} (h0:Fs Tryz.prog V l0):Fs Tryz.prog V l106:=(Fs.cons (s:=none) (g105 h0) (qQX h0 big))
def qGak:Callee:=⟨[.val (.sl qTG),.val (.sl qQN),.val (.sl qEE)],[.val qBE,.val (.int .i64)],fun x=>qXj x.1 x.2.1 x.2.2.1⟩
def l107:FL:=(48,none,qGak)::l106
theorem g107 {V:Env} (h0:Fs Tryz.prog V l0):Fs Tryz.prog V l107:=
 have h:=g106 h0
 h.cons (gd [] [] [] h qMA qKA Tryz.func48 (by kernel_rfl) (fun _=>qLA) (fun x=>by kernel_rfl))
def qOs:Callee:=⟨[.val .str],[.val qTG],fun x=>qOb x.1⟩
def l108:FL:=(58,none,qOs)::l107
theorem g108 {V:Env} (h0:Fs Tryz.prog V l0):Fs Tryz.prog V l108:=
 have h:=g107 h0
 h.cons (gd [] [] [] h qMA qKA Tryz.func58 (by kernel_rfl) (fun _=>qLA) (fun x=>by kernel_rfl))
def qXai:Callee:=⟨[.val qBE],[.val (.sl qTG),.val (.int .i64)],fun x=>qMan x.1⟩
def l109:FL:=(19,none,qXai)::l108
theorem g109 {V:Env} (h0:Fs Tryz.prog V l0):Fs Tryz.prog V l109:=
 have h:=g108 h0
 h.cons (gd [.lp 13 ⟨70,[1,4,31,32],[.box (.dat qBE),.own qTG,.val (.int .i64),.val (.int .i64)],[],[]⟩ [.exit 1] qWj,.lp 18 ⟨70,[1,4,47,48,49],[.box (.dat qBE),.row qTG,.val (.sl .str),.val (.int .i64),.val (.int .i64)],[],[]⟩ [.exit 3] qTk] [] [] h qMA qKA Tryz.func19 (by kernel_rfl) (fun _=>(qMG (fun x=>by kernel_rfl) (qMG (fun x=>by kernel_rfl) qLA))) (fun x=>by kernel_rfl))
def qSar:Callee:=⟨[.val .str],[.val .str],fun x=>qJas x.1⟩
def l110:FL:=(232,none,qSar)::l109
theorem g110 {V:Env} (h0:Fs Tryz.prog V l0):Fs Tryz.prog V l110:=
 have h:=g109 h0
 h.cons (gd [] [] [] h qMA qKA Tryz.func232 (by kernel_rfl) (fun _=>qLA) (fun x=>by kernel_rfl))
def qDaq:Callee:=⟨[.val .str],[.val .str],fun x=>qNas x.1⟩
def l111:FL:=(233,none,qDaq)::l110
theorem g111 {V:Env} (h0:Fs Tryz.prog V l0):Fs Tryz.prog V l111:=
 have h:=g110 h0
 h.cons (gd [] [] [] h qMA qKA Tryz.func233 (by kernel_rfl) (fun _=>qLA) (fun x=>by kernel_rfl))
def qIN (g:Int->qBs->Option ((qBs×Unit)×Unit)):Callee:=⟨[.val (.int .i64),.val .str],[.val .str],fun x=>g x.1 x.2.1⟩
def qQn:Callee:=qIN (qGQ big)
theorem qPj {V:Env} (h0:Fs Tryz.prog V l0) (qMaE:Int->qBs->Option ((qBs×Unit)×Unit)) (r0:Good V 170 (qIN qMaE)):Good V 170 (qIN (qSY qMaE)):=
 have h:=g111 h0
 gd [] [] [] (Fs.cons (s:=none) h r0) qMA qKA Tryz.func170 (by kernel_rfl) (fun _=>qLA) (fun x=>by kernel_rfl)
theorem qGj {V:Env} (h0:Fs Tryz.prog V l0) (n:Nat):Good V 170 (qIN (qGQ n)):=by
 induction n with
 |zero=>exact qLK ⟨_,h0.prog ▸ Tryz.func170,by decide,rfl⟩ (fun _=>rfl)
 |succ n ih=>exact qPj h0 (qGQ n) ih
def l112:FL:=(170,none,qQn)::l111
theorem g112 {V:Env} (h0:Fs Tryz.prog V l0):Fs Tryz.prog V l112:=(Fs.cons (s:=none) (g111 h0) (qGj h0 big))
def qYaa:Callee:=⟨[.val qTG],[.val .str],fun x=>qXv x.1⟩
def l113:FL:=(171,none,qYaa)::l112
theorem g113 {V:Env} (h0:Fs Tryz.prog V l0):Fs Tryz.prog V l113:=
 have h:=g112 h0
 h.cons (gd [] [] [] h qMA qKA Tryz.func171 (by kernel_rfl) (fun _=>qLA) (fun x=>by kernel_rfl))
def qVP:Callee:=⟨[.box (.pair .slf (.own (.int .u8))),.val (.int .u8)],[.val .err],fun x=>qEF x.1 x.2.1⟩
def l114:FL:=(173,none,qVP)::l113
theorem g114 {V:Env} (h0:Fs Tryz.prog V l0):Fs Tryz.prog V l114:=
 have h:=g113 h0
 h.cons (gd [] [] [] h qMA qKA Tryz.func173 (by kernel_rfl) (fun _=>qLA) (fun x=>by kernel_rfl))
def qPM (g:Option qQR->(Unit×List Int)->Int->Option ((Unit)×((Unit×List Int)×Unit))):Callee:=⟨[.val (.ptr qOa),.box (.pair .slf (.own (.int .u8))),.val (.int .i64)],[],fun x=>g x.1 x.2.1 x.2.2.1⟩
def qRi:Callee:=qPM (qSN big)
theorem qSh {V:Env} (h0:Fs Tryz.prog V l0) (qNaE:Option qQR->(Unit×List Int)->Int->Option ((Unit)×((Unit×List Int)×Unit))) (r0:Good V 118 (qPM qNaE)):Good V 118 (qPM (qGX qNaE)):=
 have h:=g114 h0
 gd [.lp 4 ⟨71,[0,1,6,25,26,27],[.val (.ptr qOa),.box (.pair .slf (.own (.int .u8))),.box (.dat qTG),.val (.sl (.int .i64)),.val (.int .i64),.val (.int .i64)],[0],[]⟩ [.exit 1] (qSV qNaE)] [] [] (Fs.cons (s:=none) h r0) qMA qKA Tryz.func118 (by kernel_rfl) (fun _=>(qMG (fun x=>by kernel_rfl) qLA)) (fun x=>by kernel_rfl)
theorem qHf {V:Env} (h0:Fs Tryz.prog V l0) (n:Nat):Good V 118 (qPM (qSN n)):=by
 induction n with
 |zero=>exact qLK ⟨_,h0.prog ▸ Tryz.func118,by decide,rfl⟩ (fun _=>rfl)
 |succ n ih=>exact qSh h0 (qSN n) ih
def l115:FL:=(118,none,qRi)::l114
theorem g115 {V:Env} (h0:Fs Tryz.prog V l0):Fs Tryz.prog V l115:=(Fs.cons (s:=none) (g114 h0) (qHf h0 big))
def qGz:Callee:=⟨[.val (.sl qTG)],[.val .str],fun x=>qQx x.1⟩
def l116:FL:=(70,none,qGz)::l115
theorem g116 {V:Env} (h0:Fs Tryz.prog V l0):Fs Tryz.prog V l116:=
 have h:=g115 h0
 h.cons (gd [] [] [] h qMA qKA Tryz.func70 (by kernel_rfl) (fun _=>qLA) (fun x=>by kernel_rfl))
def qIy:Callee:=⟨[.val qBE],[.val .str],fun x=>qDx x.1⟩
def l117:FL:=(24,none,qIy)::l116
theorem g117 {V:Env} (h0:Fs Tryz.prog V l0):Fs Tryz.prog V l117:=
 have h:=g116 h0
 h.cons (gd [] [] [] h qMA qKA Tryz.func24 (by kernel_rfl) (fun _=>qLA) (fun x=>by kernel_rfl))
def qGah:Callee:=⟨[],[.val .bool],fun _=>qVU⟩
def l118:FL:=(16,none,qGah)::l117
theorem g118 {V:Env} (h0:Fs Tryz.prog V l0):Fs Tryz.prog V l118:=
 have h:=g117 h0
 h.cons (gd [] [] [] h qMA qKA Tryz.func16 (by kernel_rfl) (fun _=>qLA) (fun x=>by kernel_rfl))
def qYaf:Callee:=⟨[.val qBE],[.val .bool],fun x=>qUf x.1⟩
def l119:FL:=(15,none,qYaf)::l118
theorem g119 {V:Env} (h0:Fs Tryz.prog V l0):Fs Tryz.prog V l119:=
 have h:=g118 h0
 h.cons (gd [.lp 4 ⟨49,[1,2,3],[.box (.dat qBE),.val .bool,.val (.int .i64)],[],[]⟩ [.exit 0,.ret] qMS,.lp 9 ⟨49,[1,2,4],[.box (.dat qBE),.val .bool,.val (.int .i64)],[],[]⟩ [.exit 2,.ret] qTR] [] [] h qMA qKA Tryz.func15 (by kernel_rfl) (fun _=>(qMG (fun x=>by kernel_rfl) (qMG (fun x=>by kernel_rfl) qLA))) (fun x=>by kernel_rfl))
def qJz:Callee:=⟨[.val .str],[.val .bool],fun x=>qTL x.1⟩
def l120:FL:=(165,none,qJz)::l119
theorem g120 {V:Env} (h0:Fs Tryz.prog V l0):Fs Tryz.prog V l120:=
 have h:=g119 h0
 h.cons (gd [.lp 2 ⟨22,[0,2,3],[.val .str,.val .bool,.val (.int .i64)],[],[]⟩ [.exit 0,.ret] qEL] [] [] h qMA qKA Tryz.func165 (by kernel_rfl) (fun _=>(qMG (fun x=>by kernel_rfl) qLA)) (fun x=>by kernel_rfl))
def qZaj:Callee:=⟨[.val .str],[.val .str],fun x=>qVO x.1⟩
def l121:FL:=(166,none,qZaj)::l120
theorem g121 {V:Env} (h0:Fs Tryz.prog V l0):Fs Tryz.prog V l121:=
 have h:=g120 h0
 h.cons (gd [.lp 1 ⟨14,[0],[.val .str],[],[]⟩ [.exit 0] qCS] [] [] h qMA qKA Tryz.func166 (by kernel_rfl) (fun _=>(qMG (fun x=>by kernel_rfl) qLA)) (fun x=>by kernel_rfl))
def qTaa:Callee:=⟨[.val .str,.val .str],[.val (.int .i64)],fun x=>qJb x.1 x.2.1⟩
def l122:FL:=(229,none,qTaa)::l121
theorem g122 {V:Env} (h0:Fs Tryz.prog V l0):Fs Tryz.prog V l122:=
 have h:=g121 h0
 h.cons (gd [] [] [] h qMA qKA Tryz.func229 (by kernel_rfl) (fun _=>qLA) (fun x=>by kernel_rfl))
def qZaa:Callee:=⟨[.val .str,.val .str],[.val .str],fun x=>qRW x.1 x.2.1⟩
def l123:FL:=(230,none,qZaa)::l122
theorem g123 {V:Env} (h0:Fs Tryz.prog V l0):Fs Tryz.prog V l123:=
 have h:=g122 h0
 h.cons (gd [.lp 4 ⟨61,[0,1,5,6,7],[.val .str,.val .str,.row (.int .u8),.val (.int .i64),.val (.int .i64)],[],[]⟩ [.exit 0] qUG] [] [] h qMA qKA Tryz.func230 (by kernel_rfl) (fun _=>(qMG (fun x=>by kernel_rfl) qLA)) (fun x=>by kernel_rfl))
def qAz:Callee:=⟨[.val .str,.val .str],[.val .str,.val .str],fun x=>qTS x.1 x.2.1⟩
def l124:FL:=(178,none,qAz)::l123
theorem g124 {V:Env} (h0:Fs Tryz.prog V l0):Fs Tryz.prog V l124:=
 have h:=g123 h0
 h.cons (gd [.lp 8 ⟨44,[0,1,6,7,8,9],[.val .str,.val .str,.row (.int .u8),.val .str,.val (.int .i64),.val (.int .u8)],[],[]⟩ [.exit 2] qXM,.lp 4 ⟨44,[0,1,6,7,8],[.val .str,.val .str,.row (.int .u8),.val .str,.val (.int .i64)],[],[]⟩ [.exit 0] qFQ] [] [] h qMA qKA Tryz.func178 (by kernel_rfl) (fun _=>(qMG (fun x=>by kernel_rfl) (qMG (fun x=>by kernel_rfl) qLA))) (fun x=>by kernel_rfl))
def qEab:Callee:=⟨[.val .str,.val .str],[.val .str],fun x=>qOe x.1 x.2.1⟩
def l125:FL:=(177,none,qEab)::l124
theorem g125 {V:Env} (h0:Fs Tryz.prog V l0):Fs Tryz.prog V l125:=
 have h:=g124 h0
 h.cons (gd [.lp 1 ⟨18,[0,1],[.val .str,.val .str],[],[]⟩ [.exit 0] qWP] [] [] h qMA qKA Tryz.func177 (by kernel_rfl) (fun _=>(qMG (fun x=>by kernel_rfl) qLA)) (fun x=>by kernel_rfl))
def qEz:Callee:=⟨[.val .bool,.val .str,.val .str],[.val qCl],fun x=>qPI x.1 x.2.1 x.2.2.1⟩
def l126:FL:=(124,none,qEz)::l125
theorem g126 {V:Env} (h0:Fs Tryz.prog V l0):Fs Tryz.prog V l126:=
 have h:=g125 h0
 h.cons (gd [] [] [] h qMA qKA Tryz.func124 (by kernel_rfl) (fun _=>qLA) (fun x=>by kernel_rfl))
def qLj:Callee:=⟨[.val qCl],[.val .str],fun x=>qBB x.1⟩
def l127:FL:=(126,none,qLj)::l126
theorem g127 {V:Env} (h0:Fs Tryz.prog V l0):Fs Tryz.prog V l127:=
 have h:=g126 h0
 h.cons (gd [] [] [] h qMA qKA Tryz.func126 (by kernel_rfl) (fun _=>qLA) (fun x=>by kernel_rfl))
def qRah:Callee:=⟨[.val .str],[.val qCl,.val .bool],fun x=>qFH x.1⟩
def l128:FL:=(113,none,qRah)::l127
theorem g128 {V:Env} (h0:Fs Tryz.prog V l0):Fs Tryz.prog V l128:=
 have h:=g127 h0
 h.cons (gd [.lp 6 ⟨84,[0,2,4,5,6],[.val .str,.box (.dat qCl),.box (.dat qCl),.val .str,.val (.int .i64)],[],[]⟩ [.exit 0] qRJ] [] [] h qMA qKA Tryz.func113 (by kernel_rfl) (fun _=>(qMG (fun x=>by kernel_rfl) qLA)) (fun x=>by kernel_rfl))
def qTah:Callee:=⟨[.val .str],[.val .bool],fun x=>qRF x.1⟩
def l129:FL:=(66,none,qTah)::l128
theorem g129 {V:Env} (h0:Fs Tryz.prog V l0):Fs Tryz.prog V l129:=
 have h:=g128 h0
 h.cons (gd [] [] [] h qMA qKA Tryz.func66 (by kernel_rfl) (fun _=>qLA) (fun x=>by kernel_rfl))
def qRae:Callee:=⟨[.val .str],[.val .bool],fun x=>qDN x.1⟩
def l130:FL:=(67,none,qRae)::l129
theorem g130 {V:Env} (h0:Fs Tryz.prog V l0):Fs Tryz.prog V l130:=
 have h:=g129 h0
 h.cons (gd [] [] [] h qMA qKA Tryz.func67 (by kernel_rfl) (fun _=>qLA) (fun x=>by kernel_rfl))
def qUq:Callee:=⟨[],[.val (.sl .str)],fun _=>qSb⟩
def l131:FL:=(322,none,qUq)::l130
theorem g131 {V:Env} (h0:Fs Tryz.prog V l0):Fs Tryz.prog V l131:=
 have h:=g130 h0
 h.cons (gd [] [] [] h qMA qKA Tryz.func322 (by kernel_rfl) (fun _=>qLA) (fun x=>by kernel_rfl))
def qGau:Callee:=⟨[.val (.sl .str),.val .str],[.val .bool],fun x=>r_in x.1 x.2.1⟩
def l132:FL:=(321,none,qGau)::l131
theorem g132 {V:Env} (h0:Fs Tryz.prog V l0):Fs Tryz.prog V l132:=
 have h:=g131 h0
 h.cons (gd [.lp 2 ⟨18,[0,1,4,5],[.val (.sl .str),.val .str,.val .bool,.val (.int .i64)],[],[]⟩ [.exit 0,.ret] qBi] [] [] h qMA qKA Tryz.func321 (by kernel_rfl) (fun _=>(qMG (fun x=>by kernel_rfl) qLA)) (fun x=>by kernel_rfl))
def qDaa:Callee:=⟨[.val (.int .u8)],[.val .bool],fun x=>qQe x.1⟩
def l133:FL:=(271,none,qDaa)::l132
theorem g133 {V:Env} (h0:Fs Tryz.prog V l0):Fs Tryz.prog V l133:=
 have h:=g132 h0
 h.cons (gd [] [] [] h qMA qKA Tryz.func271 (by kernel_rfl) (fun _=>qLA) (fun x=>by kernel_rfl))
def qDak:Callee:=⟨[.val .str],[.val .bool],fun x=>qFp x.1⟩
def l134:FL:=(273,none,qDak)::l133
theorem g134 {V:Env} (h0:Fs Tryz.prog V l0):Fs Tryz.prog V l134:=
 have h:=g133 h0
 h.cons (gd [.lp 4 ⟨63,[0,2,3],[.val .str,.val .bool,.val (.int .i64)],[],[]⟩ [.exit 0,.ret] qGV] [] [] h qMA qKA Tryz.func273 (by kernel_rfl) (fun _=>(qMG (fun x=>by kernel_rfl) qLA)) (fun x=>by kernel_rfl))
def qPaa:Callee:=⟨[.val (.int .i64)],[.val .bool],fun x=>qPe x.1⟩
def l135:FL:=(74,none,qPaa)::l134
theorem g135 {V:Env} (h0:Fs Tryz.prog V l0):Fs Tryz.prog V l135:=
 have h:=g134 h0
 h.cons (gd [] [] [] h qMA qKA Tryz.func74 (by kernel_rfl) (fun _=>qLA) (fun x=>by kernel_rfl))
def qEal:Callee:=⟨[.val .str],[.val (.int .i64)],fun x=>qQd x.1⟩
def l136:FL:=(114,none,qEal)::l135
theorem g136 {V:Env} (h0:Fs Tryz.prog V l0):Fs Tryz.prog V l136:=
 have h:=g135 h0
 h.cons (gd [] [] [] h qMA qKA Tryz.func114 (by kernel_rfl) (fun _=>qLA) (fun x=>by kernel_rfl))
def qGy:Callee:=⟨[.val qTG],[.val .bool],fun x=>qEf x.1⟩
def l137:FL:=(219,none,qGy)::l136
theorem g137 {V:Env} (h0:Fs Tryz.prog V l0):Fs Tryz.prog V l137:=
 have h:=g136 h0
 h.cons (gd [] [] [] h qMA qKA Tryz.func219 (by kernel_rfl) (fun _=>qLA) (fun x=>by kernel_rfl))
def qYae:Callee:=⟨[.val (.int .i64),.val (.int .i64)],[.val .bool],fun x=>qPf x.1 x.2.1⟩
def l138:FL:=(220,none,qYae)::l137
theorem g138 {V:Env} (h0:Fs Tryz.prog V l0):Fs Tryz.prog V l138:=
 have h:=g137 h0
 h.cons (gd [] [] [] h qMA qKA Tryz.func220 (by kernel_rfl) (fun _=>qLA) (fun x=>by kernel_rfl))
def qSal:Callee:=⟨[.val (.sl (.int .i64)),.val (.int .i64),.val (.int .i64)],[.val (.int .i64)],fun x=>qUP x.1 x.2.1 x.2.2.1⟩
def l139:FL:=(283,none,qSal)::l138
theorem g139 {V:Env} (h0:Fs Tryz.prog V l0):Fs Tryz.prog V l139:=
 have h:=g138 h0
 h.cons (gd [.lp 2 ⟨21,[0,1,2,6,7],[.val (.sl (.int .i64)),.val (.int .i64),.val (.int .i64),.val (.int .i64),.val (.int .i64)],[],[]⟩ [.exit 0,.ret] qPV] [] [] h qMA qKA Tryz.func283 (by kernel_rfl) (fun _=>(qMG (fun x=>by kernel_rfl) qLA)) (fun x=>by kernel_rfl))
def qDu:Callee:=⟨[.val (.int .i64)],[.val .bool],fun x=>qLV x.1⟩
def l140:FL:=(284,none,qDu)::l139
theorem g140 {V:Env} (h0:Fs Tryz.prog V l0):Fs Tryz.prog V l140:=
 have h:=g139 h0
 h.cons (gd [] [] [] h qMA qKA Tryz.func284 (by kernel_rfl) (fun _=>qLA) (fun x=>by kernel_rfl))
def qQz:Callee:=⟨[.val qTG,.val (.int .i64),.val (.sl (.int .i64))],[.val (.int .i64)],fun x=>qDb x.1 x.2.1 x.2.2.1⟩
def l141:FL:=(221,none,qQz)::l140
theorem g141 {V:Env} (h0:Fs Tryz.prog V l0):Fs Tryz.prog V l141:=
 have h:=g140 h0
 h.cons (gd [] [] [] h qMA qKA Tryz.func221 (by kernel_rfl) (fun _=>qLA) (fun x=>by kernel_rfl))
def qLa (g:List Nod->Int->Int->Option ((Int×Int×Unit)×Unit)):Callee:=⟨[.val (.sl qTG),.val (.int .i64),.val (.int .i64)],[.val (.int .i64),.val (.int .i64)],fun x=>g x.1 x.2.1 x.2.2.1⟩
def qFal:Callee:=qLa (qHb big)
theorem qMab {V:Env} (h0:Fs Tryz.prog V l0) (qLaE:List Nod->Int->Int->Option ((Int×Int×Unit)×Unit)) (r0:Good V 158 (qLa qLaE)):Good V 158 (qLa (qCf qLaE)):=
 have h:=g141 h0
 gd [.lp 7 ⟨104,[0,1,2,6,7,8,9,10,11],[.val (.sl qTG),.val (.int .i64),.val (.int .i64),.val (.int .i64),.val (.int .i64),.own (.int .i64),.val (.int .i64),.val .bool,.val (.int .i64)],[],[]⟩ [.exit 0,.ret] (qMN qLaE)] [] [] (Fs.cons (s:=none) h r0) qMA qKA Tryz.func158 (by kernel_rfl) (fun _=>(qMG (fun x=>by kernel_rfl) qLA)) (fun x=>by kernel_rfl)
theorem qYag {V:Env} (h0:Fs Tryz.prog V l0) (n:Nat):Good V 158 (qLa (qHb n)):=by
 induction n with
 |zero=>exact qLK ⟨_,h0.prog ▸ Tryz.func158,by decide,rfl⟩ (fun _=>rfl)
 |succ n ih=>exact qMab h0 (qHb n) ih
def l142:FL:=(158,none,qFal)::l141
theorem g142 {V:Env} (h0:Fs Tryz.prog V l0):Fs Tryz.prog V l142:=(Fs.cons (s:=none) (g141 h0) (qYag h0 big))
def qFj:Callee:=⟨[.val (.sl qTG),.val (.int .i64)],[.val (.sl (.int .i64))],fun x=>qER x.1 x.2.1⟩
def l143:FL:=(285,none,qFj)::l142
theorem g143 {V:Env} (h0:Fs Tryz.prog V l0):Fs Tryz.prog V l143:=
 have h:=g142 h0
 h.cons (gd [.lp 4 ⟨33,[0,1,5,6,7],[.val (.sl qTG),.val (.int .i64),.own (.int .i64),.val (.int .i64),.val (.int .i64)],[],[]⟩ [.exit 0] qDH] [] [] h qMA qKA Tryz.func285 (by kernel_rfl) (fun _=>(qMG (fun x=>by kernel_rfl) qLA)) (fun x=>by kernel_rfl))
def qNz:Callee:=⟨[.val (.sl qTG),.val (.int .i64)],[.val (.pair .str qTB)],fun x=>qDf x.1 x.2.1⟩
def l144:FL:=(222,none,qNz)::l143
theorem g144 {V:Env} (h0:Fs Tryz.prog V l0):Fs Tryz.prog V l144:=
 have h:=g143 h0
 h.cons (gd [] [] [] h qMA qKA Tryz.func222 (by kernel_rfl) (fun _=>qLA) (fun x=>by kernel_rfl))
def qFl:Callee:=⟨[.val (.sl (.int .i64)),.val (.sl (.int .i64))],[.val .bool],fun x=>qWS x.1 x.2.1⟩
def l145:FL:=(223,none,qFl)::l144
theorem g145 {V:Env} (h0:Fs Tryz.prog V l0):Fs Tryz.prog V l145:=
 have h:=g144 h0
 h.cons (gd [.lp 4 ⟨26,[0,1,4,5],[.val (.sl (.int .i64)),.val (.sl (.int .i64)),.val .bool,.val (.int .i64)],[],[]⟩ [.exit 0,.ret] qMK] [] [] h qMA qKA Tryz.func223 (by kernel_rfl) (fun _=>(qMG (fun x=>by kernel_rfl) qLA)) (fun x=>by kernel_rfl))
def qVr:Callee:=⟨[.val (.sl qTG)],[.val .bool],fun x=>qSa x.1⟩
def l146:FL:=(159,none,qVr)::l145
theorem g146 {V:Env} (h0:Fs Tryz.prog V l0):Fs Tryz.prog V l146:=
 have h:=g145 h0
 h.cons (gd [.lp 10 ⟨137,[0,2,3,4,5,6,7],[.val (.sl qTG),.val .bool,.row gVr,.row (.pair .str qTB),.val (.int .i64),.val .bool,.val (.int .i64)],[],[]⟩ [.exit 3,.ret] qRH,.lp 22 ⟨137,[0,2,3,4,5,8,9,10],[.val (.sl qTG),.val .bool,.row gVr,.row (.pair .str qTB),.val (.int .i64),.box (.dat (.pair .str qTB)),.val .bool,.val (.int .i64)],[],[]⟩ [.exit 5,.ret] qAI,.lp 4 ⟨137,[0,2,3,4,5],[.val (.sl qTG),.val .bool,.own gVr,.own (.pair .str qTB),.val (.int .i64)],[],[]⟩ [.exit 0,.ret] qNH,.lp 34 ⟨137,[2,3,4,11,12],[.val .bool,.row gVr,.row (.pair .str qTB),.val (.int .i64),.val (.int .i64)],[],[]⟩ [.exit 9,.ret] qPH,.lp 31 ⟨137,[2,3,4,11],[.val .bool,.row gVr,.row (.pair .str qTB),.val (.int .i64)],[],[]⟩ [.exit 7,.ret] qNG] [] [] h qMA qKA Tryz.func159 (by kernel_rfl) (fun _=>(qMG (fun x=>by kernel_rfl) (qMG (fun x=>by kernel_rfl) (qMG (fun x=>by kernel_rfl) (qMG (fun x=>by kernel_rfl) (qMG (fun x=>by kernel_rfl) qLA)))))) (fun x=>by kernel_rfl))
def qQaa:Callee:=⟨[.val (.sl qTG)],[.val (.int .i64)],fun x=>qWa x.1⟩
def l147:FL:=(108,none,qQaa)::l146
theorem g147 {V:Env} (h0:Fs Tryz.prog V l0):Fs Tryz.prog V l147:=
 have h:=g146 h0
 h.cons (gd [] [] [] h qMA qKA Tryz.func108 (by kernel_rfl) (fun _=>qLA) (fun x=>by kernel_rfl))
def qIn:Callee:=⟨[.val (.sl qTG)],[.val .bool],fun x=>qPQ x.1⟩
def l148:FL:=(61,none,qIn)::l147
theorem g148 {V:Env} (h0:Fs Tryz.prog V l0):Fs Tryz.prog V l148:=
 have h:=g147 h0
 h.cons (gd [] [] [] h qMA qKA Tryz.func61 (by kernel_rfl) (fun _=>qLA) (fun x=>by kernel_rfl))
def qPar:Callee:=⟨[.val .str],[.val .str],fun x=>qVy x.1⟩
def l149:FL:=(168,none,qPar)::l148
theorem g149 {V:Env} (h0:Fs Tryz.prog V l0):Fs Tryz.prog V l149:=
 have h:=g148 h0
 h.cons (gd [] [] [] h qMA qKA Tryz.func168 (by kernel_rfl) (fun _=>qLA) (fun x=>by kernel_rfl))
def qIz:Callee:=⟨[.val .str,.val .str],[.val .str],fun x=>qGN x.1 x.2.1⟩
def l150:FL:=(125,none,qIz)::l149
theorem g150 {V:Env} (h0:Fs Tryz.prog V l0):Fs Tryz.prog V l150:=
 have h:=g149 h0
 h.cons (gd [.lp 6 ⟨78,[0,1,5,6,7],[.val .str,.val .str,.row (.int .i64),.val (.int .i64),.val (.int .i64)],[],[]⟩ [.exit 2] qVM,.lp 3 ⟨78,[0,1,5,6],[.val .str,.val .str,.row (.int .i64),.val (.int .i64)],[],[]⟩ [.exit 0] qMQ,.lp 12 ⟨78,[5,8,9,10],[.row (.int .i64),.row (.int .u8),.val (.int .i64),.val (.int .i64)],[],[]⟩ [.exit 4] qDO] [] [] h qMA qKA Tryz.func125 (by kernel_rfl) (fun _=>(qMG (fun x=>by kernel_rfl) (qMG (fun x=>by kernel_rfl) (qMG (fun x=>by kernel_rfl) qLA)))) (fun x=>by kernel_rfl))
def qAaa:Callee:=⟨[.val .str,.val .str],[.val .str],fun x=>qGb x.1 x.2.1⟩
def l151:FL:=(228,none,qAaa)::l150
theorem g151 {V:Env} (h0:Fs Tryz.prog V l0):Fs Tryz.prog V l151:=
 have h:=g150 h0
 h.cons (gd [.lp 5 ⟨69,[0,1,5,6,7,8],[.val .str,.val .str,.val (.int .i64),.row (.int .u8),.val (.int .i64),.val (.int .i64)],[],[]⟩ [.exit 0] qVG] [] [] h qMA qKA Tryz.func228 (by kernel_rfl) (fun _=>(qMG (fun x=>by kernel_rfl) qLA)) (fun x=>by kernel_rfl))
def qJao:Callee:=⟨[.val .str,.val .str],[.val .str],fun x=>qWz x.1 x.2.1⟩
def l152:FL:=(167,none,qJao)::l151
theorem g152 {V:Env} (h0:Fs Tryz.prog V l0):Fs Tryz.prog V l152:=
 have h:=g151 h0
 h.cons (gd [] [] [] h qMA qKA Tryz.func167 (by kernel_rfl) (fun _=>qLA) (fun x=>by kernel_rfl))
def qCar:Callee:=⟨[.val .str,.val .str],[.val .str],fun x=>qPae x.1 x.2.1⟩
def l153:FL:=(115,none,qCar)::l152
theorem g153 {V:Env} (h0:Fs Tryz.prog V l0):Fs Tryz.prog V l153:=
 have h:=g152 h0
 h.cons (gd [] [] [] h qMA qKA Tryz.func115 (by kernel_rfl) (fun _=>qLA) (fun x=>by kernel_rfl))
def qOao:Callee:=⟨[.val .str,.val .str],[.val (.int .i64)],fun x=>qWb x.1 x.2.1⟩
def l154:FL:=(68,none,qOao)::l153
theorem g154 {V:Env} (h0:Fs Tryz.prog V l0):Fs Tryz.prog V l154:=
 have h:=g153 h0
 h.cons (gd [] [] [] h qMA qKA Tryz.func68 (by kernel_rfl) (fun _=>qLA) (fun x=>by kernel_rfl))
def qOi:Callee:=⟨[.val qBE],[.val .bool],fun x=>qTF x.1⟩
def l155:FL:=(22,none,qOi)::l154
theorem g155 {V:Env} (h0:Fs Tryz.prog V l0):Fs Tryz.prog V l155:=
 have h:=g154 h0
 h.cons (gd [.lp 14 ⟨112,[1,2,3],[.box (.dat qBE),.val .bool,.val (.int .i64)],[],[]⟩ [.exit 1,.ret] qUC] [] [] h qMA qKA Tryz.func22 (by kernel_rfl) (fun _=>(qMG (fun x=>by kernel_rfl) qLA)) (fun x=>by kernel_rfl))
def qIf:Callee:=⟨[.val qEE],[.val .bool],fun x=>qRa x.1⟩
def l156:FL:=(121,none,qIf)::l155
theorem g156 {V:Env} (h0:Fs Tryz.prog V l0):Fs Tryz.prog V l156:=
 have h:=g155 h0
 h.cons (gd [.lp 9 ⟨52,[1,2,3,4],[.box (.dat qEE),.val .bool,.val (.int .i64),.val (.int .i64)],[],[]⟩ [.exit 2,.ret] qST,.lp 4 ⟨52,[1,2,3],[.box (.dat qEE),.val .bool,.val (.int .i64)],[],[]⟩ [.exit 0,.ret] qVT] [] [] h qMA qKA Tryz.func121 (by kernel_rfl) (fun _=>(qMG (fun x=>by kernel_rfl) (qMG (fun x=>by kernel_rfl) qLA))) (fun x=>by kernel_rfl))
def qMae:Callee:=⟨[.val .bool],[.val qBE],fun x=>qRO x.1⟩
def l157:FL:=(236,none,qMae)::l156
theorem g157 {V:Env} (h0:Fs Tryz.prog V l0):Fs Tryz.prog V l157:=
 have h:=g156 h0
 h.cons (gd [] [] [] h qMA qKA Tryz.func236 (by kernel_rfl) (fun _=>qLA) (fun x=>by kernel_rfl))
def qTi:Callee:=⟨[.val (.sl .str),.val (.sl .str)],[.val .bool],fun x=>qNN x.1 x.2.1⟩
def l158:FL:=(73,none,qTi)::l157
theorem g158 {V:Env} (h0:Fs Tryz.prog V l0):Fs Tryz.prog V l158:=
 have h:=g157 h0
 h.cons (gd [.lp 4 ⟨26,[0,1,4,5],[.val (.sl .str),.val (.sl .str),.val .bool,.val (.int .i64)],[],[]⟩ [.exit 0,.ret] qGJ] [] [] h qMA qKA Tryz.func73 (by kernel_rfl) (fun _=>(qMG (fun x=>by kernel_rfl) qLA)) (fun x=>by kernel_rfl))
def qJj:Callee:=⟨[.val qBE,.val qBE],[.val .bool],fun x=>qWI x.1 x.2.1⟩
def l159:FL:=(27,none,qJj)::l158
theorem g159 {V:Env} (h0:Fs Tryz.prog V l0):Fs Tryz.prog V l159:=
 have h:=g158 h0
 h.cons (gd [] [] [] h qMA qKA Tryz.func27 (by kernel_rfl) (fun _=>qLA) (fun x=>by kernel_rfl))
def qEg:Callee:=⟨[.val (.sl qBE),.val (.sl qBE)],[.val .bool],fun x=>qAb x.1 x.2.1⟩
def l160:FL:=(293,none,qEg)::l159
theorem g160 {V:Env} (h0:Fs Tryz.prog V l0):Fs Tryz.prog V l160:=
 have h:=g159 h0
 h.cons (gd [.lp 4 ⟨27,[0,1,4,5],[.val (.sl qBE),.val (.sl qBE),.val .bool,.val (.int .i64)],[],[]⟩ [.exit 0,.ret] qAU] [] [] h qMA qKA Tryz.func293 (by kernel_rfl) (fun _=>(qMG (fun x=>by kernel_rfl) qLA)) (fun x=>by kernel_rfl))
def qEY:Callee:=⟨[.box (.dat (.pair (.sl qTG) (.pair (.sl qQN) (.sl qEE)))),.val qTG,.val (.sl qBE)],[.val qBE,.val (.int .i64)],fun x=>qKJ x.1 x.2.1 x.2.2.1⟩
def l161:FL:=(237,none,qEY)::l160
theorem g161 {V:Env} (h0:Fs Tryz.prog V l0):Fs Tryz.prog V l161:=
 have h:=g160 h0
 h.cons (gd [.lp 8 ⟨63,[0,2,4,6,8,9,10,11],[.box (.dat (.pair (.sl qTG) (.pair (.sl qQN) (.sl qEE)))),.val (.sl qBE),.box (.dat qTG),.box (.dat qBE),.val (.int .i64),.box (.dat qEE),.box (.dat qBE),.val (.int .i64)],[0],[]⟩ [.exit 2] qAP,.lp 2 ⟨63,[0,2,4,6,7,8],[.box (.dat (.pair (.sl qTG) (.pair (.sl qQN) (.sl qEE)))),.val (.sl qBE),.box (.dat qTG),.box (.dat qBE),.val (.int .i64),.val (.int .i64)],[0],[]⟩ [.exit 0,.ret] qBK] [] [] h qMA qKA Tryz.func237 (by kernel_rfl) (fun _=>(qMG (fun x=>by kernel_rfl) (qMG (fun x=>by kernel_rfl) qLA))) (fun x=>by kernel_rfl))
def qUan:Callee:=⟨[.val .str,.val .str],[.val .str],fun x=>qIr x.1 x.2.1⟩
def l162:FL:=(85,none,qUan)::l161
theorem g162 {V:Env} (h0:Fs Tryz.prog V l0):Fs Tryz.prog V l162:=
 have h:=g161 h0
 h.cons (gd [] [] [] h qMA qKA Tryz.func85 (by kernel_rfl) (fun _=>qLA) (fun x=>by kernel_rfl))
def qWak:Callee:=⟨[.val .str],[.val .str],fun x=>qEac x.1⟩
def l163:FL:=(336,none,qWak)::l162
theorem g163 {V:Env} (h0:Fs Tryz.prog V l0):Fs Tryz.prog V l163:=
 have h:=g162 h0
 h.cons (gd [] [] [] h qMA qKA Tryz.func336 (by kernel_rfl) (fun _=>qLA) (fun x=>by kernel_rfl))
def qYaq:Callee:=⟨[.val .str],[.val .str],fun x=>qNam x.1⟩
def l164:FL:=(295,none,qYaq)::l163
theorem g164 {V:Env} (h0:Fs Tryz.prog V l0):Fs Tryz.prog V l164:=
 have h:=g163 h0
 h.cons (gd [] [] [] h qMA qKA Tryz.func295 (by kernel_rfl) (fun _=>qLA) (fun x=>by kernel_rfl))
def qCao:Callee:=⟨[.val .str,.val .str],[.val .str],fun x=>qZab x.1 x.2.1⟩
def l165:FL:=(179,none,qCao)::l164
theorem g165 {V:Env} (h0:Fs Tryz.prog V l0):Fs Tryz.prog V l165:=
 have h:=g164 h0
 h.cons (gd [] [] [] h qMA qKA Tryz.func179 (by kernel_rfl) (fun _=>qLA) (fun x=>by kernel_rfl))
def qPah:Callee:=⟨[.val .str],[.val .str],fun x=>qXm x.1⟩
def l166:FL:=(294,none,qPah)::l165
theorem g166 {V:Env} (h0:Fs Tryz.prog V l0):Fs Tryz.prog V l166:=
 have h:=g165 h0
 h.cons (gd [] [] [] h qMA qKA Tryz.func294 (by kernel_rfl) (fun _=>qLA) (fun x=>by kernel_rfl))
def qQaq:Callee:=⟨[.val .str,.val .str],[.val .str],fun x=>qSs x.1 x.2.1⟩
def l167:FL:=(238,none,qQaq)::l166
theorem g167 {V:Env} (h0:Fs Tryz.prog V l0):Fs Tryz.prog V l167:=
 have h:=g166 h0
 h.cons (gd [] [] [] h qMA qKA Tryz.func238 (by kernel_rfl) (fun _=>qLA) (fun x=>by kernel_rfl))
def qLar:Callee:=⟨[.val .str,.val .str],[.val .str],fun x=>qWag x.1 x.2.1⟩
def l168:FL:=(239,none,qLar)::l167
theorem g168 {V:Env} (h0:Fs Tryz.prog V l0):Fs Tryz.prog V l168:=
 have h:=g167 h0
 h.cons (gd [] [] [] h qMA qKA Tryz.func239 (by kernel_rfl) (fun _=>qLA) (fun x=>by kernel_rfl))
def qBas:Callee:=⟨[.val qBE,.val .str],[.val .str],fun x=>r_At x.1 x.2.1⟩
def l169:FL:=(47,none,qBas)::l168
theorem g169 {V:Env} (h0:Fs Tryz.prog V l0):Fs Tryz.prog V l169:=
 have h:=g168 h0
 h.cons (gd [.lp 4 ⟨40,[1,2,4,5],[.val .str,.box (.dat qBE),.val .str,.val (.int .i64)],[],[]⟩ [.exit 0,.ret] qBY] [] [] h qMA qKA Tryz.func47 (by kernel_rfl) (fun _=>(qMG (fun x=>by kernel_rfl) qLA)) (fun x=>by kernel_rfl))
def qZae:Callee:=⟨[.val qBE,.val .str,.val .str],[.val qBE,.val (.int .i64)],fun x=>qAg x.1 x.2.1 x.2.2.1⟩
def l170:FL:=(45,none,qZae)::l169
theorem g170 {V:Env} (h0:Fs Tryz.prog V l0):Fs Tryz.prog V l170:=
 have h:=g169 h0
 h.cons (gd [.lp 6 ⟨112,[1,2,3,6,8,9,10],[.val .str,.val .str,.box (.dat qBE),.box (.dat qBE),.box (.pair (.dat (.int .i64)) (.pair (.dat .bool) (.pair (.dat .str) (.pair (.own .str) (.own .str))))),.val .bool,.val (.int .i64)],[],[]⟩ [.exit 0] qKC] [] [(11,[8],[66,68,74,100075,100076]),(13,[8,3,103],[92,94,96,97,98,108,100109,100110])] h qMA qKA Tryz.func45 (by kernel_rfl) (fun _=>(qMG (fun x=>by kernel_rfl) qLA)) (fun x=>by kernel_rfl))
def qEag:Callee:=⟨[.val (.int .i64),.val (.sl qBE)],[.val qBE],fun x=>qBh x.1 x.2.1⟩
def l171:FL:=(240,none,qEag)::l170
theorem g171 {V:Env} (h0:Fs Tryz.prog V l0):Fs Tryz.prog V l171:=
 have h:=g170 h0
 h.cons (gd [.lp 7 ⟨49,[0,1,4,5],[.val (.int .i64),.val (.sl qBE),.box (.dat qBE),.val (.int .i64)],[],[]⟩ [.exit 1,.ret] qFN] [] [] h qMA qKA Tryz.func240 (by kernel_rfl) (fun _=>(qMG (fun x=>by kernel_rfl) qLA)) (fun x=>by kernel_rfl))
def qBZ:Callee:=⟨[.box (.dat (.pair (.sl qTG) (.pair (.sl qQN) (.sl qEE)))),.val qTG,.val (.sl qBE)],[.val qBE,.val (.int .i64)],fun x=>qKE x.1 x.2.1 x.2.2.1⟩
def l172:FL:=(176,none,qBZ)::l171
theorem g172 {V:Env} (h0:Fs Tryz.prog V l0):Fs Tryz.prog V l172:=
 have h:=g171 h0
 h.cons (gd [.lp 9 ⟨222,[0,4,6,7,8],[.box (.dat (.pair (.sl qTG) (.pair (.sl qQN) (.sl qEE)))),.box (.dat qTG),.box (.dat qBE),.val (.int .i64),.val (.int .i64)],[0],[]⟩ [.exit 1,.ret] qKD,.lp 31 ⟨222,[0,2,6,9,10],[.box (.dat (.pair (.sl qTG) (.pair (.sl qQN) (.sl qEE)))),.val (.sl qBE),.box (.dat qBE),.val .str,.val (.int .i64)],[0],[]⟩ [.exit 3] qMF] [] [] h qMA qKA Tryz.func176 (by kernel_rfl) (fun _=>(qMG (fun x=>by kernel_rfl) (qMG (fun x=>by kernel_rfl) qLA))) (fun x=>by kernel_rfl))
def qVH (g:((List Nod)×(List qEK)×List Interp)->Int->Option ((Val×Int×Int×Unit)×(((List Nod)×(List qEK)×List Interp)×Unit))):Callee:=⟨[.box (.dat (.pair (.sl qTG) (.pair (.sl qQN) (.sl qEE)))),.val (.int .i64)],[.val qBE,.val (.int .i64),.val (.int .i64)],fun x=>g x.1 x.2.1⟩
def qLb:Callee:=qVH (qLE big)
theorem qRX {V:Env} (h0:Fs Tryz.prog V l0) (qKaE:((List Nod)×(List qEK)×List Interp)->Int->Option ((Val×Int×Int×Unit)×(((List Nod)×(List qEK)×List Interp)×Unit))) (r0:Good V 122 (qVH qKaE)):Good V 122 (qVH (qMI qKaE)):=
 have h:=g172 h0
 gd [.lp 5 ⟨56,[0,1,4,5,6,7,8,9],[.box (.dat (.pair (.sl qTG) (.pair (.sl qQN) (.sl qEE)))),.val (.int .i64),.box (.dat qBE),.val (.int .i64),.val (.int .i64),.box (.dat qTG),.own qBE,.val (.int .i64)],[0],[]⟩ [.exit 0,.ret] (qOC qKaE)] [] [] (Fs.cons (s:=none) h r0) qMA qKA Tryz.func122 (by kernel_rfl) (fun _=>(qMG (fun x=>by kernel_rfl) qLA)) (fun x=>by kernel_rfl)
theorem qDY {V:Env} (h0:Fs Tryz.prog V l0) (n:Nat):Good V 122 (qVH (qLE n)):=by
 induction n with
 |zero=>exact qLK ⟨_,h0.prog ▸ Tryz.func122,by decide,rfl⟩ (fun _=>rfl)
 |succ n ih=>exact qRX h0 (qLE n) ih
def l173:FL:=(122,none,qLb)::l172
theorem g173 {V:Env} (h0:Fs Tryz.prog V l0):Fs Tryz.prog V l173:=(Fs.cons (s:=none) (g172 h0) (qDY h0 big))
def qJm:Callee:=⟨[.val qBE],[.val qBE],fun x=>qLY x.1⟩
def l174:FL:=(123,none,qJm)::l173
theorem g174 {V:Env} (h0:Fs Tryz.prog V l0):Fs Tryz.prog V l174:=
 have h:=g173 h0
 h.cons (gd [] [] [(1,[1],[4,8,100009,100010])] h qMA qKA Tryz.func123 (by kernel_rfl) (fun _=>qLA) (fun x=>by kernel_rfl))
def qXal:Callee:=⟨[.val (.sl qTG),.val (.sl qQN),.val (.sl qEE)],[.val qBE,.val (.int .i64)],fun x=>qKq x.1 x.2.1 x.2.2.1⟩
def l175:FL:=(82,none,qXal)::l174
theorem g175 {V:Env} (h0:Fs Tryz.prog V l0):Fs Tryz.prog V l175:=
 have h:=g174 h0
 h.cons (gd [.lp 4 ⟨62,[0,1,2,6,7,8],[.val (.sl qTG),.val (.sl qQN),.val (.sl qEE),.box (.dat qBE),.val (.int .i64),.val (.int .i64)],[],[]⟩ [.exit 0,.ret] qOV,.lp 9 ⟨62,[0,1,2,6,7,9],[.val (.sl qTG),.val (.sl qQN),.val (.sl qEE),.box (.dat qBE),.val (.int .i64),.val (.int .i64)],[],[]⟩ [.exit 2,.ret] qCi] [] [] h qMA qKA Tryz.func82 (by kernel_rfl) (fun _=>(qMG (fun x=>by kernel_rfl) (qMG (fun x=>by kernel_rfl) qLA))) (fun x=>by kernel_rfl))
def qZac:Callee:=⟨[.val (.sl qTG),.val (.sl qQN),.val (.sl qEE)],[.val .bool],fun x=>qUs x.1 x.2.1 x.2.2.1⟩
def l176:FL:=(41,none,qZac)::l175
theorem g176 {V:Env} (h0:Fs Tryz.prog V l0):Fs Tryz.prog V l176:=
 have h:=g175 h0
 h.cons (gd [] [] [] h qMA qKA Tryz.func41 (by kernel_rfl) (fun _=>qLA) (fun x=>by kernel_rfl))
def qHah:Callee:=⟨[.val (.sl qTG),.val (.sl qQN),.val (.sl qEE)],[.val .bool],fun x=>qJr x.1 x.2.1 x.2.2.1⟩
def l177:FL:=(83,none,qHah)::l176
theorem g177 {V:Env} (h0:Fs Tryz.prog V l0):Fs Tryz.prog V l177:=
 have h:=g176 h0
 h.cons (gd [] [] [] h qMA qKA Tryz.func83 (by kernel_rfl) (fun _=>qLA) (fun x=>by kernel_rfl))
def qNn:Callee:=⟨[.val (.sl qTG),.val (.sl qQN),.val (.sl qEE)],[.val .bool],fun x=>qNQ x.1 x.2.1 x.2.2.1⟩
def l178:FL:=(34,none,qNn)::l177
theorem g178 {V:Env} (h0:Fs Tryz.prog V l0):Fs Tryz.prog V l178:=
 have h:=g177 h0
 h.cons (gd [] [] [] h qMA qKA Tryz.func34 (by kernel_rfl) (fun _=>qLA) (fun x=>by kernel_rfl))
def qXao:Callee:=⟨[.val (.sl (.int .i64))],[.box (.dat qTB)],fun x=>qIam x.1⟩
def l179:FL:=(30,none,qXao)::l178
theorem g179 {V:Env} (h0:Fs Tryz.prog V l0):Fs Tryz.prog V l179:=
 have h:=g178 h0
 h.cons (gd [] [] [] h qMA qKA Tryz.func30 (by kernel_rfl) (fun _=>qLA) (fun x=>by kernel_rfl))
def qEak:Callee:=⟨[],[.val (.sl gVr)],fun _=>qNac⟩
def l180:FL:=(32,none,qEak)::l179
theorem g180 {V:Env} (h0:Fs Tryz.prog V l0):Fs Tryz.prog V l180:=
 have h:=g179 h0
 h.cons (gd [] [] [] h qMA qKA Tryz.func32 (by kernel_rfl) (fun _=>qLA) (fun x=>by kernel_rfl))
def qFar:Callee:=⟨[.val (.int .i64),.val (.int .i64)],[.val (.int .i64)],fun x=>qFaj x.1 x.2.1⟩
def l181:FL:=(18,none,qFar)::l180
theorem g181 {V:Env} (h0:Fs Tryz.prog V l0):Fs Tryz.prog V l181:=
 have h:=g180 h0
 h.cons (gd [] [] [] h qMA qKA Tryz.func18 (by kernel_rfl) (fun _=>qLA) (fun x=>by kernel_rfl))
def qAe:Callee:=⟨[.box (.dat qTB),.val (.int .i64)],[.val (.int .i64)],fun x=>qHA x.1 x.2.1⟩
def l182:FL:=(39,none,qAe)::l181
theorem g182 {V:Env} (h0:Fs Tryz.prog V l0):Fs Tryz.prog V l182:=
 have h:=g181 h0
 h.cons (gd [] [] [] h qMA qKA Tryz.func39 (by kernel_rfl) (fun _=>qLA) (fun x=>by kernel_rfl))
def qIs:Callee:=⟨[.val (.int .i64)],[.val .str],fun x=>qQG x.1⟩
def l183:FL:=(50,none,qIs)::l182
theorem g183 {V:Env} (h0:Fs Tryz.prog V l0):Fs Tryz.prog V l183:=
 have h:=g182 h0
 h.cons (gd [.lp 3 ⟨33,[0,3,4],[.val (.int .i64),.val .str,.val (.int .i64)],[],[]⟩ [.exit 0] qHL] [] [] h qMA qKA Tryz.func50 (by kernel_rfl) (fun _=>(qMG (fun x=>by kernel_rfl) qLA)) (fun x=>by kernel_rfl))
def qLc:Callee:=⟨[.box (.dat qTB),.val (.int .i64)],[.val qBE],fun x=>qIF x.1 x.2.1⟩
def l184:FL:=(40,none,qLc)::l183
theorem g184 {V:Env} (h0:Fs Tryz.prog V l0):Fs Tryz.prog V l184:=
 have h:=g183 h0
 h.cons (gd [] [] [(6,[5],[25,28,29,100005])] h qMA qKA Tryz.func40 (by kernel_rfl) (fun _=>qLA) (fun x=>by kernel_rfl))
def qJad:Callee:=⟨[.val .bool],[.val (.sl qTG)],fun x=>qAm x.1⟩
def l185:FL:=(60,none,qJad)::l184
theorem g185 {V:Env} (h0:Fs Tryz.prog V l0):Fs Tryz.prog V l185:=
 have h:=g184 h0
 h.cons (gd [] [] [] h qMA qKA Tryz.func60 (by kernel_rfl) (fun _=>qLA) (fun x=>by kernel_rfl))
def qSn:Callee:=⟨[.val qBE],[.val (.sl qTG),.val (.int .i64)],fun x=>qIJ x.1⟩
def l186:FL:=(20,none,qSn)::l185
theorem g186 {V:Env} (h0:Fs Tryz.prog V l0):Fs Tryz.prog V l186:=
 have h:=g185 h0
 h.cons (gd [.lp 11 ⟨60,[1,2,3,4,5],[.box (.dat qBE),.val (.sl qTG),.val (.int .i64),.val (.sl qTG),.val (.int .i64)],[],[]⟩ [.exit 1,.ret] qJH] [] [] h qMA qKA Tryz.func20 (by kernel_rfl) (fun _=>(qMG (fun x=>by kernel_rfl) qLA)) (fun x=>by kernel_rfl))
def qVW:Callee:=⟨[.box (.dat qTB),.val (.int .i64),.val (.sl gVr)],[.val (.sl qTG)],fun x=>qEB x.1 x.2.1 x.2.2.1⟩
def l187:FL:=(76,none,qVW)::l186
theorem g187 {V:Env} (h0:Fs Tryz.prog V l0):Fs Tryz.prog V l187:=
 have h:=g186 h0
 h.cons (gd [.lp 3 ⟨55,[0,1,2,7,8],[.box (.dat qTB),.val (.int .i64),.val (.sl gVr),.own gVr,.val (.int .i64)],[0],[]⟩ [.exit 0] qQD] [] [] h qMA qKA Tryz.func76 (by kernel_rfl) (fun _=>(qMG (fun x=>by kernel_rfl) qLA)) (fun x=>by kernel_rfl))
def qHe:Callee:=⟨[.box (.dat qTB)],[.val .bool],fun x=>qLN x.1⟩
def l188:FL:=(75,none,qHe)::l187
theorem g188 {V:Env} (h0:Fs Tryz.prog V l0):Fs Tryz.prog V l188:=
 have h:=g187 h0
 h.cons (gd [] [] [] h qMA qKA Tryz.func75 (by kernel_rfl) (fun _=>qLA) (fun x=>by kernel_rfl))
def qYas:Callee:=⟨[.val (.int .i64),.val (.sl (.sl qTG))],[.val (.sl qTG)],fun x=>qEe x.1 x.2.1⟩
def l189:FL:=(77,none,qYas)::l188
theorem g189 {V:Env} (h0:Fs Tryz.prog V l0):Fs Tryz.prog V l189:=
 have h:=g188 h0
 h.cons (gd [] [] [] h qMA qKA Tryz.func77 (by kernel_rfl) (fun _=>qLA) (fun x=>by kernel_rfl))
def qMY:Callee:=⟨[.box (.dat qTB)],[.val .str],fun x=>qVE x.1⟩
def l190:FL:=(38,none,qMY)::l189
theorem g190 {V:Env} (h0:Fs Tryz.prog V l0):Fs Tryz.prog V l190:=
 have h:=g189 h0
 h.cons (gd [] [] [] h qMA qKA Tryz.func38 (by kernel_rfl) (fun _=>qLA) (fun x=>by kernel_rfl))
def qPa:Callee:=⟨[.box (.dat qTB)],[.val .str],fun x=>qTK x.1⟩
def l191:FL:=(127,none,qPa)::l190
theorem g191 {V:Env} (h0:Fs Tryz.prog V l0):Fs Tryz.prog V l191:=
 have h:=g190 h0
 h.cons (gd [] [] [] h qMA qKA Tryz.func127 (by kernel_rfl) (fun _=>qLA) (fun x=>by kernel_rfl))
def qJf:Callee:=⟨[.box (.dat qTB),.val (.int .i64)],[.val .str],fun x=>qQF x.1 x.2.1⟩
def l192:FL:=(87,none,qJf)::l191
theorem g192 {V:Env} (h0:Fs Tryz.prog V l0):Fs Tryz.prog V l192:=
 have h:=g191 h0
 h.cons (gd [] [] [] h qMA qKA Tryz.func87 (by kernel_rfl) (fun _=>qLA) (fun x=>by kernel_rfl))
def qLD (g:qCA->Int->Int->List Vr->Option (((List Nod)×Unit)×(qCA×Unit))):Callee:=⟨[.box (.dat qTB),.val (.int .i64),.val (.int .i64),.val (.sl gVr)],[.val (.sl qTG)],fun x=>g x.1 x.2.1 x.2.2.1 x.2.2.2.1⟩
def qIe:Callee:=qLD (qFB big)
def qJC (g:qCA->Int->List Vr->Option (((List Nod)×Unit)×(qCA×Unit))):Callee:=⟨[.box (.dat qTB),.val (.int .i64),.val (.sl gVr)],[.val (.sl qTG)],fun x=>g x.1 x.2.1 x.2.2.1⟩
def qOY:Callee:=qJC (qRA big)
def qME (g:qCA->Int->Int->List Vr->Option (((List Nod)×Unit)×(qCA×Unit))):Callee:=⟨[.box (.dat qTB),.val (.int .i64),.val (.int .i64),.val (.sl gVr)],[.val (.sl qTG)],fun x=>g x.1 x.2.1 x.2.2.1 x.2.2.2.1⟩
def qUg:Callee:=qME (qAC big)
def qRB (g:qCA->Int->Int->List Vr->Option (((List Nod)×Unit)×(qCA×Unit))):Callee:=⟨[.box (.dat qTB),.val (.int .i64),.val (.int .i64),.val (.sl gVr)],[.val (.sl qTG)],fun x=>g x.1 x.2.1 x.2.2.1 x.2.2.2.1⟩
def qBU:Callee:=qRB (qSA big)
def qSD (g:qCA->Int->List Vr->Option (((List Nod)×Unit)×(qCA×Unit))):Callee:=⟨[.box (.dat qTB),.val (.int .i64),.val (.sl gVr)],[.val (.sl qTG)],fun x=>g x.1 x.2.1 x.2.2.1⟩
def qGe:Callee:=qSD (qLB big)
theorem qXb {V:Env} (h0:Fs Tryz.prog V l0) (qGaE:qCA->Int->Int->List Vr->Option (((List Nod)×Unit)×(qCA×Unit))) (qFaE:qCA->Int->List Vr->Option (((List Nod)×Unit)×(qCA×Unit))) (qJaE:qCA->Int->Int->List Vr->Option (((List Nod)×Unit)×(qCA×Unit))) (qHaE:qCA->Int->Int->List Vr->Option (((List Nod)×Unit)×(qCA×Unit))) (qIaE:qCA->Int->List Vr->Option (((List Nod)×Unit)×(qCA×Unit))) (r0:Good V 31 (qLD qGaE)) (r1:Good V 35 (qJC qFaE)) (r2:Good V 78 (qME qJaE)) (r3:Good V 79 (qRB qHaE)) (r4:Good V 84 (qSD qIaE)):Good V 31 (qLD (qJG qGaE qFaE qJaE qHaE qIaE)):=
 have h:=g192 h0
 gd [] [] [] (Fs.cons (s:=none) (Fs.cons (s:=none) (Fs.cons (s:=none) (Fs.cons (s:=none) (Fs.cons (s:=none) h r0) r1) r2) r3) r4) qMA qKA Tryz.func31 (by kernel_rfl) (fun _=>qLA) (fun x=>by kernel_rfl)
theorem qTW {V:Env} (h0:Fs Tryz.prog V l0) (qGaE:qCA->Int->Int->List Vr->Option (((List Nod)×Unit)×(qCA×Unit))) (qFaE:qCA->Int->List Vr->Option (((List Nod)×Unit)×(qCA×Unit))) (qJaE:qCA->Int->Int->List Vr->Option (((List Nod)×Unit)×(qCA×Unit))) (qHaE:qCA->Int->Int->List Vr->Option (((List Nod)×Unit)×(qCA×Unit))) (qIaE:qCA->Int->List Vr->Option (((List Nod)×Unit)×(qCA×Unit))) (r0:Good V 31 (qLD qGaE)) (r1:Good V 35 (qJC qFaE)) (r2:Good V 78 (qME qJaE)) (r3:Good V 79 (qRB qHaE)) (r4:Good V 84 (qSD qIaE)):Good V 35 (qJC (qWE qGaE qFaE qJaE qHaE qIaE)):=
 have h:=g192 h0
 gd [.lp 13 ⟨94,[0,1,2,7,8],[.box (.dat qTB),.val (.int .i64),.val (.sl gVr),.own (.sl qTG),.val (.int .i64)],[0],[]⟩ [.exit 1] (qSB qGaE qFaE qJaE qHaE qIaE)] [] [] (Fs.cons (s:=none) (Fs.cons (s:=none) (Fs.cons (s:=none) (Fs.cons (s:=none) (Fs.cons (s:=none) h r0) r1) r2) r3) r4) qMA qKA Tryz.func35 (by kernel_rfl) (fun _=>(qMG (fun x=>by kernel_rfl) qLA)) (fun x=>by kernel_rfl)
theorem qXd {V:Env} (h0:Fs Tryz.prog V l0) (qGaE:qCA->Int->Int->List Vr->Option (((List Nod)×Unit)×(qCA×Unit))) (qFaE:qCA->Int->List Vr->Option (((List Nod)×Unit)×(qCA×Unit))) (qJaE:qCA->Int->Int->List Vr->Option (((List Nod)×Unit)×(qCA×Unit))) (qHaE:qCA->Int->Int->List Vr->Option (((List Nod)×Unit)×(qCA×Unit))) (qIaE:qCA->Int->List Vr->Option (((List Nod)×Unit)×(qCA×Unit))) (r0:Good V 31 (qLD qGaE)) (r1:Good V 35 (qJC qFaE)) (r2:Good V 78 (qME qJaE)) (r3:Good V 79 (qRB qHaE)) (r4:Good V 84 (qSD qIaE)):Good V 78 (qME (qEM qGaE qFaE qJaE qHaE qIaE)):=
 have h:=g192 h0
 gd [] [] [] (Fs.cons (s:=none) (Fs.cons (s:=none) (Fs.cons (s:=none) (Fs.cons (s:=none) (Fs.cons (s:=none) h r0) r1) r2) r3) r4) qMA qKA Tryz.func78 (by kernel_rfl) (fun _=>qLA) (fun x=>by kernel_rfl)
theorem qAT {V:Env} (h0:Fs Tryz.prog V l0) (qGaE:qCA->Int->Int->List Vr->Option (((List Nod)×Unit)×(qCA×Unit))) (qFaE:qCA->Int->List Vr->Option (((List Nod)×Unit)×(qCA×Unit))) (qJaE:qCA->Int->Int->List Vr->Option (((List Nod)×Unit)×(qCA×Unit))) (qHaE:qCA->Int->Int->List Vr->Option (((List Nod)×Unit)×(qCA×Unit))) (qIaE:qCA->Int->List Vr->Option (((List Nod)×Unit)×(qCA×Unit))) (r0:Good V 31 (qLD qGaE)) (r1:Good V 35 (qJC qFaE)) (r2:Good V 78 (qME qJaE)) (r3:Good V 79 (qRB qHaE)) (r4:Good V 84 (qSD qIaE)):Good V 79 (qRB (qDG qGaE qFaE qJaE qHaE qIaE)):=
 have h:=g192 h0
 gd [.lp 5 ⟨122,[0,1,2,3,10,11],[.box (.dat qTB),.val (.int .i64),.val (.int .i64),.val (.sl gVr),.row (.sl qTG),.val (.int .i64)],[0],[]⟩ [.exit 1] (qHE qGaE qFaE qJaE qHaE qIaE)] [24] [(15,[12],[88,89])] (Fs.cons (s:=none) (Fs.cons (s:=none) (Fs.cons (s:=none) (Fs.cons (s:=none) (Fs.cons (s:=none) h r0) r1) r2) r3) r4) qMA qKA Tryz.func79 (by kernel_rfl) (fun _=>(qMG (fun x=>by kernel_rfl) qLA)) (fun x=>by kernel_rfl)
theorem qPb {V:Env} (h0:Fs Tryz.prog V l0) (qGaE:qCA->Int->Int->List Vr->Option (((List Nod)×Unit)×(qCA×Unit))) (qFaE:qCA->Int->List Vr->Option (((List Nod)×Unit)×(qCA×Unit))) (qJaE:qCA->Int->Int->List Vr->Option (((List Nod)×Unit)×(qCA×Unit))) (qHaE:qCA->Int->Int->List Vr->Option (((List Nod)×Unit)×(qCA×Unit))) (qIaE:qCA->Int->List Vr->Option (((List Nod)×Unit)×(qCA×Unit))) (r0:Good V 31 (qLD qGaE)) (r1:Good V 35 (qJC qFaE)) (r2:Good V 78 (qME qJaE)) (r3:Good V 79 (qRB qHaE)) (r4:Good V 84 (qSD qIaE)):Good V 84 (qSD (qSK qGaE qFaE qJaE qHaE qIaE)):=
 have h:=g192 h0
 gd [] [] [] (Fs.cons (s:=none) (Fs.cons (s:=none) (Fs.cons (s:=none) (Fs.cons (s:=none) (Fs.cons (s:=none) h r0) r1) r2) r3) r4) qMA qKA Tryz.func84 (by kernel_rfl) (fun _=>qLA) (fun x=>by kernel_rfl)
theorem qHH {V:Env} (h0:Fs Tryz.prog V l0) (n:Nat):Good V 31 (qLD (qFB n))/\Good V 35 (qJC (qRA n))/\Good V 78 (qME (qAC n))/\Good V 79 (qRB (qSA n))/\Good V 84 (qSD (qLB n)):=by
 induction n with
 |zero=>exact ⟨qLK ⟨_,h0.prog ▸ Tryz.func31,by decide,rfl⟩ (fun _=>rfl),qLK ⟨_,h0.prog ▸ Tryz.func35,by decide,rfl⟩ (fun _=>rfl),qLK ⟨_,h0.prog ▸ Tryz.func78,by decide,rfl⟩ (fun _=>rfl),qLK ⟨_,h0.prog ▸ Tryz.func79,by decide,rfl⟩ (fun _=>rfl),qLK ⟨_,h0.prog ▸ Tryz.func84,by decide,rfl⟩ (fun _=>rfl)⟩
 |succ n ih=>exact ⟨qXb h0 (qFB n) (qRA n) (qAC n) (qSA n) (qLB n) ih.1 ih.2.1 ih.2.2.1 ih.2.2.2.1 ih.2.2.2.2,qTW h0 (qFB n) (qRA n) (qAC n) (qSA n) (qLB n) ih.1 ih.2.1 ih.2.2.1 ih.2.2.2.1 ih.2.2.2.2,qXd h0 (qFB n) (qRA n) (qAC n) (qSA n) (qLB n) ih.1 ih.2.1 ih.2.2.1 ih.2.2.2.1 ih.2.2.2.2,qAT h0 (qFB n) (qRA n) (qAC n) (qSA n) (qLB n) ih.1 ih.2.1 ih.2.2.1 ih.2.2.2.1 ih.2.2.2.2,qPb h0 (qFB n) (qRA n) (qAC n) (qSA n) (qLB n) ih.1 ih.2.1 ih.2.2.1 ih.2.2.2.1 ih.2.2.2.2⟩
def l193:FL:=(84,none,qGe)::(79,none,qBU)::(78,none,qUg)::(35,none,qOY)::(31,none,qIe)::l192
theorem g193 {V:Env} (h0:Fs Tryz.prog V l0):Fs Tryz.prog V l193:=(Fs.cons (s:=none) (Fs.cons (s:=none) (Fs.cons (s:=none) (Fs.cons (s:=none) (Fs.cons (s:=none) (g192 h0) (qHH h0 big).1) (qHH h0 big).2.1) (qHH h0 big).2.2.1) (qHH h0 big).2.2.2.1) (qHH h0 big).2.2.2.2)
def qUT:Callee:=⟨[.val (.sl qTG),.val (.sl qQN),.val (.sl (.int .i64))],[.val .bool],fun x=>qHN x.1 x.2.1 x.2.2.1⟩
def l194:FL:=(6,none,qUT)::l193
theorem g194 {V:Env} (h0:Fs Tryz.prog V l0):Fs Tryz.prog V l194:=
 have h:=g193 h0
 h.cons (gd [.lp 4 ⟨69,[0,1,2,6,7],[.val (.sl qTG),.val (.sl qQN),.val (.sl (.int .i64)),.val .bool,.val (.int .i64)],[],[]⟩ [.exit 0,.ret] qEH,.lp 9 ⟨69,[0,1,2,6,8],[.val (.sl qTG),.val (.sl qQN),.val (.sl (.int .i64)),.val .bool,.val (.int .i64)],[],[]⟩ [.exit 2,.ret] qAF] [] [] h qMA qKA Tryz.func6 (by kernel_rfl) (fun _=>(qMG (fun x=>by kernel_rfl) (qMG (fun x=>by kernel_rfl) qLA))) (fun x=>by kernel_rfl))
end
end Go.AM.Num
end
section
namespace Go.AM
open Go.RowKit (Below)
theorem qRj (s:ByteArray):s.size=s.data.toList.length:=by rw[<-ByteArray.size_data,Array.length_toList]
theorem qTg {V : Env} {k : FuncId} {C : Callee} (hen : ∃ fn, V.P.funcs[k]? = some fn ∧ (fn.name == "runtime.NumGoroutine") = false ∧ fn.body.isNone = false) (hin : ∀ x, qPB C.ps x = []) (hout : ∀ o y, qDK C.ps C.rk o y = []) (hk : cntK C.ps = 0)
 (h:∀ x y o,C.g x=some (y,o)->∀ (w:World) (rd:Nat->Nat->Option Value) (I:Nat->Prop) (β:Nat->Option Place) (vs:Array Value),V.G w->RelL rd I β (qMB C.ps x 0 (cntK C.ps)) vs.toList->
  Calls V.P k vs w fun e w'=>∃ us,e=.returned (qBb us)/\Ext w w'/\∀ rd I' β',RelL rd I' β' (qFT C.ps C.rk y) us):Good V k C:=by
 refine ⟨hen,fun x y o hx w I β vs hG hgb hctx hargs=>Calls.mono (h x y o hx w _ I β vs hG hargs) ?_⟩
 rintro e w' ⟨us,rfl,hext,hres⟩
 rw[hin] at hctx ⊢
 have hn:∀ B,¬ qRL [] β B:=fun B=>qCT B
 refine ⟨us,fun B=>I B\/(w.heap.size<=B/\B < w'.heap.size),β,rfl,⟨hext.os,hext.tape,hext.output,hext.size,fun B hB _=>hext.block B hB⟩,⟨?_,?_,?_,?_⟩,hres _ _ _⟩
 ·rw[hout]
  refine ⟨fun b r hb=>by simp at hb,fun b b' r r' p p' hb=>by simp at hb,fun B hB=>⟨?_,qCT B⟩,hctx.dom⟩
  rcases hB with hB | hB
  ·exact Nat.lt_of_lt_of_le (hctx.imm B hB).1 hext.size
  ·exact hB.2
 ·rintro B (hB | hB)
  ·exact .inl hB
  ·exact .inr (.inr hB.1)
 ·intro b r q hb;rw[hout] at hb;simp at hb
 ·intro i hi;rw[hk] at hi;cases hi
end Go.AM
namespace Go.AM.Num
open Go.Proofs
structure GN (w:World):Prop where
 maxLen:∃ m,w.cell? ⟨1,0,none⟩=some (.int .i64 m)
 pow10 : Lib.TabIs Tryz.prog w "internal/strconv.uint64pow10" .u64 Lib.pow10Tab
section
variable {rd:Nat->Nat->Option Value} {I:Nat->Prop} {β:Nat->Option Place}
theorem qLf {x:qBs} {v:Value} (h:RelV rd I β (.str x) v):∃ s:ByteArray,v=.string s/\s.data.toList=x:=by simpa only[RelV] using h
theorem qMT {k:IntKind} {n:Int} {v:Value} (h:RelV rd I β (.int k n) v):v=.int k n:=by simpa only[RelV] using h
theorem rel1 {a:AV} {vs:Array Value} (h:RelL rd I β [a] vs.toList):∃ v,vs=#[v]/\RelV rd I β a v:=by
 simp only[RelL] at h
 obtain ⟨v,vs',h1,h2,rfl⟩:=h
 exact ⟨v,by apply Array.ext';simpa using h1,h2⟩
theorem rel2 {a b:AV} {vs:Array Value} (h:RelL rd I β [a,b] vs.toList):∃ v v',vs=#[v,v']/\RelV rd I β a v/\RelV rd I β b v':=by
 simp only[RelL] at h
 obtain ⟨v,vs',h1,h2,v',vs2,rfl,h3,rfl⟩:=h
 exact ⟨v,v',by apply Array.ext';simpa using h1,h2,h3⟩
theorem rel3 {a b c:AV} {vs:Array Value} (h:RelL rd I β [a,b,c] vs.toList):∃ v v' v2,vs=#[v,v',v2]/\RelV rd I β a v/\RelV rd I β b v'/\RelV rd I β c v2:=by
 simp only[RelL] at h
 obtain ⟨v,vs',h1,h2,v',vs2,rfl,h3,v2,vs3,rfl,h4,rfl⟩:=h
 exact ⟨v,v',v2,by apply Array.ext';simpa using h1,h2,h3,h4⟩
theorem qQb (l:qBs):RelV rd I β (.str l) (.string ⟨l.toArray⟩):=by simp only[RelV];exact ⟨_,rfl,by simp⟩
end
theorem qBac (w:World) (n:Nat):Ext w (w.drewN n):=⟨rfl,rfl,rfl,Nat.le_refl _,fun _ _=>rfl⟩
theorem qFv (w:World) (k:Nat) (os:Array Obj):Ext w (Sort.grow (w.drewN k) os):=by
 refine ⟨rfl,rfl,rfl,?_,fun B hB=>?_⟩
 ·show w.heap.size<=(w.heap++os).size
  simp
 ·show (w.heap++os)[B]?=w.heap[B]?
  rw[Array.getElem?_append_left hB]
theorem qCaf (w:World) (t:ByteArray):Ext w (Lib.bytesWorld w 5 t):=⟨rfl,rfl,rfl,by rw[Lib.bytesWorld_size];omega,fun B hB=>Lib.bytesWorld_at_old w 5 t B hB⟩
section
variable {V:Env} (hP:V.P=Tryz.prog)
include hP
theorem qCU:Good V 109 qFL:=
 qTg ⟨_,hP ▸ Tryz.func109,by decide,by rfl⟩ (fun _=>rfl) (fun _ _=>rfl) rfl (fun x y o hx w rd I β vs hG ha=>by
  obtain ⟨v,v',rfl,h1,h2⟩:=rel2 ha
  obtain ⟨s,rfl,hs⟩:=qLf h1
  obtain ⟨p,rfl,hp⟩:=qLf h2
  rw[hP]
  refine Calls.mono (Tryz.strings_CutPrefix s p w) ?_
  rintro e w' ⟨rfl,rfl⟩
  refine ⟨[_,_],rfl,Ext.refl _,fun rd I' β'=>?_⟩
  simp only[qFL,strings_CutPrefix,Option.some.injEq] at hx
  cases hx
  show RelL rd I' β' [.str _,.bool _] _
  simp only[RelL]
  exact ⟨_,_,rfl,by rw[hs,hp];exact qQb _,_,_,rfl,by simp only[RelV];rw[hs,hp],rfl⟩)
theorem qBe (hV:∀ w,V.G w->GN w):Good V 161 qSS:=
 qTg ⟨_,hP ▸ Tryz.func161,by decide,by rfl⟩ (fun _=>rfl) (fun _ _=>rfl) rfl (fun x y o hx w rd I β vs hG ha=>by
  obtain ⟨v,v',rfl,h1,h2⟩:=rel2 ha
  obtain ⟨s,rfl,hs⟩:=qLf h1
  obtain ⟨p,rfl,hp⟩:=qLf h2
  simp only[qSS,strings_Cut] at hx
  split at hx
  case isFalse=>cases hx
  rename_i hlen
  cases hx
  obtain ⟨m,hm⟩:=(hV w hG).maxLen
  rw[hP]
  refine Calls.mono (Tryz.strings_Cut s p m w (by rw[qRj,hs];exact hlen) hm) ?_
  rintro e w' ⟨rfl,n,rfl⟩
  refine ⟨[_,_,_],rfl,qBac w n,fun rd I' β'=>?_⟩
  show RelL rd I' β' [.str _,.str _,.bool _] _
  simp only[RelL]
  exact ⟨_,_,rfl,by rw[hs,hp];exact qQb _,_,_,rfl,by rw[hs,hp];exact qQb _,_,_,rfl,by simp only[RelV];rw[hs,hp],rfl⟩)
theorem qFU (hV:∀ w,V.G w->GN w):Good V 145 qCL:=
 qTg ⟨_,hP ▸ Tryz.func145,by decide,by rfl⟩ (fun _=>rfl) (fun _ _=>rfl) rfl (fun x y o hx w rd I β vs hG ha=>by
  obtain ⟨v,v',rfl,h1,h2⟩:=rel2 ha
  obtain rfl:=qMT h1
  obtain rfl:=qMT h2
  simp only[qCL,qWC] at hx
  split at hx
  case isFalse=>cases hx
  rename_i hc
  cases hx
  rw[hP,hc.2]
  refine Calls.mono (Tryz.strconv_FormatInt_10 x.1 hc.1.1 hc.1.2 w (hV w hG).pow10) ?_
  rintro e w' ⟨rfl,k,os,rfl⟩
  refine ⟨[_],rfl,qFv w k os,fun rd I' β'=>?_⟩
  show RelL rd I' β' [.str _] _
  simp only[RelL]
  exact ⟨_,_,rfl,qQb _,rfl⟩)
theorem qNU:Good V 162 qXL:=
 qTg ⟨_,hP ▸ Tryz.func162,by decide,by rfl⟩ (fun _=>rfl) (fun _ _=>rfl) rfl (fun x y o hx w rd I β vs hG ha=>by
  obtain ⟨v,v',v2,rfl,h1,h2,h3⟩:=rel3 ha
  obtain ⟨s,rfl,hs⟩:=qLf h1
  obtain rfl:=qMT h2
  obtain rfl:=qMT h3
  simp only[qXL,qNE] at hx
  split at hx
  case isFalse=>cases hx
  rename_i hc
  split at hx
  case h_2=>cases hx
  rename_i n hn
  cases hx
  rw[hP,hc.1,hc.2.1]
  refine Calls.mono (Tryz.strconv_ParseInt_10_at64_ok s (by rw[qRj,hs];have:=hc.2.2;omega) n (by rw[hs];exact hn) w) ?_
  rintro e w' ⟨rfl,hw⟩
  have hext:Ext w w':=by
   rcases hw with rfl | ⟨t,rfl⟩
   ·exact Ext.refl _
   ·exact qCaf w t
  refine ⟨[_,_],rfl,hext,fun rd I' β'=>?_⟩
  show RelL rd I' β' [.int .i64 _,.err _] _
  simp only[RelL]
  exact ⟨_,_,rfl,by simp only[RelV],_,_,rfl,by simp[RelV],rfl⟩)
end
end Go.AM.Num
namespace Go.Proofs
open Go.Shelf Go.RowKit Go.Sort Go.Lib
theorem qNr (w:World) (T:TypeId) (nd:Nat) (hs:nd<=24):Holds (fun (b:UInt8)=>Value.int .u8 (b.toNat:Int)) (w.alloc (.cells zeros24 T)) w.heap.size 0 (Array.replicate nd (0:UInt8)):=fun j hj=>by
 have hj':j < nd:=by simpa using hj
 refine ⟨?_,World.frozen?_alloc_new _ _ _ _⟩
 rw[World.cell?_alloc_new,zeros24_at _ (by omega),getElem!_pos _ j hj]
 simp
set_option maxHeartbeats 6400000 in
set_option maxRecDepth 100000 in
theorem Tryz.internal_strconv_FormatUint_10 (u : Nat) (hu64 : u < 18446744073709551616) (w : World) (htab : Lib.TabIs Tryz.prog w "internal/strconv.uint64pow10" .u64 Lib.pow10Tab) :
 Calls Tryz.prog 259 #[.int .u64 u,.int .i64 10] w fun e w'=>e=.returned (.string ⟨(Lib.decDigits u).toArray⟩)/\∃ k os,w'=grow (w.drewN k) os:=by
 by_cases hs:u < 100
 ·go_enter Tryz.func259,Tryz.ntmps259
  go_wp2_with (go_at_call 253;refine (Tryz.internal_strconv_small u hs _).mono ?_;rintro e w' ⟨rfl,rfl⟩)
  go_ret
  exact ⟨rfl,0,#[],by simp[World.drewN_zero]⟩
 ·have hu1:1<=u:=by omega
  have hnd20:Lib.nDigits u<=20:=by have:=Lib.numDigits_eq u hu1 hu64;split at this<;>omega
  have hsl1:∀ W,(Instr.sliceAt 275 (.pointer (some ⟨w.heap.size,0,none⟩)) none (some (.int .i64 (Lib.nDigits u:Int))) none).run Tryz.prog W=.ok (.slice (some ⟨w.heap.size,0,none⟩) (Lib.nDigits u) 24) W:=fun W=>by
   have hal:Tryz.prog.arrayLen 275=24:=by kernel_rfl
   rw[run_sliceAt_array_h W 275 ⟨w.heap.size,0,none⟩ Tryz.underlying275 .i64 (Lib.nDigits u:Int) (by omega) (by rw[hal];omega)]
   rw[hal]
   go_simp
  have hH0:=qNr w 275 (Lib.nDigits u) (by omega)
  have hfmt:=Tryz.internal_strconv_formatBase10 w.heap.size 0 24 u (Array.replicate (Lib.nDigits u) 0) (w.alloc (.cells Lib.zeros24 275)) hH0 (by rw[Array.size_replicate];exact Lib.lt_pow_nDigits u) hu64 (by rw[Array.size_replicate];omega)
  rw[Array.size_replicate] at hfmt
  have HH0:=Lib.hid hH0
  clear hH0
  go_enter Tryz.func259,Tryz.ntmps259
  go_wp2_with (first
   |(go_at_call 254;refine (Tryz.internal_strconv_numDigits u hu1 hu64 _ (Lib.tabIs_alloc htab _)).mono ?_;rintro e w' ⟨rfl,rfl⟩))
  go_at_call 255
  refine hfmt.mono ?_
  rintro e w' ⟨rfl,k,v',dk,rfl,hF⟩
  have hcv:(convert 120 9 (.slice (some ⟨w.heap.size,0,none⟩) (Lib.nDigits u) 24)).run Tryz.prog ((putRow (fun (b:UInt8)=>Value.int .u8 (b.toNat:Int)) (w.alloc (.cells Lib.zeros24 275)) w.heap.size 0 dk).drewN k)=.ok (.string ⟨(Lib.decDigits u).toArray⟩) ((putRow (fun (b:UInt8)=>Value.int .u8 (b.toNat:Int)) (w.alloc (.cells Lib.zeros24 275)) w.heap.size 0 dk).drewN k):=by
   have h:=run_convert_bytes_back (P:=Tryz.prog) ((putRow (fun (b:UInt8)=>Value.int .u8 (b.toNat:Int)) (w.alloc (.cells Lib.zeros24 275)) w.heap.size 0 dk).drewN k) 120 9 5 ⟨w.heap.size,0,none⟩ 24 (Lib.decDigits u) Tryz.underlying120 Tryz.underlying5 Tryz.underlying9 (fun j hj=>by
    rw[Lib.row_is_numeral hF j hj,Lib.add_plain,World.cell?_drewN]
    exact cell?_putRow (fun (b:UInt8)=>Value.int .u8 (b.toNat:Int)) _ w.heap.size 0 _ dk HH0.out (by rw[hF.size,Array.size_replicate]) j (by rw[hF.size];rw[Lib.decDigits_length] at hj;exact hj))
   rw[Lib.decDigits_length] at h
   exact h
  go_wp2
  go_ret
  obtain ⟨os',_,e⟩:=putRow_grow_new (fun (b:UInt8)=>Value.int .u8 (b.toNat:Int)) w #[.cells Lib.zeros24 275] w.heap.size 0 dk (Nat.le_refl _)
  refine ⟨rfl,k,os',?_⟩
  rw[alloc_eq_grow,e]
  rfl
theorem Tryz.strconv_FormatUint_10 (u : Nat) (hu64 : u < 18446744073709551616) (w : World) (htab : Lib.TabIs Tryz.prog w "internal/strconv.uint64pow10" .u64 Lib.pow10Tab) :
 Calls Tryz.prog 204 #[.int .u64 u,.int .i64 10] w fun e w'=>e=.returned (.string ⟨(Lib.decDigits u).toArray⟩)/\∃ k os,w'=grow (w.drewN k) os:=by
 go_enter Tryz.func204,Tryz.ntmps204
 go_wp2_with (go_at_call 259;refine (Tryz.internal_strconv_FormatUint_10 u hu64 _ htab).mono ?_;rintro e w' ⟨rfl,k,os,rfl⟩)
 go_ret
 exact ⟨rfl,k,os,rfl⟩
end Go.Proofs
namespace Go.AM.Num
open Go.Proofs
theorem qDT {V:Env} (hP:V.P=Tryz.prog) (hV:∀ w,V.G w->GN w):Good V 204 qVJ:=
 qTg ⟨_,hP ▸ Tryz.func204,by decide,by rfl⟩ (fun _=>rfl) (fun _ _=>rfl) rfl (fun x y o hx w rd I β vs hG ha=>by
  obtain ⟨v,v',rfl,h1,h2⟩:=rel2 ha
  obtain rfl:=qMT h1
  obtain rfl:=qMT h2
  simp only[qVJ,qJF] at hx
  split at hx
  case isFalse=>cases hx
  rename_i hc
  cases hx
  have hn:(x.1.toNat:Int)=x.1:=Int.toNat_of_nonneg hc.1
  have hcall:=Tryz.strconv_FormatUint_10 x.1.toNat (by have:=hc.2.1;omega) w (hV w hG).pow10
  rw[hn] at hcall
  rw[hP,hc.2.2]
  refine Calls.mono hcall ?_
  rintro e w' ⟨rfl,k,os,rfl⟩
  refine ⟨[_],rfl,qFv w k os,fun rd I' β'=>?_⟩
  show RelL rd I' β' [.str _] _
  simp only[RelL]
  exact ⟨_,_,rfl,qQb _,rfl⟩)
end Go.AM.Num
end
section
namespace Go.AM
open Go.RowKit (Below)
open Go
theorem qEJ:∀ (vs:List Value) (b o:Nat) (w:World) {cs:Array Value} {ty:TypeId} {fr:Nat×Nat},w.heap[b]?=some (.cells cs ty fr)->o+vs.length<=cs.size->
 ∃ cs',(w.setCells b o vs).heap[b]?=some (.cells cs' ty fr)/\cs'.size=cs.size/\(∀ k,cs'[k]?=if o<=k/\k < o+vs.length then vs[k - o]? else cs[k]?)/\
  (∀ B,B≠b->(w.setCells b o vs).heap[B]?=w.heap[B]?)/\(w.setCells b o vs).heap.size=w.heap.size/\(w.setCells b o vs).os=w.os/\(w.setCells b o vs).tape=w.tape/\(w.setCells b o vs).output=w.output
 |[],b,o,w,cs,ty,fr,h,hl=>⟨cs,h,rfl,fun k=>by rw[if_neg (by simp only[List.length_nil];omega)],fun _ _=>rfl,rfl,rfl,rfl,rfl⟩
 |v::r,b,o,w,cs,ty,fr,h,hl=>by
  simp only[qY11] at hl
  have hb:b < w.heap.size:=(Array.getElem?_eq_some_iff.1 h).1
  have h1:(w.setCell ⟨b,o,none⟩ v).heap[b]?=some (.cells (cs.setIfInBounds o v) ty fr):=by
   simp only[World.setCell,Array.getElem?_modify,h]
   simp
  obtain ⟨cs',g1,g2,g3,g4,g5,g6,g7,g8⟩:=qEJ r b (o+1) (w.setCell ⟨b,o,none⟩ v) h1 (by simp;omega)
  refine ⟨cs',g1,by rw[g2];simp,fun k=>?_,fun B hB=>?_,by rw[World.setCells,g5];simp[World.setCell],g6,g7,g8⟩
  ·rw[g3 k]
   simp only[qY11]
   by_cases e:k=o
   ·subst e
    rw[if_neg (by omega),if_pos (by omega),Array.getElem?_setIfInBounds]
    simp;omega
   ·by_cases e2:o+1<=k/\k < o+1+r.length
    ·rw[if_pos e2,if_pos (by omega),show k - o=(k - (o+1))+1 from by omega];rfl
    ·rw[if_neg e2,if_neg (by omega),Array.getElem?_setIfInBounds,if_neg (fun h=>e h.symm)]
  ·rw[World.setCells,g4 B hB]
   simp only[World.setCell,Array.getElem?_modify]
   rw[if_neg (fun h=>hB h.symm)]
abbrev sv (s:qBs):Value:=.string ⟨s.toArray⟩
theorem qWas {s:ByteArray} {x:qBs} (h:s.data.toList=x):Value.string s=sv x:=by subst h;cases s;simp[sv]
theorem qGW (l:List qBs):∀ v∈l.map sv,v.oneCell'=true:=fun v hv=>by obtain ⟨x,_,rfl⟩:=List.mem_map.1 hv;rfl
theorem qXat {rd:Nat->Nat->Option Value} {I:Nat->Prop} {x:qBs} {us:List Value} (h:RelC rd I .str x us):us=[sv x]:=by
 simp only[RelC] at h
 obtain ⟨b,rfl,hb⟩:=h
 rw[qWas hb]
theorem qVat {rd:Nat->Nat->Option Value} {I:Nat->Prop} (x:qBs):RelC rd I .str x [sv x]:=by simp only[RelC];exact ⟨_,rfl,by simp⟩
theorem qRo {w:World} {I:Nat->Prop} {β:Nat->Option Place} {p:Place} {l:List qBs} (h:qUF w I β p (.typed .str l)) (hb:p.backed=true):p.s=1/\p.n=l.length/\∃ cs ty,w.heap[p.B]?=some (.cells cs ty (0,0))/\p.O+p.n<=cs.size/\cs.size=p.z/\cs.size<=qKK/\∀ (i:Nat) x,l[i]?=some x->cs[p.O+i]?=some (sv x):=by
 obtain ⟨h1,h2,_,h4⟩:=h
 obtain ⟨cs,ty,g1,⟨g2,g3,_,gm⟩,g4⟩:=h4 hb
 have hs:p.s=1:=h1
 refine ⟨hs,h2,cs,ty,g1,by rw[hs] at g2;simpa using g2,g3,by simpa [GT.cells] using gm,fun i x hi=>?_⟩
 obtain ⟨us,u1,u2,u3⟩:=g4 i x hi
 have:=u2 0 (by decide)
 rw[qXat u3] at this
 simpa [GT.cells] using this
theorem qMh {w:World} {I:Nat->Prop} {β:Nat->Option Place} {p:Place} {l:List qBs} {cs:Array Value} {ty:TypeId} (hs:p.s=1) (hn:p.n=l.length) (hh:w.heap[p.B]?=some (.cells cs ty (0,0))) (h1:p.O+p.n<=cs.size) (h2:cs.size=p.z) (h3:cs.size<=qKK) (hc:∀ (i:Nat) x,l[i]?=some x->cs[p.O+i]?=some (sv x)) (hb:p.backed=true):qUF w I β p (.typed .str l):=by
 refine ⟨hs,hn,fun h=>(by rw[hb] at h;cases h),fun _=>⟨cs,ty,hh,⟨by rw[hs];simpa using h1,h2,fun h=>(by cases h),by simpa [GT.cells] using h3⟩,fun i x hi=>⟨[sv x],rfl,fun j hj=>?_,qVat x⟩⟩⟩
 have:j=0:=by simp[GT.cells] at hj;omega
 subst this
 have:=hc i x hi
 simpa [GT.cells] using this
theorem qJaq {gb:Nat} {w w':World} {I:Nat->Prop} {β:Nat->Option Place} {Hin:qCC} (hI:∀ B,I B->B < w.heap.size) {l:List qBs} {v:Value} (hgb:gb<=w.heap.size) (hsz:w.heap.size<=w'.heap.size)
 (h:v=.slice none 0 0/\l=[]\/∃ g cap cur ty,v=.slice (some ⟨g,0,none⟩) l.length cap/\w.heap.size<=g/\w'.heap[g]?=some (.cells cur ty (0,0))/\l.length<=cap/\cap<=cur.size/\cur.size<=qKK/\∀ (i:Nat) x,l[i]?=some x->cur[i]?=some (sv x)) :
 ∃ I' β',OutOK w w' gb I β Hin [some (.typed .str l)] 0 I' β'/\RelL (rdW w') I' β' [.vw 0] [v]:=by
 have main:∀ p:Place,(p.backed=true->w.heap.size<=p.B/\p.B < w'.heap.size)->(∀ β',qUF w' I β' p (.typed .str l))->(∀ β':Nat->Option Place,β' 0=some p->RelV (rdW w') I β' (.vw 0) v)->∃ I' β',OutOK w w' gb I β Hin [some (.typed .str l)] 0 I' β'/\RelL (rdW w') I' β' [.vw 0] [v]:=by
  intro p h1 h2 h3
  refine ⟨I,fun i=>if i=0 then some p else none,⟨⟨?_,?_,?_,?_⟩,?_,?_,?_⟩,?_⟩
  ·intro b r hb
   cases b with
   |zero=>cases hb;exact ⟨p,rfl,fun hk=>⟨Nat.le_trans hgb (h1 hk).1,(h1 hk).2⟩,h2 _⟩
   |succ b=>simp at hb
  ·intro b b' r r' p p' hb hb'
   cases b<;>cases b'<;>simp at hb hb' ⊢
  ·intro B hB
   refine ⟨Nat.lt_of_lt_of_le (hI B hB) hsz,?_⟩
   rintro ⟨b,r,q,hb,hq,hk,rfl⟩
   cases b with
   |zero=>cases hq;have:=(h1 hk).1;have:=hI _ hB;omega
   |succ b=>simp at hb
  ·intro b hb
   simp at hb
   exact if_neg (by omega)
  ·exact fun B hB=>.inl hB
  ·intro b r q hb hq hk
   cases b with
   |zero=>cases hq;exact .inr (h1 hk).1
   |succ b=>simp at hb
  ·intro i hi;cases hi
  ·simp only[RelL]
   exact ⟨v,[],rfl,h3 _ rfl,rfl⟩
 rcases h with ⟨rfl,rfl⟩ | ⟨g,cap,cur,ty,rfl,hg,hh,hc,hcap,hcm,hx⟩
 ·refine main ⟨0,0,1,0,0,false⟩ (fun h=>by cases h) (fun β'=>⟨rfl,rfl,fun _=>rfl,fun h=>by cases h⟩) (fun β' hb=>?_)
  simp only[RelV]
  exact ⟨_,hb,none,0,rfl,Nat.le_refl _,.inl rfl⟩
 ·refine main ⟨g,0,1,l.length,cur.size,true⟩ (fun _=>⟨hg,(Array.getElem?_eq_some_iff.1 hh).1⟩) (fun β'=>qMh rfl rfl hh (by simp;omega) rfl hcm (fun i x hi=>by simpa using hx i x hi) rfl) (fun β' hb=>?_)
  simp only[RelV]
  exact ⟨_,hb,_,cap,rfl,hc,.inr ⟨rfl,rfl,by simp;omega⟩⟩
theorem qFas {rd:Nat->Nat->Option Value} {I:Nat->Prop} {l:List qBs} {v:Value} (h:RelC rd I (.sl .str) l [v]):∃ a c,v=.slice a l.length c/\l.length<=c/\(l≠[]->∃ B o,a=some ⟨B,o,none⟩/\I B/\∀ (i:Nat) x,l[i]?=some x->rd B (o+i)=some (sv x)):=by
 simp only[RelC] at h
 obtain ⟨a,c,h1,h2,h3⟩:=h
 refine ⟨a,c,by simpa using h1,h2,fun hne=>?_⟩
 obtain ⟨B,o,rfl,hI,hx⟩:=h3 hne
 refine ⟨B,o,rfl,hI,fun i x hi=>?_⟩
 obtain ⟨us,u1,u2,u3⟩:=hx i x hi
 have:=u2 0 (by decide)
 obtain ⟨b,rfl,hb⟩:=u3
 rw[qWas hb] at this
 simpa [GT.cells] using this
end Go.AM
namespace Go.Proofs
open Go.Shelf Go.RowKit Go.Lib
def Tryz.laysIns_ren:Go.Shelf.Ren:=⟨fun | 17=>296 | 22=>130 | 29=>181 | 30=>182 | 36=>241 | n=>n,fun | 24=>22 | n=>n,fun | n=>n⟩
theorem Tryz.laysIns:Go.Proofs.Lays2.n22 Tryz.prog Tryz.laysIns_ren:={
 mixed:=by kernel_rfl
 f17:=Tryz.func296.trans (congrArg some (by kernel_rfl))
 f22:=Tryz.func130.trans (congrArg some (by kernel_rfl))
 f29:=Tryz.func181.trans (congrArg some (by kernel_rfl))
 f30:=Tryz.func182.trans (congrArg some (by kernel_rfl))
 f36:=Tryz.func241.trans (congrArg some (by kernel_rfl))
 t0:=Tryz.underlying0
 a0:=Tryz.isAgg0
 z0:=Tryz.sizeOf0
 v0:=Tryz.zeroValue0
 t3:=Tryz.underlying3
 a3:=Tryz.isAgg3
 z3:=Tryz.sizeOf3
 v3:=Tryz.zeroValue3
 t4:=Tryz.underlying4
 a4:=Tryz.isAgg4
 z4:=Tryz.sizeOf4
 v4:=Tryz.zeroValue4
 t9:=Tryz.underlying9
 a9:=Tryz.isAgg9
 z9:=Tryz.sizeOf9
 v9:=Tryz.zeroValue9
 t24:=Tryz.underlying22
 a24:=Tryz.isAgg22
 z24:=Tryz.sizeOf22
 v24:=Tryz.zeroValue22
 i9:=by kernel_rfl }
end Go.Proofs
end
section
namespace Go.Lib
open Go
theorem run_overlaps_apart2 {P:Program} (w:World) (tS tR e:TypeId) (ht:P.underlying tS=some (.slice e)) (size:Nat) (hz:∀ w,(Go.sizeOf e).run P w=.ok size w)
 (a b:Addr) (la ca lb cb:Nat) (hne:a.block≠b.block) (tA tB:TypeId) (kA kB:Nat)
 (hsa:w.shape? a.block=some (tA,kA+1)) (hsb:w.shape? b.block=some (tB,kB)) (hfb:w.frozen? b=false) (hfe:w.frozen? { block:=b.block,off:=kB }=false) :
 (Extern.SlicesOverlaps.overlaps #[tS,tS] #[tR] #[.slice (some a) la ca,.slice (some b) lb cb]).run P w=.ok (.bool false) w:=by
 have hnb:(a.block !=b.block)=true:=by simpa using hne
 have hnb':(a.block==b.block)=false:=by simpa using hne
 change Sem.run P (α:=Value) (do
  let some t := (#[tS, tS] : Array TypeId)[0]? | stuck "slices.overlaps: no parameter types"
  let .slice elem ← underlying t | stuck "slices.overlaps: slice type expected"
  let size<-sizeOf elem
  match (some a:Option Addr),(some b:Option Addr) with
  |some a,some b=>
   if la=0\/lb=0\/size=0 then pure (Value.bool false)
   else if a.block !=b.block&&(<-frozen a)&&(<-frozen b) then unsupported .addressObserved
   else do
    if a.block !=b.block then do
     noView a;noView b
     if ← mayBeOne a b then return Value.bool ((← choose (.extern "sameAddr.stringBytes" 2)) == 1)
    pure (Value.bool (a.block==b.block&&a.off < b.off+lb * size&&b.off < a.off+la * size))
  |_,_=>pure (Value.bool false)) w=_
 by_cases h0:la=0\/lb=0\/size=0
 ·simp[run_underlying ht,hz,h0]
 ·cases h1:w.frozen? a<;>cases h2:w.frozen? { block:=a.block,off:=kA+1 } <;>
   simp[run_underlying ht,hz,h0,hnb,hnb',frozen,noView,viewAt,mayBeOne,stringish,shape,Sem.run,hsa,hsb,hfb,hfe,h1,h2]
end Go.Lib
namespace Go.Proofs
open Go.Shelf Go.RowKit Go.Lib
set_option maxHeartbeats 4000000 in
set_option maxRecDepth 100000 in
theorem Tryz.Insert_shift (b off n c i vb voff m vc:Nat) (cs vs:List Value) (w:World) (hi:i < n) (hm:0 < m) (hroom:n+m<=c) (hc63:c<=9223372036854775807) (hvb:vb≠b) (hcl:cs.length=n) (hvl:vs.length=m)
 (hcs:∀ j v,cs[j]?=some v->w.cell? ⟨b,off+j,none⟩=some v) (hsp:∀ j,j < n+m->(w.cell? ⟨b,off+j,none⟩).isSome=true) (hfz:∀ j,w.frozen? ⟨b,j,none⟩=false)
 (hvs:∀ j v,vs[j]?=some v->w.cell? ⟨vb,voff+j,none⟩=some v) (h1c:∀ v∈cs,v.oneCell'=true) (h1v:∀ v∈vs,v.oneCell'=true)
 (tA tB:TypeId) (kA kB:Nat) (hsa:w.shape? vb=some (tA,kA+1)) (hsb:w.shape? b=some (tB,kB)) :
 Calls Tryz.prog 130 #[.slice (some ⟨b,off,none⟩) n c,.int .i64 i,.slice (some ⟨vb,voff,none⟩) m vc] w fun e w'=>
  e=.returned (.slice (some ⟨b,off,none⟩) (n+m) c)/\w'=(w.drew.setCells b (off+(i+m)) (cs.drop i)).setCells b (off+i) vs:=by
 have hz1:¬ ((m:Int)=0):=by omega
 have hz2:¬ ((i:Int)=(n:Int)):=by omega
 have hsz:(Tryz.prog.info? 9).map (·.size)=some 1:=by
  obtain ⟨i0,hi0,h0,h1,h2⟩:=info_parts Tryz.laysIns.i9
  exact (congrArg _ hi0).trans (by simp[h1])
 have hov:∀ lb cb,(callFunc 181 #[.slice (some ⟨vb,voff,none⟩) m vc,.slice (some ⟨b,off+(i+m),none⟩) lb cb]).run Tryz.prog w=.ok (.value (.bool false)) w:=fun lb cb=>by
  rw[run_callFunc_extern Tryz.func181 (by kernel_rfl) (by kernel_rfl) (by kernel_rfl) (e:=Extern.SlicesOverlaps.overlaps #[22,22] #[4]) (by kernel_rfl),
   Lib.run_overlaps_apart2 w 22 4 9 Tryz.underlying22 1 Tryz.sizeOf9 ⟨vb,voff,none⟩ ⟨b,off+(i+m),none⟩ m vc lb cb hvb tA tB kA kB hsa hsb (hfz _) (hfz _)]
  rfl
 have hdl:(cs.drop i).length=n - i:=by rw[List.length_drop,hcl]
 have hw1:IntKind.i64.wrap ((i:Int)+(m:Int))=(i:Int)+(m:Int):=by rw[IntKind.wrap_i64];omega
 have hb1:(0:Int)<=(i:Int)+(m:Int):=by omega
 have hin:i<=n:=by omega
 have htn:((i:Int)+(m:Int)).toNat=i+m:=by omega
 have hb2:¬ (c=i+m):=by omega
 have hb3:(i:Int)<=(n:Int)+(m:Int):=by omega
 have hb4:¬ (c=i):=by omega
 have hcp1:∀ ty dc sc,(Builtin.copy_ #[22,22] ty #[.slice (some ⟨b,off+(i+m),none⟩) (n+m - (i+m)) dc,.slice (some ⟨b,off+i,none⟩) (n+m - i) sc]).run Tryz.prog w.drew=.ok (goInt (cs.drop i).length) (w.drew.setCells b (off+(i+m)) (cs.drop i)):=fun ty dc sc=>
  run_copy_cells w.drew _ _ ty 9 b (off+(i+m)) (n+m - (i+m)) dc ⟨b,off+i,none⟩ (n+m - i) sc (cs.drop i) Tryz.underlying22 hsz (by rw[hdl];simp only[Nat.min_def];split<;>omega)
   (fun j v hj=>by rw[Addr.add_lit,Nat.add_assoc];exact hcs (i+j) v (by rwa [List.getElem?_drop] at hj))
   (fun j hj=>by rw[Nat.add_assoc];exact hsp _ (by omega)) (fun j hj=>hfz _) (fun v hv=>h1c v (List.mem_of_mem_drop hv))
 obtain ⟨W1,hW1⟩:∃ W1,W1=w.drew.setCells b (off+(i+m)) (cs.drop i):=⟨_,rfl⟩
 have hsp1:∀ k,k < n+m->(W1.cell? ⟨b,off+k,none⟩).isSome=true:=fun k hk=>by
  rw[hW1]
  exact isSome_setCells b _ _ _ (fun j hj=>by rw[Nat.add_assoc];exact hsp _ (by omega)) _ (hsp k hk)
 have hcp2:∀ (W:World),(∀ x,W.cell? x=W1.cell? x)->(∀ x,W.frozen? x=W1.frozen? x)->∀ ty dc,(Builtin.copy_ #[22,22] ty #[.slice (some ⟨b,off+i,none⟩) (n+m - i) dc,.slice (some ⟨vb,voff,none⟩) m vc]).run Tryz.prog W=.ok (goInt vs.length) (W.setCells b (off+i) vs):=fun W hWc hWf ty dc=>
  run_copy_cells W _ _ ty 9 b (off+i) (n+m - i) dc ⟨vb,voff,none⟩ m vc vs Tryz.underlying22 hsz (by rw[hvl];simp only[Nat.min_def];split<;>omega)
   (fun j v hj=>by
    rw[Addr.add_lit,hWc,hW1,World.cell?_setCells_out b _ _ _ _ (fun h _=>absurd h hvb)]
    exact hvs j v hj)
   (fun j hj=>by rw[hWc,Nat.add_assoc];exact hsp1 _ (by omega)) (fun j hj=>by rw[hWf,hW1,World.frozen?_setCells];exact hfz _) h1v
 rw[<-hW1] at hcp1
 have mixed:=Tryz.laysIns.mixed
 go_enter Tryz.func130,Tryz.ntmps130
 go_wp2_with (simp only[hov])
 go_region_law_o (refine step_copy_runI rfl _ _ 22 22 rfl _ _ (by simp[Act.eval,Act.put]) (by simp[Act.eval,Act.put]) (hcp1 _ _ _) ?_)
 go_wp2_with (at_builtin;refine wpList_copy_runI _ rfl _ _ 22 22 rfl _ _ rfl rfl (hcp2 _ (fun _=>rfl) (fun _=>rfl) _ _) ?_)
 go_ret
 first | exact ⟨rfl,rfl⟩ | exact ⟨rfl,by rw[hW1]⟩
end Go.Proofs
end
section
namespace Go.AM
open Go.RowKit (Below)
theorem qBn {V:Env} {ps:List PK} {w w':World} {I:Nat->Prop} {β:Nat->Option Place} {x:qKH ps} (hk:cntK ps=0) (hctx:Ctx V.gb w I β (qPB ps x)) (hgb:V.gb<=w.heap.size) (hext:Ext w w') {l:List qBs} {v:Value}
 (h:v=.slice none 0 0/\l=[]\/∃ g cap cur ty,v=.slice (some ⟨g,0,none⟩) l.length cap/\w.heap.size<=g/\w'.heap[g]?=some (.cells cur ty (0,0))/\l.length<=cap/\cap<=cur.size/\cur.size<=qKK/\∀ (i:Nat) x,l[i]?=some x->cur[i]?=some (sv x)) :
 ∃ (us:List Value) (I':Nat->Prop) (β':Nat->Option Place),Ending.returned v=.returned (qBb us)/\FrmC w w' (qRL (qPB ps x) β)/\OutOK w w' V.gb I β (qPB ps x) [some (.typed .str l)] (cntK ps) I' β'/\RelL (rdW w') I' β' [.vw 0] us:=by
 obtain ⟨I',β',h1,h2⟩:=qJaq (Hin:=qPB ps x) (β:=β) (fun B hB=>(hctx.imm B hB).1) hgb hext.size h
 exact ⟨[v],I',β',rfl,⟨hext.os,hext.tape,hext.output,hext.size,fun B hB _=>hext.block B hB⟩,by rw[hk];exact h1,h2⟩
theorem qLad {w':World} {base n:Nat} {e:TypeId} {v:Value} {l:List qBs} (hn:n=l.length) (h:w'.ownsRow base e 1 v n (l.map sv)) :
 v=.slice none 0 0/\l=[]\/∃ g cap cur ty,v=.slice (some ⟨g,0,none⟩) l.length cap/\base<=g/\w'.heap[g]?=some (.cells cur ty (0,0))/\l.length<=cap/\cap<=cur.size/\cur.size<=qKK/\∀ (i:Nat) x,l[i]?=some x->cur[i]?=some (sv x):=by
 subst hn
 rcases h.2 with ⟨rfl,h0⟩ | ⟨g,cap,cur,rfl,hg,hh,hc,hmx,hsz,ht⟩
 ·exact .inl ⟨rfl,List.eq_nil_of_length_eq_zero h0⟩
 ·refine .inr ⟨g,cap,cur,e,rfl,hg,hh,hc,by omega,by unfold maxLen at hmx;unfold qKK;omega,fun i x hi=>?_⟩
  have hlt:=(List.getElem?_eq_some_iff.1 hi).1
  have:(cur.toList.take (l.length * 1))[i]?=some (sv x):=by rw[ht];simp[hi]
  rw[List.getElem?_take,if_pos (by omega),Array.getElem?_toList] at this
  exact this
theorem qHv {w:World} {I:Nat->Prop} {B o:Nat} {l:List qBs} (h:∀ (i:Nat) x,l[i]?=some x->rdW w B (o+i)=some (sv x)):∀ (i:Nat) x,l[i]?=some x->w.cell? ⟨B,o+i,none⟩=some (sv x):=fun i x hi=>qBR (h i x hi) rfl
end Go.AM
namespace Go.AM.Num
open Go.Proofs Go.RowKit Go.Lib
section
variable {V:Env} (hP:V.P=Tryz.prog)
include hP
theorem qPc:Good V 137 qKI:=
 ⟨⟨_,hP ▸ Tryz.func137,by decide,rfl⟩,fun x y o hx w I β vs hG hgb hctx hargs=>by
  obtain ⟨v,rfl,h1⟩:=rel1 hargs
  replace h1:RelV (rdW w) I β (.sl .str false x.1) v:=h1
  simp only[RelV] at h1
  obtain ⟨a,c,rfl,hc,hx1⟩:=qFas h1.1
  obtain ⟨hm,hx⟩:=qOU hx
  cases hx
  simp only[decide_eq_true_eq] at hm
  replace hm:x.1.length<=68719476736:=hm
  rw[hP]
  cases a with
  |none=>
   have h0:x.1=[]:=Classical.byContradiction fun hne=>by obtain ⟨B,o,h,_⟩:=hx1 hne;cases h
   refine Calls.mono (Tryz.slices_Clone_string_nil _ c w) ?_
   rintro e w' ⟨rfl,rfl⟩
   exact qBn rfl hctx hgb (Ext.refl _) (.inl ⟨rfl,h0⟩)
  |some ad=>
   by_cases h0:x.1=[]
   ·have hl0:x.1.length=0:=by rw[h0];rfl
    rw[hl0]
    refine Calls.mono (Tryz.slices_Clone_string_zero ad c w) ?_
    rintro e w' ⟨v',rfl,ho,_,hb⟩
    exact qBn rfl hctx hgb (Ext.of_below hb) (qLad (l:=x.1) hl0.symm (by rw[h0];exact ho))
   ·obtain ⟨B,o,he,_,hrd⟩:=hx1 h0
    cases he
    have hcell:=qHv (I:=I) hrd
    refine Calls.mono (Tryz.slices_Clone_string B o x.1.length c (x.1.map fun s=>⟨s.toArray⟩) w (by simp) (by omega) (fun j hj=>by
     simp only[List.length_map] at hj
     rw[hcell j _ (qZ5 hj)]
     simp[List.getD,qZ5 hj])) ?_
    rintro e w' ⟨v',rfl,ho,_,hb⟩
    exact qBn rfl hctx hgb (Ext.of_below hb) (qLad rfl (by simpa [List.map_map,Function.comp_def,List.take_of_length_le] using ho))⟩
theorem qTa:Good V 129 qBI:=
 ⟨⟨_,hP ▸ Tryz.func129,by decide,rfl⟩,fun (x:List qBs×Int×Int×Unit) y o hx w I β vs hG hgb hctx hargs=>by
  obtain ⟨v,v',v2,rfl,h1,h2,h3⟩:=rel3 hargs
  obtain rfl:=qMT h2
  obtain rfl:=qMT h3
  obtain ⟨l,i,j,u⟩:=x
  obtain ⟨hm,hx⟩:=qOU hx
  cases hx
  simp only[qY0,decide_eq_true_eq] at hm
  obtain ⟨⟨hi0,hij⟩,hjl⟩:=hm
  replace hjl:j<=(l.length:Int):=hjl
  replace h1:RelV (rdW w) I β (.vw 0) v:=h1
  simp only[RelV] at h1
  obtain ⟨p,hp,a,c,rfl,hpc,ha⟩:=h1
  obtain ⟨p',hp',hbk,hrow⟩:=hctx.rows 0 (.typed .str l) rfl
  rw[hp] at hp';cases hp'
  have hpn:p.n=l.length:=hrow.2.1
  obtain ⟨l',hl'⟩:∃ l',l'=l.take i.toNat++l.drop j.toNat++List.replicate (j.toNat - i.toNat) ([]:qBs):=⟨_,rfl⟩
  have hll:l'.length=l.length:=by rw[hl'];simp;omega
  have fin:∀ w':World,w'.os=w.os->w'.tape=w.tape->w'.output=w.output->w'.heap.size=w.heap.size->(∀ B,(p.backed=true->B≠p.B)->w'.heap[B]?=w.heap[B]?)->qUF w' I β p (.typed .str l')->(p.backed=true->qII w w' p)->
   ∃ (us:List Value) (I':Nat->Prop) (β':Nat->Option Place),Ending.returned (.slice a (l.length - (j.toNat - i.toNat)) c)=.returned (qBb us)/\FrmC w w' (qRL (qPB [.row .str,.val (.int .i64),.val (.int .i64)] (l,i,j,u)) β)/\
    OutOK w w' V.gb I β (qPB [.row .str,.val (.int .i64),.val (.int .i64)] (l,i,j,u)) [some (.typed .str l')] 1 I' β'/\RelL (rdW w') I' β' [.pre 0 (l.length - (j.toNat - i.toNat))] us:=by
   intro w' e1 e2 e3 e4 e5 hrow' hso
   have hlive:∀ B,qRL [some (.typed .str l')] β B ↔ qRL (qPB [.row .str,.val (.int .i64),.val (.int .i64)] (l,i,j,u)) β B:=fun B=>by
    constructor<;>rintro ⟨b,r,q,hb,hq,hk,e⟩
    ·cases b with
     |zero=>exact ⟨0,.typed .str l,q,rfl,hq,hk,e⟩
     |succ b=>simp at hb
    ·cases b with
     |zero=>exact ⟨0,.typed .str l',q,rfl,hq,hk,e⟩
     |succ b=>change ([]:qCC)[b]?=_ at hb;simp at hb
   refine ⟨[_],I,β,rfl,⟨e1,e2,e3,Nat.le_of_eq e4.symm,fun B hB hnl=>e5 B fun hk e=>hnl ⟨0,.typed .str l,p,rfl,hp,hk,e.symm⟩⟩,⟨⟨fun b r hb=>?_,fun b b' r r' q q' hb hb'=>?_,fun B hB=>⟨by rw[e4];exact (hctx.imm B hB).1,fun h=>(hctx.imm B hB).2 ((hlive B).1 h)⟩,fun b hb=>hctx.dom b hb⟩,fun B hB=>.inl hB,fun b r q hb hq hk=>.inl ((hlive q.B).1 ⟨b,r,q,hb,hq,hk,rfl⟩),fun i hi=>⟨rfl,fun q hq hk=>?_⟩⟩,?_⟩
   ·cases b with
    |zero=>cases hb;exact ⟨p,hp,fun hk=>by rw[e4];exact hbk hk,hrow'⟩
    |succ b=>simp at hb
   ·cases b<;>cases b'<;>simp at hb hb' ⊢
   ·obtain rfl:i=0:=by omega
    rw[hp] at hq;cases hq
    exact hso hk
   ·simp only[RelL,RelV]
    exact ⟨_,[],rfl,⟨p,hp,by omega,a,c,rfl,hpc,ha⟩,rfl⟩
  rw[hP]
  by_cases hl0:l.length=0
  ·have hl:l=[]:=List.eq_nil_of_length_eq_zero hl0
   have hj0:j=0:=by omega
   have hi0':i=0:=by omega
   subst hj0;subst hi0'
   have:(Value.slice a p.n c)=.slice a 0 c:=by rw[hpn,hl0]
   rw[this]
   refine Calls.mono (Tryz.slices_Delete_string_empty a c w) ?_
   rintro e w' ⟨rfl,rfl⟩
   have:=fin w' rfl rfl rfl rfl (fun _ _=>rfl) (by rw[hl'];subst hl;simpa using hrow) (fun hk=>by
    obtain ⟨_,_,cs,ty,g1,_⟩:=qRo hrow hk
    exact .inr ⟨cs,cs,ty,g1,g1,rfl,fun _ _=>rfl⟩)
   rw[hl0] at this
   have e:(0:Nat) - ((0:Int).toNat - (0:Int).toNat)=0:=rfl
   rw[e] at this
   rw[hl'] at this
   subst hl
   exact this
  ·have hcz:c≠0:=by omega
   obtain ⟨hk,rfl,hcap⟩:=ha.resolve_left hcz
   obtain ⟨hs,hn,cs,ty,g1,g2,g3,gm,g4⟩:=qRo hrow hk
   have hij':i.toNat<=j.toNat:=by omega
   have hi':(i.toNat:Int)=i:=Int.toNat_of_nonneg hi0
   have hj':(j.toNat:Int)=j:=Int.toNat_of_nonneg (by omega)
   have hcell:∀ q,q < l.length->w.cell? ⟨p.B,p.O+q,none⟩=some (.string ⟨(l.getD q []).toArray⟩):=fun q hq=>by
    have:=g4 q _ (qZ5 hq)
    simp[World.cell?,g1,this,List.getD,qZ5 hq]
   have hso:Lib.strsOf (fun q=>⟨(l.getD q []).toArray⟩) l.length=l:=by
    unfold Lib.strsOf
    apply List.ext_getElem (by simp)
    intro q h1 h2
    simp[List.getD,qZ5 h2]
   have hcall:=Tryz.slices_Delete_string_cells p.B p.O l.length c i.toNat j.toNat (fun q=>⟨(l.getD q []).toArray⟩) w (by omega) (by rw[hs] at hcap;unfold qKK at gm;omega) hij' (by omega) hcell (fun q hq=>by simp[World.frozen?,g1])
   rw[hi',hj',hso] at hcall
   rw[hpn]
   refine Calls.mono hcall ?_
   rintro e w' ⟨rfl,q,rfl⟩
   have g1':(w.drewN q).heap[p.B]?=some (.cells cs ty (0,0)):=g1
   obtain ⟨cs',k1,k2,k3,k4,k5,k6,k7,k8⟩:=qEJ (l'.map sv) p.B p.O (w.drewN q) g1' (by simp[hll];omega)
   have he:(l.take i.toNat++l.drop j.toNat++List.replicate (j.toNat - i.toNat) []).map encStr=l'.map sv:=by rw[hl']
   rw[he]
   have:=fin ((w.drewN q).setCells p.B p.O (l'.map sv)) k6 k7 k8 k5 (fun B hB=>k4 B (hB hk)) (qMh hs (by rw[hn,hll]) k1 (by rw[k2];exact g2) (by rw[k2];exact g3) (by rw[k2];exact gm) (fun r x hr=>by
    have hrl:=(List.getElem?_eq_some_iff.1 hr).1
    rw[k3,if_pos (by simp;omega),show p.O+r - p.O=r from by omega]
    simp[hr]) hk) (fun _=>.inr ⟨cs,cs',ty,g1,k1,k2,fun o ho=>by rw[k3,if_neg (by simp[hll];rw[hs] at ho;omega)]⟩)
   subst hl'
   exact this⟩
theorem qRZ:Good V 130 qGI:=
 ⟨⟨_,hP ▸ Tryz.func130,by decide,rfl⟩,fun (x:List qBs×Int×List qBs×Unit) y o hx w I β vs hG hgb hctx hargs=>by
  obtain ⟨v,v',v2,rfl,h1,h2,h3⟩:=rel3 hargs
  obtain rfl:=qMT h2
  obtain ⟨l,i,vl,u⟩:=x
  obtain ⟨hm,hx⟩:=qOU hx
  cases hx
  simp only[qY0,decide_eq_true_eq] at hm
  obtain ⟨⟨⟨hi0,hil⟩,hmx⟩,hv0⟩:=hm
  replace hil:i<=(l.length:Int):=hil
  replace hmx:l.length+vl.length<=68719476736:=hmx
  replace hv0:0 < vl.length:=hv0
  replace h1:RelV (rdW w) I β (.vw 0) v:=h1
  simp only[RelV] at h1
  obtain ⟨p,hp,a,c,rfl,hpc,ha⟩:=h1
  obtain ⟨p',hp',hbk,hrow⟩:=hctx.rows 0 (.typed .str l) rfl
  rw[hp] at hp';cases hp'
  have hpn:p.n=l.length:=hrow.2.1
  replace h3:RelV (rdW w) I β (.sl .str false vl) v2:=h3
  simp only[RelV] at h3
  obtain ⟨va,vc,rfl,hvc,hv1⟩:=qFas h3.1
  obtain ⟨vb,voff,rfl,hIv,hrd⟩:=hv1 (by intro e;rw[e] at hv0;simp at hv0)
  have hvcell:=qHv (I:=I) hrd
  have hvs:∀ (j:Nat) v,(vl.map sv)[j]?=some v->w.cell? ⟨vb,voff+j,none⟩=some v:=fun j v hj=>by
   simp only[List.getElem?_map,Option.map_eq_some_iff] at hj
   obtain ⟨x,hx,rfl⟩:=hj
   exact hvcell j x hx
  obtain ⟨n,hn⟩:∃ n,n=l.length:=⟨_,rfl⟩
  obtain ⟨k,hk⟩:∃ k,k=i.toNat:=⟨_,rfl⟩
  have hki:i=(k:Int):=by omega
  obtain ⟨l',hl'⟩:∃ l',l'=l.take i.toNat++vl++l.drop i.toNat:=⟨_,rfl⟩
  have hll:l'.length=l.length+vl.length:=by rw[hl'];simp;omega
  show Calls V.P _ _ _ fun e w'=>∃ (us:List Value) (I':Nat->Prop) (β':Nat->Option Place),e=.returned (qBb us)/\FrmC w w' (qRL (qPB [.own .str,.val (.int .i64),.val (.sl .str)] (l,i,vl,u)) β)/\
   OutOK w w' V.gb I β (qPB [.own .str,.val (.int .i64),.val (.sl .str)] (l,i,vl,u)) [some (.typed .str (l.take i.toNat++vl++l.drop i.toNat))] 0 I' β'/\RelL (rdW w') I' β' [.vw 0] us
  rw[<-hl']
  have fresh:∀ (w':World) (cap:Nat) (cur:Array Value) (ty:TypeId),Ext w w'->w'.heap[w.heap.size]?=some (.cells cur ty (0,0))->l'.length<=cap->cap<=cur.size->cur.size<=qKK->(∀ (r:Nat) x,l'[r]?=some x->cur[r]?=some (sv x))->
   ∃ (us:List Value) (I':Nat->Prop) (β':Nat->Option Place),Ending.returned (.slice (some ⟨w.heap.size,0,none⟩) (l.length+vl.length) cap)=.returned (qBb us)/\FrmC w w' (qRL (qPB [.own .str,.val (.int .i64),.val (.sl .str)] (l,i,vl,u)) β)/\
    OutOK w w' V.gb I β (qPB [.own .str,.val (.int .i64),.val (.sl .str)] (l,i,vl,u)) [some (.typed .str l')] 0 I' β'/\RelL (rdW w') I' β' [.vw 0] us:=fun w' cap cur ty hext hh h1 h2 h3 h4=>
   qBn (ps:=[.own .str,.val (.int .i64),.val (.sl .str)]) (x:=(l,i,vl,u)) rfl hctx hgb hext (.inr ⟨_,cap,cur,ty,by rw[hll],Nat.le_refl _,hh,h1,h2,h3,h4⟩)
  have place:∀ (w':World) (cs':Array Value) (ty:TypeId),p.backed=true->p.s=1->w'.os=w.os->w'.tape=w.tape->w'.output=w.output->w'.heap.size=w.heap.size->(∀ B,B≠p.B->w'.heap[B]?=w.heap[B]?)->w'.heap[p.B]?=some (.cells cs' ty (0,0))->cs'.size=p.z->cs'.size<=qKK->a=some ⟨p.B,p.O,none⟩->l'.length<=c->p.O+c<=p.z->
   (∀ (r:Nat) x,l'[r]?=some x->cs'[p.O+r]?=some (sv x))->
   ∃ (us:List Value) (I':Nat->Prop) (β':Nat->Option Place),Ending.returned (.slice a (l.length+vl.length) c)=.returned (qBb us)/\FrmC w w' (qRL (qPB [.own .str,.val (.int .i64),.val (.sl .str)] (l,i,vl,u)) β)/\
    OutOK w w' V.gb I β (qPB [.own .str,.val (.int .i64),.val (.sl .str)] (l,i,vl,u)) [some (.typed .str l')] 0 I' β'/\RelL (rdW w') I' β' [.vw 0] us:=by
   intro w' cs' ty hb hs e1 e2 e3 e4 e5 hh hz hcm ha' hlc hcz hx
   have hlive:qRL (qPB [.own .str,.val (.int .i64),.val (.sl .str)] (l,i,vl,u)) β p.B:=⟨0,.typed .str l,p,rfl,hp,hb,rfl⟩
   refine ⟨[_],I,fun j=>if j=0 then some { p with n:=l'.length } else none,rfl,⟨e1,e2,e3,Nat.le_of_eq e4.symm,fun B hB hnl=>e5 B fun e=>hnl (e ▸ hlive)⟩,⟨⟨fun b r hb'=>?_,fun b b' r r' q q' hb hb'=>?_,fun B hB=>⟨by rw[e4];exact (hctx.imm B hB).1,?_⟩,fun b hb'=>?_⟩,fun B hB=>.inl hB,fun b r q hb' hq hk=>?_,fun i hi=>by cases hi⟩,?_⟩
   ·cases b with
    |zero=>cases hb';exact ⟨_,rfl,fun _=>by rw[e4];exact hbk hb,qMh hs rfl hh (by simp only;omega) hz hcm hx hb⟩
    |succ b=>simp at hb'
   ·cases b<;>cases b'<;>simp at hb hb' ⊢
   ·rintro ⟨b,r,q,hb',hq,hk,rfl⟩
    cases b with
    |zero=>cases hq;exact (hctx.imm _ hB).2 hlive
    |succ b=>simp at hb'
   ·simp at hb'
    exact if_neg (by omega)
   ·cases b with
    |zero=>cases hq;exact .inl hlive
    |succ b=>simp at hb'
   ·simp only[RelL,RelV]
    exact ⟨_,[],rfl,⟨_,rfl,a,c,by rw[hll],hlc,.inr ⟨hb,ha',by simp only[hs];omega⟩⟩,rfl⟩
  have bigv:(l.length+vl.length) * 16<=140737488355328:=by omega
  have hlsv:∀ (r:Nat) v,(l.map sv)[r]?=some v->p.backed=true->w.cell? ⟨p.B,p.O+r,none⟩=some v:=fun r v hr hb=>by
   obtain ⟨hs,hn,cs,ty,g1,g2,g3,gm,g4⟩:=qRo hrow hb
   simp only[List.getElem?_map,Option.map_eq_some_iff] at hr
   obtain ⟨x,hx,rfl⟩:=hr
   simp[World.cell?,g1,g4 r x hx]
  have hgc:=fun n=>grownCap_le_maxLen w (l.length+vl.length) c n (by unfold maxLen;omega)
  have hgg:=fun n=>grownCap_ge w (l.length+vl.length) c n
  rw[hP,hpn]
  subst hki
  by_cases hend:k=l.length
  ·subst hend
   have hl2:l'=l++vl:=by rw[hl'];simp
   by_cases hroom:l.length+vl.length<=c
   ·obtain ⟨hb,rfl,hcap⟩:=ha.resolve_left (by omega)
    obtain ⟨hs,hn',cs,ty,g1,g2,g3,gm,g4⟩:=qRo hrow hb
    rw[hs] at hcap
    have hcall:=Any2.slices_Insert_string_end_room Tryz.laysIns p.B p.O l.length c vb voff vl.length vc (vl.map sv) w hv0 hroom (by unfold qKK at gm;omega) (by simp) (fun j hj=>by simp[World.cell?,g1];omega) (fun j hj=>by simp[World.frozen?,g1]) hvs (qGW _)
    refine Calls.mono hcall ?_
    rintro e w' ⟨rfl,rfl⟩
    obtain ⟨cs',k1,k2,k3,k4,k5,k6,k7,k8⟩:=qEJ (vl.map sv) p.B (p.O+l.length) w g1 (by simp;omega)
    refine place _ cs' ty hb hs k6 k7 k8 k5 k4 k1 (by rw[k2];exact g3) (by rw[k2];exact gm) rfl (by rw[hll];exact hroom) (by omega) fun r x hr=>?_
    rw[k3]
    rw[hl2] at hr
    by_cases hrl:r < l.length
    ·rw[if_neg (by omega)]
     rw[qY8 hrl] at hr
     exact g4 r x hr
    ·have hr2:=(List.getElem?_eq_some_iff.1 hr).1
     rw[qY9 (by omega)] at hr
     rw[if_pos (by simp at hr2 ⊢;omega),show p.O+r - (p.O+l.length)=r - l.length from by omega]
     simp[hr]
   ·have hcall:=Any2.slices_Insert_string_end_grow Tryz.laysIns a l.length c vb voff vl.length vc (l.map sv) (vl.map sv) w hv0 (by omega) (by omega) bigv (by simp) (by simp) (fun e=>by
     rcases ha with h0 | ⟨_,h0,_⟩
     ·omega
     ·rw[e] at h0;cases h0) (fun ad e r v hr=>by
     rcases ha with h0 | ⟨hb,h0,_⟩
     ·have:=(List.getElem?_eq_some_iff.1 hr).1;simp at this;omega
     ·rw[e] at h0;cases h0;rw[Addr.add_lit];exact hlsv r v hr hb) hvs (qGW _)
    refine Calls.mono hcall ?_
    rintro e w' ⟨rfl,rfl⟩
    have hgl:=hgg (Tryz.laysIns_ren.t 9)
    have hgm:=hgc (Tryz.laysIns_ren.t 9)
    unfold maxLen at hgm
    refine fresh _ _ _ _ ((Ext.drew w).trans (Ext.alloc _ _)) (World.alloc_heap_new w.drew _) (by rw[hll];exact hgl) (by simp[Builtin.zeroCells,Value.cells];omega) (by simp[Builtin.zeroCells,Value.cells];unfold qKK;omega) fun r x hr=>?_
    rw[hl2] at hr
    have hr2:=(List.getElem?_eq_some_iff.1 hr).1
    rw[Array.getElem?_append_left (by simp at hr2 ⊢;omega),List.getElem?_toArray,<-List.map_append,List.getElem?_map,hr]
    rfl
  ·have hkl:k < l.length:=by omega
   have hl2:∀ (r:Nat) x,l'[r]?=some x->if r < k then l[r]?=some x else if r < k+vl.length then vl[r - k]?=some x else l[r - vl.length]?=some x:=fun r x hr=>by
    rw[hl',qZ0,qZ1] at hr
    split
    ·rename_i h;rw[qY8 (by simp;omega),List.getElem?_take,if_pos h] at hr;exact hr
    ·rename_i h
     rw[qY9 (by simp;omega)] at hr
     have hmk:min k l.length=k:=by omega
     simp only[List.length_take,hmk] at hr
     split
     ·rename_i h';rw[qY8 (by omega)] at hr;exact hr
     ·rename_i h'
      rw[qY9 (by omega),List.getElem?_drop,show k+(r - k - vl.length)=r - vl.length from by omega] at hr
      exact hr
   obtain ⟨hb,rfl,hcap⟩:=ha.resolve_left (by omega)
   obtain ⟨hs,hn',cs,ty,g1,g2,g3,gm,g4⟩:=qRo hrow hb
   rw[hs] at hcap
   by_cases hroom:l.length+vl.length<=c
   ·obtain ⟨csv,hcsv⟩:∃ x,w.cell? ⟨vb,voff+0,none⟩=some x:=⟨_,hvcell 0 _ (qZ5 hv0)⟩
    obtain ⟨tA,kA,hsA⟩:∃ tA kA,w.shape? vb=some (tA,kA+1):=by
     unfold World.cell? at hcsv
     split at hcsv
     ·rename_i c0 ty0 fr0 hh
      have:voff+0 < c0.size:=by
       have:=hcsv
       simp at this
       exact (Array.getElem?_eq_some_iff.1 this).1
      exact ⟨ty0,c0.size - 1,by simp[World.shape?,hh];omega⟩
     ·cases hcsv
    have hvne:vb≠p.B:=fun e=>(hctx.imm vb hIv).2 ⟨0,.typed .str l,p,rfl,hp,hb,e.symm⟩
    have hcall:=Tryz.Insert_shift p.B p.O l.length c k vb voff vl.length vc (l.map sv) (vl.map sv) w hkl hv0 hroom (by unfold qKK at gm;omega) hvne (by simp) (by simp) (fun j v hj=>hlsv j v hj hb) (fun j hj=>by simp[World.cell?,g1];omega) (fun j=>by simp[World.frozen?,g1]) hvs (qGW _) (qGW _) tA ty kA cs.size hsA (by simp[World.shape?,g1])
    refine Calls.mono hcall ?_
    rintro e w' ⟨rfl,rfl⟩
    have g1':w.drew.heap[p.B]?=some (.cells cs ty (0,0)):=g1
    obtain ⟨cs1,k1,k2,k3,k4,k5,k6,k7,k8⟩:=qEJ ((l.map sv).drop k) p.B (p.O+(k+vl.length)) w.drew g1' (by simp;omega)
    obtain ⟨cs2,j1,j2,j3,j4,j5,j6,j7,j8⟩:=qEJ (vl.map sv) p.B (p.O+k) _ k1 (by rw[k2];simp;omega)
    refine place _ cs2 ty hb hs (j6.trans k6) (j7.trans k7) (j8.trans k8) (j5.trans k5) (fun B hB=>(j4 B hB).trans (k4 B hB)) j1 (by rw[j2,k2];exact g3) (by rw[j2,k2];exact gm) rfl (by rw[hll];exact hroom) (by omega) fun r x hr=>?_
    have hr2:=(List.getElem?_eq_some_iff.1 hr).1
    rw[hll] at hr2
    have h:=hl2 r x hr
    rw[j3,k3]
    split at h
    ·rw[if_neg (by omega),if_neg (by omega)];exact g4 r x h
    ·split at h
     ·rw[if_pos (by simp;omega),show p.O+r - (p.O+k)=r - k from by omega];simp[h]
     ·rw[if_neg (by simp;omega),if_pos (by simp;omega),List.getElem?_drop,show k+(p.O+r - (p.O+(k+vl.length)))=r - vl.length from by omega];simp[h]
   ·have hcall:=Any2.slices_Insert_string_grow Tryz.laysIns p.B p.O l.length c k vb voff vl.length vc (l.map sv) (vl.map sv) w hkl hv0 (by omega) (by omega) bigv (by simp) (by simp) (fun j v hj=>hlsv j v hj hb) hvs (qGW _) (qGW _)
    refine Calls.mono hcall ?_
    rintro e w' ⟨rfl,rfl⟩
    have hgl:=hgg (Tryz.laysIns_ren.t 9)
    have hgm:=hgc (Tryz.laysIns_ren.t 9)
    unfold maxLen at hgm
    obtain ⟨W0,hW0⟩:∃ W0,W0=(w.alloc (.cells (((l.map sv).take k).toArray++Builtin.zeroCells (Value.string ⟨#[]⟩).cells (l.length+vl.length - k)++Builtin.zeroCells (Value.string ⟨#[]⟩).cells (grownCap w (l.length+vl.length) c (Tryz.laysIns_ren.t 9) - (l.length+vl.length))) (Tryz.laysIns_ren.t 9))).drew:=⟨_,rfl⟩
    have hh0:W0.heap[w.heap.size]?=some (.cells (((l.map sv).take k).toArray++Builtin.zeroCells (Value.string ⟨#[]⟩).cells (l.length+vl.length - k)++Builtin.zeroCells (Value.string ⟨#[]⟩).cells (grownCap w (l.length+vl.length) c (Tryz.laysIns_ren.t 9) - (l.length+vl.length))) (Tryz.laysIns_ren.t 9) (0,0)):=by rw[hW0];exact World.alloc_heap_new w _
    rw[<-hW0]
    have hsz0:(((l.map sv).take k).toArray++Builtin.zeroCells (Value.string ⟨#[]⟩).cells (l.length+vl.length - k)++Builtin.zeroCells (Value.string ⟨#[]⟩).cells (grownCap w (l.length+vl.length) c (Tryz.laysIns_ren.t 9) - (l.length+vl.length))).size=grownCap w (l.length+vl.length) c (Tryz.laysIns_ren.t 9):=by
     simp[Builtin.zeroCells,Value.cells];omega
    obtain ⟨cs1,k1,k2,k3,k4,k5,k6,k7,k8⟩:=qEJ (vl.map sv) w.heap.size k W0 hh0 (by rw[hsz0];simp;omega)
    obtain ⟨cs2,j1,j2,j3,j4,j5,j6,j7,j8⟩:=qEJ ((l.map sv).drop k) w.heap.size (k+vl.length) (W0.setCells w.heap.size k (vl.map sv)).drew k1 (by rw[k2,hsz0];simp;omega)
    have hextW:Ext w W0:=by rw[hW0];exact (Ext.alloc w _).trans (Ext.drew _)
    refine fresh _ _ cs2 _ ⟨j6.trans (k6.trans hextW.os),j7.trans (k7.trans hextW.tape),j8.trans (k8.trans hextW.output),by
     have:=hextW.size
     have e1:(W0.setCells w.heap.size k (vl.map sv)).drew.heap.size=(W0.setCells w.heap.size k (vl.map sv)).heap.size:=rfl
     omega,fun B hB=>(j4 B (by omega)).trans ((k4 B (by omega)).trans (hextW.block B hB))⟩ j1 (by rw[hll];exact hgl) (by rw[j2,k2,hsz0];exact Nat.le_refl _) (by rw[j2,k2,hsz0];unfold qKK;omega) fun r x hr=>?_
    have hr2:=(List.getElem?_eq_some_iff.1 hr).1
    rw[hll] at hr2
    have h:=hl2 r x hr
    rw[j3,k3]
    split at h
    ·rw[if_neg (by omega),if_neg (by omega),Array.append_assoc,Array.getElem?_append_left (by simp;omega),List.getElem?_toArray,List.getElem?_take,if_pos (by assumption)];simp[h]
    ·split at h
     ·rw[if_neg (by simp;omega),if_pos (by simp;omega)];simp[h]
     ·rw[if_pos (by simp;omega),List.getElem?_drop,show k+(r - (k+vl.length))=r - vl.length from by omega];simp[h]⟩
end
end Go.AM.Num
end
section
namespace Go.Lib
open Go
variable {P:Program} (w:World)
theorem qFab {e:TypeId} (hc:P.cellsOf e=1) (count off n:Nat) (hn:off+n<=count):liesAt P P.depth e count off e n=true:=by
 have hd:P.depth=(2 * (P.types.size+Made.depth)+1)+1:=rfl
 rw[hd]
 simp only[liesAt,Bool.or_eq_true]
 left
 rw[hd]
 simp[rowAt,hc,hn,sameLayout,Nat.mod_one]
theorem qBX:∀ (l:List Int) (a:Addr) (acc:ByteArray),(∀ (j:Nat) x,l[j]?=some x->w.cell? (a.add j)=some (.int .u8 x))->
 (loadBytes a acc l.length).run P w=.ok ⟨acc.data++(l.map fun n=>UInt8.ofNat n.toNat).toArray⟩ w
 |[],a,acc,_=>by simp[loadBytes]
 |x::l,a,acc,h=>by
  have h0:w.cell? a=some (.int .u8 x):=by
   have:=h 0 x rfl
   simpa [Addr.add] using this
  have ih:=qBX l (a.add 1) (acc.push (UInt8.ofNat x.toNat)) (fun j y hy=>by
   have:=h (j+1) y (by simpa using hy)
   have e:(a.add 1).add j=a.add (j+1):=by
    unfold Addr.add
    by_cases hj:j=0
    ·subst hj;simp
    ·simp[hj];omega
   rw[e];exact this)
  have hx:(x.toNat).toUInt8=UInt8.ofNat x.toNat:=rfl
  simp only[qY11,loadBytes,Sem.run_bind,run_load,h0,Result.andThen,hx]
  rw[ih]
  congr 1
  apply ByteArray.ext
  simp[ByteArray.push]
theorem run_unsafeString_at (pt it ty e:TypeId) (hp:P.underlying pt=some (.pointer e)) (hc:P.cellsOf e=1) (g off cells:Nat) (hsh:w.shape? g=some (e,cells)) (l:List Int) (h0:l≠[]) (hn:off+l.length<=cells) (h63:l.length<=9223372036854775807)
 (hcell:∀ (j:Nat) x,l[j]?=some x->w.cell? ((⟨g,off,none⟩:Addr).add j)=some (.int .u8 x)) :
 (Builtin.unsafeString_ #[pt,it] ty #[.pointer (some ⟨g,off,none⟩),.int .i64 l.length]).run P w=.ok (.string ⟨(l.map fun n=>UInt8.ofNat n.toNat).toArray⟩) (w.freeze ⟨g,off,none⟩ l.length):=by
 have hl:l.length≠0:=by simpa using h0
 have hlb:=qBX (P:=P) w l ⟨g,off,none⟩ .empty hcell
 have hlies:=qFab (P:=P) hc (cells / P.cellsOf e) off l.length (by rw[hc];simpa using hn)
 have h63':¬ (9223372036854775807:Int) < (l.length:Int):=by omega
 have hdef:Builtin.unsafeString_ #[pt,it] ty #[.pointer (some ⟨g,off,none⟩),.int .i64 l.length] =
  (do
   let n<-asInt (.int .i64 l.length)
   if n < 0 then runtimePanic (.error "unsafe.String: len out of range")
   if n > IntKind.i64.max then unsupported (.unsafePointer "String: a length above the largest int")
   if n=0 then pure (.string .empty)
   else if<-variablesAt ⟨g,off,none⟩ (<-elemOf pt) n.toNat then do
    let s<-loadBytes ⟨g,off,none⟩ .empty n.toNat
    freeze ⟨g,off,none⟩ n.toNat
    pure (.string s)
   else unsupported (.unsafePointer "String: not so many bytes at ptr")) := rfl
 rw[hdef]
 have hmax:IntKind.i64.max=9223372036854775807:=rfl
 have hneg:¬ (l.length:Int) < 0:=by omega
 simp[asInt,asIntOf,hmax,h63',hneg,hl,variablesAt,hsh,elemOf,run_underlying hp,hlies,hlb]
end Go.Lib
namespace Go.Proofs
open Go.Shelf Go.RowKit Go.Lib
set_option maxHeartbeats 2000000 in
set_option maxRecDepth 100000 in
theorem Tryz.Builder_String_at (b g off cap:Nat) (p:Value) (cur:Array Value) (l:List Int) (w:World) (h0:l≠[]) (hbk:w.heap[b]?=some (.cells #[p,.slice (some ⟨g,off,none⟩) l.length cap] 150 (0,0))) (hg:w.heap[g]?=some (.cells cur 5 (0,0))) (hfit:off+l.length<=cur.size) (hcap:l.length<=cap) (hsm:l.length<=9223372036854775807)
 (hc:∀ (j:Nat) x,l[j]?=some x->cur[off+j]?=some (.int .u8 x)) :
 Calls Tryz.prog 119 #[.pointer (some ⟨b,0,none⟩)] w fun e w'=>e=.returned (.string ⟨(l.map fun n=>UInt8.ofNat n.toNat).toArray⟩)/\∃ W:World,W.heap=w.heap/\W.os=w.os/\W.tape=w.tape/\W.output=w.output/\w'=W.freeze ⟨g,off,none⟩ l.length:=by
 have hl0:l.length≠0:=by simpa using h0
 have c1:w.drew.cell? ⟨b,1,none⟩=some (.slice (some ⟨g,off,none⟩) l.length cap):=by
  have:w.drew.heap[b]?=some (.cells #[p,.slice (some ⟨g,off,none⟩) l.length cap] 150 (0,0)):=hbk
  rw[Lib.cell_of_heap this];rfl
 have hSD:(Builtin.unsafeSliceData_ #[120] 206 #[.slice (some ⟨g,off,none⟩) l.length cap]).run Tryz.prog w.drew=.ok (.pointer (some ⟨g,off,none⟩)) w.drew:=
  Lib.run_unsafeSliceData_row _ _ _ _ _ _ (by omega)
 have hUS:(Builtin.unsafeString_ #[206,3] 9 #[.pointer (some ⟨g,off,none⟩),.int .i64 l.length]).run Tryz.prog w.drew=.ok (.string ⟨(l.map fun n=>UInt8.ofNat n.toNat).toArray⟩) (w.drew.freeze ⟨g,off,none⟩ l.length):=by
  have hg':w.drew.heap[g]?=some (.cells cur 5 (0,0)):=hg
  refine Lib.run_unsafeString_at w.drew 206 3 9 5 Tryz.underlying206 (by kernel_rfl) g off cur.size (by simp[World.shape?,hg']) l h0 hfit hsm ?_
  intro j x hx
  rw[Addr.add_lit,Lib.cell_of_heap hg']
  exact hc j x hx
 have mixed:Tryz.prog.follows .mixedOrders=true:=by kernel_rfl
 go_enter Tryz.func119,Tryz.ntmps119
 go_wp2
 go_region_o
 all_goals (go_wp2;go_ret;exact ⟨rfl,w.drew,rfl,rfl,rfl,rfl,rfl⟩)
theorem Tryz.layB:(∃ j,Tryz.prog.info? 150=some j/\j.size=2):=Option.map_eq_some_iff.1 (show (Tryz.prog.info? 150).map (·.size)=some 2 by kernel_rfl)
set_option maxHeartbeats 1000000 in
set_option maxRecDepth 100000 in
theorem Tryz.copyCheck_used (b:Nat) (w:World) (h0:w.cell? ⟨b,0,none⟩=some (.pointer (some ⟨b,0,none⟩))) :
 Calls Tryz.prog 231 #[.pointer (some ⟨b,0,none⟩)] w fun e w'=>e=.returned (.tuple #[])/\w'=w:=by
 obtain ⟨j,hj,_⟩:=Tryz.layB
 have mixed:Tryz.prog.follows .mixedOrders=true:=by kernel_rfl
 go_enter Tryz.func231,Tryz.ntmps231
 go_wp2
 rw[Lib.run_neq_ptr_same w _ Tryz.underlying148 hj]
 go_wp2
 go_end0
 exact ⟨rfl,rfl⟩
set_option maxHeartbeats 1000000 in
set_option maxRecDepth 100000 in
theorem Tryz.copyCheck_fresh (b:Nat) (w:World) (h0:w.cell? ⟨b,0,none⟩=some (.pointer none)) (hsh:w.shape? b=some (150,2)) (hfz:w.frozen? ⟨b,0,none⟩=false) :
 Calls Tryz.prog 231 #[.pointer (some ⟨b,0,none⟩)] w fun e w'=>e=.returned (.tuple #[])/\w'=w.setCell ⟨b,0,none⟩ (.pointer (some ⟨b,0,none⟩)):=by
 obtain ⟨j,hj,hjs⟩:=Tryz.layB
 have mixed:Tryz.prog.follows .mixedOrders=true:=by kernel_rfl
 go_enter Tryz.func231,Tryz.ntmps231
 go_wp2
 rw[Lib.run_to_unsafe w ⟨b,0,none⟩ Tryz.underlying148 Tryz.underlying307 hj (by rw[hjs];decide) hsh (Nat.zero_lt_succ 1)]
 simp only[Result.andThen]
 rw[Oper.upon_value]
 go_wp2
 rw[run_callFunc_extern Tryz.func292 (by kernel_rfl) (by kernel_rfl) (by kernel_rfl) (e:=Extern.AbiNoEscape.same) (by kernel_rfl)]
 rw[Lib.run_noEscape]
 simp only[Result.andThen]
 rw[Oper.upon_value]
 go_wp2
 rw[Lib.run_from_unsafe w ⟨b,0,none⟩ Tryz.underlying307 Tryz.underlying148 hj hsh (by kernel_rfl)]
 simp only[Result.andThen]
 rw[Oper.upon_value]
 go_wp2
 go_end0
 exact ⟨rfl,rfl⟩
end Go.Proofs
end
section
namespace Go.AM.Num
open Go.Proofs Go.RowKit Go.Lib
theorem qHat {cs:Array Value} {u0 u1:Value} (hs:cs.size=2) (h0:cs[0]?=some u0) (h1:cs[1]?=some u1):cs=#[u0,u1]:=by
 obtain ⟨l⟩:=cs
 match l,hs with
 |[a,b],_=>simp at h0 h1;rw[h0,h1]
theorem qEai {w:World} {I:Nat->Prop} {β:Nat->Option Place} {p:Place} {k j:Nat} (hp:β k=some p) (h:qUF w I β p (.cells [.selfp k,.vw j])) :
 p.backed=true/\p.O=0/\∃ u0 u1,w.heap[p.B]?=some (.cells #[u0,u1] bldT (0,0))/\(u0=.pointer none\/u0=.pointer (some ⟨p.B,0,none⟩))/\RelV (rdW w) I β (.vw j) u1/\p.s=2/\p.n=1/\p.z=2:=by
 obtain ⟨h1,h2,h3,cs,ty,g1,⟨g2,g3,g4⟩,us,g5,g6,g7,g8⟩:=h
 obtain ⟨rfl,hO,hsz⟩:=g4 rfl
 simp only[RelL] at g7
 obtain ⟨u0,us',rfl,r0,u1,us2,rfl,r1,rfl⟩:=g7
 have e0:=g6 0 (by simp)
 have e1:=g6 1 (by simp)
 rw[hO] at e0 e1
 obtain rfl:=qHat hsz (by simpa using e0) (by simpa using e1)
 refine ⟨h3,hO,u0,u1,g1,?_,r1,h1,h2,by rw[<-g3];exact hsz⟩
 simp only[RelV] at r0
 rcases r0 with r0 | ⟨q,hq,_,r0⟩
 ·exact .inl r0
 ·rw[hp] at hq;cases hq;rw[hO] at r0;exact .inr r0
theorem qKaa {w:World} {I:Nat->Prop} {β:Nat->Option Place} {p:Place} {k j:Nat} {u0 u1:Value} (hp:β k=some p) (hb:p.backed=true) (hO:p.O=0) (hs:p.s=2) (hn:p.n=1) (hz:p.z=2) (hh:w.heap[p.B]?=some (.cells #[u0,u1] bldT (0,0))) (h0:u0=.pointer none\/u0=.pointer (some ⟨p.B,0,none⟩)) (h1:RelV (rdW w) I β (.vw j) u1):qUF w I β p (.cells [.selfp k,.vw j]):=by
 have hu0:u0.oneCell'=true:=by rcases h0 with rfl | rfl<;>rfl
 have hu1:u1.oneCell'=true:=by simp only[RelV] at h1;obtain ⟨_,_,_,_,rfl,_⟩:=h1;rfl
 refine ⟨hs,hn,hb,#[u0,u1],bldT,hh,⟨by rw[hO];simp,by rw[hz];rfl,fun _=>⟨rfl,hO,rfl⟩⟩,[u0,u1],rfl,fun i hi=>?_,?_,by simp[hu0,hu1]⟩
 ·rw[hO];simp
 ·simp only[RelL]
  refine ⟨u0,_,rfl,?_,u1,_,rfl,h1,rfl⟩
  simp only[RelV]
  exact h0.imp id fun h=>⟨p,hp,hb,by rw[hO];exact h⟩
theorem qSau {w w':World} {I:Nat->Prop} {β β':Nat->Option Place} {p:Place} {l:List Int} (h:qUF w I β p (.typed (.int .u8) l)) (hh:p.backed=true->w'.heap[p.B]?=w.heap[p.B]?):qUF w' I β' p (.typed (.int .u8) l):=by
 obtain ⟨h1,h2,h3,h4⟩:=h
 refine ⟨h1,h2,h3,fun hb=>?_⟩
 obtain ⟨cs,ty,g1,g2,g3⟩:=h4 hb
 refine ⟨cs,ty,(hh hb).trans g1,g2,fun i x hi=>?_⟩
 obtain ⟨us,u1,u2,u3⟩:=g3 i x hi
 exact ⟨us,u1,u2,by simpa only[RelC] using u3⟩
section
variable {V:Env} (hP:V.P=Tryz.prog)
include hP
theorem qEU:Good V 231 qAJ:=
 ⟨⟨_,hP ▸ Tryz.func231,by decide,rfl⟩,fun (x:(Unit×List Int)×Unit) y o hx w I β vs hG hgb hctx hargs=>by
  obtain ⟨v,rfl,h1⟩:=rel1 hargs
  obtain ⟨⟨u,l⟩,u2⟩:=x
  cases hx
  replace h1:RelV (rdW w) I β (.ptr 0 0 0) v:=h1
  simp only[RelV] at h1
  obtain ⟨p,hp,hpb,rfl⟩:=h1
  obtain ⟨p',hp',hbk,hrow⟩:=hctx.rows 0 (.cells [.selfp 0,.vw 1]) rfl
  rw[hp] at hp';cases hp'
  obtain ⟨hb,hO,u0,u1,hh,h0,hu1,hs,hn,hz⟩:=qEai hp hrow
  have hc0:w.cell? ⟨p.B,0,none⟩=some u0:=by simp[World.cell?,hh]
  rw[hP,show (⟨p.B,p.O+0 * p.s+0,none⟩:Addr)=⟨p.B,0,none⟩ by rw[hO];simp]
  let H:qCC:=[some (.cells [.selfp 0,.vw 1]),some (.typed (.int .u8) l)]
  show Calls Tryz.prog _ _ _ fun e w'=>∃ (us:List Value) (I':Nat->Prop) (β':Nat->Option Place),e=.returned (qBb us)/\FrmC w w' (qRL H β)/\OutOK w w' V.gb I β H H 1 I' β'/\RelL (rdW w') I' β' [] us
  have hctx:Ctx V.gb w I β H:=hctx
  have same:∀ i,i < 1->β i=β i/\∀ q,β i=some q->q.backed=true->qII w w q:=fun i hi=>⟨rfl,fun q hq hk=>by
   obtain rfl:i=0:=by omega
   rw[hp] at hq;cases hq
   exact .inr ⟨_,_,_,hh,hh,rfl,fun _ _=>rfl⟩⟩
  rcases h0 with rfl | rfl
  ·refine Calls.mono (Tryz.copyCheck_fresh p.B w hc0 (by simp[World.shape?,hh];rfl) (by simp[World.frozen?,hh])) ?_
   rintro e w' ⟨rfl,rfl⟩
   have hh':(w.setCell ⟨p.B,0,none⟩ (.pointer (some ⟨p.B,0,none⟩))).heap[p.B]?=some (.cells #[.pointer (some ⟨p.B,0,none⟩),u1] bldT (0,0)):=by
    simp only[World.setCell,Array.getElem?_modify,hh]
    simp
   have hoth:∀ B,B≠p.B->(w.setCell ⟨p.B,0,none⟩ (.pointer (some ⟨p.B,0,none⟩))).heap[B]?=w.heap[B]?:=fun B hB=>by
    simp only[World.setCell,Array.getElem?_modify]
    rw[if_neg (fun h=>hB h.symm)]
   have hsz:(w.setCell ⟨p.B,0,none⟩ (.pointer (some ⟨p.B,0,none⟩))).heap.size=w.heap.size:=by simp[World.setCell]
   refine ⟨[],I,β,rfl,⟨rfl,rfl,rfl,Nat.le_of_eq hsz.symm,fun B hB hnl=>hoth B fun e=>hnl ⟨0,_,p,rfl,hp,hb,e.symm⟩⟩,⟨⟨fun b r hbr=>?_,hctx.apart,fun B hB=>⟨by rw[hsz];exact (hctx.imm B hB).1,(hctx.imm B hB).2⟩,hctx.dom⟩,fun B hB=>.inl hB,fun b r q hbr hq hk=>.inl ⟨b,r,q,hbr,hq,hk,rfl⟩,fun i hi=>⟨rfl,fun q hq hk=>?_⟩⟩,by simp only[RelL]⟩
   ·cases b with
    |zero=>cases hbr;exact ⟨p,hp,fun hk=>by rw[hsz];exact hbk hk,qKaa hp hb hO hs hn hz hh' (.inr rfl) (by simpa only[RelV] using hu1)⟩
    |succ b=>cases b with
     |zero=>
      cases hbr
      obtain ⟨q,hq,hqk,hqr⟩:=hctx.rows 1 _ rfl
      exact ⟨q,hq,fun hk=>by rw[hsz];exact hqk hk,qSau hqr fun hk=>hoth q.B fun e=>by have:=hctx.apart 1 0 _ _ q p rfl rfl hq hp hk hb e;cases this⟩
     |succ b=>simp[H] at hbr
   ·obtain rfl:i=0:=by omega
    rw[hp] at hq;cases hq
    refine .inr ⟨_,_,_,hh,hh',rfl,fun o ho=>?_⟩
    rw[hO,hn,hs] at ho
    rw[Array.getElem?_eq_none (by simp;omega),Array.getElem?_eq_none (by simp;omega)]
  ·refine Calls.mono (Tryz.copyCheck_used p.B w hc0) ?_
   rintro e w' ⟨rfl,rfl⟩
   exact ⟨[],I,β,rfl,⟨rfl,rfl,rfl,Nat.le_refl _,fun _ _ _=>rfl⟩,⟨hctx,fun B hB=>.inl hB,fun b r q hbr hq hk=>.inl ⟨b,r,q,hbr,hq,hk,rfl⟩,same⟩,by simp only[RelL]⟩⟩
theorem qPY:Good V 119 qJL:=
 ⟨⟨_,hP ▸ Tryz.func119,by decide,rfl⟩,fun (x:(Unit×List Int)×Unit) y o hx w I β vs hG hgb hctx hargs=>by
  obtain ⟨v,rfl,h1⟩:=rel1 hargs
  obtain ⟨⟨u,l⟩,u2⟩:=x
  obtain ⟨hm,hx⟩:=qOU hx
  cases hx
  simp only[decide_eq_true_eq] at hm
  replace hm:0 < l.length:=hm
  replace h1:RelV (rdW w) I β (.ptr 0 0 0) v:=h1
  simp only[RelV] at h1
  obtain ⟨p,hp,hpb,rfl⟩:=h1
  obtain ⟨p',hp',hbk,hrow⟩:=hctx.rows 0 (.cells [.selfp 0,.vw 1]) rfl
  rw[hp] at hp';cases hp'
  obtain ⟨hb,hO,u0,u1,hh,h0,hu1,hs,hn,hz⟩:=qEai hp hrow
  obtain ⟨q,hq,hqk,hqr⟩:=hctx.rows 1 (.typed (.int .u8) l) rfl
  simp only[RelV] at hu1
  obtain ⟨q',hq',a,c,rfl,hqc,ha⟩:=hu1
  rw[hq] at hq';cases hq'
  obtain ⟨q1,q2,_,q4⟩:=hqr
  obtain ⟨hqb,rfl,_⟩:=ha.resolve_left (by omega)
  obtain ⟨cs,ty,g1,⟨g2,g3,g4,g5⟩,g6⟩:=q4 hqb
  obtain rfl:=g4 rfl
  have q1:q.s=1:=q1
  rw[q1,q2] at g2
  rw[hP,show (⟨p.B,p.O+0 * p.s+0,none⟩:Addr)=⟨p.B,0,none⟩ by rw[hO];simp]
  let H:qCC:=[some (.cells [.selfp 0,.vw 1]),some (.typed (.int .u8) l)]
  show Calls Tryz.prog _ _ _ fun e w'=>∃ (us:List Value) (I':Nat->Prop) (β':Nat->Option Place),e=.returned (qBb us)/\FrmC w w' (qRL H β)/\OutOK w w' V.gb I β H [] 0 I' β'/\RelL (rdW w') I' β' [.str (l.map fun n=>UInt8.ofNat n.toNat)] us
  have hcall:=Tryz.Builder_String_at p.B q.B q.O c u0 cs l w (by intro e;rw[e] at hm;simp at hm) (by rw[<-q2];exact hh) g1 (by simpa using g2) (by rw[<-q2];exact hqc) (by have:cs.size<=qKK * 1:=g5;unfold qKK at this;omega) (fun j x hx=>by
   obtain ⟨us,e1,e2,e3⟩:=g6 j x hx
   have:=e2 0 (by decide)
   simp only[RelC] at e3
   subst e3
   simpa [GT.cells] using this)
  refine Calls.mono hcall ?_
  rintro e w' ⟨rfl,W,w1,w2,w3,w4,rfl⟩
  have hfz:∀ B,B≠q.B->(W.freeze ⟨q.B,q.O,none⟩ l.length).heap[B]?=w.heap[B]?:=fun B hB=>by
   rw[<-w1]
   unfold World.freeze
   split
   ·rfl
   ·simp only[Array.getElem?_modify];rw[if_neg (fun h=>hB h.symm)]
  have hfs:(W.freeze ⟨q.B,q.O,none⟩ l.length).heap.size=w.heap.size:=by
   rw[<-w1];unfold World.freeze;split<;>simp
  have hfo:(W.freeze ⟨q.B,q.O,none⟩ l.length).os=w.os/\(W.freeze ⟨q.B,q.O,none⟩ l.length).tape=w.tape/\(W.freeze ⟨q.B,q.O,none⟩ l.length).output=w.output:=by
   unfold World.freeze;split<;>exact ⟨w2,w3,w4⟩
  have hctx:Ctx V.gb w I β H:=hctx
  refine ⟨[_],I,fun _=>none,rfl,⟨hfo.1,hfo.2.1,hfo.2.2,Nat.le_of_eq hfs.symm,fun B hB hnl=>hfz B fun e=>hnl ⟨1,_,q,rfl,hq,hqb,e.symm⟩⟩,⟨⟨fun b r hbr=>by simp at hbr,fun b b' r r' q q' hb=>by simp at hb,fun B hB=>⟨by rw[hfs];exact (hctx.imm B hB).1,qCT B⟩,fun _ _=>rfl⟩,fun B hB=>.inl hB,fun b r q hbr=>by simp at hbr,fun i hi=>by cases hi⟩,?_⟩
  simp only[RelL]
  exact ⟨_,[],rfl,qQb _,rfl⟩⟩
end
end Go.AM.Num
end
section
namespace Go.AM.Num
theorem qVB {α:Type} {step:α->Option (Ex×α)} {Q:Ex×α->Prop} (I:Nat->α->Prop)
 (h:∀ n x,I n x->(∃ r,step x=some r/\r.1≠.normal/\Q r)\/(∃ m y,step x=some (.normal,y)/\m < n/\I m y)) :
 ∀ n x,I n x->∃ r,qPA step x=some r/\Q r:=by
 intro n
 induction n using Nat.strongRecOn with
 |_ n ih=>
  intro x hx
  rcases h n x hx with ⟨⟨ex,y⟩,hs,hne,hq⟩ | ⟨m,y,hs,hm,hy⟩
  ·refine ⟨_,?_,hq⟩
   rw[qKW,hs]
   cases ex with
   |normal=>exact absurd rfl hne
   |exit id=>rfl
   |ret=>rfl
  ·obtain ⟨r,hr,hq⟩:=ih m hm y hy
   exact ⟨r,by rw[qKW,hs];exact hr,hq⟩
theorem qAB {α:Type} {step:α->Option (Ex×α)} {x y:α} (h:step x=some (.normal,y)):qPA step x=qPA step y:=by
 rw[qKW,h]
theorem qUA {α:Type} {step:α->Option (Ex×α)} {x y:α} {e:Ex} (h:step x=some (e,y)) (he:e≠.normal):qPA step x=some (e,y):=by
 rw[qKW,h]
 cases e with
 |normal=>exact absurd rfl he
 |exit id=>rfl
 |ret=>rfl
theorem qHB (i:Nat):Ex.same (.exit i) (.exit i)=true:=by simp[Ex.same]
theorem qNC:Ex.same .ret .ret=true:=by simp[Ex.same]
theorem qQC (i:Nat):Ex.same .ret (.exit i)=false:=by simp[Ex.same]
theorem qCad (i:Nat):Ex.same (.exit i) .ret=false:=by simp[Ex.same]
section
variable {ρ:Type}
theorem qHV (k:Option ρ):grd true k=k:=rfl
theorem qEA (a b:Bool) (k:Option ρ):grd (a&&b) k=grd a (grd b k):=by cases a<;>rfl
theorem qBA {p:Prop} {_:Decidable p} (h:p) (k:Option ρ):grd (decide p) k=k:=by rw[qZ10 h];rfl
theorem qDX {x y:Int} (h:x≠y) (k:Option ρ):grd (x !=y) k=k:=by
 have:(x !=y)=true:=by simpa using h
 rw[this];rfl
theorem qOA {α:Type} (a b:α):cond true a b=a:=rfl
theorem qVA {α:Type} (a b:α):cond false a b=b:=rfl
theorem qGA {α:Type} {p:Prop} {_:Decidable p} (h:p) (a b:α):cond (decide p) a b=a:=by rw[qZ10 h];rfl
theorem qJA {α:Type} {p:Prop} {_:Decidable p} (h:¬ p) (a b:α):cond (decide p) a b=b:=by rw[qZ9 h];rfl
theorem qFA {α:Type} {x y:Int} (h:x=y) (a b:α):cond (x==y) a b=a:=by
 have:(x==y)=true:=by simpa using h
 rw[this];rfl
theorem qDA {α:Type} {x y:Int} (h:x≠y) (a b:α):cond (x==y) a b=b:=by
 have:(x==y)=false:=by simpa using h
 rw[this];rfl
theorem qDE {α:Type} {x y:Int} (h:x≠y) (a b:α):cond (x !=y) a b=a:=by
 have:(x !=y)=true:=by simpa using h
 rw[this];rfl
theorem qID {α:Type} {x y:Int} (h:x=y) (a b:α):cond (x !=y) a b=b:=by
 have:(x !=y)=false:=by simpa using h
 rw[this];rfl
theorem qAA {α β:Type} (x:α) (f:α->Option β):(some x).bind f=f x:=rfl
end
theorem w64 {x:Int} (h:-9223372036854775808<=x/\x<=9223372036854775807):qI x=x:=IntWalk.i64_in x h
theorem wu64 {x:Int} (h:0<=x/\x<=18446744073709551615):qU x=x:=IntWalk.u64_in x h
theorem wu32 {x:Int} (h:0<=x/\x<=4294967295):IntKind.u32.wrap x=x:=IntWalk.u32_in x h
theorem wu8 {x:Int} (h:0<=x/\x<=255):IntKind.u8.wrap x=x:=IntWalk.u8_in x h
theorem tm {x y:Int} (h:0<=x):x.tmod y=x % y:=Int.tmod_eq_emod_of_nonneg h
theorem td {x y:Int} (h:0<=x):x.tdiv y=x / y:=Int.tdiv_eq_ediv_of_nonneg h
theorem qTe (a b:Int):qSc a b=if b > a then b else a:=rfl
theorem qKaj (a b:Int):minA a b=if b < a then b else a:=rfl
theorem stp:type_of% @qHV/\type_of% @qEA/\type_of% @qBA/\type_of% @qDX/\type_of% @qGA/\type_of% @qJA/\type_of% @qFA/\type_of% @qDA/\type_of% @qDE/\type_of% @qID/\type_of% @w64/\type_of% @wu64/\type_of% @wu32/\type_of% @wu8/\type_of% @tm/\type_of% @td/\type_of% @qAA/\type_of% @qHB/\type_of% @qCad/\type_of% @qQC/\type_of% @qNC/\type_of% @qOA/\type_of% @qVA/\(!true)=false/\(!false)=true:=⟨@qHV,@qEA,@qBA,@qDX,@qGA,@qJA,@qFA,@qDA,@qDE,@qID,@w64,@wu64,@wu32,@wu8,@tm,@td,@qAA,@qHB,@qCad,@qQC,@qNC,@qOA,@qVA,rfl,rfl⟩
theorem lnn:qKF=68719476736/\(∀ (α:Type) (a b:List α),(a++b).length=a.length+b.length)/\(∀ (α:Type) (x:α) (l:List α),(x::l).length=l.length+1)/\(∀ α:Type,([]:List α).length=0)/\(∀ (α:Type) (l:List α) (n:Nat) (x:α),(l.set n x).length=l.length)/\
 (∀ (α:Type) (n:Nat) (x:α),(List.replicate n x).length=n)/\(∀ (α:Type) (n:Nat) (l:List α),(l.take n).length=min n l.length)/\(∀ (α:Type) (n:Nat) (l:List α),(l.drop n).length=l.length - n):=
 ⟨rfl,fun _ _ _=>qZ6,fun _ _ _=>qY11,fun _=>List.length_nil,fun _ _ _ _=>List.length_set,fun _ _ _=>List.length_replicate,fun _ _ _=>List.length_take,fun _ _ _=>List.length_drop⟩
def bp (i:Nat):Int:=1000000000 ^ i
theorem qWJ (i:Nat):bp (i+1)=1000000000 * bp i:=by unfold bp;rw[Int.pow_succ,Int.mul_comm]
theorem qBS (i:Nat):0 < bp i:=by
 induction i with
 |zero=>decide
 |succ i ih=>rw[qWJ];omega
theorem qGo (i j:Nat):bp (i+j)=bp i * bp j:=by unfold bp;exact Int.pow_add ..
theorem qHau {i j:Nat} (h:i<=j):bp i<=bp j:=by
 obtain ⟨k,rfl⟩:=Nat.exists_eq_add_of_le h
 rw[qGo]
 have h1:=qBS i
 have h2:=qBS k
 have:bp i * 1<=bp i * bp k:=Int.mul_le_mul_of_nonneg_left (by omega) (by omega)
 omega
def lv:List Int->Int
 |[]=>0
 |x::r=>x+1000000000 * lv r
def Wf (l:List Int):Prop:=∀ x∈l,0<=x/\x < 1000000000
theorem Wf.nil:Wf []:=by simp[Wf]
theorem Wf.cons {x:Int} {l:List Int} (h:0<=x/\x < 1000000000) (hl:Wf l):Wf (x::l):=by
 intro y hy
 rcases List.mem_cons.1 hy with rfl | hy
 ·exact h
 ·exact hl y hy
theorem Wf.app {a b:List Int} (ha:Wf a) (hb:Wf b):Wf (a++b):=by
 intro y hy
 rcases List.mem_append.1 hy with hy | hy
 ·exact ha y hy
 ·exact hb y hy
theorem Wf.one {x:Int} (h:0<=x/\x < 1000000000):Wf [x]:=Wf.cons h Wf.nil
theorem Wf.take {l:List Int} (h:Wf l) (n:Nat):Wf (l.take n):=fun x hx=>h x (List.mem_of_mem_take hx)
theorem Wf.drop {l:List Int} (h:Wf l) (n:Nat):Wf (l.drop n):=fun x hx=>h x (List.mem_of_mem_drop hx)
theorem Wf.set {l:List Int} (h:Wf l) (i:Nat) {x:Int} (hx:0<=x/\x < 1000000000):Wf (l.set i x):=by
 intro y hy
 rcases List.mem_or_eq_of_mem_set hy with hy | rfl
 ·exact h y hy
 ·exact hx
theorem Wf.at {l:List Int} (h:Wf l) (i:Nat):0<=l.getD i 0/\l.getD i 0 < 1000000000:=by
 by_cases hi:i < l.length
 ·rw[qZ4,qZ5 hi]
  exact h _ (List.getElem_mem hi)
 ·rw[qZ4,List.getElem?_eq_none (by omega)]
  decide
theorem Wf.zeros (n:Nat):Wf (List.replicate n (0:Int)):=by
 intro x hx
 rw[List.eq_of_mem_replicate hx]
 decide
theorem qQv (a b:List Int):lv (a++b)=lv a+bp a.length * lv b:=by
 induction a with
 |nil=>simp[lv,bp]
 |cons x a ih=>
  simp only[qY5,lv,ih,qY11,qWJ]
  grind
theorem qUag (x:Int):lv [x]=x:=by simp[lv]
theorem qUX (a:List Int) (x:Int):lv (a++[x])=lv a+x * bp a.length:=by rw[qQv,qUag,Int.mul_comm]
theorem qMal (n:Nat):lv (List.replicate n (0:Int))=0:=by
 induction n with
 |zero=>rfl
 |succ n ih=>simp[List.replicate_succ,lv,ih]
theorem qTE {l:List Int} (h:Wf l):0<=lv l:=by
 induction l with
 |nil=>simp[lv]
 |cons x l ih=>
  have h1:=h x (by simp)
  have h2:=ih fun y hy=>h y (by simp[hy])
  simp only[lv];omega
theorem qAd {l:List Int} (h:Wf l):lv l < bp l.length:=by
 induction l with
 |nil=>simp[lv,bp]
 |cons x l ih=>
  have h1:=h x (by simp)
  have h2:=ih fun y hy=>h y (by simp[hy])
  simp only[lv,qY11,qWJ];omega
theorem qMJ (l:List Int) (n:Nat) (h:n<=l.length):lv l=lv (l.take n)+bp n * lv (l.drop n):=by
 have:=qQv (l.take n) (l.drop n)
 rw[List.take_append_drop] at this
 rw[this,List.length_take,Nat.min_eq_left h]
theorem qTb {l:List Int} {i:Nat} (h:i < l.length):l.getD i 0=l[i]:=by
 rw[qZ4,qZ5 h];rfl
theorem qWm {l:List Int} {i:Nat} (h:l.length<=i):l.getD i 0=0:=by
 rw[qZ4,List.getElem?_eq_none h];rfl
theorem qWac {l:List Int} {i:Nat} (h:i < l.length):l.take (i+1)=l.take i++[l.getD i 0]:=by
 rw[qTb h,List.take_succ_eq_append_getElem h]
theorem qDq {l:List Int} {i:Nat} (h:i < l.length):lv (l.take (i+1))=lv (l.take i)+l.getD i 0 * bp i:=by
 rw[qWac h,qUX,List.length_take,Nat.min_eq_left (by omega)]
theorem qDF (l:List Int) (i:Nat):lv (l.take (i+1))=lv (l.take i)+l.getD i 0 * bp i:=by
 by_cases h:i < l.length
 ·exact qDq h
 ·rw[List.take_of_length_le (by omega),List.take_of_length_le (by omega),qWm (by omega)];simp
theorem qHJ {l:List Int} {i:Nat} (h:i < l.length):lv (l.drop i)=l.getD i 0+1000000000 * lv (l.drop (i+1)):=by
 rw[qY6 h,lv,qTb h]
theorem qDw {l:List Int} {i:Nat} (h:i < l.length) (x:Int):lv (l.set i x)=lv l+(x - l.getD i 0) * bp i:=by
 induction l generalizing i with
 |nil=>simp at h
 |cons y l ih=>
  cases i with
  |zero=>simp[lv,bp];omega
  |succ i=>
   simp only[List.set_cons_succ,lv,qZ2,qWJ]
   rw[ih (by simpa using h)]
   grind
theorem qIW {l:List Int} {i j:Nat} (h:i < l.length) (x:Int):(l.set i x).getD j 0=if i=j then x else l.getD j 0:=by
 rw[qZ4,List.getElem?_set]
 split
 ·rename_i e;subst e;simp[h]
 ·rw[qZ4]
def limbs (n:Nat):List Int:=if h:n=0 then [] else ((n % 1000000000:Nat):Int)::limbs (n / 1000000000)
 termination_by n
 decreasing_by omega
theorem limbs_zero:limbs 0=[]:=by rw[limbs,dif_pos rfl]
theorem qSQ {n:Nat} (h:n≠0):limbs n=((n % 1000000000:Nat):Int)::limbs (n / 1000000000):=by rw[limbs,dif_neg h]
theorem qSH (n:Nat):Wf (limbs n):=by
 induction n using Nat.strongRecOn with
 |_ n ih=>
  by_cases h:n=0
  ·subst h;rw[limbs_zero];exact Wf.nil
  ·rw[qSQ h];exact Wf.cons (by omega) (ih _ (by omega))
theorem qSF (n:Nat):lv (limbs n)=n:=by
 induction n using Nat.strongRecOn with
 |_ n ih=>
  by_cases h:n=0
  ·subst h;rw[limbs_zero];rfl
  ·rw[qSQ h,lv,ih _ (by omega)];omega
theorem limbs_nil {n:Nat}:limbs n=[] ↔ n=0:=by
 constructor
 ·intro h
  have:=qSF n
  rw[h] at this;simp[lv] at this;omega
 ·rintro rfl;exact limbs_zero
theorem qDZ (n i:Nat) (h:i+1=(limbs n).length):(limbs n).getD i 0≠0:=by
 induction n using Nat.strongRecOn generalizing i with
 |_ n ih=>
  by_cases h0:n=0
  ·subst h0;rw[limbs_zero] at h;simp at h
  ·rw[qSQ h0] at h ⊢
   cases i with
   |zero=>
    simp only[qY11] at h
    have:limbs (n / 1000000000)=[]:=List.eq_nil_of_length_eq_zero (by omega)
    rw[limbs_nil] at this
    simp;omega
   |succ i=>
    simp only[qY11] at h
    simpa using ih (n / 1000000000) (by omega) i (by omega)
theorem qCal {l:List Int} (h:Wf l) (ht:∀ i,i+1=l.length->l.getD i 0≠0):l=limbs (lv l).toNat:=by
 induction l with
 |nil=>simp[lv,limbs_zero]
 |cons x l ih=>
  have hx:=h x (by simp)
  have hl:Wf l:=fun y hy=>h y (by simp[hy])
  have hn:=qTE hl
  have ih':=ih hl fun i hi=>by
   have:=ht (i+1) (by simp[hi])
   simpa using this
  have hpos:(lv (x::l)).toNat≠0:=by
   simp only[lv]
   cases l with
   |nil=>
    have:=ht 0 (by simp)
    simp only[qZ3] at this
    simp only[lv];omega
   |cons y l'=>
    have:lv (y::l')≠0:=by
     intro e
     rw[e] at ih'
     simp[limbs_zero] at ih'
    omega
  rw[qSQ hpos]
  have e1:(lv (x::l)).toNat / 1000000000=(lv l).toNat:=by simp only[lv];omega
  have e2:(((lv (x::l)).toNat % 1000000000:Nat):Int)=x:=by simp only[lv];omega
  rw[e1,e2,<-ih']
theorem qLL (n:Nat):(n:Int) < bp (limbs n).length:=by
 have:=qAd (qSH n)
 rwa [qSF] at this
theorem qKd {n:Nat} (h:n≠0):bp ((limbs n).length - 1)<=n:=by
 induction n using Nat.strongRecOn with
 |_ n ih=>
  rw[qSQ h]
  by_cases h0:n / 1000000000=0
  ·rw[h0,limbs_zero];simp[bp];omega
  ·have:=ih (n / 1000000000) (by omega) h0
   have hl:(limbs (n / 1000000000)).length≠0:=by
    intro e;exact h0 (limbs_nil.1 (List.eq_nil_of_length_eq_zero e))
   simp only[qY11,Nat.add_sub_cancel]
   have e:(limbs (n / 1000000000)).length=((limbs (n / 1000000000)).length - 1)+1:=by omega
   rw[e,qWJ];omega
theorem qUah {i j:Nat} (h:bp i < bp j):i < j:=by
 apply Nat.lt_of_not_le
 intro hle
 have:=qHau hle
 omega
theorem qWQ {n k:Nat} (h:(n:Int) < bp k):(limbs n).length<=k:=by
 by_cases h0:n=0
 ·subst h0;rw[limbs_zero];simp
 ·have:=qKd h0
  have h2:(limbs n).length - 1 < k:=qUah (by omega)
  omega
theorem qHI {m n:Nat} (h:m<=n):(limbs m).length<=(limbs n).length:=
 qWQ (by have:=qLL n;omega)
theorem qQZ (m n:Nat):(limbs (m * n)).length<=(limbs m).length+(limbs n).length:=by
 apply qWQ
 rw[qGo,Int.natCast_mul]
 have h1:=qLL m
 have h2:=qLL n
 exact Int.mul_lt_mul' (by omega) h2 (by omega) (by have:=qBS (limbs m).length;omega)
theorem limbs_small {n:Nat} (h0:n≠0) (h:n < 1000000000):limbs n=[(n:Int)]:=by
 rw[qSQ h0,Nat.mod_eq_of_lt h,Nat.div_eq_of_lt h,limbs_zero]
end Go.AM.Num
end
section
set_option linter.unusedSimpArgs false
set_option linter.unusedVariables false
namespace Go.AM.Num
theorem qIH:qKF=68719476736:=rfl
theorem qOS {l:List Int} (hw:Wf l) (hl:l.length<=1000000000000):qLG l=some ((limbs (lv l).toNat,()),()):=by
 obtain ⟨r,hr,n,rfl,hn,hz,ht⟩:=qVB (step:=qHD) (Q:=fun r=>∃ n:Nat,r=(Ex.exit 0,(l,(n:Int),()))/\n<=l.length/\lv (l.drop n)=0/\∀ i,i+1=n->l.getD i 0≠0)
  (fun m x=>x=(l,(m:Int),())/\m<=l.length/\lv (l.drop m)=0) (by
   rintro n x ⟨rfl,hn,hz⟩
   by_cases h0:n=0
   ·subst h0
    refine .inl ⟨_,?_,?_,0,rfl,hn,hz,by omega⟩
    ·simp (disch:=omega) only[qHD,qJA]
    ·simp
   ·have e:((n:Int) - 1).toNat=n - 1:=by omega
    have hi:n - 1 < l.length:=by omega
    by_cases hx:l.getD (n - 1) 0=0
    ·refine .inr ⟨n - 1,_,?_,by omega,rfl,by omega,?_⟩
     ·simp (disch:=omega) only[qHD,qGA,qEA,qBA,w64,e,qFA]
      rw[show ((n:Int) - 1)=((n - 1:Nat):Int) by omega]
     ·rw[qHJ hi,hx,show n - 1+1=n by omega,hz];rfl
    ·refine .inl ⟨_,?_,?_,n,rfl,hn,hz,fun i hi'=>by rw[show i=n - 1 by omega];exact hx⟩
     ·simp (disch:=omega) only[qHD,qGA,qEA,qBA,w64,e,qDA]
     ·simp) l.length (l,(l.length:Int),()) ⟨rfl,Nat.le_refl _,by rw[List.drop_length];rfl⟩
 unfold qLG
 rw[hr]
 have e:((n:Int)).toNat=n:=by omega
 simp (disch:=omega) only[qAA,qHB,qOA,qEA,qBA,e]
 congr 2
 congr 1
 rw[qCal (hw.take n) (fun i hi=>by
  rw[List.length_take,Nat.min_eq_left hn] at hi
  have:(l.take n).getD i 0=l.getD i 0:=by
   rw[qZ4,List.getElem?_take,if_pos (by omega),qZ4]
  rw[this];exact ht i hi)]
 have:=qMJ l n hn
 rw[hz] at this
 rw[this];simp
theorem qYai (l:List Int) {i:Int} (h0:0<=i):qET l i=some ((l.getD i.toNat 0,()),()):=by
 unfold qET
 by_cases h:i < l.length
 ·simp (disch:=omega) only[qJA,qGA,qEA,qBA]
 ·simp (disch:=omega) only[qJA,qGA,qEA,qBA]
  rw[qWm (by omega)]
theorem qXf (n:Nat):qNK (limbs n)=some ((decide (n=1),()),()):=by
 unfold qNK
 by_cases h0:n=0
 ·subst h0;rw[limbs_zero];simp[cond]
 ·by_cases hl:(limbs n).length=1
  ·have hlt:n < 1000000000:=by
    have:=qLL n
    rw[hl] at this;simp[bp] at this;omega
   rw[limbs_small h0 hlt]
   simp (disch:=(first | omega | (simp only[lnn];omega))) only[stp]
   by_cases h1:n=1
   ·subst h1;rfl
   ·have e:((n:Int)==1)=false:=by rw[beq_eq_false_iff_ne];omega
    show some (((n:Int)==1,()),())=_
    rw[e,qZ9 h1]
  ·have:n≠1:=by rintro rfl;exact hl (by rw[limbs_small (by decide) (by decide)];rfl)
   simp (disch:=(first | omega | (simp only[lnn];omega))) only[stp]
   simp[this]
theorem qMx (a b:Nat):qSc (a:Int) (b:Int)=((max a b:Nat):Int):=by
 rw[qTe];split<;>omega
theorem qCas {a b:List Int} (ha:Wf a) (hb:Wf b) (hal:a.length<=1000000000) (hbl:b.length<=1000000000):qDS a b=some ((limbs (lv a+lv b).toNat,()),()):=by
 obtain ⟨K,hK⟩:∃ K,K=max a.length b.length:=⟨_,rfl⟩
 have hKe:=qMx a.length b.length
 rw[<-hK] at hKe
 have hK1:K<=1000000000:=by omega
 obtain ⟨r,hr,out,c,rfl,ho,hw,hc,hv⟩:=qVB (step:=qIO) (Q:=fun r=>∃ (out:List Int) (c:Int),r=(Ex.exit 0,(a,b,out,c,(K:Int),(K:Int),()))/\out.length=K/\Wf out/\(0<=c/\c<=1)/\lv out+c * bp K=lv a+lv b)
  (fun m x=>∃ (k:Nat) (out:List Int) (c:Int),x=(a,b,out,c,(K:Int),(k:Int),())/\m+k=K/\out.length=k/\Wf out/\(0<=c/\c<=1)/\lv out+c * bp k=lv (a.take k)+lv (b.take k)) (by
   rintro m x ⟨k,out,c,rfl,hm,ho,hw,hc,hv⟩
   by_cases hlt:k < K
   ·have h1:=ha.at k
    have h2:=hb.at k
    have hk:(k:Int).toNat=k:=by omega
    have e1:=qYai a (i:=(k:Int)) (by omega)
    have e2:=qYai b (i:=(k:Int)) (by omega)
    rw[hk] at e1 e2
    refine .inr ⟨m - 1,(a,b,out++[(a.getD k 0+b.getD k 0+c) % 1000000000],(a.getD k 0+b.getD k 0+c) / 1000000000,(K:Int),((k+1:Nat):Int),()),?_,by omega,k+1,_,_,rfl,by omega,by simp[ho],hw.app (Wf.one (by omega)),by omega,?_⟩
    ·simp (disch:=(first | omega | (simp only[lnn];omega))) only[qIO,e1,e2,stp]
     rfl
    ·rw[qUX,ho,qDF,qDF,qWJ]
     have:=Int.emod_add_mul_ediv (a.getD k 0+b.getD k 0+c) 1000000000
     grind
   ·refine .inl ⟨(Ex.exit 0,(a,b,out,c,(K:Int),(K:Int),())),?_,by simp,out,c,rfl,by omega,hw,hc,?_⟩
    ·simp (disch:=(first | omega | (simp only[lnn];omega))) only[qIO,stp]
     rw[show k=K by omega]
    ·rw[List.take_of_length_le (by omega),List.take_of_length_le (by omega)] at hv
     rw[<-hv,show k=K by omega]) K (a,b,List.replicate (0:Int).toNat 0,0,(K:Int),0,()) ⟨0,[],0,rfl,by omega,rfl,Wf.nil,by omega,by simp[lv]⟩
 unfold qDS
 have hcw:=hw.app (Wf.one (x:=c) (by omega))
 rw[hKe,hr]
 have ht:=qOS hcw (by simp;omega)
 simp (disch:=(first | omega | (simp only[lnn];omega))) only[ht,stp]
 rw[qUX,ho,hv]
theorem qSam (m n:Nat) (hm:(limbs m).length<=1000000000) (hn:(limbs n).length<=1000000000):qDS (limbs m) (limbs n)=some ((limbs (m+n),()),()):=by
 rw[qCas (qSH m) (qSH n) hm hn,qSF,qSF,show ((m:Int)+n).toNat=m+n by omega]
end Go.AM.Num
end
section
set_option linter.unusedSimpArgs false
set_option linter.unusedVariables false
namespace Go.AM.Num
theorem qGat {a b:List Int} (ha:Wf a) (hb:Wf b) (hal:a.length<=1000000000) (hbl:b.length<=a.length) (hle:lv b<=lv a):qCQ a b=some ((limbs (lv a - lv b).toNat,()),()):=by
 obtain ⟨K,hK⟩:∃ K,K=a.length:=⟨_,rfl⟩
 obtain ⟨r,hr,out,c,rfl,ho,hw,hc,hv⟩:=qVB (step:=qNL) (Q:=fun r=>∃ (out:List Int) (c:Int),r=(Ex.exit 0,(a,b,out,c,(K:Int),(K:Int),()))/\out.length=K/\Wf out/\(0<=c/\c<=1)/\lv out - c * bp K=lv a - lv b)
  (fun m x=>∃ (k:Nat) (out:List Int) (c:Int),x=(a,b,out,c,(K:Int),(k:Int),())/\m+k=K/\out.length=k/\Wf out/\(0<=c/\c<=1)/\lv out - c * bp k=lv (a.take k) - lv (b.take k)) (by
   rintro m x ⟨k,out,c,rfl,hm,ho,hw,hc,hv⟩
   by_cases hlt:k < K
   ·have h1:=ha.at k
    have h2:=hb.at k
    have hk:(k:Int).toNat=k:=by omega
    have e2:=qYai b (i:=(k:Int)) (by omega)
    rw[hk] at e2
    by_cases hneg:a.getD k 0 - b.getD k 0 - c < 0
    ·refine .inr ⟨m - 1,(a,b,out++[a.getD k 0 - b.getD k 0 - c+1000000000],1,(K:Int),((k+1:Nat):Int),()),?_,by omega,k+1,_,_,rfl,by omega,by simp[ho],hw.app (Wf.one (by omega)),by omega,?_⟩
     ·simp (disch:=(first | omega | (simp only[lnn];omega))) only[qNL,e2,hk,stp]
      rfl
     ·rw[qUX,ho,qDF,qDF,qWJ]
      grind
    ·refine .inr ⟨m - 1,(a,b,out++[a.getD k 0 - b.getD k 0 - c],0,(K:Int),((k+1:Nat):Int),()),?_,by omega,k+1,_,_,rfl,by omega,by simp[ho],hw.app (Wf.one (by omega)),by omega,?_⟩
     ·simp (disch:=(first | omega | (simp only[lnn];omega))) only[qNL,e2,hk,stp]
      rfl
     ·rw[qUX,ho,qDF,qDF,qWJ]
      grind
   ·refine .inl ⟨(Ex.exit 0,(a,b,out,c,(K:Int),(K:Int),())),?_,by simp,out,c,rfl,by omega,hw,hc,?_⟩
    ·simp (disch:=(first | omega | (simp only[lnn];omega))) only[qNL,stp]
     rw[show k=K by omega]
    ·rw[List.take_of_length_le (by omega),List.take_of_length_le (by omega)] at hv
     rw[<-hv,show k=K by omega]) K (a,b,List.replicate (0:Int).toNat 0,0,(K:Int),0,()) ⟨0,[],0,rfl,by omega,rfl,Wf.nil,by omega,by simp[lv]⟩
 have hc0:c=0:=by
  have h1:=qAd hw
  rw[ho] at h1
  rcases (show c=0\/c=1 by omega) with h | h
  ·exact h
  ·subst h;omega
 subst hc0
 unfold qCQ
 rw[<-hK,hr]
 have ht:=qOS hw (by omega)
 simp (disch:=(first | omega | (simp only[lnn];omega))) only[ht,stp]
 rw[<-hv];simp
theorem qAal {m n:Nat} (h:n<=m):(limbs n).length<=(limbs m).length:=qHI h
theorem qVae (m n:Nat) (hm:(limbs m).length<=1000000000) (h:n<=m):qCQ (limbs m) (limbs n)=some ((limbs (m - n),()),()):=by
 rw[qGat (qSH m) (qSH n) hm (qAal h) (by rw[qSF,qSF];omega),qSF,qSF,show ((m:Int) - n).toNat=m - n by omega]
theorem lv_lt_of_top {a b:List Int} (ha:Wf a) (hb:Wf b) {i:Nat} (hal:i < a.length) (hbl:i < b.length) (hd:a.drop (i+1)=b.drop (i+1)) (h:a.getD i 0 < b.getD i 0):lv a < lv b:=by
 have h1:=qMJ a i (by omega)
 have h2:=qMJ b i (by omega)
 rw[qHJ hal,hd] at h1
 rw[qHJ hbl] at h2
 have h3:=qAd (ha.take i)
 have h4:=qTE (hb.take i)
 rw[List.length_take,Nat.min_eq_left (by omega)] at h3
 have h5:=qBS i
 have h6:bp i * (a.getD i 0+1)<=bp i * b.getD i 0:=Int.mul_le_mul_of_nonneg_left (by omega) (by omega)
 rw[Int.mul_add] at h1 h2 h6
 omega
theorem qCq {a b:List Int} (ha:Wf a) (hb:Wf b) (ht:b.getD (b.length - 1) 0≠0) (h:a.length < b.length):lv a < lv b:=by
 have h1:=qAd ha
 have h2:=qMJ b (b.length - 1) (by omega)
 rw[qHJ (by omega),show b.length - 1+1=b.length by omega,List.drop_length] at h2
 have h4:=qTE (hb.take (b.length - 1))
 have h5:=hb.at (b.length - 1)
 have h6:=qHau (show a.length<=b.length - 1 by omega)
 have h7:=qBS (b.length - 1)
 have h8:bp (b.length - 1) * 1<=bp (b.length - 1) * b.getD (b.length - 1) 0:=Int.mul_le_mul_of_nonneg_left (by omega) (by omega)
 simp only[lv] at h2
 rw[Int.mul_add] at h2
 omega
theorem qPan (m n:Nat) (hm:(limbs m).length<=1000000000) (hn:(limbs n).length<=1000000000):∃ c,qQQ (limbs m) (limbs n)=some ((c,()),())/\(c < 0 ↔ m < n)/\(c=0 ↔ m=n):=by
 have ha:=qSH m
 have hb:=qSH n
 have hma:=qSF m
 have hnb:=qSF n
 by_cases hl:(limbs m).length=(limbs n).length
 ·obtain ⟨a,hae⟩:∃ a,a=limbs m:=⟨_,rfl⟩
  obtain ⟨b,hbe⟩:∃ b,b=limbs n:=⟨_,rfl⟩
  rw[<-hae] at ha hma hl hm ⊢
  rw[<-hbe] at hb hnb hl hn ⊢
  obtain ⟨r,hr,hq⟩:=qVB (step:=qIL) (Q:=fun r=>(∃ x,r=(Ex.exit 0,x)/\lv a=lv b)\/(∃ c i,r=(Ex.ret,(a,b,c,i,()))/\(c < 0 ↔ lv a < lv b)/\c≠0/\lv a≠lv b))
   (fun k x=>x=(a,b,0,(k:Int) - 1,())/\k<=a.length/\a.drop k=b.drop k) (by
    rintro k x ⟨rfl,hk,hd⟩
    by_cases h0:k=0
    ·subst h0
     refine .inl ⟨(Ex.exit 0,(a,b,0,((0:Nat):Int) - 1,())),?_,?_,.inl ⟨_,rfl,by simpa using congrArg lv hd⟩⟩
     ·simp (disch:=(first | omega | (simp only[lnn];omega))) only[qIL,stp]
     ·simp
    ·have e:((k:Int) - 1).toNat=k - 1:=by omega
     have h1:=ha.at (k - 1)
     have h2:=hb.at (k - 1)
     by_cases hx:a.getD (k - 1) 0=b.getD (k - 1) 0
     ·refine .inr ⟨k - 1,_,?_,by omega,rfl,by omega,?_⟩
      ·simp (disch:=(first | omega | (simp only[lnn];omega))) only[qIL,e,stp]
       rw[show ((k - 1:Nat):Int) - 1=(k:Int) - 1 - 1 by omega]
      ·rw[qY6 (show k - 1 < a.length by omega),qY6 (show k - 1 < b.length by omega),show k - 1+1=k by omega,hd]
       rw[qTb (by omega),qTb (by omega)] at hx
       rw[hx]
     ·have hd':a.drop (k - 1+1)=b.drop (k - 1+1):=by rw[show k - 1+1=k by omega];exact hd
      refine .inl ⟨_,?_,?_,.inr ⟨a.getD (k - 1) 0 - b.getD (k - 1) 0,(k:Int) - 1,rfl,?_,by omega,?_⟩⟩
      ·simp (disch:=(first | omega | (simp only[lnn];omega))) only[qIL,e,stp]
      ·simp
      ·constructor
       ·intro h;exact lv_lt_of_top ha hb (by omega) (by omega) hd' (by omega)
       ·intro h
        by_cases hy:a.getD (k - 1) 0 < b.getD (k - 1) 0
        ·omega
        ·have:=lv_lt_of_top hb ha (i:=k - 1) (by omega) (by omega) hd'.symm (by omega)
         omega
      ·intro h
       by_cases hy:a.getD (k - 1) 0 < b.getD (k - 1) 0
       ·have:=lv_lt_of_top ha hb (i:=k - 1) (by omega) (by omega) hd' (by omega)
        omega
       ·have:=lv_lt_of_top hb ha (i:=k - 1) (by omega) (by omega) hd'.symm (by omega)
        omega) a.length (a,b,0,(a.length:Int) - 1,()) ⟨rfl,Nat.le_refl _,by rw[List.drop_length,hl,List.drop_length]⟩
  rcases hq with ⟨x,rfl,he⟩ | ⟨c,i,rfl,h1,h2,h3⟩
  ·refine ⟨0,?_,?_,?_⟩
   ·unfold qQQ
    simp (disch:=(first | omega | (simp only[lnn];omega))) only[hr,stp]
   ·omega
   ·omega
  ·refine ⟨c,?_,?_,?_⟩
   ·unfold qQQ
    simp (disch:=(first | omega | (simp only[lnn];omega))) only[hr,stp]
   ·omega
   ·omega
 ·have hcases:(limbs m).length < (limbs n).length/\m < n\/(limbs n).length < (limbs m).length/\n < m:=by
   rcases Nat.lt_or_ge (limbs m).length (limbs n).length with h | h
   ·refine .inl ⟨h,?_⟩
    have:=qCq ha hb (qDZ n _ (by omega)) h
    omega
   ·have h':(limbs n).length < (limbs m).length:=by omega
    refine .inr ⟨h',?_⟩
    have:=qCq hb ha (qDZ m _ (by omega)) h'
    omega
  refine ⟨((limbs m).length:Int) - (limbs n).length,?_,?_,?_⟩
  ·unfold qQQ
   simp (disch:=(first | omega | (simp only[lnn];omega))) only[stp]
  ·omega
  ·omega
end Go.AM.Num
end
section
set_option linter.unusedSimpArgs false
set_option linter.unusedVariables false
namespace Go.AM.Num
def dig (c:UInt8):Nat:=c.toNat - 48
def isD (c:UInt8):Prop:=48<=c.toNat/\c.toNat<=57
def qPK (s:qBs):Prop:=∀ c∈s,isD c
def dval (s:qBs):Nat:=s.foldl (fun v c=>10 * v+dig c) 0
theorem qKai:dval []=0:=rfl
theorem qMM (s:qBs) (c:UInt8):dval (s++[c])=10 * dval s+dig c:=by simp[dval]
theorem qQy (s:qBs) (v:Nat):s.foldl (fun v c=>10 * v+dig c) v=v * 10 ^ s.length+dval s:=by
 induction s generalizing v with
 |nil=>simp[dval]
 |cons c s ih=>
  simp only[List.foldl_cons,dval,qY11,Nat.pow_succ]
  rw[ih (10 * v+dig c),ih (10 * 0+dig c)]
  grind
theorem qRe (a b:qBs):dval (a++b)=dval a * 10 ^ b.length+dval b:=by
 show (a++b).foldl (fun v c=>10 * v+dig c) 0=_
 rw[List.foldl_append,qQy]
 rfl
theorem qTM (c:UInt8) (s:qBs):dval (c::s)=dig c * 10 ^ s.length+dval s:=by
 have:=qRe [c] s
 simpa [dval] using this
theorem qPK.app {a b:qBs} (ha:qPK a) (hb:qPK b):qPK (a++b):=fun c hc=>(List.mem_append.1 hc).elim (ha c) (hb c)
theorem qPK.take {s:qBs} (h:qPK s) (n:Nat):qPK (s.take n):=fun c hc=>h c (List.mem_of_mem_take hc)
theorem qPK.drop {s:qBs} (h:qPK s) (n:Nat):qPK (s.drop n):=fun c hc=>h c (List.mem_of_mem_drop hc)
theorem qUac {c:UInt8} (h:isD c):dig c < 10:=by unfold dig;have:=h.2;omega
theorem qOR {s:qBs} (h:qPK s):dval s < 10 ^ s.length:=by
 induction s with
 |nil=>simp[dval]
 |cons c s ih=>
  have h1:=qUac (h c (by simp))
  have h2:=ih fun c' hc'=>h c' (by simp[hc'])
  rw[qTM,qY11,Nat.pow_succ]
  have:dig c * 10 ^ s.length<=9 * 10 ^ s.length:=Nat.mul_le_mul_right _ (by omega)
  omega
theorem qIan (k:Nat):bp k=((10 ^ (9 * k):Nat):Int):=by
 induction k with
 |zero=>rfl
 |succ k ih=>rw[qWJ,ih,show 9 * (k+1)=9 * k+9 by omega,Nat.pow_add];simp;omega
theorem qJu (s:qBs) (out:List Int) (e:Int) (ch:qBs) (hd:qPK ch) (hl:ch.length<=9) :
 qPA qNP (s,out,e,0,ch.map (fun b=>(b.toNat:Int)),(ch.length:Int),0,())=some (Ex.exit 2,(s,out,e,(dval ch:Int),ch.map (fun b=>(b.toNat:Int)),(ch.length:Int),(ch.length:Int),())):=by
 obtain ⟨r,hr,rfl⟩:=qVB (step:=qNP) (Q:=fun r=>r=(Ex.exit 2,(s,out,e,(dval ch:Int),ch.map (fun b=>(b.toNat:Int)),(ch.length:Int),(ch.length:Int),())))
  (fun m x=>∃ k:Nat,m+k=ch.length/\x=(s,out,e,(dval (ch.take k):Int),ch.map (fun b=>(b.toNat:Int)),(ch.length:Int),(k:Int),())) (by
   rintro m x ⟨k,hm,rfl⟩
   by_cases hk:k < ch.length
   ·have hc:=hd _ (List.getElem_mem hk)
    have hg:(ch.map (fun b=>(b.toNat:Int))).getD k 0=(ch[k].toNat:Int):=by
     rw[qZ4,List.getElem?_map,qZ5 hk];rfl
    have hlt:=qOR (hd.take k)
    have hp:10 ^ (ch.take k).length<=10 ^ 8:=Nat.pow_le_pow_right (by decide) (by rw[List.length_take];omega)
    have hs:dval (ch.take (k+1))=10 * dval (ch.take k)+dig ch[k]:=by
     rw[List.take_succ_eq_append_getElem hk,qMM]
    have hk':(k:Int).toNat=k:=by omega
    have h1:=hc.1
    have h2:=hc.2
    have hdig:(dig ch[k]:Int)=(ch[k].toNat:Int) - 48:=by unfold dig;omega
    refine .inr ⟨m - 1,_,?_,by omega,k+1,by omega,rfl⟩
    ·rw[hs]
     have hml:(ch.map (fun b=>(b.toNat:Int))).length=ch.length:=by simp
     simp (disch:=(first | omega | (simp only[lnn];omega))) only[qNP,hk',hg,hml,stp]
     rw[show ((10 * dval (ch.take k)+dig ch[k]:Nat):Int)=(dval (ch.take k):Int) * 10+((ch[k].toNat:Int) - 48) by omega]
     rfl
   ·refine .inl ⟨_,?_,?_,rfl⟩
    ·simp (disch:=(first | omega | (simp only[lnn];omega))) only[qNP,stp]
     rw[show k=ch.length by omega,List.take_length]
    ·simp) ch.length _ ⟨0,by omega,rfl⟩
 exact hr
theorem qHl {s:qBs} (hd:qPK s) (hl:s.length<=1000000000):qNY s=some ((limbs (dval s),()),()):=by
 obtain ⟨r,hr,out,e,rfl,ho,hw,hv⟩:=qVB (step:=qJS) (Q:=fun r=>∃ (out:List Int) (e:Int),r=(Ex.exit 0,(s,out,e,()))/\out.length<=s.length+1/\Wf out/\lv out=dval s)
  (fun m x=>∃ (k:Nat) (out:List Int),x=(s,out,(s.length:Int) - 9 * k,())/\m+9 * k=s.length+9/\out.length=k/\Wf out/\lv out=dval (s.drop (s.length - 9 * k))) (by
   rintro m x ⟨k,out,rfl,hm,ho,hw,hv⟩
   by_cases hpos:9 * k < s.length
   ·obtain ⟨lo,hlo⟩:∃ lo:Nat,lo=s.length - 9 * k - 9:=⟨_,rfl⟩
    obtain ⟨hi,hhi⟩:∃ hi:Nat,hi=s.length - 9 * k:=⟨_,rfl⟩
    have hie:(s.length:Int) - 9 * k=(hi:Int):=by omega
    have hmx:qSc ((hi:Int) - 9) 0=(lo:Int):=by rw[qTe];split<;>omega
    have hin:(hi:Int).toNat=hi:=by omega
    have hln:(lo:Int).toNat=lo:=by omega
    obtain ⟨ch,hch⟩:∃ ch,ch=(s.take hi).drop lo:=⟨_,rfl⟩
    have hchl:ch.length=hi - lo:=by rw[hch,List.length_drop,List.length_take];omega
    have hcd:qPK ch:=by rw[hch];exact (hd.take hi).drop lo
    have hlt:=qOR hcd
    have hp:10 ^ ch.length<=10 ^ 9:=Nat.pow_le_pow_right (by decide) (by omega)
    have hin7:=qJu s out (hi:Int) ch hcd (by omega)
    have hsplit:s.drop lo=ch++s.drop hi:=by
     rw[hch]
     have h1:s=s.take hi++s.drop hi:=(List.take_append_drop hi s).symm
     conv=>lhs;rw[h1,List.drop_append_of_le_length (by rw[List.length_take];omega)]
    rw[hie]
    refine .inr ⟨m - 9,(s,out++[(dval ch:Int)],(hi:Int) - 9,()),?_,by omega,k+1,out++[(dval ch:Int)],?_,by omega,by simp[ho],hw.app (Wf.one (by omega)),?_⟩
    ·have hcl:((ch.map (fun b=>(b.toNat:Int))).length:Int)=(ch.length:Int):=by simp
     have hmap:((s.take hi).drop lo).map (fun b=>(b.toNat:Int))=ch.map (fun b=>(b.toNat:Int)):=by rw[hch]
     simp (disch:=(first | omega | (simp only[lnn];omega))) only[qJS,hmx,hin,hln,hmap,hcl,hin7,stp]
    ·rw[show (s.length:Int) - 9 * ((k+1:Nat):Int)=(hi:Int) - 9 by omega]
    ·rw[qUX,ho,hv,<-hhi,show s.length - 9 * (k+1)=lo by omega,hsplit,qRe,qIan,List.length_drop,show s.length - hi=9 * k by omega]
     simp;omega
   ·refine .inl ⟨(Ex.exit 0,(s,out,(s.length:Int) - 9 * k,())),?_,by simp,out,_,rfl,by omega,hw,?_⟩
    ·simp (disch:=(first | omega | (simp only[lnn];omega))) only[qJS,stp]
    ·rw[hv,show s.length - 9 * k=0 by omega,List.drop_zero]) (s.length+9) (s,[],(s.length:Int),()) ⟨0,[],by simp,by omega,rfl,Wf.nil,by simp[lv,dval]⟩
 unfold qNY
 rw[hr]
 have ht:=qOS hw (by omega)
 simp (disch:=(first | omega | (simp only[lnn];omega))) only[ht,stp]
 rw[hv];simp
end Go.AM.Num
end
section
set_option linter.unusedSimpArgs false
set_option linter.unusedVariables false
namespace Go.AM.Num
theorem qNi {x y:Int} (hx:0<=x/\x < 1000000000) (hy:0<=y/\y < 1000000000):0<=x * y/\x * y<=999999998000000001:=by
 refine ⟨Int.mul_nonneg hx.1 hy.1,?_⟩
 have h1:x * y<=999999999 * y:=Int.mul_le_mul_of_nonneg_right (by omega) hy.1
 omega
theorem qXah {b out0:List Int} {i:Nat} {x:Int} (hb:Wf b) (ho:Wf out0) (hx:0<=x/\x < 1000000000) (hl:i+b.length < out0.length) (hL:out0.length<=2000000000) (t18:List Int) (t19 t20:Int) :
 ∃ out c,qPA qOL (b,out0,(i:Int),x,0,t18,t19,t20,b,(b.length:Int),0,())=some (Ex.exit 2,(b,out,(i:Int),x,c,t18,t19,t20,b,(b.length:Int),(b.length:Int),()))/\
  out.length=out0.length/\Wf out/\(0<=c/\c < 1000000000)/\lv out+c * bp (i+b.length)=lv out0+x * lv b * bp i/\∀ j,i+b.length<=j->out.getD j 0=out0.getD j 0:=by
 obtain ⟨r,hr,out,c,rfl,h1,h2,h3,h4,h5⟩:=qVB (step:=qOL) (Q:=fun r=>∃ (out:List Int) (c:Int),r=(Ex.exit 2,(b,out,(i:Int),x,c,t18,t19,t20,b,(b.length:Int),(b.length:Int),()))/\
  out.length=out0.length/\Wf out/\(0<=c/\c < 1000000000)/\lv out+c * bp (i+b.length)=lv out0+x * lv b * bp i/\∀ j,i+b.length<=j->out.getD j 0=out0.getD j 0)
  (fun m y=>∃ (k:Nat) (out:List Int) (c:Int),m+k=b.length/\y=(b,out,(i:Int),x,c,t18,t19,t20,b,(b.length:Int),(k:Int),())/\
   out.length=out0.length/\Wf out/\(0<=c/\c < 1000000000)/\lv out+c * bp (i+k)=lv out0+x * lv (b.take k) * bp i/\∀ j,i+k<=j->out.getD j 0=out0.getD j 0) (by
   rintro m y ⟨k,out,c,hm,rfl,h1,h2,h3,h4,h5⟩
   by_cases hk:k < b.length
   ·have hy:=hb.at k
    have hz:=h2.at (i+k)
    have hxy:=qNi hx hy
    have e1:(k:Int).toNat=k:=by omega
    have e2:((i:Int)+k).toNat=i+k:=by omega
    obtain ⟨v,hv⟩:∃ v,v=out.getD (i+k) 0+x * b.getD k 0+c:=⟨_,rfl⟩
    refine .inr ⟨m - 1,(b,out.set (i+k) (v % 1000000000),(i:Int),x,v / 1000000000,t18,t19,t20,b,(b.length:Int),((k+1:Nat):Int),()),?_,by omega,k+1,_,_,by omega,rfl,by simpa using h1,h2.set _ (by omega),by omega,?_,?_⟩
    ·rw[hv]
     simp (disch:=(first | omega | (simp only[lnn];omega))) only[qOL,e1,e2,stp]
     rfl
    ·rw[qDw (by omega),qDF,show i+(k+1)=i+k+1 by omega,qWJ,qGo] at *
     have:=Int.emod_add_mul_ediv v 1000000000
     grind
    ·intro j hj
     rw[qIW (by omega),if_neg (by omega)]
     exact h5 j (by omega)
   ·refine .inl ⟨(Ex.exit 2,(b,out,(i:Int),x,c,t18,t19,t20,b,(b.length:Int),(b.length:Int),())),?_,by simp,out,c,rfl,h1,h2,h3,?_,?_⟩
    ·simp (disch:=(first | omega | (simp only[lnn];omega))) only[qOL,stp]
     rw[show k=b.length by omega]
    ·rw[show k=b.length by omega,List.take_length] at h4;exact h4
    ·intro j hj;exact h5 j (by omega)) b.length _ ⟨0,out0,0,by omega,rfl,rfl,ho,by omega,by simp[lv],fun j _=>rfl⟩
 exact ⟨out,c,hr,h1,h2,h3,h4,h5⟩
theorem qNx {a b:List Int} (ha:Wf a) (hb:Wf b) (hal:a.length<=1000000000) (hbl:b.length<=1000000000) :
 ∃ out,qPA qDJ (b,List.replicate (a.length+b.length) 0,a,(a.length:Int),0,())=some (Ex.exit 0,(b,out,a,(a.length:Int),(a.length:Int),()))/\Wf out/\out.length=a.length+b.length/\lv out=lv a * lv b:=by
 obtain ⟨r,hr,out,rfl,h1,h2,h3⟩:=qVB (step:=qDJ) (Q:=fun r=>∃ (out:List Int),r=(Ex.exit 0,(b,out,a,(a.length:Int),(a.length:Int),()))/\Wf out/\out.length=a.length+b.length/\lv out=lv a * lv b)
  (fun m y=>∃ (i:Nat) (out:List Int),m+i=a.length/\y=(b,out,a,(a.length:Int),(i:Int),())/\Wf out/\out.length=a.length+b.length/\lv out=lv (a.take i) * lv b/\∀ j,i+b.length<=j->out.getD j 0=0) (by
   rintro m y ⟨i,out,hm,rfl,h1,h2,h3,h4⟩
   by_cases hi:i < a.length
   ·have hx:=ha.at i
    have e1:(i:Int).toNat=i:=by omega
    obtain ⟨o2,c,hin,g1,g2,g3,g4,g5⟩:=qXah (i:=i) hb h1 hx (by omega) (by omega) a (a.length:Int) (i:Int)
    have e2:((i:Int)+b.length).toNat=i+b.length:=by omega
    refine .inr ⟨m - 1,(b,o2.set (i+b.length) c,a,(a.length:Int),((i+1:Nat):Int),()),?_,by omega,i+1,_,by omega,rfl,g2.set _ g3,by simp;omega,?_,?_⟩
    ·simp (disch:=(first | omega | (simp only[lnn];omega))) only[qDJ,e1,hin,e2,stp]
     rfl
    ·rw[qDw (by omega),g5 _ (Nat.le_refl _),h4 _ (Nat.le_refl _),qDF]
     grind
    ·intro j hj
     rw[qIW (by omega),if_neg (by omega),g5 j (by omega)]
     exact h4 j (by omega)
   ·refine .inl ⟨(Ex.exit 0,(b,out,a,(a.length:Int),(a.length:Int),())),?_,by simp,out,rfl,h1,h2,?_⟩
    ·simp (disch:=(first | omega | (simp only[lnn];omega))) only[qDJ,stp]
     rw[show i=a.length by omega]
    ·rw[show i=a.length by omega,List.take_length] at h3;exact h3) a.length _ ⟨0,List.replicate (a.length+b.length) 0,by omega,rfl,Wf.zeros _,by simp,by rw[qMal];simp[lv],fun j _=>by
     rw[qZ4,List.getElem?_replicate];split<;>rfl⟩
 exact ⟨out,hr,h1,h2,h3⟩
theorem qDau {a b:List Int} (ha:Wf a) (hb:Wf b) (hal:a.length<=1000000000) (hbl:b.length<=1000000000):qWL a b=some ((limbs (lv a * lv b).toNat,()),()):=by
 obtain ⟨out,hr,h1,h2,h3⟩:=qNx ha hb hal hbl
 unfold qWL
 have e:((a.length:Int)+b.length).toNat=a.length+b.length:=by omega
 have ht:=qOS h1 (by omega)
 simp (disch:=(first | omega | (simp only[lnn];omega))) only[e,hr,ht,stp]
 rw[h3]
theorem qPo (m n:Nat) (hm:(limbs m).length<=1000000000) (hn:(limbs n).length<=1000000000):qWL (limbs m) (limbs n)=some ((limbs (m * n),()),()):=by
 rw[qDau (qSH m) (qSH n) hm hn,qSF,qSF,<-Int.natCast_mul,qZ0]
theorem qOae:qOM=qHD:=by
 funext x
 unfold qOM qHD
 obtain ⟨a,n,u⟩:=x
 simp only
 cases h:decide (n > 0)
 ·rfl
 ·simp only[qOA]
  cases h2:(decide (0<=qI (n - 1))&&decide (qI (n - 1) < a.length))
  ·rfl
  ·simp only[qHV]
   simp only[qY0,decide_eq_true_eq] at h2
   rw[qBA (by omega)]
theorem qEah {l:List Int} (hw:Wf l) (hl:l.length<=1000000000000):∃ n,qCR l=some ((n,()),l,())/\l.take n=limbs (lv l).toNat/\n<=l.length:=by
 have h:=qOS hw hl
 unfold qLG at h
 unfold qCR
 rw[qOae]
 have hst:∀ x r,qPA qHD x=some r->r.2.1=x.1:=by
  intro x r hr
  obtain ⟨n,hn⟩:=qHo.1 hr
  clear hr
  have hs:∀ x e y,qHD x=some (e,y)->y.1=x.1:=by
   intro x e y h
   unfold qHD at h
   simp only[grd] at h
   cases h1:decide (x.2.1 > 0)<;>rw[h1] at h<;>simp only[cond] at h
   ·cases h;rfl
   ·cases h2:(decide (0<=qI (x.2.1 - 1))&&decide (qI (x.2.1 - 1) < x.1.length))<;>rw[h2] at h<;>simp only at h
    ·cases h
    ·split at h<;>cases h<;>rfl
  induction hn with
  |done h _=>exact hs _ _ _ h
  |more h _ ih=>rw[ih];exact hs _ _ _ h
 cases hr:qPA qHD (l,(l.length:Int),()) with
 |none=>rw[hr] at h;cases h
 |some r=>
  have hl1:=hst _ _ hr
  rw[hr] at h
  obtain ⟨e,a,n,u⟩:=r
  simp only at hl1
  subst hl1
  simp only[qAA,grd] at h ⊢
  cases h1:Ex.same e (Ex.exit 0)<;>rw[h1] at h<;>simp only[cond] at h ⊢
  ·cases h
  ·cases h2:(decide (0<=n)&&decide (n<=a.length))<;>rw[h2] at h<;>simp only at h ⊢
   ·cases h
   ·simp only[qY0,decide_eq_true_eq] at h2
    simp only[Option.some.injEq,Prod.mk.injEq,and_true] at h
    exact ⟨n.toNat,rfl,h,by omega⟩
theorem qPak:qMR=qDJ:=rfl
theorem qGw {a b:List Int} (ha:Wf a) (hb:Wf b) (hal:a.length<=1000000000) (hbl:b.length<=1000000000):qAQ a b=some ((limbs (lv a * lv b).toNat,()),()):=by
 obtain ⟨out,hr,h1,h2,h3⟩:=qNx ha hb hal hbl
 unfold qAQ
 rw[qPak]
 have e:((a.length:Int)+b.length).toNat=a.length+b.length:=by omega
 obtain ⟨n,ht,htk,_⟩:=qEah h1 (by omega)
 simp (disch:=(first | omega | (simp only[lnn];omega))) only[e,hr,ht,stp]
 rw[htk,h3]
end Go.AM.Num
end
section
set_option linter.unusedSimpArgs false
set_option linter.unusedVariables false
namespace Go.AM.Num
theorem qRy {a:List Int} {b:Int} (ha:Wf a) (hal:a.length<=1000000000) (hb:0 < b/\b < 1000000000) :
 qNJ a b=some ((limbs (lv a / b).toNat,limbs (lv a % b).toNat,()),()):=by
 obtain ⟨r,hr,q,rest,rfl,h1,h2,h3,h4⟩:=qVB (step:=qFI) (Q:=fun r=>∃ (q:List Int) (rest:Int),r=(Ex.exit 0,(a,b,q,rest,-1,()))/\Wf q/\q.length=a.length/\(0<=rest/\rest < b)/\lv a=b * lv q+rest)
  (fun k x=>∃ (q:List Int) (rest:Int),x=(a,b,q,rest,(k:Int) - 1,())/\k<=a.length/\Wf q/\q.length=a.length/\(0<=rest/\rest < b)/\lv (a.drop k)=b * lv (q.drop k)+rest) (by
   rintro k x ⟨q,rest,rfl,hk,h1,h2,h3,h4⟩
   by_cases h0:k=0
   ·subst h0
    refine .inl ⟨_,?_,?_,q,rest,rfl,h1,h2,h3,by simpa using h4⟩
    ·simp (disch:=(first | omega | (simp only[lnn];omega))) only[qFI,stp]
     rfl
    ·simp
   ·have hz:=ha.at (k - 1)
    have e:((k:Int) - 1).toNat=k - 1:=by omega
    obtain ⟨v,hv⟩:∃ v,v=rest * 1000000000+a.getD (k - 1) 0:=⟨_,rfl⟩
    have hvb:v < b * 1000000000:=by
     have:rest * 1000000000<=(b - 1) * 1000000000:=Int.mul_le_mul_of_nonneg_right (by omega) (by omega)
     omega
    have hq0:0<=v / b:=Int.ediv_nonneg (by omega) (by omega)
    have hq1:v / b < 1000000000:=Int.ediv_lt_of_lt_mul hb.1 (by rw[Int.mul_comm];exact hvb)
    have hr0:=Int.emod_nonneg v (show b≠0 by omega)
    have hr1:=Int.emod_lt_of_pos v hb.1
    refine .inr ⟨k - 1,(a,b,q.set (k - 1) (v / b),v % b,(k:Int) - 1 - 1,()),?_,by omega,q.set (k - 1) (v / b),v % b,?_,by omega,h1.set _ ⟨hq0,hq1⟩,by simpa using h2,⟨hr0,hr1⟩,?_⟩
    ·rw[hv] at hq0 hq1 ⊢
     simp (disch:=(first | omega | (simp only[lnn];omega))) only[qFI,e,stp]
    ·rw[show ((k:Int) - 1 - 1)=((k - 1:Nat):Int) - 1 by omega]
    ·have hs:lv ((q.set (k - 1) (v / b)).drop (k - 1))=v / b+1000000000 * lv (q.drop k):=by
      rw[qHJ (by simp;omega),qIW (by omega),if_pos rfl,List.drop_set_of_lt (by omega),show k - 1+1=k by omega]
     rw[hs,qHJ (by omega),show k - 1+1=k by omega,h4]
     have:=Int.emod_add_mul_ediv v b
     grind) a.length (a,b,List.replicate (a.length:Int).toNat 0,0,(a.length:Int) - 1,()) ⟨_,0,rfl,Nat.le_refl _,Wf.zeros _,by simp,by omega,by rw[List.drop_length,List.drop_of_length_le (by simp)];simp[lv]⟩
 have hdiv:lv a / b=lv q:=by
  rw[h4,Int.mul_comm,Int.add_comm,Int.add_mul_ediv_right _ _ (by omega),Int.ediv_eq_zero_of_lt h3.1 h3.2];omega
 have hmod:lv a % b=rest:=by
  rw[h4,Int.add_comm,Int.add_mul_emod_self_left,Int.emod_eq_of_lt h3.1 h3.2]
 unfold qNJ
 have ht:=qOS h1 (by omega)
 have ht2:=qOS (l:=[rest]) (Wf.one (by omega)) (by simp)
 have hw:IntKind.u32.wrap rest=rest:=wu32 (by omega)
 have hw2:qI ((a.length:Int) - 1)=(a.length:Int) - 1:=w64 (by omega)
 rw[hw2,hr]
 simp (disch:=(first | omega | (simp only[lnn];omega))) only[ht,hw,ht2,stp]
 rw[hdiv,hmod,qUag]
theorem qEk (m:Nat) (b:Nat) (hm:(limbs m).length<=1000000000) (hb:0 < b/\b < 1000000000):qNJ (limbs m) (b:Int)=some ((limbs (m / b),limbs (m % b),()),()):=by
 rw[qRy (qSH m) hm (by omega),qSF,<-Int.natCast_ediv,<-Int.natCast_emod,qZ0,qZ0]
theorem qAu {u v:List Int} {t:Int} (hu:Wf u) (hv:Wf v) (hl:v.length < u.length) (hL:u.length<=2000000000) (ht:0<=t/\t < 1000000000) :
 ∃ (neg:Bool) (o:List Int),qUR u v t=some ((neg,()),(o,()))/\Wf o/\o.length=u.length/\lv o=lv u - t * lv v+(if neg then bp u.length else 0):=by
 obtain ⟨r,hr,o,br,rfl,h1,h2,h3,h4⟩:=qVB (step:=qCF) (Q:=fun r=>∃ (o:List Int) (br:Int),r=(Ex.exit 0,(o,v,t,0,br,(u.length:Int),(u.length:Int),()))/\Wf o/\o.length=u.length/\(0<=br/\br<=1)/\lv o=lv u - t * lv v+br * bp u.length)
  (fun m x=>∃ (k:Nat) (o:List Int) (c br:Int),m+k=u.length/\x=(o,v,t,c,br,(u.length:Int),(k:Int),())/\Wf o/\o.length=u.length/\(0<=br/\br<=1)/\(0<=c/\c < 1000000000)/\(v.length < k->c=0)/\
   lv o=lv u - t * lv (v.take k)+(c+br) * bp k/\∀ j,k<=j->o.getD j 0=u.getD j 0) (by
   rintro m x ⟨k,o,c,br,hm,rfl,h1,h2,h3,h4,h5,h6,h7⟩
   by_cases hk:k < u.length
   ·have e:(k:Int).toNat=k:=by omega
    have hz:=h1.at k
    have hy:=hv.at k
    have hty:=qNi ht hy
    obtain ⟨c',hc'⟩:∃ c',c'=c+t * v.getD k 0:=⟨_,rfl⟩
    have hcb:0<=c'/\c' < 1000000000000000000:=by omega
    have hzero:v.length<=k->c'=c:=fun h=>by rw[hc',qWm h];simp
    have hnew:v.length < k+1->c' / 1000000000=0:=fun h=>by rw[hzero (by omega)];omega
    have key:∀ d br':Int,d=o.getD k 0 - br - c' % 1000000000+br' * 1000000000->(0<=br'/\br'<=1)->(0<=d/\d < 1000000000)->
     qCF (o,v,t,c,br,(u.length:Int),(k:Int),())=some (Ex.normal,(o.set k d,v,t,c' / 1000000000,br',(u.length:Int),((k+1:Nat):Int),()))->
     (∃ (m':Nat) (y:_),qCF (o,v,t,c,br,(u.length:Int),(k:Int),())=some (Ex.normal,y)/\m' < m/\∃ (k:Nat) (o:List Int) (c br:Int),m'+k=u.length/\y=(o,v,t,c,br,(u.length:Int),(k:Int),())/\Wf o/\o.length=u.length/\(0<=br/\br<=1)/\(0<=c/\c < 1000000000)/\(v.length < k->c=0)/\
      lv o=lv u - t * lv (v.take k)+(c+br) * bp k/\∀ j,k<=j->o.getD j 0=u.getD j 0):=by
     intro d br' hd hbr hd' hst
     refine ⟨m - 1,_,hst,by omega,k+1,o.set k d,c' / 1000000000,br',by omega,rfl,h1.set _ hd',by simpa using h2,hbr,by omega,hnew,?_,?_⟩
     ·rw[qDw (by omega),qDF,qWJ,h6]
      have:=Int.emod_add_mul_ediv c' 1000000000
      grind
     ·intro j hj
      rw[qIW (by omega),if_neg (by omega)]
      exact h7 j (by omega)
    by_cases hkv:k < v.length
    ·by_cases hneg:o.getD k 0 - br - c' % 1000000000 < 0
     ·refine .inr (key (o.getD k 0 - br - c' % 1000000000+1000000000) 1 (by omega) (by omega) (by omega) ?_)
      rw[hc'] at hneg hcb ⊢
      simp (disch:=(first | omega | (simp only[lnn];omega))) only[qCF,e,stp]
      rfl
     ·refine .inr (key (o.getD k 0 - br - c' % 1000000000) 0 (by omega) (by omega) (by omega) ?_)
      rw[hc'] at hneg hcb ⊢
      simp (disch:=(first | omega | (simp only[lnn];omega))) only[qCF,e,stp]
      rfl
    ·have hcc:=hzero (by omega)
     by_cases hneg:o.getD k 0 - br - c' % 1000000000 < 0
     ·refine .inr (key (o.getD k 0 - br - c' % 1000000000+1000000000) 1 (by omega) (by omega) (by omega) ?_)
      rw[hcc] at hneg hcb ⊢
      simp (disch:=(first | omega | (simp only[lnn];omega))) only[qCF,e,stp]
      rfl
     ·refine .inr (key (o.getD k 0 - br - c' % 1000000000) 0 (by omega) (by omega) (by omega) ?_)
      rw[hcc] at hneg hcb ⊢
      simp (disch:=(first | omega | (simp only[lnn];omega))) only[qCF,e,stp]
      rfl
   ·have hkl:k=u.length:=by omega
    subst hkl
    have hc0:=h5 hl
    subst hc0
    refine .inl ⟨(Ex.exit 0,(o,v,t,0,br,(u.length:Int),(u.length:Int),())),?_,by simp,o,br,rfl,h1,h2,h3,?_⟩
    ·simp (disch:=(first | omega | (simp only[lnn];omega))) only[qCF,stp]
    ·rw[List.take_of_length_le (by omega)] at h6
     rw[h6];simp) u.length (u,v,t,0,0,(u.length:Int),0,()) ⟨0,u,0,0,by omega,rfl,hu,rfl,by omega,by omega,by omega,by simp[lv],fun j _=>rfl⟩
 refine ⟨decide (br > 0),o,?_,h1,h2,?_⟩
 ·unfold qUR
  rw[hr]
  simp (disch:=(first | omega | (simp only[lnn];omega))) only[stp]
 ·rw[h4]
  rcases (show br=0\/br=1 by omega) with rfl | rfl<;>simp
theorem qJy {u v:List Int} (hu:Wf u) (hv:Wf v) (hl:v.length<=u.length) (hL:u.length<=2000000000) :
 ∃ (c:Int) (o:List Int),qAV u v=some ((),(o,()))/\Wf o/\o.length=u.length/\(0<=c/\c<=1)/\lv o=lv u+lv v - c * bp u.length:=by
 obtain ⟨r,hr,o,c,rfl,h1,h2,h3,h4⟩:=qVB (step:=qPN) (Q:=fun r=>∃ (o:List Int) (c:Int),r=(Ex.exit 0,(o,v,c,(u.length:Int),(u.length:Int),()))/\Wf o/\o.length=u.length/\(0<=c/\c<=1)/\lv o=lv u+lv v - c * bp u.length)
  (fun m x=>∃ (k:Nat) (o:List Int) (c:Int),m+k=u.length/\x=(o,v,c,(u.length:Int),(k:Int),())/\Wf o/\o.length=u.length/\(0<=c/\c<=1)/\lv o=lv u+lv (v.take k) - c * bp k/\∀ j,k<=j->o.getD j 0=u.getD j 0) (by
   rintro m x ⟨k,o,c,hm,rfl,h1,h2,h3,h4,h5⟩
   by_cases hk:k < u.length
   ·have e:(k:Int).toNat=k:=by omega
    have hz:=h1.at k
    have hy:=hv.at k
    have e2:=qYai v (i:=(k:Int)) (by omega)
    rw[e] at e2
    obtain ⟨s,hs⟩:∃ s,s=o.getD k 0+v.getD k 0+c:=⟨_,rfl⟩
    refine .inr ⟨m - 1,(o.set k (s % 1000000000),v,s / 1000000000,(u.length:Int),((k+1:Nat):Int),()),?_,by omega,k+1,_,_,by omega,rfl,h1.set _ (by omega),by simpa using h2,by omega,?_,?_⟩
    ·rw[hs]
     simp (disch:=(first | omega | (simp only[lnn];omega))) only[qPN,e,e2,stp]
     rfl
    ·rw[qDw (by omega),qDF,qWJ,h4]
     have:=Int.emod_add_mul_ediv s 1000000000
     grind
    ·intro j hj
     rw[qIW (by omega),if_neg (by omega)]
     exact h5 j (by omega)
   ·have hkl:k=u.length:=by omega
    subst hkl
    refine .inl ⟨(Ex.exit 0,(o,v,c,(u.length:Int),(u.length:Int),())),?_,by simp,o,c,rfl,h1,h2,h3,?_⟩
    ·simp (disch:=(first | omega | (simp only[lnn];omega))) only[qPN,stp]
    ·rw[List.take_of_length_le (by omega)] at h4;exact h4) u.length (u,v,0,(u.length:Int),0,()) ⟨0,u,0,by omega,rfl,hu,rfl,by omega,by simp[lv],fun j _=>rfl⟩
 refine ⟨c,o,?_,h1,h2,h3,h4⟩
 unfold qAV
 rw[hr]
 simp (disch:=(first | omega | (simp only[lnn];omega))) only[stp]
end Go.AM.Num
end
section
set_option linter.unusedSimpArgs false
set_option linter.unusedVariables false
namespace Go.AM.Num
theorem qLw {V U g V2 U3 R lv' lu':Int} (hV:V=V2 * R+lv') (hU:U=U3 * R+lu') (h1:0<=lv'/\lv' < R) (h2:0<=lu') (hg:0<=g/\g<=1000000000) (h:g * V2<=U3) (hb:1000000000 * R<=V) (hV0:0 < V):g<=U / V+1:=by
 have e1:g * V2 * R<=U3 * R:=Int.mul_le_mul_of_nonneg_right h (by omega)
 have e2:g * lv'<=g * R:=Int.mul_le_mul_of_nonneg_left (by omega) hg.1
 have e3:g * R<=1000000000 * R:=Int.mul_le_mul_of_nonneg_right hg.2 (by omega)
 have e5:g * V=g * V2 * R+g * lv':=by rw[hV,Int.mul_add,Int.mul_assoc]
 have e4:(g - 1) * V<=U:=by
  rw[Int.sub_mul,Int.one_mul]
  omega
 have:=Int.le_ediv_of_mul_le hV0 e4
 omega
theorem qMv {V U q V2 U3 R lv' lu':Int} (hV:V=V2 * R+lv') (hU:U=U3 * R+lu') (h1:0<=lv') (h2:0<=lu'/\lu' < R) (hq0:0<=q) (hq:q * V<=U):q * V2<=U3:=by
 have e2:0<=q * lv':=Int.mul_nonneg hq0 h1
 have e5:q * V=q * V2 * R+q * lv':=by rw[hV,Int.mul_add,Int.mul_assoc]
 have e3:q * V2 * R < (U3+1) * R:=by
  rw[Int.add_mul,Int.one_mul]
  omega
 have:=Int.lt_of_mul_lt_mul_right e3 (by omega)
 omega
theorem qSt {u v:List Int} {n:Nat} (hu:Wf u) (hv:Wf v) (hn:v.length=n) (hn2:2<=n) (hul:u.length=n+1) (hN:n<=1000000000) (ht:v.getD (n - 1) 0≠0) (hlt:lv u < lv v * 1000000000) (g r:Int)
 (hgr:u.getD n 0 * 1000000000+u.getD (n - 1) 0=g * v.getD (n - 1) 0+r) (hr0:0<=r/\r < v.getD (n - 1) 0) (hg0:0<=g) :
 ∃ g' r',qPA qAG (u,v,(n:Int),v.getD (n - 1) 0,g,r,())=some (Ex.exit 0,(u,v,(n:Int),v.getD (n - 1) 0,g',r',()))/\(g'=lv u / lv v\/g'=lv u / lv v+1)/\0<=g'/\g' < 1000000000:=by
 obtain ⟨f,hf⟩:∃ f,f=v.getD (n - 1) 0:=⟨_,rfl⟩
 obtain ⟨v2,hv2⟩:∃ x,x=v.getD (n - 2) 0:=⟨_,rfl⟩
 obtain ⟨u0,hu0⟩:∃ x,x=u.getD n 0:=⟨_,rfl⟩
 obtain ⟨u1,hu1⟩:∃ x,x=u.getD (n - 1) 0:=⟨_,rfl⟩
 obtain ⟨u2,hu2⟩:∃ x,x=u.getD (n - 2) 0:=⟨_,rfl⟩
 have bf:=hv.at (n - 1)
 have bv2:=hv.at (n - 2)
 have bu0:=hu.at n
 have bu1:=hu.at (n - 1)
 have bu2:=hu.at (n - 2)
 rw[<-hf] at ht hgr hr0 bf ⊢
 rw[<-hv2] at bv2
 rw[<-hu0] at hgr bu0
 rw[<-hu1] at hgr bu1
 rw[<-hu2] at bu2
 obtain ⟨R,hR⟩:∃ R,R=bp (n - 2):=⟨_,rfl⟩
 have hRp:=qBS (n - 2)
 rw[<-hR] at hRp
 have hPR:bp (n - 1)=1000000000 * R:=by rw[hR,show n - 1=n - 2+1 by omega,qWJ]
 have sv:lv v=(f * 1000000000+v2) * R+lv (v.take (n - 2)):=by
  have:=qMJ v (n - 2) (by omega)
  rw[qHJ (by omega),qHJ (by omega),show n - 2+1=n - 1 by omega,show n - 1+1=n by omega,List.drop_of_length_le (by omega),<-hf,<-hv2,<-hR] at this
  simp only[lv] at this
  grind
 have su:lv u=((u0 * 1000000000+u1) * 1000000000+u2) * R+lv (u.take (n - 2)):=by
  have:=qMJ u (n - 2) (by omega)
  rw[qHJ (by omega),qHJ (by omega),qHJ (by omega),show n - 2+1=n - 1 by omega,show n - 1+1=n by omega,List.drop_of_length_le (by omega),<-hu0,<-hu1,<-hu2,<-hR] at this
  simp only[lv] at this
  grind
 have sv1:lv v=f * (1000000000 * R)+lv (v.take (n - 1)):=by
  have:=qMJ v (n - 1) (by omega)
  rw[qHJ (by omega),show n - 1+1=n by omega,List.drop_of_length_le (by omega),<-hf,hPR] at this
  simp only[lv] at this
  grind
 have su1:lv u=(u0 * 1000000000+u1) * (1000000000 * R)+lv (u.take (n - 1)):=by
  have:=qMJ u (n - 1) (by omega)
  rw[qHJ (by omega),qHJ (by omega),show n - 1+1=n by omega,List.drop_of_length_le (by omega),<-hu0,<-hu1,hPR] at this
  simp only[lv] at this
  grind
 have lvv:=qAd (hv.take (n - 2))
 have lvv0:=qTE (hv.take (n - 2))
 have luu:=qAd (hu.take (n - 2))
 have luu0:=qTE (hu.take (n - 2))
 have lvv1:=qAd (hv.take (n - 1))
 have lvv10:=qTE (hv.take (n - 1))
 have luu1:=qAd (hu.take (n - 1))
 have luu10:=qTE (hu.take (n - 1))
 rw[List.length_take,Nat.min_eq_left (by omega),<-hR] at lvv luu
 rw[List.length_take,Nat.min_eq_left (by omega),hPR] at lvv1 luu1
 have hVbig:1000000000 * R<=lv v:=by
  have:1 * (1000000000 * R)<=f * (1000000000 * R):=Int.mul_le_mul_of_nonneg_right (by omega) (by omega)
  omega
 have hV0:0 < lv v:=by omega
 obtain ⟨q,hq⟩:∃ q,q=lv u / lv v:=⟨_,rfl⟩
 have hq0:0<=q:=by rw[hq];exact Int.ediv_nonneg (qTE hu) (by omega)
 have hqB:q < 1000000000:=by rw[hq];exact Int.ediv_lt_of_lt_mul hV0 (by rw[Int.mul_comm];exact hlt)
 have hqV:q * lv v<=lv u:=by rw[hq];exact Int.ediv_mul_le _ (by omega)
 have htop:u0 * 1000000000+u1 < f * 1000000000+1000000000:=by
  have e:(u0 * 1000000000+u1) * (1000000000 * R) < (f * 1000000000+1000000000) * (1000000000 * R):=by grind
  exact Int.lt_of_mul_lt_mul_right e (by omega)
 have hqf:q * f<=u0 * 1000000000+u1:=qMv sv1 su1 lvv10 ⟨luu10,luu1⟩ hq0 hqV
 have hqg:q<=g:=by
  have:q * f < (g+1) * f:=by grind
  have:=Int.lt_of_mul_lt_mul_right this (by omega)
  omega
 rw[<-hq]
 obtain ⟨r',hr',g',rr,rfl,hfin⟩:=qVB (step:=qAG) (Q:=fun z=>∃ g' r',z=(Ex.exit 0,(u,v,(n:Int),f,g',r',()))/\(g'=q\/g'=q+1)/\0<=g'/\g' < 1000000000)
  (fun m x=>∃ g r:Int,x=(u,v,(n:Int),f,g,r,())/\(m:Int)=1000000000 - r/\u0 * 1000000000+u1=g * f+r/\(0<=r/\r < 1000000000)/\q<=g/\g<=1000000000000000000) (by
   rintro m x ⟨g,r,rfl,hm,hgr,hr,hqg,hgb⟩
   have en:((n:Int) - 2).toNat=n - 2:=by omega
   have hw:qI ((n:Int) - 2)=(n:Int) - 2:=w64 (by omega)
   have dec:q<=g - 1->(qAG (u,v,(n:Int),f,g,r,())=cond (decide (r+f>=1000000000)) (some (Ex.exit 0,(u,v,(n:Int),f,g - 1,r+f,()))) (some (Ex.normal,(u,v,(n:Int),f,g - 1,r+f,()))))->
    ((∃ z,qAG (u,v,(n:Int),f,g,r,())=some z/\z.1≠.normal/\∃ g' r',z=(Ex.exit 0,(u,v,(n:Int),f,g',r',()))/\(g'=q\/g'=q+1)/\0<=g'/\g' < 1000000000)\/
     ∃ m' y,qAG (u,v,(n:Int),f,g,r,())=some (Ex.normal,y)/\m' < m/\∃ g r:Int,y=(u,v,(n:Int),f,g,r,())/\(m':Int)=1000000000 - r/\u0 * 1000000000+u1=g * f+r/\(0<=r/\r < 1000000000)/\q<=g/\g<=1000000000000000000):=by
    intro hqg1 hst
    rw[hst]
    by_cases hb:r+f>=1000000000
    ·have hg1:g - 1 < 1000000000:=by
      have:(g - 1) * f < 1000000000 * f:=by grind
      exact Int.lt_of_mul_lt_mul_right this (by omega)
     have hm2:(g - 1) * v2<=1000000000 * v2:=Int.mul_le_mul_of_nonneg_right (by omega) (by omega)
     have hhi:=qLw (g:=g - 1) sv su ⟨lvv0,lvv⟩ luu0 (by omega) (by grind) hVbig hV0
     rw[<-hq] at hhi
     rw[qZ10 hb]
     exact .inl ⟨_,rfl,by simp,g - 1,r+f,rfl,by omega,by omega,hg1⟩
    ·rw[qZ9 hb]
     exact .inr ⟨(1000000000 - (r+f)).toNat,_,rfl,by omega,g - 1,r+f,rfl,by omega,by grind,by omega,hqg1,by omega⟩
   by_cases hgB:g>=1000000000
   ·refine dec (by omega) ?_
    simp (disch:=(first | omega | (simp only[lnn];omega))) only[qAG,stp]
   ·have hgv:=qNi (x:=g) (y:=v2) (by omega) bv2
    by_cases hc:g * v2 > r * 1000000000+u2
    ·have hne:q≠g:=by
      rintro rfl
      have:=qMv sv su lvv0 ⟨luu0,luu⟩ hq0 hqV
      grind
     refine dec (by omega) ?_
     rw[hv2,hu2] at hc
     rw[hv2] at hgv bv2
     rw[hu2] at bu2
     simp (disch:=(first | omega | (simp only[lnn];omega))) only[qAG,en,stp]
    ·have hhi:=qLw (g:=g) sv su ⟨lvv0,lvv⟩ luu0 (by omega) (by grind) hVbig hV0
     rw[<-hq] at hhi
     refine .inl ⟨(Ex.exit 0,(u,v,(n:Int),f,g,r,())),?_,by simp,g,r,rfl,by omega,by omega,by omega⟩
     rw[hv2,hu2] at hc
     rw[hv2] at hgv bv2
     rw[hu2] at bu2
     simp (disch:=(first | omega | (simp only[lnn];omega))) only[qAG,en,stp]) (1000000000 - r).toNat _ ⟨g,r,rfl,by omega,hgr,by omega,hqg,by
    have:g * 1<=g * f:=Int.mul_le_mul_of_nonneg_left (by omega) hg0
    omega⟩
 exact ⟨g',rr,hr',hfin⟩
theorem qUaf {u v:List Int} {n:Nat} (hu:Wf u) (hv:Wf v) (hn:v.length=n) (hn2:2<=n) (hul:u.length=n+1) (hN:n<=1000000000) (ht:v.getD (n - 1) 0≠0) (hlt:lv u < lv v * 1000000000) :
 ∃ o,qKZ u v=some ((lv u / lv v,()),(o,()))/\Wf o/\o.length=n+1/\lv o=lv u % lv v/\0<=lv u / lv v/\lv u / lv v < 1000000000:=by
 have bf:=hv.at (n - 1)
 have bu0:=hu.at n
 have bu1:=hu.at (n - 1)
 obtain ⟨top,htop⟩:∃ t,t=u.getD n 0 * 1000000000+u.getD (n - 1) 0:=⟨_,rfl⟩
 have hf0:0 < v.getD (n - 1) 0:=by omega
 have hr0:=Int.emod_nonneg top (show v.getD (n - 1) 0≠0 by omega)
 have hr1:=Int.emod_lt_of_pos top hf0
 have hg0:0<=top / v.getD (n - 1) 0:=Int.ediv_nonneg (by omega) (by omega)
 have hg1:top / v.getD (n - 1) 0<=top:=Int.ediv_le_self _ (by omega)
 obtain ⟨g',r',hloop,hg',hgl,hgB⟩:=qSt hu hv hn hn2 hul hN ht hlt (top / v.getD (n - 1) 0) (top % v.getD (n - 1) 0) (by
  rw[<-htop];have:=Int.emod_add_mul_ediv top (v.getD (n - 1) 0);grind) ⟨hr0,hr1⟩ hg0
 obtain ⟨neg,o,hs,ho1,ho2,ho3⟩:=qAu hu hv (by omega) (by omega) ⟨hgl,hgB⟩
 have hVp:0 < lv v:=by
  have:=qMJ v (n - 1) (by omega)
  rw[qHJ (by omega),show n - 1+1=n by omega,List.drop_of_length_le (by omega)] at this
  simp only[lv] at this
  have h1:=qTE (hv.take (n - 1))
  have h2:=qBS (n - 1)
  have h3:bp (n - 1) * 1<=bp (n - 1) * v.getD (n - 1) 0:=Int.mul_le_mul_of_nonneg_left (by omega) (by omega)
  grind
 have hdm:=Int.emod_add_mul_ediv (lv u) (lv v)
 have hm0:=Int.emod_nonneg (lv u) (show lv v≠0 by omega)
 have hm1:=Int.emod_lt_of_pos (lv u) hVp
 have hol:=qAd ho1
 have hol0:=qTE ho1
 rw[ho2] at hol
 have hbp:=qBS u.length
 have hq0:0<=lv u / lv v:=Int.ediv_nonneg (qTE hu) (by omega)
 have hqB:lv u / lv v < 1000000000:=Int.ediv_lt_of_lt_mul hVp (by rw[Int.mul_comm];exact hlt)
 have en:((n:Int) - 1).toNat=n - 1:=by omega
 have en2:(n:Int).toNat=n:=by omega
 have hne:v.getD (n - 1) 0≠0:=by omega
 have hA:qKZ u v=(qPA qAG (u,v,(n:Int),v.getD (n - 1) 0,top / v.getD (n - 1) 0,top % v.getD (n - 1) 0,())).bind fun y1=>
  cond (Ex.same y1.1 (Ex.exit 0)) ((qUR y1.2.1 y1.2.2.1 y1.2.2.2.2.2.1).bind fun r2=>
   cond (r2.1.1) ((qAV r2.2.1 y1.2.2.1).bind fun r3=>some ((IntKind.u32.wrap (qU (y1.2.2.2.2.2.1 - (1:Int))),()),r3.2.1,()))
    (some ((IntKind.u32.wrap (y1.2.2.2.2.2.1),()),r2.2.1,()))) (none):=by
  rw[htop]
  rw[htop] at hg0 hg1 hr0 hr1
  unfold qKZ
  rw[hn]
  simp (disch:=(first | omega | (simp only[qIH];omega))) only[qEA,qBA,qDX,w64,wu64,tm,td,en,en2]
 rw[hA,hloop]
 rcases hg' with rfl | rfl
 ·have hneg:neg=false:=by
   cases neg with
   |false=>rfl
   |true=>simp only[if_true] at ho3;grind
  subst hneg
  refine ⟨o,?_,ho1,by omega,?_,hq0,hqB⟩
  ·simp (disch:=(first | omega | (simp only[lnn];omega))) only[hs,stp]
  ·simp at ho3;grind
 ·have hneg:neg=true:=by
   cases neg with
   |true=>rfl
   |false=>simp at ho3;grind
  subst hneg
  simp only[if_true] at ho3
  obtain ⟨c,o2,hre,hc1,hc2,hc3,hc4⟩:=qJy ho1 hv (by omega) (by omega)
  have hcl:=qAd hc1
  have hcl0:=qTE hc1
  rw[hc2,ho2] at hcl
  rw[ho2] at hc4
  have hce:c=1:=by
   rcases (show c=0\/c=1 by omega) with rfl | rfl
   ·grind
   ·rfl
  subst hce
  refine ⟨o2,?_,hc1,by omega,by grind,hq0,hqB⟩
  simp (disch:=(first | omega | (simp only[lnn];omega))) only[hs,hre,stp]
  congr 3
  omega
end Go.AM.Num
end
section
set_option linter.unusedSimpArgs false
set_option linter.unusedVariables false
namespace Go.AM.Num
theorem qGae {l:List Int} {k:Nat} (h:Wf l) (hk:lv l < bp k) (hkl:k<=l.length):lv (l.drop k)=0:=by
 have h1:=qMJ l k hkl
 have h2:=qTE (h.take k)
 have h3:=qTE (h.drop k)
 rcases Int.lt_or_eq_of_le h3 with h4 | h4
 ·have h5:bp k * 1<=bp k * lv (l.drop k):=Int.mul_le_mul_of_nonneg_left (by omega) (by have:=qBS k;omega)
  omega
 ·exact h4.symm
theorem qMak {u v:List Int} {sc:List Int} {lb K:Nat} (hu:Wf u) (hv:Wf v) (hvl:v.length=lb) (hlb:2<=lb) (hul:u.length=K+lb) (hN:K+lb<=1000000000) (ht:v.getD (lb - 1) 0≠0) (hlt:lv u < lv v * bp K) :
 ∃ u' q,qPA qIG (sc,u,v,List.replicate K 0,(K:Int) - 1,())=some (Ex.exit 3,(sc,u',v,q,-1,()))/\Wf u'/\u'.length=K+lb/\Wf q/\q.length=K/\lv u' < lv v/\lv u=lv u'+lv v * lv q:=by
 obtain ⟨V,hV⟩:∃ V,V=lv v:=⟨_,rfl⟩
 have hVl:V < bp lb:=by rw[hV,<-hvl];exact qAd hv
 have hV0:0<=V:=by rw[hV];exact qTE hv
 rw[<-hV] at hlt ⊢
 obtain ⟨r,hr,u',q,rfl,h1,h2,h3,h4,h5,h6⟩:=qVB (step:=qIG) (Q:=fun r=>∃ u' q,r=(Ex.exit 3,(sc,u',v,q,-1,()))/\Wf u'/\u'.length=K+lb/\Wf q/\q.length=K/\lv u' < V/\lv u=lv u'+V * lv q)
  (fun k x=>∃ u' q:List Int,x=(sc,u',v,q,(k:Int) - 1,())/\k<=K/\Wf u'/\u'.length=K+lb/\Wf q/\q.length=K/\lv u' < V * bp k/\lv u=lv u'+V * bp k * lv (q.drop k)) (by
   rintro k x ⟨u',q,rfl,hk,h1,h2,h3,h4,h5,h6⟩
   by_cases h0:k=0
   ·subst h0
    refine .inl ⟨(Ex.exit 3,(sc,u',v,q,-1,())),?_,by simp,u',q,rfl,h1,h2,h3,h4,by simpa [bp] using h5,by simpa [bp] using h6⟩
    simp (disch:=(first | omega | (simp only[lnn];omega))) only[qIG,stp]
    rfl
   ·obtain ⟨j,rfl⟩:∃ j,k=j+1:=⟨k - 1,by omega⟩
    have ej:((j:Int)).toNat=j:=by omega
    have ek:(((j+1:Nat):Int) - 1)=(j:Int):=by omega
    have eh:((j:Int)+lb+1).toNat - j=lb+1:=by omega
    have hvl':(v.length:Int)=(lb:Int):=by omega
    obtain ⟨w,hw⟩:∃ w,w=(u'.drop j).take (lb+1):=⟨_,rfl⟩
    have hww:Wf w:=by rw[hw];exact (h1.drop j).take _
    have hwl:w.length=lb+1:=by rw[hw,List.length_take,List.length_drop];omega
    have hbj:=qBS j
    have huz:lv (u'.drop (j+(lb+1)))=0:=by
     refine qGae h1 ?_ (by omega)
     have e1:V * bp (j+1)<=bp lb * bp (j+1):=Int.mul_le_mul_of_nonneg_right (by omega) (by have:=qBS (j+1);omega)
     rw[<-qGo] at e1
     rw[show j+(lb+1)=lb+(j+1) by omega]
     omega
    have hsplit:lv u'=lv (u'.take j)+bp j * lv w:=by
     rw[qMJ u' j (by omega)]
     have:=qMJ (u'.drop j) (lb+1) (by rw[List.length_drop];omega)
     rw[List.drop_drop,huz,<-hw] at this
     rw[this];simp
    have htk0:=qTE (h1.take j)
    have htk:=qAd (h1.take j)
    rw[List.length_take,Nat.min_eq_left (by omega)] at htk
    have hwV:lv w < lv v * 1000000000:=by
     rw[<-hV]
     have:bp j * lv w < bp j * (V * 1000000000):=by
      rw[qWJ] at h5
      have e:bp j * (V * 1000000000)=V * (1000000000 * bp j):=by grind
      omega
     exact Int.lt_of_mul_lt_mul_left this (by omega)
    obtain ⟨o,hred,ho1,ho2,ho3,ho4,ho5⟩:=qUaf hww hv hvl hlb hwl (by omega) ht hwV
    rw[<-hV] at hred ho3 ho4 ho5
    have hV1:0 < V:=by
     rcases Int.lt_or_eq_of_le hV0 with h | h
     ·exact h
     ·rw[<-h] at h5;simp at h5;have:=qTE h1;omega
    have hom:=Int.emod_lt_of_pos (lv w) hV1
    have hdm:=Int.emod_add_mul_ediv (lv w) V
    have hz:lv (u'.drop (j+(lb+1)))=0:=huz
    have hnew:lv (u'.take j++o++u'.drop (j+(lb+1)))=lv (u'.take j)+bp j * (lv w % V):=by
     rw[qQv,huz,qQv,List.length_take,Nat.min_eq_left (by omega),ho3];simp
    refine .inr ⟨j,(sc,u'.take j++o++u'.drop (j+(lb+1)),v,q.set j (lv w / V),(j:Int) - 1,()),?_,by omega,_,_,rfl,by omega,?_,?_,h3.set _ ⟨ho4,ho5⟩,by simpa using h4,?_,?_⟩
    ·have e0:(lv w / V,()).1=lv w / V:=rfl
     rw[ek]
     simp (disch:=(first | omega | (simp only[lnn];omega))) only[qIG,ej,hvl',eh,<-hw,hred,stp]
    ·exact ((h1.take j).app ho1).app (h1.drop _)
    ·simp only[qZ6,List.length_take,List.length_drop];omega
    ·rw[hnew]
     have:bp j * (lv w % V)<=bp j * (V - 1):=Int.mul_le_mul_of_nonneg_left (by omega) (by omega)
     rw[Int.mul_sub] at this
     rw[Int.mul_comm V]
     omega
    ·rw[hnew,qHJ (by simpa using (show j < q.length by omega)),qIW (by omega),if_pos rfl,List.drop_set_of_lt (by omega),h6,hsplit,qWJ]
     grind) K (sc,u,v,List.replicate K 0,(K:Int) - 1,()) ⟨u,_,rfl,Nat.le_refl _,hu,hul,Wf.zeros _,by simp,hlt,by rw[List.drop_of_length_le (by simp)];simp[lv]⟩
 exact ⟨u',q,hr,h1,h2,h3,h4,h5,h6⟩
theorem qNaj {u sc v a:List Int} (hu:Wf u) (hl:u.length<=a.length+1) (hN:a.length<=1000000000) :
 ∃ u',qPA qCH (a,sc,u,v,())=some (Ex.exit 1,(a,sc,u',v,()))/\Wf u'/\u'.length=a.length+1/\lv u'=lv u:=by
 obtain ⟨r,hr,u',rfl,h1,h2,h3⟩:=qVB (step:=qCH) (Q:=fun r=>∃ u',r=(Ex.exit 1,(a,sc,u',v,()))/\Wf u'/\u'.length=a.length+1/\lv u'=lv u)
  (fun m x=>∃ u':List Int,x=(a,sc,u',v,())/\m+u'.length=a.length+1/\Wf u'/\lv u'=lv u) (by
   rintro m x ⟨u',rfl,hm,h1,h2⟩
   by_cases h:u'.length<=a.length
   ·refine .inr ⟨m - 1,(a,sc,u'++[0],v,()),?_,by omega,_,rfl,by simp;omega,h1.app (Wf.one (by omega)),by rw[qUX,h2];simp⟩
    simp (disch:=(first | omega | (simp only[lnn];omega))) only[qCH,stp]
   ·refine .inl ⟨(Ex.exit 1,(a,sc,u',v,())),?_,by simp,u',rfl,h1,by omega,h2⟩
    simp (disch:=(first | omega | (simp only[lnn];omega))) only[qCH,stp]) (a.length+1 - u.length) _ ⟨u,rfl,by omega,hu,rfl⟩
 exact ⟨u',hr,h1,h2,h3⟩
theorem qHa (m n:Nat) (hm:(limbs m).length<=100000000) (hn:(limbs n).length<=100000000) (h0:n≠0) :
 qSI (limbs m) (limbs n)=some ((limbs (m / n),limbs (m % n),()),()):=by
 obtain ⟨c,hc,hc1,hc2⟩:=qPan m n (by omega) (by omega)
 unfold qSI
 rw[hc]
 by_cases hlt:m < n
 ·have:=hc1.2 hlt
  simp (disch:=(first | omega | (simp only[lnn];omega))) only[stp]
  rw[Nat.div_eq_of_lt hlt,Nat.mod_eq_of_lt hlt,limbs_zero]
 ·have hc0:¬ c < 0:=fun h=>hlt (hc1.1 h)
  by_cases hl1:(limbs n).length=1
  ·have hnB:n < 1000000000:=by
    have:=qLL n
    rw[hl1] at this;simp[bp] at this;omega
   have hq:=qEk m n (by omega) (by omega)
   have hg:(limbs n).getD 0 0=(n:Int):=by rw[limbs_small h0 hnB];rfl
   have h00:((0:Int)).toNat=0:=rfl
   simp (disch:=(first | omega | (simp only[lnn];omega))) only[h00,hg,hq,stp]
  ·obtain ⟨lb,hlb⟩:∃ lb,lb=(limbs n).length:=⟨_,rfl⟩
   obtain ⟨la,hla⟩:∃ la,la=(limbs m).length:=⟨_,rfl⟩
   have hlb2:2<=lb:=by
    rcases Nat.lt_or_ge (limbs n).length 1 with h | h
    ·have:limbs n=[]:=List.eq_nil_of_length_eq_zero (by omega)
     exact absurd (limbs_nil.1 this) h0
    ·omega
   have hab:lb<=la:=by rw[hlb,hla];exact qHI (by omega)
   have hbw:=qSH n
   obtain ⟨t,ht⟩:∃ t,t=(limbs n).getD (lb - 1) 0:=⟨_,rfl⟩
   have htb:=hbw.at (lb - 1)
   have htop:=qDZ n (lb - 1) (by omega)
   rw[<-ht] at htb htop
   obtain ⟨s,hs⟩:∃ s:Nat,(s:Int)=1000000000 / (t+1):=⟨(1000000000 / (t+1)).toNat,by have:=Int.ediv_nonneg (show (0:Int)<=1000000000 by omega) (show 0<=t+1 by omega);omega⟩
   have hs1:1<=(s:Int):=by rw[hs];exact Int.le_ediv_of_mul_le (by omega) (by omega)
   have hst:(s:Int) * (t+1)<=1000000000:=by rw[hs];exact Int.ediv_mul_le _ (by omega)
   have hs2:(s:Int)<=500000000:=by
    have:(s:Int) * 2<=(s:Int) * (t+1):=Int.mul_le_mul_of_nonneg_left (by omega) (by omega)
    omega
   have hsl:limbs s=[(s:Int)]:=limbs_small (by omega) (by omega)
   have hau:=qGw (qSH m) (Wf.one (x:=(s:Int)) (by omega)) (by omega) (by simp)
   have hbu:=qGw hbw (Wf.one (x:=(s:Int)) (by omega)) (by omega) (by simp)
   rw[qSF,qUag,<-Int.natCast_mul,qZ0] at hau hbu
   have hls:(limbs s).length=1:=by rw[hsl];rfl
   have hnlt:(n:Int) < (t+1) * bp (lb - 1):=by
    have e:=qMJ (limbs n) (lb - 1) (by omega)
    rw[qHJ (by omega),show lb - 1+1=lb by omega,List.drop_of_length_le (by omega),qSF,<-ht] at e
    have h1:=qAd (hbw.take (lb - 1))
    rw[List.length_take,Nat.min_eq_left (by omega)] at h1
    simp only[lv] at e
    grind
   have hvlen:(limbs (n * s)).length=lb:=by
    have hup:(limbs (n * s)).length<=lb:=by
     refine qWQ ?_
     rw[Int.natCast_mul]
     have e1:(n:Int) * s < (t+1) * bp (lb - 1) * s:=Int.mul_lt_mul_of_pos_right hnlt (by omega)
     have e2:s * (t+1) * bp (lb - 1)<=1000000000 * bp (lb - 1):=Int.mul_le_mul_of_nonneg_right hst (by have:=qBS (lb - 1);omega)
     have e3:bp lb=1000000000 * bp (lb - 1):=by rw[<-qWJ,show lb - 1+1=lb by omega]
     grind
    have hlo:(limbs n).length<=(limbs (n * s)).length:=qHI (Nat.le_mul_of_pos_right n (by omega))
    omega
   have hulen:(limbs (m * s)).length<=(limbs m).length+1:=by
    have:=qQZ m s
    omega
   obtain ⟨u',hpad,hu1,hu2,hu3⟩:=qNaj (u:=limbs (m * s)) (sc:=[(s:Int)]) (v:=limbs (n * s)) (a:=limbs m) (qSH _) hulen (by omega)
   obtain ⟨K,hK⟩:∃ K:Nat,K=la+1 - lb:=⟨_,rfl⟩
   have hvt:=qDZ (n * s) (lb - 1) (by omega)
   rw[qSF] at hu3
   have hVK:lv u' < lv (limbs (n * s)) * bp K:=by
    rw[hu3,qSF,Int.natCast_mul,Int.natCast_mul]
    have e1:(m:Int) < bp la:=by rw[hla];exact qLL m
    have e2:bp (lb - 1)<=(n:Int):=by rw[hlb];exact qKd h0
    have e3:bp la=bp (lb - 1) * bp K:=by rw[<-qGo,show lb - 1+K=la by omega]
    have e4:bp (lb - 1) * bp K<=(n:Int) * bp K:=Int.mul_le_mul_of_nonneg_right e2 (by have:=qBS K;omega)
    have e5:(m:Int) * s < (n:Int) * bp K * s:=Int.mul_lt_mul_of_pos_right (by omega) (by omega)
    grind
   obtain ⟨u2,q,hloop,g1,g2,g3,g4,g5,g6⟩:=qMak (sc:=[(s:Int)]) (K:=K) hu1 (qSH (n * s)) hvlen hlb2 (by omega) (by omega) hvt hVK
   rw[hu3,qSF] at g6
   rw[qSF] at g5
   have hns:0 < n * s:=Nat.mul_pos (by omega) (by omega)
   have hu20:=qTE g1
   have hdiv:lv q=((m / n:Nat):Int):=by
    have e:((m * s:Nat):Int) / ((n * s:Nat):Int)=lv q:=by
     rw[g6,Int.add_mul_ediv_left _ _ (by omega),Int.ediv_eq_zero_of_lt hu20 g5];omega
    rw[<-e,<-Int.natCast_ediv,Nat.mul_div_mul_right _ _ (by omega)]
   have hmod:lv u2=((m % n * s:Nat):Int):=by
    have e:((m * s:Nat):Int) % ((n * s:Nat):Int)=lv u2:=by
     rw[g6,Int.add_mul_emod_self_left,Int.emod_eq_of_lt hu20 g5]
    rw[<-e,<-Int.natCast_emod,Nat.mul_mod_mul_right]
   have ht7:=qOS g1 (by omega)
   rw[hmod,qZ0] at ht7
   have hlen7:(limbs (m % n * s)).length<=1000000000:=by
    have h1:=qQZ (m % n) s
    have h2:=qHI (Nat.le_of_lt (Nat.mod_lt m (show n > 0 by omega)))
    omega
   have hq8:=qEk (m % n * s) s hlen7 (by omega)
   rw[Nat.mul_div_cancel _ (by omega)] at hq8
   have ht9:=qOS g3 (by omega)
   rw[hdiv,qZ0] at ht9
   have hwrap:((lb:Int) - 1).toNat=lb - 1:=by omega
   have hKi:((la+1:Nat):Int) - (lb:Int)=(K:Int):=by omega
   have hKn:((K:Int)).toNat=K:=by omega
   have hlbi:((limbs n).length:Int)=(lb:Int):=by omega
   have hvli:((limbs (n * s)).length:Int)=(lb:Int):=by omega
   have hu2i:((u'.length:Nat):Int)=((la+1:Nat):Int):=by omega
   have hrl:(((List.replicate K (0:Int)).length:Nat):Int)=(K:Int):=by simp
   have h00:((0:Int)).toNat=0:=rfl
   have hg0:([(s:Int)]:List Int).getD 0 0=(s:Int):=rfl
   simp (disch:=(first | omega | (simp only[lnn];omega))) only[hwrap,hlbi,<-ht,<-hs,hau,hbu,hpad,hu2i,hvli,hKi,hKn,hrl,hloop,ht7,h00,hg0,hq8,ht9,stp]
end Go.AM.Num
end
