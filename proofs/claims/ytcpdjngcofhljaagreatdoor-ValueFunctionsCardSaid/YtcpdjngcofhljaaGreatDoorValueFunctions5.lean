/- Law ValueFunctions: a part of its proof. No conditions. -/
import Derived.Test.YtcpdjngcofhljaaGreatDoorValueFunctions3
import Derived.Test.YtcpdjngcofhljaaGreatDoorProg
import Derived.TacticsInMore
import Derived.LoopNIn
import Derived.LoopIn
import Derived.RangeFuncLeaves
import Derived.RangeFuncBox
import Derived.RangeFuncWrites
import Derived.RangeFuncNested
import Derived.OwnWalkIn
import Derived.Shelf.Abstract
import Derived.WalkKit
import Derived.Lib.Walk
import Derived.BigCall
import Derived.BigGuard
import Derived.Test.YtcpdjngcofhljaaGreatDoorValueFunctions4
import Derived.Test.YtcpdjngcofhljaaGreatDoorShelf
import Derived.Lib.ItoaMem
import Derived.Shelf.Spec.SlicesInsert
import Derived.Shelf.Spec.SlicesInsertGrow
import Derived.Shelf.Strings.Builder1
import Derived.IntWalk
set_option linter.unusedSimpArgs false
set_option linter.unusedVariables false
section
namespace Go.AM
open Go.Proofs Go.RowKit
attribute [local go_sem] Oper.semAt_some
theorem R9 {xs:List Int} {k:Nat} (h:k < xs.length):xs.zipIdx.reverse[k]?=some (xs[xs.length - 1 - k],xs.length - 1 - k):=by
 rw[List.getElem?_reverse (by simpa using h)]
 simp only[List.length_zipIdx,List.getElem?_zipIdx,Nat.zero_add]
 rw[qZ5 (by omega)]
 rfl
set_option maxHeartbeats 1000000 in
theorem AKb (F:Fence) (n:Nat) (h:F.fn 175) (hro:F.round=none) (v:Value) (w:World) (hv:v.oneCell'=true) :
 CallsIn F n Tryz.prog 175 #[v] w fun e w'=>e=.returned (.func (.func 237) #[] #[.pointer (some ⟨w.heap.size,0,none⟩)])/\∃ ty,w'=w.alloc (.cells #[v] ty):=by
 cases v<;>(try (simp[Value.oneCell'] at hv;done))
 all_goals refine callsIn_of_wp Tryz.func175 rfl h ?_ hro
 all_goals simp only[Tryz.ntmps175,List.size_toArray,qY11,List.length_nil,Nat.reduceAdd,Nat.reduceSub,Array.replicate_succ,Array.replicate_zero,List.push_toArray,List.append_toArray,qY15,qY5]
 all_goals gi_wp2
 all_goals go_ret
 all_goals exact ⟨rfl,_,rfl⟩
theorem ABd:Ip Tryz.prog 175 237:=by
 refine ⟨⟨_,Tryz.func175,by decide,rfl⟩,fun v w hv=>(callsIn_wide (n:=0)).1 (CallsIn.mono (AKb Fence.wide 0 trivial rfl v w hv) ?_)⟩
 rintro e w' ⟨rfl,ty,rfl⟩
 exact ⟨ty,rfl,Ext.alloc _ _,by simp,World.alloc_heap_new _ _⟩
set_option maxRecDepth 100000 in
set_option maxHeartbeats 2000000 in
theorem AKe (F:Fence) (n:Nat) (h8:F.fn 237) (hro:F.round=none) (hn:1<=n) (Bs ob:Nat) (ad:Option Addr) (cap:Nat) (xs:List Int) (W:World) (l:Nat) (J:Nat->World->Prop) (hlen:xs.length<=2 ^ 40) (hBs:W.cell? ⟨Bs,ob,none⟩=some (.slice ad xs.length cap))
 (hcs:xs≠[]->∃ b off,ad=some ⟨b,off,none⟩/\∀ (k:Nat) x,xs[k]?=some x->W.cell? ⟨b,off+k,none⟩=some (.int .i64 x))
 (hY:∀ (k:Nat) x W1,xs.zipIdx.reverse[k]?=some x->J k W1->YieldAt F (n - 1) Tryz.prog l (GQ .i64 x) W1 fun e W'=>e=.returned (.bool true)/\J (k+1) W'/\J5 Bs (ad.map (·.block)) W1 W') (h0:J 0 W) :
 CallsIn F n Tryz.prog 237 #[.func (.yield l) #[] #[],.pointer (some ⟨Bs,ob,none⟩)] W fun e W'=>(∃ v,e=.returned v)/\J xs.length W':=by
 refine callsIn_of_wp Tryz.func237 rfl h8 ?_ hro
 simp only[Tryz.ntmps237,List.size_toArray,qY11,List.length_nil,Nat.reduceAdd,Nat.reduceSub,Array.replicate_succ,Array.replicate_zero,List.push_toArray,List.append_toArray,qY15,qY5]
 gi_wp2
 gi_loopw [3] (fun i wr=>∃ k:Nat,k<=xs.length/\i=.int .i64 ((xs.length:Int) - 1 - k)/\J k wr/\J5 Bs (ad.map (·.block)) W wr)
  (fun i _=>((RowKit.intOf i)+1).toNat)
 case atStart=>exact ⟨0,Nat.zero_le _,by simp,h0,⟨Nat.le_refl _,rfl,fun _ _=>rfl⟩⟩
 case round=>
  obtain ⟨k,hk,rfl,hJk,hnx⟩:=hrel
  by_cases hlt:k < xs.length
  ·have hz:=R9 hlt
   obtain ⟨fn,tmps,assign,body,hy,hR⟩:=hY k _ wr hz hJk
   dsimp only[GQ] at hy
   have hix:((xs.length - 1 - k:Nat):Int)=(xs.length:Int) - 1 - k:=by omega
   rw[hix] at hy
   have hBx:wr.cell? ⟨Bs,ob,none⟩=some (.slice ad xs.length cap):=by rw[<-hBs];simp only[World.cell?,hnx.2.1]
   obtain ⟨b,off,rfl,hcell⟩:=hcs (by intro e;rw[e] at hlt;simp at hlt)
   have hcx:wr.cell? ⟨b,off+(xs.length - 1 - k),none⟩=some (.int .i64 (xs[xs.length - 1 - k]'(by omega))):=by
    rw[<-hcell (xs.length - 1 - k) _ (qZ5 (by omega))]
    simp only[World.cell?,hnx.2.2 b rfl]
   gi_wp2
   refine hR.mono ?_
   rintro e W3 ⟨rfl,hJ3,hk3⟩
   gi_wp2
   go_roundw
   case rel=>exact ⟨k+1,by omega,by simp;omega,hJ3,⟨Nat.le_trans hnx.1 hk3.1,hk3.2.1.trans hnx.2.1,fun j hj=>(hk3.2.2 j hj).trans (hnx.2.2 j hj)⟩⟩
   case measure=>simp[RowKit.intOf];omega
  ·obtain rfl:k=xs.length:=by omega
   gi_wp2
   go_end0
   exact ⟨⟨_,rfl⟩,hJk⟩
theorem AIh:NV Tryz.prog 237 .i64:=
 ⟨⟨_,Tryz.func237,by decide,rfl⟩,fun Bs ob ad cap xs W l J hlen hBs hcs hY h0=>(callsIn_wide (n:=0)).2 ((callsIn_wide (n:=1)).1 (AKe Fence.wide 1 trivial rfl (Nat.le_refl _) Bs ob ad cap xs W l J hlen hBs hcs hY h0))⟩
set_option maxHeartbeats 1000000 in
theorem AEY (F:Fence) (n:Nat) (h:F.fn 336) (hro:F.round=none) (v:Value) (w:World) (hv:v.oneCell'=true) :
 CallsIn F n Tryz.prog 336 #[v] w fun e w'=>e=.returned (.func (.func 353) #[] #[.pointer (some ⟨w.heap.size,0,none⟩)])/\∃ ty,w'=w.alloc (.cells #[v] ty):=by
 cases v<;>(try (simp[Value.oneCell'] at hv;done))
 all_goals refine callsIn_of_wp Tryz.func336 rfl h ?_ hro
 all_goals simp only[Tryz.ntmps336,List.size_toArray,qY11,List.length_nil,Nat.reduceAdd,Nat.reduceSub,Array.replicate_succ,Array.replicate_zero,List.push_toArray,List.append_toArray,qY15,qY5]
 all_goals gi_wp2
 all_goals go_ret
 all_goals exact ⟨rfl,_,rfl⟩
theorem ALh:Ip Tryz.prog 336 353:=by
 refine ⟨⟨_,Tryz.func336,by decide,rfl⟩,fun v w hv=>(callsIn_wide (n:=0)).1 (CallsIn.mono (AEY Fence.wide 0 trivial rfl v w hv) ?_)⟩
 rintro e w' ⟨rfl,ty,rfl⟩
 exact ⟨ty,rfl,Ext.alloc _ _,by simp,World.alloc_heap_new _ _⟩
set_option maxRecDepth 100000 in
set_option maxHeartbeats 2000000 in
theorem AKl (F:Fence) (n:Nat) (h8:F.fn 353) (hro:F.round=none) (hn:1<=n) (Bs ob:Nat) (ad:Option Addr) (cap:Nat) (xs:List Int) (W:World) (l:Nat) (J:Nat->World->Prop) (hlen:xs.length<=2 ^ 40) (hBs:W.cell? ⟨Bs,ob,none⟩=some (.slice ad xs.length cap))
 (hcs:xs≠[]->∃ b off,ad=some ⟨b,off,none⟩/\∀ (k:Nat) x,xs[k]?=some x->W.cell? ⟨b,off+k,none⟩=some (.int .u32 x))
 (hY:∀ (k:Nat) x W1,xs.zipIdx.reverse[k]?=some x->J k W1->YieldAt F (n - 1) Tryz.prog l (GQ .u32 x) W1 fun e W'=>e=.returned (.bool true)/\J (k+1) W'/\J5 Bs (ad.map (·.block)) W1 W') (h0:J 0 W) :
 CallsIn F n Tryz.prog 353 #[.func (.yield l) #[] #[],.pointer (some ⟨Bs,ob,none⟩)] W fun e W'=>(∃ v,e=.returned v)/\J xs.length W':=by
 refine callsIn_of_wp Tryz.func353 rfl h8 ?_ hro
 simp only[Tryz.ntmps353,List.size_toArray,qY11,List.length_nil,Nat.reduceAdd,Nat.reduceSub,Array.replicate_succ,Array.replicate_zero,List.push_toArray,List.append_toArray,qY15,qY5]
 gi_wp2
 gi_loopw [3] (fun i wr=>∃ k:Nat,k<=xs.length/\i=.int .i64 ((xs.length:Int) - 1 - k)/\J k wr/\J5 Bs (ad.map (·.block)) W wr)
  (fun i _=>((RowKit.intOf i)+1).toNat)
 case atStart=>exact ⟨0,Nat.zero_le _,by simp,h0,⟨Nat.le_refl _,rfl,fun _ _=>rfl⟩⟩
 case round=>
  obtain ⟨k,hk,rfl,hJk,hnx⟩:=hrel
  by_cases hlt:k < xs.length
  ·have hz:=R9 hlt
   obtain ⟨fn,tmps,assign,body,hy,hR⟩:=hY k _ wr hz hJk
   dsimp only[GQ] at hy
   have hix:((xs.length - 1 - k:Nat):Int)=(xs.length:Int) - 1 - k:=by omega
   rw[hix] at hy
   have hBx:wr.cell? ⟨Bs,ob,none⟩=some (.slice ad xs.length cap):=by rw[<-hBs];simp only[World.cell?,hnx.2.1]
   obtain ⟨b,off,rfl,hcell⟩:=hcs (by intro e;rw[e] at hlt;simp at hlt)
   have hcx:wr.cell? ⟨b,off+(xs.length - 1 - k),none⟩=some (.int .u32 (xs[xs.length - 1 - k]'(by omega))):=by
    rw[<-hcell (xs.length - 1 - k) _ (qZ5 (by omega))]
    simp only[World.cell?,hnx.2.2 b rfl]
   gi_wp2
   refine hR.mono ?_
   rintro e W3 ⟨rfl,hJ3,hk3⟩
   gi_wp2
   go_roundw
   case rel=>exact ⟨k+1,by omega,by simp;omega,hJ3,⟨Nat.le_trans hnx.1 hk3.1,hk3.2.1.trans hnx.2.1,fun j hj=>(hk3.2.2 j hj).trans (hnx.2.2 j hj)⟩⟩
   case measure=>simp[RowKit.intOf];omega
  ·obtain rfl:k=xs.length:=by omega
   gi_wp2
   go_end0
   exact ⟨⟨_,rfl⟩,hJk⟩
theorem AAX:NV Tryz.prog 353 .u32:=
 ⟨⟨_,Tryz.func353,by decide,rfl⟩,fun Bs ob ad cap xs W l J hlen hBs hcs hY h0=>(callsIn_wide (n:=0)).2 ((callsIn_wide (n:=1)).1 (AKl Fence.wide 1 trivial rfl (Nat.le_refl _) Bs ob ad cap xs W l J hlen hBs hcs hY h0))⟩
end Go.AM
end
section
namespace Go.AM.Num
open Go.Proofs
set_option maxRecDepth 100000
noncomputable section
def Z3:List (Nat×TI):=[(9,⟨.str,1,16,some .str⟩),(3,⟨.int .i64,1,8,some (.int .i64)⟩),(24,⟨.struct [(0,3),(1,4),(2,9),(3,22),(4,22)],5,80,some Au⟩),(4,⟨.bool,1,1,some .bool⟩),(22,⟨.slice 9,1,24,some (.sl .str)⟩),(46,⟨.struct [(0,3),(1,3),(2,9),(3,9),(4,3)],5,56,some AE⟩),(31,⟨.slice 46,1,24,some (.sl AE)⟩),(111,⟨.slice 174,1,24,some (.sl (.int .u32))⟩),(30,⟨.slice 24,1,24,some (.sl Au)⟩),(25,⟨.slice 3,1,24,some (.sl (.int .i64))⟩),(174,⟨.int .u32,1,4,some (.int .u32)⟩),(113,⟨.struct [(0,4),(1,111),(2,111)],3,56,some CR⟩),(117,⟨.struct [(0,4),(1,9),(2,9)],3,40,some I4⟩),(123,⟨.slice 5,1,24,some (.sl (.int .u8))⟩),(5,⟨.int .u8,1,1,some (.int .u8)⟩),(81,⟨.slice 31,1,24,some (.sl (.sl AE))⟩),(269,⟨.int .u64,1,8,some (.int .u64)⟩),(52,⟨.slice 30,1,24,some (.sl (.sl Au))⟩),(80,⟨.struct [(0,9),(1,3)],2,24,some BI⟩),(42,⟨.slice 80,1,24,some (.sl BI)⟩),(107,⟨.struct [(0,2),(1,2)],2,16,some Eb⟩),(54,⟨.struct [(0,9),(1,52),(2,30),(3,24)],8,144,some Bx⟩),(157,⟨.struct [(0,31),(1,155)],2,48,some DD⟩),(222,⟨.struct [(0,9),(1,25),(2,3)],3,48,some (.pair .str Bb)⟩),(2,⟨.int .i64,1,8,some (.int .i64)⟩),(131,⟨.struct [(0,9),(1,24)],6,96,some Cj⟩),(56,⟨.slice 131,1,24,some (.sl Cj)⟩),(125,⟨.struct [(0,122),(1,123)],2,32,some (.pair (.ptr .unit) (.sl (.int .u8)))⟩),(49,⟨.slice 54,1,24,some (.sl Bx)⟩),(154,⟨.struct [(0,3),(1,3),(2,3)],3,24,some (.pair (.int .i64) Eb)⟩),(155,⟨.slice 154,1,24,some (.sl (.pair (.int .i64) Eb))⟩),(94,⟨.struct [(0,31),(1,3),(2,86),(3,89)],4,48,some L8⟩),(135,⟨.struct [(0,31),(1,56),(2,49)],3,72,some (.pair (.sl AE) (.pair (.sl Cj) (.sl Bx)))⟩),(76,⟨.struct [(0,25),(1,3)],2,32,some Bb⟩),(86,⟨.map 9 24,1,8,some (.map Au)⟩),(89,⟨.map 9 54,1,8,some (.map Bx)⟩),(66,⟨.int .u64,1,8,some (.int .u64)⟩),(145,⟨.slice 222,1,24,some (.sl (.pair .str Bb))⟩),(101,⟨.pointer 157,1,8,some (.ptr DD)⟩),(198,⟨.map 9 222,1,8,some (.map (.pair .str Bb))⟩),(231,⟨.map 9 80,1,8,some (.map BI)⟩)]
theorem Al:Ie Tryz.prog Z3:=
 (Bh (Bi Tryz.underlying9 Tryz.type9 rfl rfl rfl (fun g hg=>by cases hg;exact ⟨rfl,rfl,rfl⟩))
 (Bh (Bi Tryz.underlying3 Tryz.type3 rfl rfl rfl (fun g hg=>by cases hg;exact ⟨rfl,rfl,rfl⟩))
 (Bh (Bi Tryz.underlying24 Tryz.type24 rfl rfl rfl (fun g hg=>by cases hg;exact ⟨rfl,rfl,rfl⟩))
 (Bh (Bi Tryz.underlying4 Tryz.type4 rfl rfl rfl (fun g hg=>by cases hg;exact ⟨rfl,rfl,rfl⟩))
 (Bh (Bi Tryz.underlying22 Tryz.type22 rfl rfl rfl (fun g hg=>by cases hg;exact ⟨rfl,rfl,rfl⟩))
 (Bh (Bi Tryz.underlying46 Tryz.type46 rfl rfl rfl (fun g hg=>by cases hg;exact ⟨rfl,rfl,rfl⟩))
 (Bh (Bi Tryz.underlying31 Tryz.type31 rfl rfl rfl (fun g hg=>by cases hg;exact ⟨rfl,rfl,rfl⟩))
 (Bh (Bi Tryz.underlying111 Tryz.type111 rfl rfl rfl (fun g hg=>by cases hg;exact ⟨rfl,rfl,rfl⟩))
 (Bh (Bi Tryz.underlying30 Tryz.type30 rfl rfl rfl (fun g hg=>by cases hg;exact ⟨rfl,rfl,rfl⟩))
 (Bh (Bi Tryz.underlying25 Tryz.type25 rfl rfl rfl (fun g hg=>by cases hg;exact ⟨rfl,rfl,rfl⟩))
 (Bh (Bi Tryz.underlying174 Tryz.type174 rfl rfl rfl (fun g hg=>by cases hg;exact ⟨rfl,rfl,rfl⟩))
 (Bh (Bi Tryz.underlying113 Tryz.type113 rfl rfl rfl (fun g hg=>by cases hg;exact ⟨rfl,rfl,rfl⟩))
 (Bh (Bi Tryz.underlying117 Tryz.type117 rfl rfl rfl (fun g hg=>by cases hg;exact ⟨rfl,rfl,rfl⟩))
 (Bh (Bi Tryz.underlying123 Tryz.type123 rfl rfl rfl (fun g hg=>by cases hg;exact ⟨rfl,rfl,rfl⟩))
 (Bh (Bi Tryz.underlying5 Tryz.type5 rfl rfl rfl (fun g hg=>by cases hg;exact ⟨rfl,rfl,rfl⟩))
 (Bh (Bi Tryz.underlying81 Tryz.type81 rfl rfl rfl (fun g hg=>by cases hg;exact ⟨rfl,rfl,rfl⟩))
 (Bh (Bi Tryz.underlying269 Tryz.type269 rfl rfl rfl (fun g hg=>by cases hg;exact ⟨rfl,rfl,rfl⟩))
 (Bh (Bi Tryz.underlying52 Tryz.type52 rfl rfl rfl (fun g hg=>by cases hg;exact ⟨rfl,rfl,rfl⟩))
 (Bh (Bi Tryz.underlying80 Tryz.type80 rfl rfl rfl (fun g hg=>by cases hg;exact ⟨rfl,rfl,rfl⟩))
 (Bh (Bi Tryz.underlying42 Tryz.type42 rfl rfl rfl (fun g hg=>by cases hg;exact ⟨rfl,rfl,rfl⟩))
 (Bh (Bi Tryz.underlying107 Tryz.type107 rfl rfl rfl (fun g hg=>by cases hg;exact ⟨rfl,rfl,rfl⟩))
 (Bh (Bi Tryz.underlying54 Tryz.type54 rfl rfl rfl (fun g hg=>by cases hg;exact ⟨rfl,rfl,rfl⟩))
 (Bh (Bi Tryz.underlying157 Tryz.type157 rfl rfl rfl (fun g hg=>by cases hg;exact ⟨rfl,rfl,rfl⟩))
 (Bh (Bi Tryz.underlying222 Tryz.type222 rfl rfl rfl (fun g hg=>by cases hg;exact ⟨rfl,rfl,rfl⟩))
 (Bh (Bi Tryz.underlying2 Tryz.type2 rfl rfl rfl (fun g hg=>by cases hg;exact ⟨rfl,rfl,rfl⟩))
 (Bh (Bi Tryz.underlying131 Tryz.type131 rfl rfl rfl (fun g hg=>by cases hg;exact ⟨rfl,rfl,rfl⟩))
 (Bh (Bi Tryz.underlying56 Tryz.type56 rfl rfl rfl (fun g hg=>by cases hg;exact ⟨rfl,rfl,rfl⟩))
 (Bh (Bi Tryz.underlying125 Tryz.type125 rfl rfl rfl (fun g hg=>by cases hg;exact ⟨rfl,rfl,rfl⟩))
 (Bh (Bi Tryz.underlying49 Tryz.type49 rfl rfl rfl (fun g hg=>by cases hg;exact ⟨rfl,rfl,rfl⟩))
 (Bh (Bi Tryz.underlying154 Tryz.type154 rfl rfl rfl (fun g hg=>by cases hg;exact ⟨rfl,rfl,rfl⟩))
 (Bh (Bi Tryz.underlying155 Tryz.type155 rfl rfl rfl (fun g hg=>by cases hg;exact ⟨rfl,rfl,rfl⟩))
 (Bh (Bi Tryz.underlying94 Tryz.type94 rfl rfl rfl (fun g hg=>by cases hg;exact ⟨rfl,rfl,rfl⟩))
 (Bh (Bi Tryz.underlying135 Tryz.type135 rfl rfl rfl (fun g hg=>by cases hg;exact ⟨rfl,rfl,rfl⟩))
 (Bh (Bi Tryz.underlying76 Tryz.type76 rfl rfl rfl (fun g hg=>by cases hg;exact ⟨rfl,rfl,rfl⟩))
 (Bh (Bi Tryz.underlying86 Tryz.type86 rfl rfl rfl (fun g hg=>by cases hg;exact ⟨rfl,rfl,rfl⟩))
 (Bh (Bi Tryz.underlying89 Tryz.type89 rfl rfl rfl (fun g hg=>by cases hg;exact ⟨rfl,rfl,rfl⟩))
 (Bh (Bi Tryz.underlying66 Tryz.type66 rfl rfl rfl (fun g hg=>by cases hg;exact ⟨rfl,rfl,rfl⟩))
 (Bh (Bi Tryz.underlying145 Tryz.type145 rfl rfl rfl (fun g hg=>by cases hg;exact ⟨rfl,rfl,rfl⟩))
 (Bh (Bi Tryz.underlying101 Tryz.type101 rfl rfl rfl (fun g hg=>by cases hg;exact ⟨rfl,rfl,rfl⟩))
 (Bh (Bi Tryz.underlying198 Tryz.type198 rfl rfl rfl (fun g hg=>by cases hg;exact ⟨rfl,rfl,rfl⟩))
 (Bh (Bi Tryz.underlying231 Tryz.type231 rfl rfl rfl (fun g hg=>by cases hg;exact ⟨rfl,rfl,rfl⟩))
 ABN)))))))))))))))))))))))))))))))))))))))))
def l0:FL:=[(77,none,Pc),(88,none,Tu),(103,none,Uw),(113,none,YL),(114,none,X8),(120,none,QW),(121,none,Pq),(190,none,Sd),(302,none,Rf),(335,none,RH)]
variable {V:Env} (h0:Fs Tryz.prog V l0)
include h0
theorem g0:Fs Tryz.prog V l0:=h0
def AJD:Callee:=⟨[.val (.sl (.int .i64))],[.box (.dat Bb)],fun x=>J' x.1⟩
def l1:FL:=(19,none,AJD)::l0
theorem g1:Fs Tryz.prog V l1:=
 have h:=g0 h0
 h.cons (gz h Al Tryz.func19 (by kernel_rfl) (fun x=>by kernel_rfl))
def ZT:Callee:=⟨[],[.val (.sl BI)],fun _=>Nr⟩
def l2:FL:=(21,none,ZT)::l1
theorem g2:Fs Tryz.prog V l2:=
 have h:=g1 h0
 h.cons (gz h Al Tryz.func21 (by kernel_rfl) (fun x=>by kernel_rfl))
def AFt:Callee:=⟨[.val (.int .i64),.val (.int .i64)],[.val (.int .i64)],fun x=>ME x.1 x.2.1⟩
def l3:FL:=(9,none,AFt)::l2
theorem g3:Fs Tryz.prog V l3:=
 have h:=g2 h0
 h.cons (gz h Al Tryz.func9 (by kernel_rfl) (fun x=>by kernel_rfl))
def AHH:Callee:=⟨[.box (.dat Bb),.val (.int .i64)],[.val (.int .i64)],fun x=>AW x.1 x.2.1⟩
def l4:FL:=(25,none,AHH)::l3
theorem g4:Fs Tryz.prog V l4:=
 have h:=g3 h0
 h.cons (gz h Al Tryz.func25 (by kernel_rfl) (fun x=>by kernel_rfl))
def AAq:Callee:=⟨[.val (.int .i64)],[.val .str],fun x=>DG x.1⟩
def l5:FL:=(57,none,AAq)::l4
theorem g5:Fs Tryz.prog V l5:=
 have h:=g4 h0
 h.cons (gd [.lp 3 ⟨33,[0,3,4],[.val (.int .i64),.val .str,.val (.int .i64)],[],[]⟩ [.exit 0] IT] [] [] h Al AG Tryz.func57 (by kernel_rfl) (fun _=>(AD (fun x=>by kernel_rfl) AF)) (fun x=>by kernel_rfl))
def ALS:Callee:=⟨[.val .str],[.val .bool],fun x=>EV x.1⟩
def l6:FL:=(128,none,ALS)::l5
theorem g6:Fs Tryz.prog V l6:=
 have h:=g5 h0
 h.cons (gd [.lp 2 ⟨22,[0,2,3],[.val .str,.val .bool,.val (.int .i64)],[],[]⟩ [.exit 0,.ret] Hl] [] [] h Al AG Tryz.func128 (by kernel_rfl) (fun _=>(AD (fun x=>by kernel_rfl) AF)) (fun x=>by kernel_rfl))
def AKI:Callee:=⟨[.val .str],[.val .str],fun x=>Dm x.1⟩
def l7:FL:=(129,none,AKI)::l6
theorem g7:Fs Tryz.prog V l7:=
 have h:=g6 h0
 h.cons (gd [.lp 1 ⟨14,[0],[.val .str],[],[]⟩ [.exit 0] Ja] [] [] h Al AG Tryz.func129 (by kernel_rfl) (fun _=>(AD (fun x=>by kernel_rfl) AF)) (fun x=>by kernel_rfl))
def AFY:Callee:=⟨[.val .str,.val .str],[.val (.int .i64)],fun x=>Kx x.1 x.2.1⟩
def l8:FL:=(188,none,AFY)::l7
theorem g8:Fs Tryz.prog V l8:=
 have h:=g7 h0
 h.cons (gz h Al Tryz.func188 (by kernel_rfl) (fun x=>by kernel_rfl))
def ABK:Callee:=⟨[.val .str,.val .str],[.val .str],fun x=>Jo x.1 x.2.1⟩
def l9:FL:=(189,none,ABK)::l8
theorem g9:Fs Tryz.prog V l9:=
 have h:=g8 h0
 h.cons (gd [.lp 4 ⟨61,[0,1,5,6,7],[.val .str,.val .str,.row (.int .u8),.val (.int .i64),.val (.int .i64)],[],[]⟩ [.exit 0] Fg] [] [] h Al AG Tryz.func189 (by kernel_rfl) (fun _=>(AD (fun x=>by kernel_rfl) AF)) (fun x=>by kernel_rfl))
def AI5:Callee:=⟨[.val .str,.val .str],[.val .str,.val .str],fun x=>Ig x.1 x.2.1⟩
def l10:FL:=(140,none,AI5)::l9
theorem g10:Fs Tryz.prog V l10:=
 have h:=g9 h0
 h.cons (gd [.lp 8 ⟨44,[0,1,6,7,8,9],[.val .str,.val .str,.row (.int .u8),.val .str,.val (.int .i64),.val (.int .u8)],[],[]⟩ [.exit 2] JJ,.lp 4 ⟨44,[0,1,6,7,8],[.val .str,.val .str,.row (.int .u8),.val .str,.val (.int .i64)],[],[]⟩ [.exit 0] JY] [] [] h Al AG Tryz.func140 (by kernel_rfl) (fun _=>(AD (fun x=>by kernel_rfl) (AD (fun x=>by kernel_rfl) AF))) (fun x=>by kernel_rfl))
def AMF:Callee:=⟨[.val .str,.val .str],[.val .str],fun x=>Ns x.1 x.2.1⟩
def Sc:FL:=(139,none,AMF)::l10
theorem g11:Fs Tryz.prog V Sc:=
 have h:=g10 h0
 h.cons (gd [.lp 1 ⟨18,[0,1],[.val .str,.val .str],[],[]⟩ [.exit 0] Mr] [] [] h Al AG Tryz.func139 (by kernel_rfl) (fun _=>(AD (fun x=>by kernel_rfl) AF)) (fun x=>by kernel_rfl))
def AAT:Callee:=⟨[.val .bool,.val .str,.val .str],[.val I4],fun x=>DH x.1 x.2.1 x.2.2.1⟩
def YX:FL:=(91,none,AAT)::Sc
theorem g12:Fs Tryz.prog V YX:=
 have h:=g11 h0
 h.cons (gz h Al Tryz.func91 (by kernel_rfl) (fun x=>by kernel_rfl))
def ABW:Callee:=⟨[.val I4],[.val .str],fun x=>B5 x.1⟩
def Ss:FL:=(93,none,ABW)::YX
theorem g13:Fs Tryz.prog V Ss:=
 have h:=g12 h0
 h.cons (gz h Al Tryz.func93 (by kernel_rfl) (fun x=>by kernel_rfl))
def AAj:Callee:=⟨[.val .str],[.val I4,.val .bool],fun x=>CB x.1⟩
def S1:FL:=(82,none,AAj)::Ss
theorem g14:Fs Tryz.prog V S1:=
 have h:=g13 h0
 h.cons (gd [.lp 6 ⟨84,[0,2,4,5,6],[.val .str,.box (.dat I4),.box (.dat I4),.val .str,.val (.int .i64)],[],[]⟩ [.exit 0] FD] [] [] h Al AG Tryz.func82 (by kernel_rfl) (fun _=>(AD (fun x=>by kernel_rfl) AF)) (fun x=>by kernel_rfl))
def AGK:Callee:=⟨[.val .str],[.val .bool],fun x=>B7 x.1⟩
def TO:FL:=(43,none,AGK)::S1
theorem ZV:Fs Tryz.prog V TO:=
 have h:=g14 h0
 h.cons (gz h Al Tryz.func43 (by kernel_rfl) (fun x=>by kernel_rfl))
def ACo:Callee:=⟨[.val .str],[.val .bool],fun x=>D0 x.1⟩
def Yr:FL:=(44,none,ACo)::TO
theorem ZQ:Fs Tryz.prog V Yr:=
 have h:=ZV h0
 h.cons (gz h Al Tryz.func44 (by kernel_rfl) (fun x=>by kernel_rfl))
def AKJ:Callee:=⟨[.val .str],[.val .str],fun x=>IS x.1⟩
def WW:FL:=(131,none,AKJ)::Yr
theorem g17:Fs Tryz.prog V WW:=
 have h:=ZQ h0
 h.cons (gz h Al Tryz.func131 (by kernel_rfl) (fun x=>by kernel_rfl))
def ADp:Callee:=⟨[.val .str,.val .str],[.val .str],fun x=>E4 x.1 x.2.1⟩
def Vx:FL:=(92,none,ADp)::WW
theorem g18:Fs Tryz.prog V Vx:=
 have h:=g17 h0
 h.cons (gd [.lp 6 ⟨78,[0,1,5,6,7],[.val .str,.val .str,.row (.int .i64),.val (.int .i64),.val (.int .i64)],[],[]⟩ [.exit 2] Jk,.lp 3 ⟨78,[0,1,5,6],[.val .str,.val .str,.row (.int .i64),.val (.int .i64)],[],[]⟩ [.exit 0] Kk,.lp 12 ⟨78,[5,8,9,10],[.row (.int .i64),.row (.int .u8),.val (.int .i64),.val (.int .i64)],[],[]⟩ [.exit 4] Ke] [] [] h Al AG Tryz.func92 (by kernel_rfl) (fun _=>(AD (fun x=>by kernel_rfl) (AD (fun x=>by kernel_rfl) (AD (fun x=>by kernel_rfl) AF)))) (fun x=>by kernel_rfl))
def ABp:Callee:=⟨[.val .str,.val .str],[.val .str],fun x=>Kv x.1 x.2.1⟩
def Ut:FL:=(187,none,ABp)::Vx
theorem g19:Fs Tryz.prog V Ut:=
 have h:=g18 h0
 h.cons (gd [.lp 5 ⟨69,[0,1,5,6,7,8],[.val .str,.val .str,.val (.int .i64),.row (.int .u8),.val (.int .i64),.val (.int .i64)],[],[]⟩ [.exit 0] E_] [] [] h Al AG Tryz.func187 (by kernel_rfl) (fun _=>(AD (fun x=>by kernel_rfl) AF)) (fun x=>by kernel_rfl))
def ACH:Callee:=⟨[.val .str,.val .str],[.val .str],fun x=>JQ x.1 x.2.1⟩
def VO:FL:=(130,none,ACH)::Ut
theorem g20:Fs Tryz.prog V VO:=
 have h:=g19 h0
 h.cons (gz h Al Tryz.func130 (by kernel_rfl) (fun x=>by kernel_rfl))
def ACt:Callee:=⟨[.val .str,.val .str],[.val .str],fun x=>KI x.1 x.2.1⟩
def SS:FL:=(84,none,ACt)::VO
theorem g21:Fs Tryz.prog V SS:=
 have h:=g20 h0
 h.cons (gz h Al Tryz.func84 (by kernel_rfl) (fun x=>by kernel_rfl))
def AE2:Callee:=⟨[.val .str],[.val (.int .i64)],fun x=>GA x.1⟩
def U6:FL:=(83,none,AE2)::SS
theorem g22:Fs Tryz.prog V U6:=
 have h:=g21 h0
 h.cons (gz h Al Tryz.func83 (by kernel_rfl) (fun x=>by kernel_rfl))
def Zn:Callee:=⟨[.val .str,.val .str],[.val (.int .i64)],fun x=>DP x.1 x.2.1⟩
def UN:FL:=(45,none,Zn)::U6
theorem g23:Fs Tryz.prog V UN:=
 have h:=g22 h0
 h.cons (gz h Al Tryz.func45 (by kernel_rfl) (fun x=>by kernel_rfl))
def AL8:Callee:=⟨[.val Au],[.val .bool],fun x=>Fh x.1⟩
def V4:FL:=(13,none,AL8)::UN
theorem g24:Fs Tryz.prog V V4:=
 have h:=g23 h0
 h.cons (gd [.lp 14 ⟨112,[1,2,3],[.box (.dat Au),.val .bool,.val (.int .i64)],[],[]⟩ [.exit 1,.ret] Fe] [] [] h Al AG Tryz.func13 (by kernel_rfl) (fun _=>(AD (fun x=>by kernel_rfl) AF)) (fun x=>by kernel_rfl))
def ADD:Callee:=⟨[.val Au,.val .str,.val .str],[.val Au,.val (.int .i64)],fun x=>Jw x.1 x.2.1 x.2.2.1⟩
def Yn:FL:=(59,none,ADD)::V4
theorem g25:Fs Tryz.prog V Yn:=
 have h:=g24 h0
 h.cons (gd [.lp 6 ⟨112,[1,2,3,6,8,9,10],[.val .str,.val .str,.box (.dat Au),.box (.dat Au),.box (.pair (.dat (.int .i64)) (.pair (.dat .bool) (.pair (.dat .str) (.pair (.own .str) (.own .str))))),.val .bool,.val (.int .i64)],[],[]⟩ [.exit 0] Cy] [] [(11,[8],[66,68,74,100075,100076]),(13,[8,3,103],[92,94,96,97,98,108,100109,100110])] h Al AG Tryz.func59 (by kernel_rfl) (fun _=>(AD (fun x=>by kernel_rfl) AF)) (fun x=>by kernel_rfl))
def AHA:Callee:=⟨[.box (.dat Bb),.val (.int .i64)],[.val Au],fun x=>CS x.1 x.2.1⟩
def Sh:FL:=(26,none,AHA)::Yn
theorem g26:Fs Tryz.prog V Sh:=
 have h:=g25 h0
 h.cons (gd [] [] [(6,[5],[25,28,29,100005])] h Al AG Tryz.func26 (by kernel_rfl) (fun _=>AF) (fun x=>by kernel_rfl))
def AJ5:Callee:=⟨[.val .bool],[.val (.sl AE)],fun x=>OF x.1⟩
def Zb:FL:=(37,none,AJ5)::Sh
theorem g27:Fs Tryz.prog V Zb:=
 have h:=g26 h0
 h.cons (gz h Al Tryz.func37 (by kernel_rfl) (fun x=>by kernel_rfl))
def AKx:Callee:=⟨[.val (.int .i64),.val .str],[.val (.sl AE)],fun x=>CD x.1 x.2.1⟩
def YF:FL:=(23,none,AKx)::Zb
theorem g28:Fs Tryz.prog V YF:=
 have h:=g27 h0
 h.cons (gz h Al Tryz.func23 (by kernel_rfl) (fun x=>by kernel_rfl))
def AJr:Callee:=⟨[.val AE,.val (.sl (.sl AE))],[.val (.sl AE)],fun x=>EG x.1 x.2.1⟩
def SU:FL:=(22,none,AJr)::YF
theorem g29:Fs Tryz.prog V SU:=
 have h:=g28 h0
 h.cons (gd [.lp 4 ⟨25,[1,5,6],[.val (.sl (.sl AE)),.row AE,.val (.int .i64)],[],[]⟩ [.exit 0] KB] [11] [] h Al AG Tryz.func22 (by kernel_rfl) (fun _=>(AD (fun x=>by kernel_rfl) AF)) (fun x=>by kernel_rfl))
def Zh:Callee:=⟨[],[.val (.sl .str)],fun _=>Rh⟩
def YE:FL:=(283,none,Zh)::SU
theorem g30:Fs Tryz.prog V YE:=
 have h:=g29 h0
 h.cons (gz h Al Tryz.func283 (by kernel_rfl) (fun x=>by kernel_rfl))
def AIM:Callee:=⟨[.val (.sl .str),.val .str],[.val .bool],fun x=>My x.1 x.2.1⟩
def Yu:FL:=(282,none,AIM)::YE
theorem g31:Fs Tryz.prog V Yu:=
 have h:=g30 h0
 h.cons (gd [.lp 2 ⟨18,[0,1,4,5],[.val (.sl .str),.val .str,.val .bool,.val (.int .i64)],[],[]⟩ [.exit 0,.ret] Lp] [] [] h Al AG Tryz.func282 (by kernel_rfl) (fun _=>(AD (fun x=>by kernel_rfl) AF)) (fun x=>by kernel_rfl))
def AJj:Callee:=⟨[.val (.int .u8)],[.val .bool],fun x=>NZ x.1⟩
def X6:FL:=(219,none,AJj)::Yu
theorem Z':Fs Tryz.prog V X6:=
 have h:=g31 h0
 h.cons (gz h Al Tryz.func219 (by kernel_rfl) (fun x=>by kernel_rfl))
def ABx:Callee:=⟨[.val .str],[.val .bool],fun x=>LB x.1⟩
def Xz:FL:=(221,none,ABx)::X6
theorem g33:Fs Tryz.prog V Xz:=
 have h:=Z' h0
 h.cons (gd [.lp 4 ⟨63,[0,2,3],[.val .str,.val .bool,.val (.int .i64)],[],[]⟩ [.exit 0,.ret] Mg] [] [] h Al AG Tryz.func221 (by kernel_rfl) (fun _=>(AD (fun x=>by kernel_rfl) AF)) (fun x=>by kernel_rfl))
def AAk:Callee:=⟨[.val (.int .i64)],[.val .bool],fun x=>NX x.1⟩
def VZ:FL:=(222,none,AAk)::Xz
theorem g34:Fs Tryz.prog V VZ:=
 have h:=g33 h0
 h.cons (gz h Al Tryz.func222 (by kernel_rfl) (fun x=>by kernel_rfl))
def Z_:Callee:=⟨[.val AE],[.val .bool],fun x=>OW x.1⟩
def Sa:FL:=(164,none,Z_)::VZ
theorem g35:Fs Tryz.prog V Sa:=
 have h:=g34 h0
 h.cons (gz h Al Tryz.func164 (by kernel_rfl) (fun x=>by kernel_rfl))
def AKW:Callee:=⟨[.val (.int .i64),.val (.int .i64)],[.val .bool],fun x=>J8 x.1 x.2.1⟩
def SY:FL:=(165,none,AKW)::Sa
theorem g36:Fs Tryz.prog V SY:=
 have h:=g35 h0
 h.cons (gz h Al Tryz.func165 (by kernel_rfl) (fun x=>by kernel_rfl))
def AE1:Callee:=⟨[.val (.sl (.int .i64)),.val (.int .i64),.val (.int .i64)],[.val (.int .i64)],fun x=>Dy x.1 x.2.1 x.2.2.1⟩
def XB:FL:=(232,none,AE1)::SY
theorem g37:Fs Tryz.prog V XB:=
 have h:=g36 h0
 h.cons (gd [.lp 2 ⟨21,[0,1,2,6,7],[.val (.sl (.int .i64)),.val (.int .i64),.val (.int .i64),.val (.int .i64),.val (.int .i64)],[],[]⟩ [.exit 0,.ret] Md] [] [] h Al AG Tryz.func232 (by kernel_rfl) (fun _=>(AD (fun x=>by kernel_rfl) AF)) (fun x=>by kernel_rfl))
def AAO:Callee:=⟨[.val (.int .i64)],[.val .bool],fun x=>Mk x.1⟩
def Si:FL:=(233,none,AAO)::XB
theorem g38:Fs Tryz.prog V Si:=
 have h:=g37 h0
 h.cons (gz h Al Tryz.func233 (by kernel_rfl) (fun x=>by kernel_rfl))
def AEz:Callee:=⟨[.val AE,.val (.int .i64),.val (.sl (.int .i64))],[.val (.int .i64)],fun x=>Mm x.1 x.2.1 x.2.2.1⟩
def R_:FL:=(166,none,AEz)::Si
theorem Ya:Fs Tryz.prog V R_:=
 have h:=g38 h0
 h.cons (gz h Al Tryz.func166 (by kernel_rfl) (fun x=>by kernel_rfl))
def OI (g:List Ac->Int->Int->Option ((Int×Int×Unit)×Unit)):Callee:=⟨[.val (.sl AE),.val (.int .i64),.val (.int .i64)],[.val (.int .i64),.val (.int .i64)],fun x=>g x.1 x.2.1 x.2.2.1⟩
def ADY:Callee:=OI (FU BB)
theorem AKZ (AMR:List Ac->Int->Int->Option ((Int×Int×Unit)×Unit)) (r0:Good V 110 (OI AMR)):Good V 110 (OI (Nu AMR)):=
 have h:=Ya h0
 gd [.lp 7 ⟨104,[0,1,2,6,7,8,9,10,11],[.val (.sl AE),.val (.int .i64),.val (.int .i64),.val (.int .i64),.val (.int .i64),.own (.int .i64),.val (.int .i64),.val .bool,.val (.int .i64)],[],[]⟩ [.exit 0,.ret] (G5 AMR)] [] [] (Fs.cons (s:=none) h r0) Al AG Tryz.func110 (by kernel_rfl) (fun _=>(AD (fun x=>by kernel_rfl) AF)) (fun x=>by kernel_rfl)
theorem AK2 (n:Nat):Good V 110 (OI (FU n)):=by
 induction n with
 |zero=>exact E2 ⟨_,h0.prog ▸ Tryz.func110,by decide,rfl⟩ (fun _=>rfl)
 |succ n ih=>exact AKZ h0 (FU n) ih
def Xc:FL:=(110,none,ADY)::R_
theorem g40:Fs Tryz.prog V Xc:=(Fs.cons (s:=none) (Ya h0) (AK2 h0 BB))
def ADj:Callee:=⟨[.val (.sl AE),.val (.int .i64)],[.val (.sl (.int .i64))],fun x=>M0 x.1 x.2.1⟩
def WZ:FL:=(234,none,ADj)::Xc
theorem g41:Fs Tryz.prog V WZ:=
 have h:=g40 h0
 h.cons (gd [.lp 4 ⟨33,[0,1,5,6,7],[.val (.sl AE),.val (.int .i64),.own (.int .i64),.val (.int .i64),.val (.int .i64)],[],[]⟩ [.exit 0] I0] [] [] h Al AG Tryz.func234 (by kernel_rfl) (fun _=>(AD (fun x=>by kernel_rfl) AF)) (fun x=>by kernel_rfl))
def AGn:Callee:=⟨[.val (.sl AE),.val (.int .i64)],[.val (.pair .str Bb)],fun x=>MM x.1 x.2.1⟩
def SW:FL:=(167,none,AGn)::WZ
theorem g42:Fs Tryz.prog V SW:=
 have h:=g41 h0
 h.cons (gz h Al Tryz.func167 (by kernel_rfl) (fun x=>by kernel_rfl))
def AFC:Callee:=⟨[.val (.sl (.int .i64)),.val (.sl (.int .i64))],[.val .bool],fun x=>ML x.1 x.2.1⟩
def XN:FL:=(168,none,AFC)::SW
theorem g43:Fs Tryz.prog V XN:=
 have h:=g42 h0
 h.cons (gd [.lp 4 ⟨26,[0,1,4,5],[.val (.sl (.int .i64)),.val (.sl (.int .i64)),.val .bool,.val (.int .i64)],[],[]⟩ [.exit 0,.ret] Lf] [] [] h Al AG Tryz.func168 (by kernel_rfl) (fun _=>(AD (fun x=>by kernel_rfl) AF)) (fun x=>by kernel_rfl))
def AFL:Callee:=⟨[.val (.sl AE)],[.val .bool],fun x=>NP x.1⟩
def SJ:FL:=(111,none,AFL)::XN
theorem g44:Fs Tryz.prog V SJ:=
 have h:=g43 h0
 h.cons (gd [.lp 10 ⟨137,[0,2,3,4,5,6,7],[.val (.sl AE),.val .bool,.row BI,.row (.pair .str Bb),.val (.int .i64),.val .bool,.val (.int .i64)],[],[]⟩ [.exit 3,.ret] HH,.lp 22 ⟨137,[0,2,3,4,5,8,9,10],[.val (.sl AE),.val .bool,.row BI,.row (.pair .str Bb),.val (.int .i64),.box (.dat (.pair .str Bb)),.val .bool,.val (.int .i64)],[],[]⟩ [.exit 5,.ret] Hw,.lp 4 ⟨137,[0,2,3,4,5],[.val (.sl AE),.val .bool,.own BI,.own (.pair .str Bb),.val (.int .i64)],[],[]⟩ [.exit 0,.ret] Gq,.lp 34 ⟨137,[2,3,4,11,12],[.val .bool,.row BI,.row (.pair .str Bb),.val (.int .i64),.val (.int .i64)],[],[]⟩ [.exit 9,.ret] HB,.lp 31 ⟨137,[2,3,4,11],[.val .bool,.row BI,.row (.pair .str Bb),.val (.int .i64)],[],[]⟩ [.exit 7,.ret] GI] [] [] h Al AG Tryz.func111 (by kernel_rfl) (fun _=>(AD (fun x=>by kernel_rfl) (AD (fun x=>by kernel_rfl) (AD (fun x=>by kernel_rfl) (AD (fun x=>by kernel_rfl) (AD (fun x=>by kernel_rfl) AF)))))) (fun x=>by kernel_rfl))
def ADe:Callee:=⟨[.val (.sl AE)],[.val (.int .i64)],fun x=>Mh x.1⟩
def UL:FL:=(72,none,ADe)::SJ
theorem g45:Fs Tryz.prog V UL:=
 have h:=g44 h0
 h.cons (gz h Al Tryz.func72 (by kernel_rfl) (fun x=>by kernel_rfl))
def AGc:Callee:=⟨[.val (.sl AE)],[.val .bool],fun x=>K8 x.1⟩
def YM:FL:=(38,none,AGc)::UL
theorem g46:Fs Tryz.prog V YM:=
 have h:=g45 h0
 h.cons (gz h Al Tryz.func38 (by kernel_rfl) (fun x=>by kernel_rfl))
def AHj:Callee:=⟨[.val Au],[.val (.sl AE),.val (.int .i64)],fun x=>GV x.1⟩
def T3:FL:=(11,none,AHj)::YM
theorem g47:Fs Tryz.prog V T3:=
 have h:=g46 h0
 h.cons (gd [.lp 11 ⟨60,[1,2,3,4,5],[.box (.dat Au),.val (.sl AE),.val (.int .i64),.val (.sl AE),.val (.int .i64)],[],[]⟩ [.exit 1,.ret] IH] [] [] h Al AG Tryz.func11 (by kernel_rfl) (fun _=>(AD (fun x=>by kernel_rfl) AF)) (fun x=>by kernel_rfl))
def ADt:Callee:=⟨[.box (.dat Bb),.val (.int .i64),.val (.sl BI)],[.val (.sl AE)],fun x=>DS x.1 x.2.1 x.2.2.1⟩
def Y3:FL:=(52,none,ADt)::T3
theorem g48:Fs Tryz.prog V Y3:=
 have h:=g47 h0
 h.cons (gd [.lp 3 ⟨55,[0,1,2,7,8],[.box (.dat Bb),.val (.int .i64),.val (.sl BI),.own BI,.val (.int .i64)],[0],[]⟩ [.exit 0] JO] [] [] h Al AG Tryz.func52 (by kernel_rfl) (fun _=>(AD (fun x=>by kernel_rfl) AF)) (fun x=>by kernel_rfl))
def AEq:Callee:=⟨[.box (.dat Bb)],[.val .bool],fun x=>M7 x.1⟩
def VP:FL:=(51,none,AEq)::Y3
theorem ZC:Fs Tryz.prog V VP:=
 have h:=g48 h0
 h.cons (gz h Al Tryz.func51 (by kernel_rfl) (fun x=>by kernel_rfl))
def AA3:Callee:=⟨[.val (.int .i64),.val (.sl (.sl AE))],[.val (.sl AE)],fun x=>B4 x.1 x.2.1⟩
def Uj:FL:=(54,none,AA3)::VP
theorem g50:Fs Tryz.prog V Uj:=
 have h:=ZC h0
 h.cons (gz h Al Tryz.func54 (by kernel_rfl) (fun x=>by kernel_rfl))
def AJp:Callee:=⟨[.val .str,.val .str],[.val .str],fun x=>Hz x.1 x.2.1⟩
def Uh:FL:=(58,none,AJp)::Uj
theorem g51:Fs Tryz.prog V Uh:=
 have h:=g50 h0
 h.cons (gz h Al Tryz.func58 (by kernel_rfl) (fun x=>by kernel_rfl))
def AAG:Callee:=⟨[.box (.dat Bb)],[.val .str],fun x=>EK x.1⟩
def Y2:FL:=(24,none,AAG)::Uh
theorem g52:Fs Tryz.prog V Y2:=
 have h:=g51 h0
 h.cons (gz h Al Tryz.func24 (by kernel_rfl) (fun x=>by kernel_rfl))
def Z7:Callee:=⟨[.val .str,.val .str],[.val .str],fun x=>L0 x.1 x.2.1⟩
def TL:FL:=(172,none,Z7)::Y2
theorem g53:Fs Tryz.prog V TL:=
 have h:=g52 h0
 h.cons (gz h Al Tryz.func172 (by kernel_rfl) (fun x=>by kernel_rfl))
def ADG:Callee:=⟨[.box (.dat Bb)],[.val .str],fun x=>Oe x.1⟩
def Xx:FL:=(115,none,ADG)::TL
theorem g54:Fs Tryz.prog V Xx:=
 have h:=g53 h0
 h.cons (gz h Al Tryz.func115 (by kernel_rfl) (fun x=>by kernel_rfl))
def AFU:Callee:=⟨[.box (.dat Bb),.val (.int .i64)],[.val .str],fun x=>EB x.1 x.2.1⟩
def Xi:FL:=(75,none,AFU)::Xx
theorem I8:Fs Tryz.prog V Xi:=
 have h:=g54 h0
 h.cons (gz h Al Tryz.func75 (by kernel_rfl) (fun x=>by kernel_rfl))
def GM (g:Af->Int->Int->List Vr->Option (((List Ac)×Unit)×(Af×Unit))):Callee:=⟨[.box (.dat Bb),.val (.int .i64),.val (.int .i64),.val (.sl BI)],[.val (.sl AE)],fun x=>g x.1 x.2.1 x.2.2.1 x.2.2.2.1⟩
def AIy:Callee:=GM (Cu BB)
def GK (g:Af->Int->List Vr->Option (((List Ac)×Unit)×(Af×Unit))):Callee:=⟨[.box (.dat Bb),.val (.int .i64),.val (.sl BI)],[.val (.sl AE)],fun x=>g x.1 x.2.1 x.2.2.1⟩
def ALs:Callee:=GK (CY BB)
def GZ (g:Af->Int->Int->List Vr->Option (((List Ac)×Unit)×(Af×Unit))):Callee:=⟨[.box (.dat Bb),.val (.int .i64),.val (.int .i64),.val (.sl BI)],[.val (.sl AE)],fun x=>g x.1 x.2.1 x.2.2.1 x.2.2.2.1⟩
def AKN:Callee:=GZ (Df BB)
def G8 (g:Af->Int->Int->List Vr->Option (((List Ac)×Unit)×(Af×Unit))):Callee:=⟨[.box (.dat Bb),.val (.int .i64),.val (.int .i64),.val (.sl BI)],[.val (.sl AE)],fun x=>g x.1 x.2.1 x.2.2.1 x.2.2.2.1⟩
def AEa:Callee:=G8 (C_ BB)
def G3 (g:Af->Int->List Vr->Option (((List Ac)×Unit)×(Af×Unit))):Callee:=⟨[.box (.dat Bb),.val (.int .i64),.val (.sl BI)],[.val (.sl AE)],fun x=>g x.1 x.2.1 x.2.2.1⟩
def AHs:Callee:=G3 (C9 BB)
theorem ZB (AMM:Af->Int->Int->List Vr->Option (((List Ac)×Unit)×(Af×Unit))) (AML:Af->Int->List Vr->Option (((List Ac)×Unit)×(Af×Unit))) (AMP:Af->Int->Int->List Vr->Option (((List Ac)×Unit)×(Af×Unit))) (AMN:Af->Int->Int->List Vr->Option (((List Ac)×Unit)×(Af×Unit))) (AMO:Af->Int->List Vr->Option (((List Ac)×Unit)×(Af×Unit))) (r0:Good V 20 (GM AMM)) (r1:Good V 53 (GK AML)) (r2:Good V 55 (GZ AMP)) (r3:Good V 56 (G8 AMN)) (r4:Good V 90 (G3 AMO)):Good V 20 (GM (Iw AMM AML AMP AMN AMO)):=
 have h:=I8 h0
 gz (Fs.cons (s:=none) (Fs.cons (s:=none) (Fs.cons (s:=none) (Fs.cons (s:=none) (Fs.cons (s:=none) h r0) r1) r2) r3) r4) Al Tryz.func20 (by kernel_rfl) (fun x=>by kernel_rfl)
theorem ALC (AMM:Af->Int->Int->List Vr->Option (((List Ac)×Unit)×(Af×Unit))) (AML:Af->Int->List Vr->Option (((List Ac)×Unit)×(Af×Unit))) (AMP:Af->Int->Int->List Vr->Option (((List Ac)×Unit)×(Af×Unit))) (AMN:Af->Int->Int->List Vr->Option (((List Ac)×Unit)×(Af×Unit))) (AMO:Af->Int->List Vr->Option (((List Ac)×Unit)×(Af×Unit))) (r0:Good V 20 (GM AMM)) (r1:Good V 53 (GK AML)) (r2:Good V 55 (GZ AMP)) (r3:Good V 56 (G8 AMN)) (r4:Good V 90 (G3 AMO)):Good V 53 (GK (Jv AMM AML AMP AMN AMO)):=
 have h:=I8 h0
 gd [.lp 13 ⟨94,[0,1,2,7,8],[.box (.dat Bb),.val (.int .i64),.val (.sl BI),.own (.sl AE),.val (.int .i64)],[0],[]⟩ [.exit 1] (F6 AMM AML AMP AMN AMO)] [] [] (Fs.cons (s:=none) (Fs.cons (s:=none) (Fs.cons (s:=none) (Fs.cons (s:=none) (Fs.cons (s:=none) h r0) r1) r2) r3) r4) Al AG Tryz.func53 (by kernel_rfl) (fun _=>(AD (fun x=>by kernel_rfl) AF)) (fun x=>by kernel_rfl)
theorem ADI (AMM:Af->Int->Int->List Vr->Option (((List Ac)×Unit)×(Af×Unit))) (AML:Af->Int->List Vr->Option (((List Ac)×Unit)×(Af×Unit))) (AMP:Af->Int->Int->List Vr->Option (((List Ac)×Unit)×(Af×Unit))) (AMN:Af->Int->Int->List Vr->Option (((List Ac)×Unit)×(Af×Unit))) (AMO:Af->Int->List Vr->Option (((List Ac)×Unit)×(Af×Unit))) (r0:Good V 20 (GM AMM)) (r1:Good V 53 (GK AML)) (r2:Good V 55 (GZ AMP)) (r3:Good V 56 (G8 AMN)) (r4:Good V 90 (G3 AMO)):Good V 55 (GZ (MA AMM AML AMP AMN AMO)):=
 have h:=I8 h0
 gz (Fs.cons (s:=none) (Fs.cons (s:=none) (Fs.cons (s:=none) (Fs.cons (s:=none) (Fs.cons (s:=none) h r0) r1) r2) r3) r4) Al Tryz.func55 (by kernel_rfl) (fun x=>by kernel_rfl)
theorem AF5 (AMM:Af->Int->Int->List Vr->Option (((List Ac)×Unit)×(Af×Unit))) (AML:Af->Int->List Vr->Option (((List Ac)×Unit)×(Af×Unit))) (AMP:Af->Int->Int->List Vr->Option (((List Ac)×Unit)×(Af×Unit))) (AMN:Af->Int->Int->List Vr->Option (((List Ac)×Unit)×(Af×Unit))) (AMO:Af->Int->List Vr->Option (((List Ac)×Unit)×(Af×Unit))) (r0:Good V 20 (GM AMM)) (r1:Good V 53 (GK AML)) (r2:Good V 55 (GZ AMP)) (r3:Good V 56 (G8 AMN)) (r4:Good V 90 (G3 AMO)):Good V 56 (G8 (Ox AMM AML AMP AMN AMO)):=
 have h:=I8 h0
 gd [.lp 5 ⟨122,[0,1,2,3,10,11],[.box (.dat Bb),.val (.int .i64),.val (.int .i64),.val (.sl BI),.row (.sl AE),.val (.int .i64)],[0],[]⟩ [.exit 1] (K7 AMM AML AMP AMN AMO)] [24] [(15,[12],[88,89])] (Fs.cons (s:=none) (Fs.cons (s:=none) (Fs.cons (s:=none) (Fs.cons (s:=none) (Fs.cons (s:=none) h r0) r1) r2) r3) r4) Al AG Tryz.func56 (by kernel_rfl) (fun _=>(AD (fun x=>by kernel_rfl) AF)) (fun x=>by kernel_rfl)
theorem AJx (AMM:Af->Int->Int->List Vr->Option (((List Ac)×Unit)×(Af×Unit))) (AML:Af->Int->List Vr->Option (((List Ac)×Unit)×(Af×Unit))) (AMP:Af->Int->Int->List Vr->Option (((List Ac)×Unit)×(Af×Unit))) (AMN:Af->Int->Int->List Vr->Option (((List Ac)×Unit)×(Af×Unit))) (AMO:Af->Int->List Vr->Option (((List Ac)×Unit)×(Af×Unit))) (r0:Good V 20 (GM AMM)) (r1:Good V 53 (GK AML)) (r2:Good V 55 (GZ AMP)) (r3:Good V 56 (G8 AMN)) (r4:Good V 90 (G3 AMO)):Good V 90 (G3 (Mv AMM AML AMP AMN AMO)):=
 have h:=I8 h0
 gz (Fs.cons (s:=none) (Fs.cons (s:=none) (Fs.cons (s:=none) (Fs.cons (s:=none) (Fs.cons (s:=none) h r0) r1) r2) r3) r4) Al Tryz.func90 (by kernel_rfl) (fun x=>by kernel_rfl)
theorem LF (n:Nat):Good V 20 (GM (Cu n))/\Good V 53 (GK (CY n))/\Good V 55 (GZ (Df n))/\Good V 56 (G8 (C_ n))/\Good V 90 (G3 (C9 n)):=by
 induction n with
 |zero=>exact ⟨E2 ⟨_,h0.prog ▸ Tryz.func20,by decide,rfl⟩ (fun _=>rfl),E2 ⟨_,h0.prog ▸ Tryz.func53,by decide,rfl⟩ (fun _=>rfl),E2 ⟨_,h0.prog ▸ Tryz.func55,by decide,rfl⟩ (fun _=>rfl),E2 ⟨_,h0.prog ▸ Tryz.func56,by decide,rfl⟩ (fun _=>rfl),E2 ⟨_,h0.prog ▸ Tryz.func90,by decide,rfl⟩ (fun _=>rfl)⟩
 |succ n ih=>exact ⟨ZB h0 (Cu n) (CY n) (Df n) (C_ n) (C9 n) ih.1 ih.2.1 ih.2.2.1 ih.2.2.2.1 ih.2.2.2.2,ALC h0 (Cu n) (CY n) (Df n) (C_ n) (C9 n) ih.1 ih.2.1 ih.2.2.1 ih.2.2.2.1 ih.2.2.2.2,ADI h0 (Cu n) (CY n) (Df n) (C_ n) (C9 n) ih.1 ih.2.1 ih.2.2.1 ih.2.2.2.1 ih.2.2.2.2,AF5 h0 (Cu n) (CY n) (Df n) (C_ n) (C9 n) ih.1 ih.2.1 ih.2.2.1 ih.2.2.2.1 ih.2.2.2.2,AJx h0 (Cu n) (CY n) (Df n) (C_ n) (C9 n) ih.1 ih.2.1 ih.2.2.1 ih.2.2.2.1 ih.2.2.2.2⟩
def XH:FL:=(90,none,AHs)::(56,none,AEa)::(55,none,AKN)::(53,none,ALs)::(20,none,AIy)::Xi
theorem g56:Fs Tryz.prog V XH:=(Fs.cons (s:=none) (Fs.cons (s:=none) (Fs.cons (s:=none) (Fs.cons (s:=none) (Fs.cons (s:=none) (I8 h0) (LF h0 BB).1) (LF h0 BB).2.1) (LF h0 BB).2.2.1) (LF h0 BB).2.2.2.1) (LF h0 BB).2.2.2.2)
def ACM:Callee:=⟨[.box (.dat Bb),.val (.int .i64)],[.val Au],fun x=>I9 x.1 x.2.1⟩
def Wg:FL:=(34,none,ACM)::XH
theorem g57:Fs Tryz.prog V Wg:=
 have h:=g56 h0
 h.cons (gd [.lp 7 ⟨42,[0,4,5,6],[.box (.dat Bb),.box (.dat Au),.box (.dat Au),.val (.int .i64)],[0],[]⟩ [.exit 1] Mj] [] [(9,[5],[33,100005])] h Al AG Tryz.func34 (by kernel_rfl) (fun _=>(AD (fun x=>by kernel_rfl) AF)) (fun x=>by kernel_rfl))
def ZU:Callee:=⟨[.box (.dat Bb),.val (.sl BI)],[.val (.sl Au)],fun x=>Q0 x.1 x.2.1⟩
def Y5:FL:=(64,none,ZU)::Wg
theorem g58:Fs Tryz.prog V Y5:=
 have h:=g57 h0
 h.cons (gd [.lp 3 ⟨24,[0,1,5,6],[.box (.dat Bb),.val (.sl BI),.own Au,.val (.int .i64)],[0],[]⟩ [.exit 0] Kj] [] [] h Al AG Tryz.func64 (by kernel_rfl) (fun _=>(AD (fun x=>by kernel_rfl) AF)) (fun x=>by kernel_rfl))
def AJ9:Callee:=⟨[.val (.sl BI),.val (.sl Au)],[.val (.sl Cj)],fun x=>Qi x.1 x.2.1⟩
def V':FL:=(63,none,AJ9)::Y5
theorem g59:Fs Tryz.prog V V':=
 have h:=g58 h0
 h.cons (gd [.lp 3 ⟨27,[0,1,5,6],[.val (.sl BI),.val (.sl Au),.own Cj,.val (.int .i64)],[],[]⟩ [.exit 0] KA] [] [] h Al AG Tryz.func63 (by kernel_rfl) (fun _=>(AD (fun x=>by kernel_rfl) AF)) (fun x=>by kernel_rfl))
def AIe:Callee:=⟨[.box (.dat Bb),.val (.sl BI)],[.val (.sl Cj)],fun x=>OJ x.1 x.2.1⟩
def UT:FL:=(28,none,AIe)::V'
theorem g60:Fs Tryz.prog V UT:=
 have h:=g59 h0
 h.cons (gz h Al Tryz.func28 (by kernel_rfl) (fun x=>by kernel_rfl))
def AJQ:Callee:=⟨[.val Au],[.val .bool],fun x=>Jp x.1⟩
def WP:FL:=(39,none,AJQ)::UT
theorem g61:Fs Tryz.prog V WP:=
 have h:=g60 h0
 h.cons (gz h Al Tryz.func39 (by kernel_rfl) (fun x=>by kernel_rfl))
def AFg:Callee:=⟨[.val .str],[.val .bool],fun x=>Fa x.1⟩
def VJ:FL:=(78,none,AFg)::WP
theorem g62:Fs Tryz.prog V VJ:=
 have h:=g61 h0
 h.cons (gd [.lp 2 ⟨30,[0,2,6,7,8],[.val .str,.val .bool,.val (.sl (.int .u8)),.val (.int .i64),.val (.int .i64)],[],[]⟩ [.exit 0,.ret] FS] [] [] h Al AG Tryz.func78 (by kernel_rfl) (fun _=>(AD (fun x=>by kernel_rfl) AF)) (fun x=>by kernel_rfl))
def ZS:Callee:=⟨[.val .str],[.val .bool],fun x=>CZ x.1⟩
def Td:FL:=(40,none,ZS)::VJ
theorem g63:Fs Tryz.prog V Td:=
 have h:=g62 h0
 h.cons (gz h Al Tryz.func40 (by kernel_rfl) (fun x=>by kernel_rfl))
def AL9:Callee:=⟨[.val (.int .i64),.val (.int .i64)],[.val (.int .i64)],fun x=>Hq x.1 x.2.1⟩
def WD:FL:=(122,none,AL9)::Td
theorem g64:Fs Tryz.prog V WD:=
 have h:=g63 h0
 h.cons (gd [.lp 1 ⟨12,[0,1],[.val (.int .i64),.val (.int .i64)],[],[]⟩ [.exit 0] L4] [] [] h Al AG Tryz.func122 (by kernel_rfl) (fun _=>(AD (fun x=>by kernel_rfl) AF)) (fun x=>by kernel_rfl))
def AF2:Callee:=⟨[.val .str],[.val Eb,.val .bool],fun x=>BU x.1⟩
def VM:FL:=(79,none,AF2)::WD
theorem g65:Fs Tryz.prog V VM:=
 have h:=g64 h0
 h.cons (gz h Al Tryz.func79 (by kernel_rfl) (fun x=>by kernel_rfl))
def AEo:Callee:=⟨[.val (.sl (.int .u32))],[.val (.sl (.int .u32))],fun x=>Eu x.1⟩
def XP:FL:=(183,none,AEo)::VM
theorem g66:Fs Tryz.prog V XP:=
 have h:=g65 h0
 h.cons (gd [.lp 2 ⟨21,[0,3],[.val (.sl (.int .u32)),.val (.int .i64)],[],[]⟩ [.exit 0] Ez] [] [] h Al AG Tryz.func183 (by kernel_rfl) (fun _=>(AD (fun x=>by kernel_rfl) AF)) (fun x=>by kernel_rfl))
def AG4:Callee:=⟨[.val .str],[.val (.sl (.int .u32))],fun x=>HE x.1⟩
def S3:FL:=(123,none,AG4)::XP
theorem g67:Fs Tryz.prog V S3:=
 have h:=g66 h0
 h.cons (gd [.lp 7 ⟨39,[0,3,4,5,20,21,22],[.val .str,.row (.int .u32),.val (.int .i64),.val (.int .u32),.val (.sl (.int .u8)),.val (.int .i64),.val (.int .i64)],[],[]⟩ [.exit 2] Jd,.lp 3 ⟨39,[0,3,4],[.val .str,.own (.int .u32),.val (.int .i64)],[],[]⟩ [.exit 0] J6] [] [] h Al AG Tryz.func123 (by kernel_rfl) (fun _=>(AD (fun x=>by kernel_rfl) (AD (fun x=>by kernel_rfl) AF))) (fun x=>by kernel_rfl))
def ALL:Callee:=⟨[.val (.sl (.int .u32)),.val (.sl (.int .u32))],[.val (.int .i64)],fun x=>If x.1 x.2.1⟩
def VQ:FL:=(248,none,ALL)::S3
theorem g68:Fs Tryz.prog V VQ:=
 have h:=g67 h0
 h.cons (gd [.lp 4 ⟨43,[0,1,4,5],[.val (.sl (.int .u32)),.val (.sl (.int .u32)),.val (.int .i64),.val (.int .i64)],[],[]⟩ [.exit 0,.ret] Iy] [] [] h Al AG Tryz.func248 (by kernel_rfl) (fun _=>(AD (fun x=>by kernel_rfl) AF)) (fun x=>by kernel_rfl))
def AGN:Callee:=⟨[.val (.sl (.int .u32)),.val (.int .u32)],[.val (.sl (.int .u32)),.val (.sl (.int .u32))],fun x=>IX x.1 x.2.1⟩
def Tj:FL:=(249,none,AGN)::VQ
theorem RW:Fs Tryz.prog V Tj:=
 have h:=g68 h0
 h.cons (gd [.lp 4 ⟨46,[0,1,6,7,8],[.val (.sl (.int .u32)),.val (.int .u32),.row (.int .u32),.val (.int .u64),.val (.int .i64)],[],[]⟩ [.exit 0] L'] [] [] h Al AG Tryz.func249 (by kernel_rfl) (fun _=>(AD (fun x=>by kernel_rfl) AF)) (fun x=>by kernel_rfl))
def AIS:Callee:=⟨[.row (.int .u32)],[.view 0],fun x=>Oz x.1⟩
theorem Zx:Good V 183 AIS:=
 have h:=RW h0
 gd [.lp 2 ⟨21,[0,3],[.row (.int .u32),.val (.int .i64)],[0],[]⟩ [.exit 0] NM] [] [] h Al AG Tryz.func183 (by kernel_rfl) (fun _=>(AD (fun x=>by kernel_rfl) AF)) (fun x=>by kernel_rfl)
def AAl:Callee:=⟨[.val (.sl (.int .u32)),.val (.sl (.int .u32))],[.own (.int .u32)],fun x=>LV x.1 x.2.1⟩
theorem ALM:Good V 250 AAl:=
 have h:=RW h0
 gd [.lp 7 ⟨69,[1,5,6,7,8,18,19,20,25,26,27],[.val (.sl (.int .u32)),.row (.int .u32),.val (.int .i64),.val (.int .u32),.val (.int .u64),.val (.sl (.int .u32)),.val (.int .i64),.val (.int .i64),.val (.sl (.int .u32)),.val (.int .i64),.val (.int .i64)],[],[]⟩ [.exit 2] Xf,.lp 3 ⟨69,[1,5,18,19,20],[.val (.sl (.int .u32)),.row (.int .u32),.val (.sl (.int .u32)),.val (.int .i64),.val (.int .i64)],[],[]⟩ [.exit 0] QU] [] [] (Fs.cons (s:=none) h (Zx h0)) Al AG Tryz.func250 (by kernel_rfl) (fun _=>(AD (fun x=>by kernel_rfl) (AD (fun x=>by kernel_rfl) AF))) (fun x=>by kernel_rfl)
def AEr:Callee:=⟨[.row (.int .u32),.val (.sl (.int .u32)),.val (.int .u64)],[.val .bool],fun x=>KM x.1 x.2.1 x.2.2.1⟩
def Ur:FL:=(300,none,AEr)::Tj
theorem g70:Fs Tryz.prog V Ur:=
 have h:=RW h0
 h.cons (gd [.lp 3 ⟨54,[0,1,2,7,8,12,13],[.row (.int .u32),.val (.sl (.int .u32)),.val (.int .u64),.val (.int .u64),.val (.int .i64),.val (.int .i64),.val (.int .i64)],[0],[]⟩ [.exit 0] Fu] [] [] h Al AG Tryz.func300 (by kernel_rfl) (fun _=>(AD (fun x=>by kernel_rfl) AF)) (fun x=>by kernel_rfl))
def AHB:Callee:=⟨[.val (.sl (.int .u32)),.val (.int .i64)],[.val (.int .u32)],fun x=>Hf x.1 x.2.1⟩
def R5:FL:=(333,none,AHB)::Ur
theorem g71:Fs Tryz.prog V R5:=
 have h:=g70 h0
 h.cons (gz h Al Tryz.func333 (by kernel_rfl) (fun x=>by kernel_rfl))
def AJK:Callee:=⟨[.row (.int .u32),.val (.sl (.int .u32))],[],fun x=>Lq x.1 x.2.1⟩
def Yy:FL:=(301,none,AJK)::R5
theorem g72:Fs Tryz.prog V Yy:=
 have h:=g71 h0
 h.cons (gd [.lp 2 ⟨30,[0,1,4,8,9],[.row (.int .u32),.val (.sl (.int .u32)),.val (.int .u32),.val (.int .i64),.val (.int .i64)],[0],[]⟩ [.exit 0] K3] [] [] h Al AG Tryz.func301 (by kernel_rfl) (fun _=>(AD (fun x=>by kernel_rfl) AF)) (fun x=>by kernel_rfl))
def AK7:Callee:=⟨[.row (.int .u32),.val (.sl (.int .u32))],[.val (.int .u32)],fun x=>Ka x.1 x.2.1⟩
def V6:FL:=(251,none,AK7)::Yy
theorem g73:Fs Tryz.prog V V6:=
 have h:=g72 h0
 h.cons (gd [.lp 4 ⟨77,[0,1,5,7,8,9],[.row (.int .u32),.val (.sl (.int .u32)),.val (.int .i64),.val (.int .u64),.val (.int .u64),.val (.int .u64)],[0],[]⟩ [.exit 0] EW] [] [] h Al AG Tryz.func251 (by kernel_rfl) (fun _=>(AD (fun x=>by kernel_rfl) AF)) (fun x=>by kernel_rfl))
def AFo:Callee:=⟨[.val (.sl (.int .u32)),.val (.sl (.int .u32))],[.val (.sl (.int .u32)),.val (.sl (.int .u32))],fun x=>G' x.1 x.2.1⟩
def SK:FL:=(184,none,AFo)::V6
theorem g74:Fs Tryz.prog V SK:=
 have h:=g73 h0
 h.cons (gd [.lp 7 ⟨93,[0,6,7,8],[.val (.sl (.int .u32)),.val (.sl (.int .u32)),.row (.int .u32),.row (.int .u32)],[],[]⟩ [.exit 1] JV,.lp 11 ⟨93,[6,7,8,9,10],[.val (.sl (.int .u32)),.row (.int .u32),.row (.int .u32),.row (.int .u32),.val (.int .i64)],[],[7]⟩ [.exit 3] IA] [] [] (Fs.cons (s:=none) h (ALM h0)) Al AG Tryz.func184 (by kernel_rfl) (fun _=>(AD (fun x=>by kernel_rfl) (AD (fun x=>by kernel_rfl) AF))) (fun x=>by kernel_rfl))
def AIA:Callee:=⟨[.val (.sl (.int .u32)),.val (.sl (.int .u32))],[.val (.sl (.int .u32))],fun x=>Jr x.1 x.2.1⟩
def Tm:FL:=(124,none,AIA)::SK
theorem g75:Fs Tryz.prog V Tm:=
 have h:=g74 h0
 h.cons (gd [.lp 1 ⟨19,[0,1],[.val (.sl (.int .u32)),.val (.sl (.int .u32))],[],[]⟩ [.exit 0] K9] [] [] h Al AG Tryz.func124 (by kernel_rfl) (fun _=>(AD (fun x=>by kernel_rfl) AF)) (fun x=>by kernel_rfl))
def AHf:Callee:=⟨[.val (.sl (.int .u32))],[.val .bool],fun x=>Fo x.1⟩
def SQ:FL:=(125,none,AHf)::Tm
theorem g76:Fs Tryz.prog V SQ:=
 have h:=g75 h0
 h.cons (gz h Al Tryz.func125 (by kernel_rfl) (fun x=>by kernel_rfl))
def ALr:Callee:=⟨[.val .str],[.val CR,.val .bool],fun x=>BY x.1⟩
def SR:FL:=(80,none,ALr)::SQ
theorem g77:Fs Tryz.prog V SR:=
 have h:=g76 h0
 h.cons (gz h Al Tryz.func80 (by kernel_rfl) (fun x=>by kernel_rfl))
def AGk:Callee:=⟨[.val .str],[.val .bool],fun x=>Fl x.1⟩
def SL:FL:=(41,none,AGk)::SR
theorem g78:Fs Tryz.prog V SL:=
 have h:=g77 h0
 h.cons (gz h Al Tryz.func41 (by kernel_rfl) (fun x=>by kernel_rfl))
def AIa:Callee:=⟨[.val .str],[.val (.int .i64)],fun x=>F8 x.1⟩
def XS:FL:=(126,none,AIa)::SL
theorem g79:Fs Tryz.prog V XS:=
 have h:=g78 h0
 h.cons (gz h Al Tryz.func126 (by kernel_rfl) (fun x=>by kernel_rfl))
def Zk:Callee:=⟨[.val .str],[.val .str],fun x=>Kq x.1⟩
def Tg:FL:=(186,none,Zk)::XS
theorem g80:Fs Tryz.prog V Tg:=
 have h:=g79 h0
 h.cons (gz h Al Tryz.func186 (by kernel_rfl) (fun x=>by kernel_rfl))
def AIJ:Callee:=⟨[.val (.int .i64),.val (.int .i64)],[.val .str],fun x=>HF x.1 x.2.1⟩
def YK:FL:=(254,none,AIJ)::Tg
theorem g81:Fs Tryz.prog V YK:=
 have h:=g80 h0
 h.cons (gz h Al Tryz.func254 (by kernel_rfl) (fun x=>by kernel_rfl))
def ALP:Callee:=⟨[.val Eb,.val Eb],[.val .str],fun x=>Kr x.1 x.2.1⟩
def Yd:FL:=(253,none,ALP)::YK
theorem g82:Fs Tryz.prog V Yd:=
 have h:=g81 h0
 h.cons (gz h Al Tryz.func253 (by kernel_rfl) (fun x=>by kernel_rfl))
def ALY:Callee:=⟨[.val (.sl (.int .u32)),.val (.sl (.int .u32))],[.val (.sl (.int .u32))],fun x=>Fz x.1 x.2.1⟩
def UE:FL:=(250,none,ALY)::Yd
theorem g83:Fs Tryz.prog V UE:=
 have h:=g82 h0
 h.cons (gd [.lp 7 ⟨69,[1,5,6,7,8,18,19,20,25,26,27],[.val (.sl (.int .u32)),.row (.int .u32),.val (.int .i64),.val (.int .u32),.val (.int .u64),.val (.sl (.int .u32)),.val (.int .i64),.val (.int .i64),.val (.sl (.int .u32)),.val (.int .i64),.val (.int .i64)],[],[]⟩ [.exit 2] IM,.lp 3 ⟨69,[1,5,18,19,20],[.val (.sl (.int .u32)),.row (.int .u32),.val (.sl (.int .u32)),.val (.int .i64),.val (.int .i64)],[],[]⟩ [.exit 0] HY] [] [] h Al AG Tryz.func250 (by kernel_rfl) (fun _=>(AD (fun x=>by kernel_rfl) (AD (fun x=>by kernel_rfl) AF))) (fun x=>by kernel_rfl))
def AF6:Callee:=⟨[.val (.sl (.int .u32)),.val (.sl (.int .u32))],[.val (.sl (.int .u32))],fun x=>Iu x.1 x.2.1⟩
def Y4:FL:=(303,none,AF6)::UE
theorem g84:Fs Tryz.prog V Y4:=
 have h:=g83 h0
 h.cons (gd [.lp 4 ⟨46,[0,1,5,6,20,21],[.val (.sl (.int .u32)),.val (.sl (.int .u32)),.row (.int .u32),.val (.int .u32),.val (.int .i64),.val (.int .i64)],[],[]⟩ [.exit 0] L_] [] [] h Al AG Tryz.func303 (by kernel_rfl) (fun _=>(AD (fun x=>by kernel_rfl) AF)) (fun x=>by kernel_rfl))
def AHG:Callee:=⟨[.val .bool,.val (.sl (.int .u32)),.val (.sl (.int .u32))],[.val CR],fun x=>Gv x.1 x.2.1 x.2.2.1⟩
def SF:FL:=(275,none,AHG)::Y4
theorem ZM:Fs Tryz.prog V SF:=
 have h:=g84 h0
 h.cons (gz h Al Tryz.func275 (by kernel_rfl) (fun x=>by kernel_rfl))
def ABf:Callee:=⟨[.val (.sl (.int .u32)),.val (.sl (.int .u32))],[.val (.sl (.int .u32))],fun x=>HZ x.1 x.2.1⟩
def TG:FL:=(304,none,ABf)::SF
theorem g86:Fs Tryz.prog V TG:=
 have h:=ZM h0
 h.cons (gd [.lp 4 ⟨41,[0,1,5,6,13,14],[.val (.sl (.int .u32)),.val (.sl (.int .u32)),.row (.int .u32),.val (.int .i64),.val (.int .i64),.val (.int .i64)],[],[]⟩ [.exit 0] Ju] [] [] h Al AG Tryz.func304 (by kernel_rfl) (fun _=>(AD (fun x=>by kernel_rfl) AF)) (fun x=>by kernel_rfl))
def AE8:Callee:=⟨[.val CR,.val CR],[.val CR],fun x=>MS x.1 x.2.1⟩
def YZ:FL:=(256,none,AE8)::TG
theorem g87:Fs Tryz.prog V YZ:=
 have h:=g86 h0
 h.cons (gz h Al Tryz.func256 (by kernel_rfl) (fun x=>by kernel_rfl))
def Zm:Callee:=⟨[.box (.pair .slf (.own (.int .u8))),.val .str],[.val (.int .i64),.val .err],fun x=>Ed x.1 x.2.1⟩
def Yf:FL:=(132,none,Zm)::YZ
theorem g88:Fs Tryz.prog V Yf:=
 have h:=g87 h0
 h.cons (gz h Al Tryz.func132 (by kernel_rfl) (fun x=>by kernel_rfl))
def Wd:Ann:=⟨37,[3],[.box (.pair .slf (.own (.int .u8)))],[0],[]⟩
def ZD:Callee:=⟨[.val (.sl (.int .u32))],[.val .str],fun x=>Hc x.1⟩
def Yk:FL:=(305,none,ZD)::Yf
theorem g89:Fs Tryz.prog V Yk:=
 have h:=g88 h0
 h.cons (gd [.raw 6 (Mi Wd 353 .u32 (.tmp 24) (fun v i y=>(JA v i y).bind fun o=>some (N2 y o)) Mx)] [] [] h Al (Yc ALh AG) Tryz.func305 (by kernel_rfl) (fun hE=>(PC (Wm (A:=Wd) (merge:=N2) (outs:=Mx) (t1:=25) (t2:=26) (s:=26) (d:=5) (round:=JA) hE (h.prog ▸ AAX) (show pick 6 (Bv (fb Tryz.f305))=bb (sr (sl (sr (sr (sr (sr (fb Tryz.f305))))))) from by kernel_rfl) rfl rfl rfl (fun v i y=>by kernel_rfl) (fun y o=>by kernel_rfl) (fun y=>by kernel_rfl) (fun y=>by kernel_rfl) rfl (fun y=>by kernel_rfl)) AF)) (fun x=>by kernel_rfl))
def Zp:Callee:=⟨[.val CR],[.val .str],fun x=>GG x.1⟩
def VL:FL:=(257,none,Zp)::Yk
theorem g90:Fs Tryz.prog V VL:=
 have h:=g89 h0
 h.cons (gz h Al Tryz.func257 (by kernel_rfl) (fun x=>by kernel_rfl))
def AIU:Callee:=⟨[.val CR,.val CR],[.val .str],fun x=>LM x.1 x.2.1⟩
def X2:FL:=(255,none,AIU)::VL
theorem g91:Fs Tryz.prog V X2:=
 have h:=g90 h0
 h.cons (gz h Al Tryz.func255 (by kernel_rfl) (fun x=>by kernel_rfl))
def AEc:Callee:=⟨[.val .str,.val .str,.val (.fnv 253 .unit),.val (.fnv 255 .unit)],[.val .str],fun x=>JL x.1 x.2.1 x.2.2.1 x.2.2.2.1⟩
def Up:FL:=(252,some 253,AEc)::X2
theorem g92:Fs Tryz.prog V Up:=
 have h:=g91 h0
 h.cons (gz h Al Tryz.func252 (by kernel_rfl) (fun x=>by kernel_rfl))
def AER:Callee:=⟨[.val .str,.val .str],[.val .str],fun x=>JM x.1 x.2.1⟩
def VW:FL:=(185,none,AER)::Up
theorem g93:Fs Tryz.prog V VW:=
 have h:=g92 h0
 h.cons (gz h Al Tryz.func185 (by kernel_rfl) (fun x=>by kernel_rfl))
def ACm:Callee:=⟨[.val .str,.val .str],[.val .str],fun x=>LH x.1 x.2.1⟩
def Ws:FL:=(127,none,ACm)::VW
theorem g94:Fs Tryz.prog V Ws:=
 have h:=g93 h0
 h.cons (gz h Al Tryz.func127 (by kernel_rfl) (fun x=>by kernel_rfl))
def AC0:Callee:=⟨[.val .str,.val .str],[.val (.int .i64)],fun x=>Db x.1 x.2.1⟩
def Ww:FL:=(81,none,AC0)::Ws
theorem g95:Fs Tryz.prog V Ww:=
 have h:=g94 h0
 h.cons (gz h Al Tryz.func81 (by kernel_rfl) (fun x=>by kernel_rfl))
def AGE:Callee:=⟨[.val Au],[.val .bool],fun x=>NC x.1⟩
def Xh:FL:=(42,none,AGE)::Ww
theorem g96:Fs Tryz.prog V Xh:=
 have h:=g95 h0
 h.cons (gd [.lp 4 ⟨58,[1,2,13,14,15],[.box (.dat Au),.val .bool,.val (.sl .str),.val (.int .i64),.val (.int .i64)],[],[]⟩ [.exit 0,.ret] Ki] [] [] h Al AG Tryz.func42 (by kernel_rfl) (fun _=>(AD (fun x=>by kernel_rfl) AF)) (fun x=>by kernel_rfl))
def ABC:Callee:=⟨[.val Au],[.val .bool],fun x=>Gs x.1⟩
def SP:FL:=(12,none,ABC)::Xh
theorem g97:Fs Tryz.prog V SP:=
 have h:=g96 h0
 h.cons (gz h Al Tryz.func12 (by kernel_rfl) (fun x=>by kernel_rfl))
def AJX:Callee:=⟨[.val (.sl Cj)],[.val (.map Au),.val .bool],fun x=>Kh x.1⟩
def Xg:FL:=(65,none,AJX)::SP
theorem g98:Fs Tryz.prog V Xg:=
 have h:=g97 h0
 h.cons (gd [.lp 3 ⟨36,[2,3,4,10,11,12],[.val (.map Au),.val .bool,.mp Au,.val (.sl Cj),.val (.int .i64),.val (.int .i64)],[],[]⟩ [.exit 0,.ret] Gi] [] [] h Al AG Tryz.func65 (by kernel_rfl) (fun _=>(AD (fun x=>by kernel_rfl) AF)) (fun x=>by kernel_rfl))
def AG9:Callee:=⟨[.val Au],[.val .bool],fun x=>P8 x.1⟩
def V9:FL:=(143,none,AG9)::Xg
theorem g99:Fs Tryz.prog V V9:=
 have h:=g98 h0
 h.cons (gz h Al Tryz.func143 (by kernel_rfl) (fun x=>by kernel_rfl))
def AHo:Callee:=⟨[.val (.sl Au),.val (.fnv 143 .unit)],[.val (.int .i64)],fun x=>O' x.1 x.2.1⟩
def Sf:FL:=(201,some 143,AHo)::V9
theorem AMs:Fs Tryz.prog V Sf:=
 have h:=g99 h0
 h.cons (gd [.lp 2 ⟨19,[0,1,4,7,8],[.val (.sl Au),.val (.fnv 143 .unit),.val (.int .i64),.val (.int .i64),.val (.int .i64)],[],[]⟩ [.exit 0,.ret] KP] [] [] h Al AG Tryz.func201 (by kernel_rfl) (fun _=>(AD (fun x=>by kernel_rfl) AF)) (fun x=>by kernel_rfl))
def ABR:Callee:=⟨[.val (.sl Au),.val (.fnv 143 .unit)],[.val .bool],fun x=>Qw x.1 x.2.1⟩
def Xl:FL:=(142,some 143,ABR)::Sf
theorem AGv:Fs Tryz.prog V Xl:=
 have h:=AMs h0
 h.cons (gz h Al Tryz.func142 (by kernel_rfl) (fun x=>by kernel_rfl))
def AL4:Callee:=⟨[.val (.sl Au)],[.val .bool],fun x=>Kp x.1⟩
def YP:FL:=(97,none,AL4)::Xl
theorem AB5:Fs Tryz.prog V YP:=
 have h:=AGv h0
 h.cons (gz h Al Tryz.func97 (by kernel_rfl) (fun x=>by kernel_rfl))
def AB7:Callee:=⟨[.val (.sl Au)],[.val .bool],fun x=>Qj x.1⟩
def RZ:FL:=(99,none,AB7)::YP
theorem ADi:Fs Tryz.prog V RZ:=
 have h:=AB5 h0
 h.cons (gz h Al Tryz.func99 (by kernel_rfl) (fun x=>by kernel_rfl))
def AAf:Callee:=⟨[.val (.sl (.sl Au)),.val (.fnv 99 .unit)],[.val (.int .i64)],fun x=>P0 x.1 x.2.1⟩
def Yw:FL:=(144,some 99,AAf)::RZ
theorem AMu:Fs Tryz.prog V Yw:=
 have h:=ADi h0
 h.cons (gd [.lp 2 ⟨19,[0,1,4,7,8],[.val (.sl (.sl Au)),.val (.fnv 99 .unit),.val (.int .i64),.val (.int .i64),.val (.int .i64)],[],[]⟩ [.exit 0,.ret] J0] [] [] h Al AG Tryz.func144 (by kernel_rfl) (fun _=>(AD (fun x=>by kernel_rfl) AF)) (fun x=>by kernel_rfl))
def AMw:Callee:=⟨[.val (.sl (.sl Au)),.val (.fnv 99 .unit)],[.val .bool],fun x=>OH x.1 x.2.1⟩
def Uo:FL:=(98,some 99,AMw)::Yw
theorem AJ4:Fs Tryz.prog V Uo:=
 have h:=AMu h0
 h.cons (gz h Al Tryz.func98 (by kernel_rfl) (fun x=>by kernel_rfl))
def ACj:Callee:=⟨[.val (.sl Bx)],[.val (.map Bx),.val .bool],fun x=>LR x.1⟩
def Yg:FL:=(66,none,ACj)::Uo
theorem AF4:Fs Tryz.prog V Yg:=
 have h:=AJ4 h0
 h.cons (gd [.lp 3 ⟨53,[2,3,4,10,11,12],[.val (.map Bx),.val .bool,.mp Bx,.val (.sl Bx),.val (.int .i64),.val (.int .i64)],[],[]⟩ [.exit 0,.ret] Gb] [] [] h Al AG Tryz.func66 (by kernel_rfl) (fun _=>(AD (fun x=>by kernel_rfl) AF)) (fun x=>by kernel_rfl))
def ACI:Callee:=⟨[.val (.int .i64),.val .str],[.val .bool],fun x=>NL x.1 x.2.1⟩
def Wz:FL:=(236,none,ACI)::Yg
theorem AFj:Fs Tryz.prog V Wz:=
 have h:=AF4 h0
 h.cons (gz h Al Tryz.func236 (by kernel_rfl) (fun x=>by kernel_rfl))
def AEE:Callee:=⟨[.val (.int .i64)],[.val .bool],fun x=>KC x.1⟩
def Wk:FL:=(214,none,AEE)::Wz
theorem ADU:Fs Tryz.prog V Wk:=
 have h:=AFj h0
 h.cons (gz h Al Tryz.func214 (by kernel_rfl) (fun x=>by kernel_rfl))
def AJ0:Callee:=⟨[.val (.int .u8)],[.val .bool],fun x=>J_ x.1⟩
def Y0:FL:=(271,none,AJ0)::Wk
theorem AIT:Fs Tryz.prog V Y0:=
 have h:=ADU h0
 h.cons (gz h Al Tryz.func271 (by kernel_rfl) (fun x=>by kernel_rfl))
def ABO:Callee:=⟨[.val .str],[.val .bool],fun x=>PR x.1⟩
def U9:FL:=(272,none,ABO)::Y0
theorem AIC:Fs Tryz.prog V U9:=
 have h:=AIT h0
 h.cons (gz h Al Tryz.func272 (by kernel_rfl) (fun x=>by kernel_rfl))
def AMl:Callee:=⟨[.val .str],[.val .bool],fun x=>Le x.1⟩
def WU:FL:=(213,none,AMl)::U9
theorem ZH:Fs Tryz.prog V WU:=
 have h:=AIC h0
 h.cons (gd [.lp 4 ⟨51,[0,2,23,24],[.val .str,.val .bool,.val (.int .i64),.val (.int .i64)],[],[]⟩ [.exit 0,.ret] KG] [] [] h Al AG Tryz.func213 (by kernel_rfl) (fun _=>(AD (fun x=>by kernel_rfl) AF)) (fun x=>by kernel_rfl))
def AIG:Callee:=⟨[.val AE],[.val .bool],fun x=>NO x.1⟩
def V3:FL:=(173,none,AIG)::WU
theorem AEe:Fs Tryz.prog V V3:=
 have h:=ZH h0
 h.cons (gz h Al Tryz.func173 (by kernel_rfl) (fun x=>by kernel_rfl))
def ALd:Callee:=⟨[.val (.int .i64),.val (.int .i64)],[.val .bool],fun x=>KZ x.1 x.2.1⟩
def TR:FL:=(174,none,ALd)::V3
theorem AKg:Fs Tryz.prog V TR:=
 have h:=AEe h0
 h.cons (gz h Al Tryz.func174 (by kernel_rfl) (fun x=>by kernel_rfl))
def ABk:Callee:=⟨[.val (.int .i64),.val (.ptr (.int .i64))],[.val .bool],fun x=>PQ x.1 x.2.1⟩
def R1:FL:=(290,none,ABk)::TR
theorem AGH:Fs Tryz.prog V R1:=
 have h:=AKg h0
 h.cons (gz h Al Tryz.func290 (by kernel_rfl) (fun x=>by kernel_rfl))
def AEi:Callee:=⟨[.val (.sl (.int .i64)),.val (.fnv 290 (.ptr (.int .i64)))],[.val (.int .i64)],fun x=>QF x.1 x.2.1⟩
def Ti:FL:=(329,some 290,AEi)::R1
theorem AJ7:Fs Tryz.prog V Ti:=
 have h:=AGH h0
 h.cons (gd [.lp 2 ⟨19,[0,1,4,7,8],[.val (.sl (.int .i64)),.val (.fnv 290 (.ptr (.int .i64))),.val (.int .i64),.val (.int .i64),.val (.int .i64)],[],[]⟩ [.exit 0,.ret] LD] [] [] h Al AG Tryz.func329 (by kernel_rfl) (fun _=>(AD (fun x=>by kernel_rfl) AF)) (fun x=>by kernel_rfl))
def AJc:Callee:=⟨[.val (.sl (.int .i64)),.val (.fnv 290 (.ptr (.int .i64)))],[.val .bool],fun x=>Pk x.1 x.2.1⟩
def Tk:FL:=(289,some 290,AJc)::Ti
theorem ADZ:Fs Tryz.prog V Tk:=
 have h:=AJ7 h0
 h.cons (gz h Al Tryz.func289 (by kernel_rfl) (fun x=>by kernel_rfl))
def AEP:Callee:=⟨[.val (.sl (.int .i64)),.val (.int .i64)],[.val .bool],fun x=>DB x.1 x.2.1⟩
def Wc:FL:=(239,none,AEP)::Tk
theorem AAh:Fs Tryz.prog V Wc:=
 have h:=ADZ h0
 h.cons (gz h Al Tryz.func239 (by kernel_rfl) (fun x=>by kernel_rfl))
def Zv:Callee:=⟨[.val .bool,.val (.int .i64)],[.val (.int .i64)],fun x=>BX x.1 x.2.1⟩
def Vs:FL:=(238,none,Zv)::Wc
theorem AHQ:Fs Tryz.prog V Vs:=
 have h:=AAh h0
 h.cons (gz h Al Tryz.func238 (by kernel_rfl) (fun x=>by kernel_rfl))
def AKr:Callee:=⟨[.val (.int .i64)],[.val .bool],fun x=>Hb x.1⟩
def XM:FL:=(240,none,AKr)::Vs
theorem AIY:Fs Tryz.prog V XM:=
 have h:=AHQ h0
 h.cons (gz h Al Tryz.func240 (by kernel_rfl) (fun x=>by kernel_rfl))
def AB3:Callee:=⟨[.val AE,.val (.sl (.int .i64))],[.val (.int .i64)],fun x=>On x.1 x.2.1⟩
def Tp:FL:=(176,none,AB3)::XM
theorem ZY:Fs Tryz.prog V Tp:=
 have h:=AIY h0
 h.cons (gz h Al Tryz.func176 (by kernel_rfl) (fun x=>by kernel_rfl))
def Te:Ann:=⟨142,[4,9,10],[.box (.box (.pair (.dat (.sl AE)) (.own (.pair (.int .i64) Eb)))),.box (.dat (.pair (.int .i64) Eb)),.box (.own (.int .i64))],[0,1,2],[]⟩
def ABH:Callee:=⟨[.val (.sl AE)],[.val (.ptr DD),.val .bool],fun x=>M_ x.1⟩
def TZ:FL:=(116,none,ABH)::Tp
theorem AK3:Fs Tryz.prog V TZ:=
 have h:=ZY h0
 h.cons (gd [.raw 13 (Mi Te 237 .i64 (.tmp 64) (fun v i y=>(JX v i y).bind fun o=>some (IN y o)) Ni),.lp 4 ⟨142,[0,2,3,4,5,6],[.val (.sl AE),.val (.ptr DD),.val .bool,.box (.box (.pair (.dat (.sl AE)) (.own (.pair (.int .i64) Eb)))),.own (.int .i64),.val (.int .i64)],[],[]⟩ [.exit 0,.ret] GX] [] [] h Al (Yc ABd AG) Tryz.func116 (by kernel_rfl) (fun hE=>(PC (Wm (A:=Te) (merge:=IN) (outs:=Ni) (t1:=65) (t2:=66) (s:=66) (d:=12) (round:=JX) hE (h.prog ▸ AIh) (show pick 13 (Bv (fb Tryz.f116))=bb (sr (sl (sr (sr (sr (sr (sr (bb (sl (sr (lb (bb (sr (sl (sr (sr (sr (fb Tryz.f116)))))))))))))))))) from by kernel_rfl) rfl rfl rfl (fun v i y=>by kernel_rfl) (fun y o=>by kernel_rfl) (fun y=>by kernel_rfl) (fun y=>by kernel_rfl) rfl (fun y=>by kernel_rfl)) (AD (fun x=>by kernel_rfl) AF))) (fun x=>by kernel_rfl))
def AC6:Callee:=⟨[.val (.ptr DD)],[.val .bool],fun x=>OT x.1⟩
def Sl:FL:=(117,none,AC6)::TZ
theorem AKQ:Fs Tryz.prog V Sl:=
 have h:=AK3 h0
 h.cons (gz h Al Tryz.func117 (by kernel_rfl) (fun x=>by kernel_rfl))
def Z4:Callee:=⟨[.val (.ptr DD),.val (.int .i64)],[.val (.sl (.int .i64))],fun x=>KX x.1 x.2.1⟩
def WR:FL:=(135,none,Z4)::Sl
theorem ACc:Fs Tryz.prog V WR:=
 have h:=AKQ h0
 h.cons (gd [.lp 4 ⟨33,[0,5,6,16,17],[.val (.ptr DD),.own (.int .i64),.val (.int .i64),.val (.int .i64),.val (.int .i64)],[],[]⟩ [.exit 0] KO] [] [] h Al AG Tryz.func135 (by kernel_rfl) (fun _=>(AD (fun x=>by kernel_rfl) AF)) (fun x=>by kernel_rfl))
def ABb:Callee:=⟨[.val (.ptr DD),.val (.int .i64)],[.val (.pair .str Bb)],fun x=>Ny x.1 x.2.1⟩
def Xt:FL:=(177,none,ABb)::WR
theorem AHY:Fs Tryz.prog V Xt:=
 have h:=ACc h0
 h.cons (gd [.lp 3 ⟨48,[0,4,5,27,28,29],[.val (.ptr DD),.box (.dat (.pair .str Bb)),.box (.pair (.dat .str) (.pair (.own (.int .i64)) (.dat (.int .i64)))),.val (.sl (.int .i64)),.val (.int .i64),.val (.int .i64)],[],[]⟩ [.exit 0] t_view_signature_s3] [] [(1,[0,11,19],[100005])] h Al AG Tryz.func177 (by kernel_rfl) (fun _=>(AD (fun x=>by kernel_rfl) AF)) (fun x=>by kernel_rfl))
def AKn:Callee:=⟨[.val (.sl (.int .i64)),.val (.sl (.int .i64))],[.val .bool],fun x=>MQ x.1 x.2.1⟩
def XV:FL:=(241,none,AKn)::Xt
theorem AK5:Fs Tryz.prog V XV:=
 have h:=AHY h0
 h.cons (gd [.lp 4 ⟨26,[0,1,4,12,13],[.val (.sl (.int .i64)),.val (.sl (.int .i64)),.val .bool,.val (.int .i64),.val (.int .i64)],[],[]⟩ [.exit 0,.ret] Ms] [] [] h Al AG Tryz.func241 (by kernel_rfl) (fun _=>(AD (fun x=>by kernel_rfl) AF)) (fun x=>by kernel_rfl))
def AA8:Callee:=⟨[.val (.pair .str Bb),.val (.pair .str Bb)],[.val .bool],fun x=>LP x.1 x.2.1⟩
def Y':FL:=(178,none,AA8)::XV
theorem AHh:Fs Tryz.prog V Y':=
 have h:=AK5 h0
 h.cons (gz h Al Tryz.func178 (by kernel_rfl) (fun x=>by kernel_rfl))
def AEV:Callee:=⟨[.val (.ptr DD)],[.val (.sl BI),.val (.sl (.pair .str Bb)),.val .bool],fun x=>LZ x.1⟩
def VI:FL:=(118,none,AEV)::Y'
theorem AIH:Fs Tryz.prog V VI:=
 have h:=AHh h0
 h.cons (gd [.lp 5 ⟨113,[0,2,3,4,5,6,7,8,25,26,27],[.val (.ptr DD),.val (.sl BI),.val (.sl (.pair .str Bb)),.val .bool,.mp BI,.mp (.pair .str Bb),.own BI,.own (.pair .str Bb),.val (.sl AE),.val (.int .i64),.val (.int .i64)],[],[]⟩ [.exit 0,.ret] GO] [] [] h Al AG Tryz.func118 (by kernel_rfl) (fun _=>(AD (fun x=>by kernel_rfl) AF)) (fun x=>by kernel_rfl))
def ALH:Callee:=⟨[.val (.sl AE)],[.val (.ptr DD),.val .bool],fun x=>Jx x.1⟩
def TX:FL:=(76,none,ALH)::VI
theorem ZW:Fs Tryz.prog V TX:=
 have h:=AIH h0
 h.cons (gz h Al Tryz.func76 (by kernel_rfl) (fun x=>by kernel_rfl))
def ALg:Callee:=⟨[.val (.sl AE)],[.val .bool],fun x=>KR x.1⟩
def Vj:FL:=(36,none,ALg)::TX
theorem AGy:Fs Tryz.prog V Vj:=
 have h:=ZW h0
 h.cons (gz h Al Tryz.func36 (by kernel_rfl) (fun x=>by kernel_rfl))
def AA2:Callee:=⟨[.box (.dat L8),.val AE],[.val Au,.val (.int .i64)],fun x=>PG x.1 x.2.1⟩
def SI:FL:=(100,none,AA2)::Vj
theorem AAM:Fs Tryz.prog V SI:=
 have h:=AGy h0
 h.cons (gd [] [] [(1,[0,3,12],[100006])] h Al AG Tryz.func100 (by kernel_rfl) (fun _=>AF) (fun x=>by kernel_rfl))
def AGA:Callee:=⟨[.val (.sl .str),.val (.sl .str)],[.val .bool],fun x=>J3 x.1 x.2.1⟩
def Yl:FL:=(49,none,AGA)::SI
theorem AKY:Fs Tryz.prog V Yl:=
 have h:=AAM h0
 h.cons (gd [.lp 4 ⟨26,[0,1,4,12,13],[.val (.sl .str),.val (.sl .str),.val .bool,.val (.int .i64),.val (.int .i64)],[],[]⟩ [.exit 0,.ret] K4] [] [] h Al AG Tryz.func49 (by kernel_rfl) (fun _=>(AD (fun x=>by kernel_rfl) AF)) (fun x=>by kernel_rfl))
def AHz:Callee:=⟨[.val Au,.val Au],[.val .bool],fun x=>Hk x.1 x.2.1⟩
def Tc:FL:=(17,none,AHz)::Yl
theorem AC7:Fs Tryz.prog V Tc:=
 have h:=AKY h0
 h.cons (gz h Al Tryz.func17 (by kernel_rfl) (fun x=>by kernel_rfl))
def AGF:Callee:=⟨[.val (.sl Au),.val (.sl Au),.val (.fnv 17 .unit)],[.val .bool],fun x=>Nx x.1 x.2.1 x.2.2.1⟩
def Vn:FL:=(146,some 17,AGF)::Tc
theorem AEj:Fs Tryz.prog V Vn:=
 have h:=AC7 h0
 h.cons (gd [.lp 4 ⟨32,[1,2,6,15,16,17],[.val (.sl Au),.val (.fnv 17 .unit),.val .bool,.val (.sl Au),.val (.int .i64),.val (.int .i64)],[],[]⟩ [.exit 0,.ret] Lm] [] [] h Al AG Tryz.func146 (by kernel_rfl) (fun _=>(AD (fun x=>by kernel_rfl) AF)) (fun x=>by kernel_rfl))
def ADQ:Callee:=⟨[.val (.sl Au),.val (.ptr (.sl Au))],[.val .bool],fun x=>Q4 x.1 x.2.1⟩
def UD:FL:=(145,none,ADQ)::Vn
theorem AFD:Fs Tryz.prog V UD:=
 have h:=AEj h0
 h.cons (gz h Al Tryz.func145 (by kernel_rfl) (fun x=>by kernel_rfl))
def ALw:Callee:=⟨[.val (.sl (.sl Au)),.val (.fnv 145 (.ptr (.sl Au)))],[.val (.int .i64)],fun x=>Q9 x.1 x.2.1⟩
def SC:FL:=(144,some 145,ALw)::UD
theorem AL7:Fs Tryz.prog V SC:=
 have h:=AFD h0
 h.cons (gd [.lp 2 ⟨19,[0,1,4,7,8],[.val (.sl (.sl Au)),.val (.fnv 145 (.ptr (.sl Au))),.val (.int .i64),.val (.int .i64),.val (.int .i64)],[],[]⟩ [.exit 0,.ret] J7] [] [] h Al AG Tryz.func144 (by kernel_rfl) (fun _=>(AD (fun x=>by kernel_rfl) AF)) (fun x=>by kernel_rfl))
def AFy:Callee:=⟨[.box (.dat L8),.val AE,.val (.sl Au)],[.val Au,.val (.int .i64)],fun x=>MW x.1 x.2.1 x.2.2.1⟩
def Sw:FL:=(101,none,AFy)::SC
theorem ACG:Fs Tryz.prog V Sw:=
 have h:=AL7 h0
 h.cons (gd [] [] [(1,[0,4,16],[100008])] h Al AG Tryz.func101 (by kernel_rfl) (fun _=>AF) (fun x=>by kernel_rfl))
def AKh:Callee:=⟨[.val Au],[.val .bool],fun x=>Hh x.1⟩
def XL:FL:=(148,none,AKh)::Sw
theorem AKP:Fs Tryz.prog V XL:=
 have h:=ACG h0
 h.cons (gz h Al Tryz.func148 (by kernel_rfl) (fun x=>by kernel_rfl))
def AG7:Callee:=⟨[.val (.sl Au),.val (.fnv 148 .unit)],[.val (.int .i64)],fun x=>QX x.1 x.2.1⟩
def UY:FL:=(201,some 148,AG7)::XL
theorem Zd:Fs Tryz.prog V UY:=
 have h:=AKP h0
 h.cons (gd [.lp 2 ⟨19,[0,1,4,7,8],[.val (.sl Au),.val (.fnv 148 .unit),.val (.int .i64),.val (.int .i64),.val (.int .i64)],[],[]⟩ [.exit 0,.ret] LU] [] [] h Al AG Tryz.func201 (by kernel_rfl) (fun _=>(AD (fun x=>by kernel_rfl) AF)) (fun x=>by kernel_rfl))
def Zo:Callee:=⟨[.val (.sl Au),.val (.fnv 148 .unit)],[.val .bool],fun x=>KY x.1 x.2.1⟩
def U8:FL:=(142,some 148,Zo)::UY
theorem AAY:Fs Tryz.prog V U8:=
 have h:=Zd h0
 h.cons (gz h Al Tryz.func142 (by kernel_rfl) (fun x=>by kernel_rfl))
def AFZ:Callee:=⟨[.val .bool],[.val Au],fun x=>Ef x.1⟩
def UA:FL:=(147,none,AFZ)::U8
theorem AKA:Fs Tryz.prog V UA:=
 have h:=AAY h0
 h.cons (gz h Al Tryz.func147 (by kernel_rfl) (fun x=>by kernel_rfl))
def ALc:Callee:=⟨[.val Au],[.val .bool],fun x=>Ic x.1⟩
def Wq:FL:=(149,none,ALc)::UA
theorem AIr:Fs Tryz.prog V Wq:=
 have h:=AKA h0
 h.cons (gz h Al Tryz.func149 (by kernel_rfl) (fun x=>by kernel_rfl))
def AH5:Callee:=⟨[.val (.sl Au),.val (.fnv 149 .unit)],[.val (.int .i64)],fun x=>QR x.1 x.2.1⟩
def X4:FL:=(201,some 149,AH5)::Wq
theorem AAb:Fs Tryz.prog V X4:=
 have h:=AIr h0
 h.cons (gd [.lp 2 ⟨19,[0,1,4,7,8],[.val (.sl Au),.val (.fnv 149 .unit),.val (.int .i64),.val (.int .i64),.val (.int .i64)],[],[]⟩ [.exit 0,.ret] LQ] [] [] h Al AG Tryz.func201 (by kernel_rfl) (fun _=>(AD (fun x=>by kernel_rfl) AF)) (fun x=>by kernel_rfl))
def AIn:Callee:=⟨[.val (.sl Au),.val (.fnv 149 .unit)],[.val .bool],fun x=>K5 x.1 x.2.1⟩
def VE:FL:=(142,some 149,AIn)::X4
theorem AGR:Fs Tryz.prog V VE:=
 have h:=AAb h0
 h.cons (gz h Al Tryz.func142 (by kernel_rfl) (fun x=>by kernel_rfl))
def ACw:Callee:=⟨[.val (.int .i64),.val .str],[.val Au],fun x=>Gp x.1 x.2.1⟩
def XR:FL:=(202,none,ACw)::VE
theorem AGa:Fs Tryz.prog V XR:=
 have h:=AGR h0
 h.cons (gz h Al Tryz.func202 (by kernel_rfl) (fun x=>by kernel_rfl))
def AGb:Callee:=⟨[.val Eb,.val Eb],[.val .str],fun x=>K' x.1 x.2.1⟩
def UO:FL:=(262,none,AGb)::XR
theorem AEJ:Fs Tryz.prog V UO:=
 have h:=AGa h0
 h.cons (gz h Al Tryz.func262 (by kernel_rfl) (fun x=>by kernel_rfl))
def AMB:Callee:=⟨[.val CR,.val CR],[.val CR],fun x=>LN x.1 x.2.1⟩
def Xu:FL:=(264,none,AMB)::UO
theorem AMv:Fs Tryz.prog V Xu:=
 have h:=AEJ h0
 h.cons (gz h Al Tryz.func264 (by kernel_rfl) (fun x=>by kernel_rfl))
def AEl:Callee:=⟨[.val CR,.val CR],[.val .str],fun x=>Kl x.1 x.2.1⟩
def RY:FL:=(263,none,AEl)::Xu
theorem ABU:Fs Tryz.prog V RY:=
 have h:=AMv h0
 h.cons (gz h Al Tryz.func263 (by kernel_rfl) (fun x=>by kernel_rfl))
def AKG:Callee:=⟨[.val .str,.val .str,.val (.fnv 262 .unit),.val (.fnv 263 .unit)],[.val .str],fun x=>JW x.1 x.2.1 x.2.2.1 x.2.2.2.1⟩
def YR:FL:=(252,some 262,AKG)::RY
theorem AGB:Fs Tryz.prog V YR:=
 have h:=ABU h0
 h.cons (gz h Al Tryz.func252 (by kernel_rfl) (fun x=>by kernel_rfl))
def AEg:Callee:=⟨[.val .str,.val .str],[.val .str],fun x=>Ks x.1 x.2.1⟩
def YB:FL:=(203,none,AEg)::YR
theorem AJO:Fs Tryz.prog V YB:=
 have h:=AGB h0
 h.cons (gz h Al Tryz.func203 (by kernel_rfl) (fun x=>by kernel_rfl))
def ACQ:Callee:=⟨[.val CR,.val CR],[.val CR,.val CR],fun x=>Ng x.1 x.2.1⟩
def Sj:FL:=(307,none,ACQ)::YB
theorem ABl:Fs Tryz.prog V Sj:=
 have h:=AJO h0
 h.cons (gz h Al Tryz.func307 (by kernel_rfl) (fun x=>by kernel_rfl))
def AEN:Callee:=⟨[.val .str,.val .str],[.val .str,.val .str],fun x=>Li x.1 x.2.1⟩
def TE:FL:=(265,none,AEN)::Sj
theorem AFK:Fs Tryz.prog V TE:=
 have h:=ABl h0
 h.cons (gz h Al Tryz.func265 (by kernel_rfl) (fun x=>by kernel_rfl))
def AJ8:Callee:=⟨[.val .str,.val .str],[.val .str],fun x=>LC x.1 x.2.1⟩
def T2:FL:=(204,none,AJ8)::TE
theorem AHr:Fs Tryz.prog V T2:=
 have h:=AFK h0
 h.cons (gz h Al Tryz.func204 (by kernel_rfl) (fun x=>by kernel_rfl))
def ALF:Callee:=⟨[.val .str,.val .str],[.val .str],fun x=>Kn x.1 x.2.1⟩
def SZ:FL:=(205,none,ALF)::T2
theorem AIk:Fs Tryz.prog V SZ:=
 have h:=AHr h0
 h.cons (gz h Al Tryz.func205 (by kernel_rfl) (fun x=>by kernel_rfl))
def ABc:Callee:=⟨[.val (.sl .str),.val .str,.val (.fnv 81 .unit)],[.val (.int .i64),.val .bool],fun x=>Kt x.1 x.2.1 x.2.2.1⟩
def Va:FL:=(169,some 81,ABc)::SZ
theorem AMK:Fs Tryz.prog V Va:=
 have h:=AIk h0
 h.cons (gd [.lp 3 ⟨49,[0,1,2,8,9,10],[.val (.sl .str),.val .str,.val (.fnv 81 .unit),.val (.int .i64),.val (.int .i64),.val (.int .i64)],[],[]⟩ [.exit 0] Hp] [] [] h Al AG Tryz.func169 (by kernel_rfl) (fun _=>(AD (fun x=>by kernel_rfl) AF)) (fun x=>by kernel_rfl))
def AIc:Callee:=⟨[.val Au,.val .str],[.val (.int .i64),.val .bool],fun x=>IQ x.1 x.2.1⟩
def YY:FL:=(112,none,AIc)::Va
theorem AAV:Fs Tryz.prog V YY:=
 have h:=AMK h0
 h.cons (gz h Al Tryz.func112 (by kernel_rfl) (fun x=>by kernel_rfl))
def AEI:Callee:=⟨[.val Au,.val .str],[.val .str],fun x=>Oh x.1 x.2.1⟩
def WV:FL:=(206,none,AEI)::YY
theorem AA7:Fs Tryz.prog V WV:=
 have h:=AAV h0
 h.cons (gz h Al Tryz.func206 (by kernel_rfl) (fun x=>by kernel_rfl))
def Zt:Callee:=⟨[.val Au],[.obj (.pair (.dat (.int .i64)) (.pair (.dat .bool) (.pair (.dat .str) (.pair (.own .str) (.own .str)))))],fun x=>IJ x.1⟩
def S_:FL:=(68,none,Zt)::WV
theorem AHc:Fs Tryz.prog V S_:=
 have h:=AA7 h0
 h.cons (gd [] [] [(1,[1],[4,8,100009,100010])] h Al AG Tryz.func68 (by kernel_rfl) (fun _=>AF) (fun x=>by kernel_rfl))
def AKT:Callee:=⟨[.val Au,.val .str,.val .str],[.val Au],fun x=>IU x.1 x.2.1 x.2.2.1⟩
def S2:FL:=(74,none,AKT)::S_
theorem AC5:Fs Tryz.prog V S2:=
 have h:=AHc h0
 h.cons (gd [] [] [(4,[3],[26,36,100037,100038]),(8,[3],[52,55,62,100063,100064])] h Al AG Tryz.func74 (by kernel_rfl) (fun _=>AF) (fun x=>by kernel_rfl))
def AGJ:Callee:=⟨[.val AE,.val (.sl Au)],[.val Au],fun x=>NQ x.1 x.2.1⟩
def U1:FL:=(150,none,AGJ)::S2
theorem AHO:Fs Tryz.prog V U1:=
 have h:=AC5 h0
 h.cons (gd [.lp 7 ⟨102,[1,4,5,19,20,21],[.val (.sl Au),.box (.dat Au),.val .str,.val (.sl Au),.val (.int .i64),.val (.int .i64)],[],[]⟩ [.exit 1] Lk] [] [] h Al AG Tryz.func150 (by kernel_rfl) (fun _=>(AD (fun x=>by kernel_rfl) AF)) (fun x=>by kernel_rfl))
def AKv:Callee:=⟨[.val AE,.val (.sl Au)],[.val Au],fun x=>LW x.1 x.2.1⟩
def WQ:FL:=(102,none,AKv)::U1
theorem TU:Fs Tryz.prog V WQ:=
 have h:=AHO h0
 h.cons (gz h Al Tryz.func102 (by kernel_rfl) (fun x=>by kernel_rfl))
def OL (g:Co->Option ((Ae×Int×Unit)×(Co×Unit))):Callee:=⟨[.box (.dat L8)],[.val Au,.val (.int .i64)],fun x=>g x.1⟩
def AEK:Callee:=OL (E7 BB)
theorem AKU (AMU:Co->Option ((Ae×Int×Unit)×(Co×Unit))) (r0:Good V 67 (OL AMU)):Good V 67 (OL (OC AMU)):=
 have h:=TU h0
 gd [.lp 5 ⟨63,[0,2,3,4,5,26,27],[.box (.dat L8),.box (.dat Au),.val (.int .i64),.box (.dat AE),.own Au,.val (.int .i64),.val (.int .i64)],[0],[]⟩ [.exit 0,.ret] (Fp AMU)] [] [(1,[0,11],[100004])] (Fs.cons (s:=none) h r0) Al AG Tryz.func67 (by kernel_rfl) (fun _=>(AD (fun x=>by kernel_rfl) AF)) (fun x=>by kernel_rfl)
theorem ALI (n:Nat):Good V 67 (OL (E7 n)):=by
 induction n with
 |zero=>exact E2 ⟨_,h0.prog ▸ Tryz.func67,by decide,rfl⟩ (fun _=>rfl)
 |succ n ih=>exact AKU h0 (E7 n) ih
def UK:FL:=(67,none,AEK)::WQ
theorem AF1:Fs Tryz.prog V UK:=(Fs.cons (s:=none) (TU h0) (ALI h0 BB))
def AMh:Callee:=⟨[.val (.sl AE),.val (.sl Cj),.val (.sl Bx)],[.val Au,.val (.int .i64)],fun x=>IV x.1 x.2.1 x.2.2.1⟩
def Wx:FL:=(29,none,AMh)::UK
theorem AJ1:Fs Tryz.prog V Wx:=
 have h:=AF1 h0
 h.cons (gz h Al Tryz.func29 (by kernel_rfl) (fun x=>by kernel_rfl))
def AJP:Callee:=⟨[.val Bx],[.val .bool],fun x=>Nd x.1⟩
def Yv:FL:=(94,none,AJP)::Wx
theorem Z8:Fs Tryz.prog V Yv:=
 have h:=AJ1 h0
 h.cons (gd [.lp 9 ⟨52,[1,2,3,4],[.box (.dat Bx),.val .bool,.val (.int .i64),.val (.int .i64)],[],[]⟩ [.exit 2,.ret] Jl,.lp 4 ⟨52,[1,2,3],[.box (.dat Bx),.val .bool,.val (.int .i64)],[],[]⟩ [.exit 0,.ret] G4] [] [] h Al AG Tryz.func94 (by kernel_rfl) (fun _=>(AD (fun x=>by kernel_rfl) (AD (fun x=>by kernel_rfl) AF))) (fun x=>by kernel_rfl))
def AJR:Callee:=⟨[.val .bool],[.val Au],fun x=>Ej x.1⟩
def Vg:FL:=(195,none,AJR)::Yv
theorem AHd:Fs Tryz.prog V Vg:=
 have h:=Z8 h0
 h.cons (gz h Al Tryz.func195 (by kernel_rfl) (fun x=>by kernel_rfl))
def AJ2:Callee:=⟨[.val (.sl .str),.val (.sl .str)],[.val .bool],fun x=>LA x.1 x.2.1⟩
def WS:FL:=(50,none,AJ2)::Vg
theorem AAW:Fs Tryz.prog V WS:=
 have h:=AHd h0
 h.cons (gd [.lp 4 ⟨26,[0,1,4,5],[.val (.sl .str),.val (.sl .str),.val .bool,.val (.int .i64)],[],[]⟩ [.exit 0,.ret] LO] [] [] h Al AG Tryz.func50 (by kernel_rfl) (fun _=>(AD (fun x=>by kernel_rfl) AF)) (fun x=>by kernel_rfl))
def AF8:Callee:=⟨[.val Au,.val Au],[.val .bool],fun x=>HC x.1 x.2.1⟩
def Yz:FL:=(18,none,AF8)::WS
theorem ABE:Fs Tryz.prog V Yz:=
 have h:=AAW h0
 h.cons (gz h Al Tryz.func18 (by kernel_rfl) (fun x=>by kernel_rfl))
def ADy:Callee:=⟨[.val (.sl Au),.val (.sl Au)],[.val .bool],fun x=>N0 x.1 x.2.1⟩
def Yo:FL:=(259,none,ADy)::Yz
theorem AFM:Fs Tryz.prog V Yo:=
 have h:=ABE h0
 h.cons (gd [.lp 4 ⟨27,[0,1,4,5],[.val (.sl Au),.val (.sl Au),.val .bool,.val (.int .i64)],[],[]⟩ [.exit 0,.ret] KH] [] [] h Al AG Tryz.func259 (by kernel_rfl) (fun _=>(AD (fun x=>by kernel_rfl) AF)) (fun x=>by kernel_rfl))
def AL6:Callee:=⟨[.box (.dat (.pair (.sl AE) (.pair (.sl Cj) (.sl Bx)))),.val AE,.val (.sl Au)],[.val Au,.val (.int .i64)],fun x=>Mb x.1 x.2.1 x.2.2.1⟩
def U':FL:=(196,none,AL6)::Yo
theorem ADv:Fs Tryz.prog V U':=
 have h:=AFM h0
 h.cons (gd [.lp 8 ⟨63,[0,2,4,6,8,9,10,11],[.box (.dat (.pair (.sl AE) (.pair (.sl Cj) (.sl Bx)))),.val (.sl Au),.box (.dat AE),.box (.dat Au),.val (.int .i64),.box (.dat Bx),.box (.dat Au),.val (.int .i64)],[0],[]⟩ [.exit 2] ID,.lp 2 ⟨63,[0,2,4,6,7,8],[.box (.dat (.pair (.sl AE) (.pair (.sl Cj) (.sl Bx)))),.val (.sl Au),.box (.dat AE),.box (.dat Au),.val (.int .i64),.val (.int .i64)],[0],[]⟩ [.exit 0,.ret] Gn] [] [] h Al AG Tryz.func196 (by kernel_rfl) (fun _=>(AD (fun x=>by kernel_rfl) (AD (fun x=>by kernel_rfl) AF))) (fun x=>by kernel_rfl))
def ABw:Callee:=⟨[.val .str],[.val .str],fun x=>Q5 x.1⟩
def WT:FL:=(306,none,ABw)::U'
theorem Z2:Fs Tryz.prog V WT:=
 have h:=ADv h0
 h.cons (gz h Al Tryz.func306 (by kernel_rfl) (fun x=>by kernel_rfl))
def ALu:Callee:=⟨[.val .str],[.val .str],fun x=>MP x.1⟩
def Th:FL:=(261,none,ALu)::WT
theorem AHS:Fs Tryz.prog V Th:=
 have h:=Z2 h0
 h.cons (gz h Al Tryz.func261 (by kernel_rfl) (fun x=>by kernel_rfl))
def ADS:Callee:=⟨[.val .str],[.val .str],fun x=>Ou x.1⟩
def Vp:FL:=(260,none,ADS)::Th
theorem AAs:Fs Tryz.prog V Vp:=
 have h:=AHS h0
 h.cons (gz h Al Tryz.func260 (by kernel_rfl) (fun x=>by kernel_rfl))
def AHL:Callee:=⟨[.val .str,.val .str],[.val .str],fun x=>Hn x.1 x.2.1⟩
def Tb:FL:=(197,none,AHL)::Vp
theorem Zf:Fs Tryz.prog V Tb:=
 have h:=AAs h0
 h.cons (gz h Al Tryz.func197 (by kernel_rfl) (fun x=>by kernel_rfl))
def Zs:Callee:=⟨[.val .str,.val .str],[.val .str],fun x=>Me x.1 x.2.1⟩
def UG:FL:=(198,none,Zs)::Tb
theorem ZL:Fs Tryz.prog V UG:=
 have h:=Zf h0
 h.cons (gz h Al Tryz.func198 (by kernel_rfl) (fun x=>by kernel_rfl))
def AI7:Callee:=⟨[.val Au,.val .str],[.val .str],fun x=>Mz x.1 x.2.1⟩
def UC:FL:=(199,none,AI7)::UG
theorem AKB:Fs Tryz.prog V UC:=
 have h:=ZL h0
 h.cons (gd [.lp 4 ⟨40,[1,2,4,5],[.val .str,.box (.dat Au),.val .str,.val (.int .i64)],[],[]⟩ [.exit 0,.ret] Il] [] [] h Al AG Tryz.func199 (by kernel_rfl) (fun _=>(AD (fun x=>by kernel_rfl) AF)) (fun x=>by kernel_rfl))
def AJm:Callee:=⟨[.val (.int .i64),.val (.sl Au)],[.val Au],fun x=>J4 x.1 x.2.1⟩
def Wo:FL:=(200,none,AJm)::UC
theorem Zi:Fs Tryz.prog V Wo:=
 have h:=AKB h0
 h.cons (gd [.lp 7 ⟨49,[0,1,4,5],[.val (.int .i64),.val (.sl Au),.box (.dat Au),.val (.int .i64)],[],[]⟩ [.exit 1,.ret] Hy] [] [] h Al AG Tryz.func200 (by kernel_rfl) (fun _=>(AD (fun x=>by kernel_rfl) AF)) (fun x=>by kernel_rfl))
def AIz:Callee:=⟨[.box (.dat (.pair (.sl AE) (.pair (.sl Cj) (.sl Bx)))),.val AE,.val (.sl Au)],[.val Au,.val (.int .i64)],fun x=>Gl x.1 x.2.1 x.2.2.1⟩
def Uv:FL:=(141,none,AIz)::Wo
theorem SE:Fs Tryz.prog V Uv:=
 have h:=Zi h0
 h.cons (gd [.lp 9 ⟨222,[0,4,6,7,8],[.box (.dat (.pair (.sl AE) (.pair (.sl Cj) (.sl Bx)))),.box (.dat AE),.box (.dat Au),.val (.int .i64),.val (.int .i64)],[0],[]⟩ [.exit 1,.ret] HN,.lp 31 ⟨222,[0,2,6,9,10],[.box (.dat (.pair (.sl AE) (.pair (.sl Cj) (.sl Bx)))),.val (.sl Au),.box (.dat Au),.val .str,.val (.int .i64)],[0],[]⟩ [.exit 3] L7] [] [] h Al AG Tryz.func141 (by kernel_rfl) (fun _=>(AD (fun x=>by kernel_rfl) (AD (fun x=>by kernel_rfl) AF))) (fun x=>by kernel_rfl))
def Oq (g:((List Ac)×(List AN)×List Interp)->Int->Option ((Ae×Int×Int×Unit)×(((List Ac)×(List AN)×List Interp)×Unit))):Callee:=⟨[.box (.dat (.pair (.sl AE) (.pair (.sl Cj) (.sl Bx)))),.val (.int .i64)],[.val Au,.val (.int .i64),.val (.int .i64)],fun x=>g x.1 x.2.1⟩
def AG5:Callee:=Oq (GC BB)
theorem AE4 (AMQ:((List Ac)×(List AN)×List Interp)->Int->Option ((Ae×Int×Int×Unit)×(((List Ac)×(List AN)×List Interp)×Unit))) (r0:Good V 95 (Oq AMQ)):Good V 95 (Oq (OG AMQ)):=
 have h:=SE h0
 gd [.lp 5 ⟨56,[0,1,4,5,6,7,8,9],[.box (.dat (.pair (.sl AE) (.pair (.sl Cj) (.sl Bx)))),.val (.int .i64),.box (.dat Au),.val (.int .i64),.val (.int .i64),.box (.dat AE),.own Au,.val (.int .i64)],[0],[]⟩ [.exit 0,.ret] (G7 AMQ)] [] [] (Fs.cons (s:=none) h r0) Al AG Tryz.func95 (by kernel_rfl) (fun _=>(AD (fun x=>by kernel_rfl) AF)) (fun x=>by kernel_rfl)
theorem ALq (n:Nat):Good V 95 (Oq (GC n)):=by
 induction n with
 |zero=>exact E2 ⟨_,h0.prog ▸ Tryz.func95,by decide,rfl⟩ (fun _=>rfl)
 |succ n ih=>exact AE4 h0 (GC n) ih
def TB:FL:=(95,none,AG5)::Uv
theorem AF3:Fs Tryz.prog V TB:=(Fs.cons (s:=none) (SE h0) (ALq h0 BB))
def AJk:Callee:=⟨[.val Au],[.val Au],fun x=>Rr x.1⟩
def Vb:FL:=(96,none,AJk)::TB
theorem AHW:Fs Tryz.prog V Vb:=
 have h:=AF3 h0
 h.cons (gd [] [] [(1,[1],[4,8,100009,100010])] h Al AG Tryz.func96 (by kernel_rfl) (fun _=>AF) (fun x=>by kernel_rfl))
def AIX:Callee:=⟨[.val (.sl AE),.val (.sl Cj),.val (.sl Bx)],[.val Au,.val (.int .i64)],fun x=>Mq x.1 x.2.1 x.2.2.1⟩
def W6:FL:=(60,none,AIX)::Vb
theorem AGi:Fs Tryz.prog V W6:=
 have h:=AHW h0
 h.cons (gd [.lp 4 ⟨62,[0,1,2,6,7,8],[.val (.sl AE),.val (.sl Cj),.val (.sl Bx),.box (.dat Au),.val (.int .i64),.val (.int .i64)],[],[]⟩ [.exit 0,.ret] J1,.lp 9 ⟨62,[0,1,2,6,7,9],[.val (.sl AE),.val (.sl Cj),.val (.sl Bx),.box (.dat Au),.val (.int .i64),.val (.int .i64)],[],[]⟩ [.exit 2,.ret] Ku] [] [] h Al AG Tryz.func60 (by kernel_rfl) (fun _=>(AD (fun x=>by kernel_rfl) (AD (fun x=>by kernel_rfl) AF))) (fun x=>by kernel_rfl))
def Ze:Callee:=⟨[.val (.sl AE),.val (.sl Cj),.val (.sl Bx)],[.val .bool],fun x=>PB x.1 x.2.1 x.2.2.1⟩
def TF:FL:=(61,none,Ze)::W6
theorem Zl:Fs Tryz.prog V TF:=
 have h:=AGi h0
 h.cons (gz h Al Tryz.func61 (by kernel_rfl) (fun x=>by kernel_rfl))
def AAx:Callee:=⟨[.val (.sl AE),.val (.sl Cj),.val (.sl Bx)],[.val .bool],fun x=>PI x.1 x.2.1 x.2.2.1⟩
def Ul:FL:=(62,none,AAx)::TF
theorem AK1:Fs Tryz.prog V Ul:=
 have h:=Zl h0
 h.cons (gz h Al Tryz.func62 (by kernel_rfl) (fun x=>by kernel_rfl))
def AAy:Callee:=⟨[.val (.sl AE),.val (.sl Cj),.val (.sl Bx)],[.val .bool],fun x=>Nv x.1 x.2.1 x.2.2.1⟩
def Uu:FL:=(27,none,AAy)::Ul
theorem ALm:Fs Tryz.prog V Uu:=
 have h:=AK1 h0
 h.cons (gz h Al Tryz.func27 (by kernel_rfl) (fun x=>by kernel_rfl))
def ABi:Callee:=⟨[.val (.int .i64)],[.val Au,.val (.int .i64)],fun x=>VV x.1⟩
def WF:FL:=(32,none,ABi)::Uu
theorem AKX:Fs Tryz.prog V WF:=
 have h:=ALm h0
 h.cons (gz h Al Tryz.func32 (by kernel_rfl) (fun x=>by kernel_rfl))
def AHi:Callee:=⟨[.val Au],[.val .bool],fun x=>Vu x.1⟩
def Wj:FL:=(73,none,AHi)::WF
theorem AIx:Fs Tryz.prog V Wj:=
 have h:=AKX h0
 h.cons (gz h Al Tryz.func73 (by kernel_rfl) (fun x=>by kernel_rfl))
def AHt:Callee:=⟨[.val Au,.val .str,.val .str],[.val Au,.val (.int .i64)],fun x=>Rq x.1 x.2.1 x.2.2.1⟩
def V1:FL:=(33,none,AHt)::Wj
theorem AJ3:Fs Tryz.prog V V1:=
 have h:=AIx h0
 h.cons (gz h Al Tryz.func33 (by kernel_rfl) (fun x=>by kernel_rfl))
def AG1:Callee:=⟨[.val .str],[.val AE],fun x=>MF x.1⟩
def Uz:FL:=(35,none,AG1)::V1
theorem AC3:Fs Tryz.prog V Uz:=
 have h:=AJ3 h0
 h.cons (gz h Al Tryz.func35 (by kernel_rfl) (fun x=>by kernel_rfl))
def ACb:Callee:=⟨[.val Au],[.val (.sl AE),.val (.int .i64)],fun x=>W4 x.1⟩
def XA:FL:=(10,none,ACb)::Uz
theorem AC9:Fs Tryz.prog V XA:=
 have h:=AC3 h0
 h.cons (gd [.lp 13 ⟨70,[1,4,31,32],[.box (.dat Au),.own AE,.val (.int .i64),.val (.int .i64)],[],[]⟩ [.exit 1] SA,.lp 18 ⟨70,[1,4,47,48,49],[.box (.dat Au),.row AE,.val (.sl .str),.val (.int .i64),.val (.int .i64)],[],[]⟩ [.exit 3] T9] [] [] h Al AG Tryz.func10 (by kernel_rfl) (fun _=>(AD (fun x=>by kernel_rfl) (AD (fun x=>by kernel_rfl) AF))) (fun x=>by kernel_rfl))
def ZP:Callee:=⟨[.val .str],[.val .str],fun x=>UZ x.1⟩
def VA:FL:=(191,none,ZP)::XA
theorem ADb:Fs Tryz.prog V VA:=
 have h:=AC9 h0
 h.cons (gz h Al Tryz.func191 (by kernel_rfl) (fun x=>by kernel_rfl))
def AJF:Callee:=⟨[.val .str],[.val .str],fun x=>Xo x.1⟩
def S9:FL:=(192,none,AJF)::VA
theorem UH:Fs Tryz.prog V S9:=
 have h:=ADb h0
 h.cons (gz h Al Tryz.func192 (by kernel_rfl) (fun x=>by kernel_rfl))
def Oa (g:Int->qBs->Option ((qBs×Unit)×Unit)):Callee:=⟨[.val (.int .i64),.val .str],[.val .str],fun x=>g x.1 x.2.1⟩
def ALD:Callee:=Oa (Kz BB)
theorem ACF (AMS:Int->qBs->Option ((qBs×Unit)×Unit)) (r0:Good V 133 (Oa AMS)):Good V 133 (Oa (XQ AMS)):=
 have h:=UH h0
 gz (Fs.cons (s:=none) h r0) Al Tryz.func133 (by kernel_rfl) (fun x=>by kernel_rfl)
theorem AKK (n:Nat):Good V 133 (Oa (Kz n)):=by
 induction n with
 |zero=>exact E2 ⟨_,h0.prog ▸ Tryz.func133,by decide,rfl⟩ (fun _=>rfl)
 |succ n ih=>exact ACF h0 (Kz n) ih
def Wt:FL:=(133,none,ALD)::S9
theorem AMm:Fs Tryz.prog V Wt:=(Fs.cons (s:=none) (UH h0) (AKK h0 BB))
def AMz:Callee:=⟨[.val AE],[.val .str],fun x=>X1 x.1⟩
def TM:FL:=(134,none,AMz)::Wt
theorem ABM:Fs Tryz.prog V TM:=
 have h:=AMm h0
 h.cons (gz h Al Tryz.func134 (by kernel_rfl) (fun x=>by kernel_rfl))
def AKu:Callee:=⟨[.box (.pair .slf (.own (.int .u8))),.val (.int .u8)],[.val .err],fun x=>NH x.1 x.2.1⟩
def SH:FL:=(136,none,AKu)::TM
theorem Vw:Fs Tryz.prog V SH:=
 have h:=ABM h0
 h.cons (gz h Al Tryz.func136 (by kernel_rfl) (fun x=>by kernel_rfl))
def NW (g:Option Bf->(Unit×List Int)->Int->Option ((Unit)×((Unit×List Int)×Unit))):Callee:=⟨[.val (.ptr DD),.box (.pair .slf (.own (.int .u8))),.val (.int .i64)],[],fun x=>g x.1 x.2.1 x.2.2.1⟩
def AJv:Callee:=NW (LG BB)
theorem AFO (AMT:Option Bf->(Unit×List Int)->Int->Option ((Unit)×((Unit×List Int)×Unit))) (r0:Good V 87 (NW AMT)):Good V 87 (NW (UJ AMT)):=
 have h:=Vw h0
 gd [.lp 4 ⟨71,[0,1,6,25,26,27],[.val (.ptr DD),.box (.pair .slf (.own (.int .u8))),.box (.dat AE),.val (.sl (.int .i64)),.val (.int .i64),.val (.int .i64)],[0],[]⟩ [.exit 1] (Ye AMT)] [] [] (Fs.cons (s:=none) h r0) Al AG Tryz.func87 (by kernel_rfl) (fun _=>(AD (fun x=>by kernel_rfl) AF)) (fun x=>by kernel_rfl)
theorem AH3 (n:Nat):Good V 87 (NW (LG n)):=by
 induction n with
 |zero=>exact E2 ⟨_,h0.prog ▸ Tryz.func87,by decide,rfl⟩ (fun _=>rfl)
 |succ n ih=>exact AFO h0 (LG n) ih
def Sz:FL:=(87,none,AJv)::SH
theorem ADH:Fs Tryz.prog V Sz:=(Fs.cons (s:=none) (Vw h0) (AH3 h0 BB))
def AJA:Callee:=⟨[.val (.sl AE)],[.val .str],fun x=>Ty x.1⟩
def R7:FL:=(47,none,AJA)::Sz
theorem AJW:Fs Tryz.prog V R7:=
 have h:=ADH h0
 h.cons (gz h Al Tryz.func47 (by kernel_rfl) (fun x=>by kernel_rfl))
def AAz:Callee:=⟨[.val Au],[.val .str],fun x=>Y1 x.1⟩
def U2:FL:=(15,none,AAz)::R7
theorem AIj:Fs Tryz.prog V U2:=
 have h:=AJW h0
 h.cons (gz h Al Tryz.func15 (by kernel_rfl) (fun x=>by kernel_rfl))
def AMx:Callee:=⟨[],[.val .bool],fun _=>RX⟩
def So:FL:=(7,none,AMx)::U2
theorem AL2:Fs Tryz.prog V So:=
 have h:=AIj h0
 h.cons (gz h Al Tryz.func7 (by kernel_rfl) (fun x=>by kernel_rfl))
def AIp:Ann:=⟨116,[2,9,10,11,12],[.val .bool,.val (.sl AE),.box (.dat Bb),.row Bx,.val (.int .i64)],[],[]⟩
def ZO:Ann:=⟨116,[2,9,10,11,12,13],[.val .bool,.val (.sl AE),.box (.dat Bb),.row Bx,.val (.int .i64),.box (.pair (.dat .str) (.pair (.own (.sl Au)) (.pair (.own Au) (.dat Au))))],[],[]⟩
def X9:Callee:=⟨[.val (.sl (.int .i64)),.val (.sl (.int .i64)),.val .bool],[.val .bool],fun x=>Nm x.1 x.2.1 x.2.2.1⟩
def AGw:FL:=(4,none,X9)::So
theorem AEs:Fs Tryz.prog V AGw:=
 have h:=AL2 h0
 h.cons (gd [.raw 1000010 (RI AIp ZO RJ),.lp 12 ⟨116,[2,9,10,11,12,13,14],[.val .bool,.val (.sl AE),.box (.dat Bb),.row Bx,.val (.int .i64),.box (.pair (.dat .str) (.pair (.own (.sl Au)) (.pair (.own Au) (.dat Au)))),.val (.int .i64)],[],[]⟩ [.exit 2] LI,.lp 8 ⟨116,[2,9,10,11,12],[.val .bool,.val (.sl AE),.box (.dat Bb),.own Bx,.val (.int .i64)],[],[]⟩ [.exit 0] Ir] [105] [(10,[44],[100013]),(14,[13],[64,65,66,100067]),(15,[13],[72,73,100074]),(17,[13],[88,89,100090])] h Al AG Tryz.func4 (by kernel_rfl) (fun hE=>(PC (AIO (q:=8) (ps:=[2,6]) (rid:=10) (ops:=Tz (pick 1000010 (Bv (fb Tryz.f4)))) hE (show pick 1000010 (Bv (fb Tryz.f4))=.region 10 (Tz (pick 1000010 (Bv (fb Tryz.f4)))) true from by kernel_rfl) (by kernel_rfl) (List.forall_mem_cons.2 ⟨fun x=>by kernel_rfl,List.forall_mem_cons.2 ⟨fun x=>by kernel_rfl,List.forall_mem_cons.2 ⟨fun x=>by kernel_rfl,fun _ h=>nomatch h⟩⟩⟩)) (AD (fun x=>by kernel_rfl) (AD (fun x=>by kernel_rfl) AF)))) (fun x=>by kernel_rfl))
end
end Go.AM.Num
end
section
namespace Go.AM
open Go.RowKit (Below)
theorem VY (s:ByteArray):s.size=s.data.toList.length:=by rw[<-ByteArray.size_data,Array.length_toList]
theorem K_ {V : Env} {k : FuncId} {C : Callee} (hen : ∃ fn, V.P.funcs[k]? = some fn ∧ (fn.name == "runtime.NumGoroutine") = false ∧ fn.body.isNone = false) (hin : ∀ x, AT C.ps x = []) (hout : ∀ o y, Di C.ps C.rk o y = []) (hk : cntK C.ps = 0)
 (h:∀ x y o,C.g x=some (y,o)->∀ (w:World) (rd:Nat->Nat->Option Value) (I:Nat->Prop) (β:Nat->Option Place) (vs:Array Value),V.G w->RelL rd I β (A9 C.ps x 0 (cntK C.ps)) vs.toList->
  Calls V.P k vs w fun e w'=>∃ us,e=.returned (DI us)/\Ext w w'/\∀ rd I' β',RelL rd I' β' (FF C.ps C.rk y) us):Good V k C:=by
 refine ⟨hen,fun x y o hx w I β vs hG hgb hctx hargs=>Calls.mono (h x y o hx w _ I β vs hG hargs) ?_⟩
 rintro e w' ⟨us,rfl,hext,hres⟩
 rw[hin] at hctx ⊢
 have hn:∀ B,¬ AU [] β B:=fun B=>H4 B
 refine ⟨us,fun B=>I B\/(w.heap.size<=B/\B < w'.heap.size),β,rfl,⟨hext.os,hext.tape,hext.output,hext.size,fun B hB _=>hext.block B hB⟩,⟨?_,?_,?_,?_⟩,hres _ _ _⟩
 ·rw[hout]
  refine ⟨fun b r hb=>by simp at hb,fun b b' r r' p p' hb=>by simp at hb,fun B hB=>⟨?_,H4 B⟩,hctx.dom⟩
  rcases hB with hB | hB
  ·exact Nat.lt_of_lt_of_le (hctx.imm B hB).1 hext.size
  ·exact hB.2
 ·rintro B (hB | hB)
  ·exact .inl hB
  ·exact .inr (.inr hB.1)
 ·intro b r q hb;rw[hout] at hb;simp at hb
 ·intro i hi;rw[hk] at hi;cases hi
end Go.AM
namespace Go.AM.Num
open Go.Proofs
structure GN (w:World):Prop where
 maxLen:∃ m,w.cell? ⟨0,0,none⟩=some (.int .i64 m)
 pow10 : Lib.TabIs Tryz.prog w "internal/strconv.uint64pow10" .u64 Lib.pow10Tab
section
variable {rd:Nat->Nat->Option Value} {I:Nat->Prop} {β:Nat->Option Place}
theorem Ld {x:qBs} {v:Value} (h:RelV rd I β (.str x) v):∃ s:ByteArray,v=.string s/\s.data.toList=x:=by simpa only[RelV] using h
theorem F7 {k:IntKind} {n:Int} {v:Value} (h:RelV rd I β (.int k n) v):v=.int k n:=by simpa only[RelV] using h
theorem PE {a:AV} {vs:Array Value} (h:RelL rd I β [a] vs.toList):∃ v,vs=#[v]/\RelV rd I β a v:=by
 simp only[RelL] at h
 obtain ⟨v,vs',h1,h2,rfl⟩:=h
 exact ⟨v,by apply Array.ext';simpa using h1,h2⟩
theorem NS {a b:AV} {vs:Array Value} (h:RelL rd I β [a,b] vs.toList):∃ v v',vs=#[v,v']/\RelV rd I β a v/\RelV rd I β b v':=by
 simp only[RelL] at h
 obtain ⟨v,vs',h1,h2,v',vs2,rfl,h3,rfl⟩:=h
 exact ⟨v,v',by apply Array.ext';simpa using h1,h2,h3⟩
theorem Q1 {a b c:AV} {vs:Array Value} (h:RelL rd I β [a,b,c] vs.toList):∃ v v' v2,vs=#[v,v',v2]/\RelV rd I β a v/\RelV rd I β b v'/\RelV rd I β c v2:=by
 simp only[RelL] at h
 obtain ⟨v,vs',h1,h2,v',vs2,rfl,h3,v2,vs3,rfl,h4,rfl⟩:=h
 exact ⟨v,v',v2,by apply Array.ext';simpa using h1,h2,h3,h4⟩
theorem IF (l:qBs):RelV rd I β (.str l) (.string ⟨l.toArray⟩):=by simp only[RelV];exact ⟨_,rfl,by simp⟩
end
theorem AJZ (w:World) (n:Nat):Ext w (w.drewN n):=⟨rfl,rfl,rfl,Nat.le_refl _,fun _ _=>rfl⟩
theorem R8 (w:World) (k:Nat) (os:Array Obj):Ext w (Sort.grow (w.drewN k) os):=by
 refine ⟨rfl,rfl,rfl,?_,fun B hB=>?_⟩
 ·show w.heap.size<=(w.heap++os).size
  simp
 ·show (w.heap++os)[B]?=w.heap[B]?
  rw[Array.getElem?_append_left hB]
theorem ALf (w:World) (t:ByteArray):Ext w (Lib.bytesWorld w 5 t):=⟨rfl,rfl,rfl,by rw[Lib.bytesWorld_size];omega,fun B hB=>Lib.bytesWorld_at_old w 5 t B hB⟩
section
variable {V:Env} (hP:V.P=Tryz.prog)
include hP
theorem AL5:Good V 77 Pc:=
 K_ ⟨_,hP ▸ Tryz.func77,by decide,by rfl⟩ (fun _=>rfl) (fun _ _=>rfl) rfl (fun x y o hx w rd I β vs hG ha=>by
  obtain ⟨v,v',rfl,h1,h2⟩:=NS ha
  obtain ⟨s,rfl,hs⟩:=Ld h1
  obtain ⟨p,rfl,hp⟩:=Ld h2
  rw[hP]
  refine Calls.mono (Tryz.strings_CutPrefix s p w) ?_
  rintro e w' ⟨rfl,rfl⟩
  refine ⟨[_,_],rfl,Ext.refl _,fun rd I' β'=>?_⟩
  simp only[Pc,strings_CutPrefix,Option.some.injEq] at hx
  cases hx
  show RelL rd I' β' [.str _,.bool _] _
  simp only[RelL]
  exact ⟨_,_,rfl,by rw[hs,hp];exact IF _,_,_,rfl,by simp only[RelV];rw[hs,hp],rfl⟩)
theorem AFH (hV:∀ w,V.G w->GN w):Good V 120 QW:=
 K_ ⟨_,hP ▸ Tryz.func120,by decide,by rfl⟩ (fun _=>rfl) (fun _ _=>rfl) rfl (fun x y o hx w rd I β vs hG ha=>by
  obtain ⟨v,v',rfl,h1,h2⟩:=NS ha
  obtain ⟨s,rfl,hs⟩:=Ld h1
  obtain ⟨p,rfl,hp⟩:=Ld h2
  simp only[QW,strings_Cut] at hx
  split at hx
  case isFalse=>cases hx
  rename_i hlen
  cases hx
  obtain ⟨m,hm⟩:=(hV w hG).maxLen
  rw[hP]
  refine Calls.mono (Tryz.strings_Cut s p m w (by rw[VY,hs];exact hlen) hm) ?_
  rintro e w' ⟨rfl,n,rfl⟩
  refine ⟨[_,_,_],rfl,AJZ w n,fun rd I' β'=>?_⟩
  show RelL rd I' β' [.str _,.str _,.bool _] _
  simp only[RelL]
  exact ⟨_,_,rfl,by rw[hs,hp];exact IF _,_,_,rfl,by rw[hs,hp];exact IF _,_,_,rfl,by simp only[RelV];rw[hs,hp],rfl⟩)
theorem ADL (hV:∀ w,V.G w->GN w):Good V 302 Rf:=
 K_ ⟨_,hP ▸ Tryz.func302,by decide,by rfl⟩ (fun _=>rfl) (fun _ _=>rfl) rfl (fun x y o hx w rd I β vs hG ha=>by
  obtain ⟨v,v',rfl,h1,h2⟩:=NS ha
  obtain rfl:=F7 h1
  obtain rfl:=F7 h2
  simp only[Rf,FA] at hx
  split at hx
  case isFalse=>cases hx
  rename_i hc
  cases hx
  rw[hP,hc.2]
  refine Calls.mono (Tryz.strconv_FormatInt_10 x.1 hc.1.1 hc.1.2 w (hV w hG).pow10) ?_
  rintro e w' ⟨rfl,k,os,rfl⟩
  refine ⟨[_],rfl,R8 w k os,fun rd I' β'=>?_⟩
  show RelL rd I' β' [.str _] _
  simp only[RelL]
  exact ⟨_,_,rfl,IF _,rfl⟩)
theorem AAo:Good V 121 Pq:=
 K_ ⟨_,hP ▸ Tryz.func121,by decide,by rfl⟩ (fun _=>rfl) (fun _ _=>rfl) rfl (fun x y o hx w rd I β vs hG ha=>by
  obtain ⟨v,v',v2,rfl,h1,h2,h3⟩:=Q1 ha
  obtain ⟨s,rfl,hs⟩:=Ld h1
  obtain rfl:=F7 h2
  obtain rfl:=F7 h3
  simp only[Pq,Gy] at hx
  split at hx
  case isFalse=>cases hx
  rename_i hc
  split at hx
  case h_2=>cases hx
  rename_i n hn
  cases hx
  rw[hP,hc.1,hc.2.1]
  refine Calls.mono (Tryz.strconv_ParseInt_10_at64_ok s (by rw[VY,hs];have:=hc.2.2;omega) n (by rw[hs];exact hn) w) ?_
  rintro e w' ⟨rfl,hw⟩
  have hext:Ext w w':=by
   rcases hw with rfl | ⟨t,rfl⟩
   ·exact Ext.refl _
   ·exact ALf w t
  refine ⟨[_,_],rfl,hext,fun rd I' β'=>?_⟩
  show RelL rd I' β' [.int .i64 _,.err _] _
  simp only[RelL]
  exact ⟨_,_,rfl,by simp only[RelV],_,_,rfl,by simp[RelV],rfl⟩)
end
end Go.AM.Num
namespace Go.Proofs
open Go.Shelf Go.RowKit Go.Sort Go.Lib
theorem AKj (w:World) (T:TypeId) (nd:Nat) (hs:nd<=24):Holds (fun (b:UInt8)=>Value.int .u8 (b.toNat:Int)) (w.alloc (.cells zeros24 T)) w.heap.size 0 (Array.replicate nd (0:UInt8)):=fun j hj=>by
 have hj':j < nd:=by simpa using hj
 refine ⟨?_,World.frozen?_alloc_new _ _ _ _⟩
 rw[World.cell?_alloc_new,zeros24_at _ (by omega),getElem!_pos _ j hj]
 simp
set_option maxHeartbeats 6400000 in
set_option maxRecDepth 100000 in
theorem Tryz.internal_strconv_FormatUint_10 (u : Nat) (hu64 : u < 18446744073709551616) (w : World) (htab : Lib.TabIs Tryz.prog w "internal/strconv.uint64pow10" .u64 Lib.pow10Tab) :
 Calls Tryz.prog 352 #[.int .u64 u,.int .i64 10] w fun e w'=>e=.returned (.string ⟨(Lib.decDigits u).toArray⟩)/\∃ k os,w'=grow (w.drewN k) os:=by
 by_cases hs:u < 100
 ·go_enter Tryz.func352,Tryz.ntmps352
  go_wp2_with (go_at_call 348;refine (Tryz.internal_strconv_small u hs _).mono ?_;rintro e w' ⟨rfl,rfl⟩)
  go_ret
  exact ⟨rfl,0,#[],by simp[World.drewN_zero]⟩
 ·have hu1:1<=u:=by omega
  have hnd20:Lib.nDigits u<=20:=by have:=Lib.numDigits_eq u hu1 hu64;split at this<;>omega
  have hsl1:∀ W,(Instr.sliceAt 347 (.pointer (some ⟨w.heap.size,0,none⟩)) none (some (.int .i64 (Lib.nDigits u:Int))) none).run Tryz.prog W=.ok (.slice (some ⟨w.heap.size,0,none⟩) (Lib.nDigits u) 24) W:=fun W=>by
   have hal:Tryz.prog.arrayLen 347=24:=by kernel_rfl
   rw[run_sliceAt_array_h W 347 ⟨w.heap.size,0,none⟩ Tryz.underlying347 .i64 (Lib.nDigits u:Int) (by omega) (by rw[hal];omega)]
   rw[hal]
   go_simp
  have hH0:=AKj w 347 (Lib.nDigits u) (by omega)
  have hfmt:=Tryz.internal_strconv_formatBase10 w.heap.size 0 24 u (Array.replicate (Lib.nDigits u) 0) (w.alloc (.cells Lib.zeros24 347)) hH0 (by rw[Array.size_replicate];exact Lib.lt_pow_nDigits u) hu64 (by rw[Array.size_replicate];omega)
  rw[Array.size_replicate] at hfmt
  have HH0:=Lib.hid hH0
  clear hH0
  go_enter Tryz.func352,Tryz.ntmps352
  go_wp2_with (first
   |(go_at_call 349;refine (Tryz.internal_strconv_numDigits u hu1 hu64 _ (Lib.tabIs_alloc htab _)).mono ?_;rintro e w' ⟨rfl,rfl⟩))
  go_at_call 350
  refine hfmt.mono ?_
  rintro e w' ⟨rfl,k,v',dk,rfl,hF⟩
  have hcv:(convert 123 9 (.slice (some ⟨w.heap.size,0,none⟩) (Lib.nDigits u) 24)).run Tryz.prog ((putRow (fun (b:UInt8)=>Value.int .u8 (b.toNat:Int)) (w.alloc (.cells Lib.zeros24 347)) w.heap.size 0 dk).drewN k)=.ok (.string ⟨(Lib.decDigits u).toArray⟩) ((putRow (fun (b:UInt8)=>Value.int .u8 (b.toNat:Int)) (w.alloc (.cells Lib.zeros24 347)) w.heap.size 0 dk).drewN k):=by
   have h:=run_convert_bytes_back (P:=Tryz.prog) ((putRow (fun (b:UInt8)=>Value.int .u8 (b.toNat:Int)) (w.alloc (.cells Lib.zeros24 347)) w.heap.size 0 dk).drewN k) 123 9 5 ⟨w.heap.size,0,none⟩ 24 (Lib.decDigits u) Tryz.underlying123 Tryz.underlying5 Tryz.underlying9 (fun j hj=>by
    rw[Lib.row_is_numeral hF j hj,Lib.add_plain,World.cell?_drewN]
    exact cell?_putRow (fun (b:UInt8)=>Value.int .u8 (b.toNat:Int)) _ w.heap.size 0 _ dk HH0.out (by rw[hF.size,Array.size_replicate]) j (by rw[hF.size];rw[Lib.decDigits_length] at hj;exact hj))
   rw[Lib.decDigits_length] at h
   exact h
  go_wp2
  go_ret
  obtain ⟨os',_,e⟩:=putRow_grow_new (fun (b:UInt8)=>Value.int .u8 (b.toNat:Int)) w #[.cells Lib.zeros24 347] w.heap.size 0 dk (Nat.le_refl _)
  refine ⟨rfl,k,os',?_⟩
  rw[alloc_eq_grow,e]
  rfl
theorem Tryz.strconv_FormatUint_10 (u : Nat) (hu64 : u < 18446744073709551616) (w : World) (htab : Lib.TabIs Tryz.prog w "internal/strconv.uint64pow10" .u64 Lib.pow10Tab) :
 Calls Tryz.prog 335 #[.int .u64 u,.int .i64 10] w fun e w'=>e=.returned (.string ⟨(Lib.decDigits u).toArray⟩)/\∃ k os,w'=grow (w.drewN k) os:=by
 go_enter Tryz.func335,Tryz.ntmps335
 go_wp2_with (go_at_call 352;refine (Tryz.internal_strconv_FormatUint_10 u hu64 _ htab).mono ?_;rintro e w' ⟨rfl,k,os,rfl⟩)
 go_ret
 exact ⟨rfl,k,os,rfl⟩
end Go.Proofs
namespace Go.AM.Num
open Go.Proofs
theorem ZG {V:Env} (hP:V.P=Tryz.prog) (hV:∀ w,V.G w->GN w):Good V 335 RH:=
 K_ ⟨_,hP ▸ Tryz.func335,by decide,by rfl⟩ (fun _=>rfl) (fun _ _=>rfl) rfl (fun x y o hx w rd I β vs hG ha=>by
  obtain ⟨v,v',rfl,h1,h2⟩:=NS ha
  obtain rfl:=F7 h1
  obtain rfl:=F7 h2
  simp only[RH,JT] at hx
  split at hx
  case isFalse=>cases hx
  rename_i hc
  cases hx
  have hn:(x.1.toNat:Int)=x.1:=Int.toNat_of_nonneg hc.1
  have hcall:=Tryz.strconv_FormatUint_10 x.1.toNat (by have:=hc.2.1;omega) w (hV w hG).pow10
  rw[hn] at hcall
  rw[hP,hc.2.2]
  refine Calls.mono hcall ?_
  rintro e w' ⟨rfl,k,os,rfl⟩
  refine ⟨[_],rfl,R8 w k os,fun rd I' β'=>?_⟩
  show RelL rd I' β' [.str _] _
  simp only[RelL]
  exact ⟨_,_,rfl,IF _,rfl⟩)
end Go.AM.Num
end
section
namespace Go.AM
open Go.RowKit (Below)
open Go
theorem HS:∀ (vs:List Value) (b o:Nat) (w:World) {cs:Array Value} {ty:TypeId} {fr:Nat×Nat},w.heap[b]?=some (.cells cs ty fr)->o+vs.length<=cs.size->
 ∃ cs',(w.setCells b o vs).heap[b]?=some (.cells cs' ty fr)/\cs'.size=cs.size/\(∀ k,cs'[k]?=if o<=k/\k < o+vs.length then vs[k - o]? else cs[k]?)/\
  (∀ B,B≠b->(w.setCells b o vs).heap[B]?=w.heap[B]?)/\(w.setCells b o vs).heap.size=w.heap.size/\(w.setCells b o vs).os=w.os/\(w.setCells b o vs).tape=w.tape/\(w.setCells b o vs).output=w.output
 |[],b,o,w,cs,ty,fr,h,hl=>⟨cs,h,rfl,fun k=>by rw[if_neg (by simp only[List.length_nil];omega)],fun _ _=>rfl,rfl,rfl,rfl,rfl⟩
 |v::r,b,o,w,cs,ty,fr,h,hl=>by
  simp only[qY11] at hl
  have hb:b < w.heap.size:=(Array.getElem?_eq_some_iff.1 h).1
  have h1:(w.setCell ⟨b,o,none⟩ v).heap[b]?=some (.cells (cs.setIfInBounds o v) ty fr):=by
   simp only[World.setCell,Array.getElem?_modify,h]
   simp
  obtain ⟨cs',g1,g2,g3,g4,g5,g6,g7,g8⟩:=HS r b (o+1) (w.setCell ⟨b,o,none⟩ v) h1 (by simp;omega)
  refine ⟨cs',g1,by rw[g2];simp,fun k=>?_,fun B hB=>?_,by rw[World.setCells,g5];simp[World.setCell],g6,g7,g8⟩
  ·rw[g3 k]
   simp only[qY11]
   by_cases e:k=o
   ·subst e
    rw[if_neg (by omega),if_pos (by omega),Array.getElem?_setIfInBounds]
    simp;omega
   ·by_cases e2:o+1<=k/\k < o+1+r.length
    ·rw[if_pos e2,if_pos (by omega),show k - o=(k - (o+1))+1 from by omega];rfl
    ·rw[if_neg e2,if_neg (by omega),Array.getElem?_setIfInBounds,if_neg (fun h=>e h.symm)]
  ·rw[World.setCells,g4 B hB]
   simp only[World.setCell,Array.getElem?_modify]
   rw[if_neg (fun h=>hB h.symm)]
abbrev sv (s:qBs):Value:=.string ⟨s.toArray⟩
theorem YH {s:ByteArray} {x:qBs} (h:s.data.toList=x):Value.string s=sv x:=by subst h;cases s;simp[sv]
theorem Jh (l:List qBs):∀ v∈l.map sv,v.oneCell'=true:=fun v hv=>by obtain ⟨x,_,rfl⟩:=List.mem_map.1 hv;rfl
theorem AAt {rd:Nat->Nat->Option Value} {I:Nat->Prop} {x:qBs} {us:List Value} (h:RelC rd I .str x us):us=[sv x]:=by
 simp only[RelC] at h
 obtain ⟨b,rfl,hb⟩:=h
 rw[YH hb]
theorem AAn {rd:Nat->Nat->Option Value} {I:Nat->Prop} (x:qBs):RelC rd I .str x [sv x]:=by simp only[RelC];exact ⟨_,rfl,by simp⟩
theorem LT {w:World} {I:Nat->Prop} {β:Nat->Option Place} {p:Place} {l:List qBs} (h:BD w I β p (.typed .str l)) (hb:p.backed=true):p.s=1/\p.n=l.length/\∃ cs ty,w.heap[p.B]?=some (.cells cs ty (0,0))/\p.O+p.n<=cs.size/\cs.size=p.z/\cs.size<=Cs/\∀ (i:Nat) x,l[i]?=some x->cs[p.O+i]?=some (sv x):=by
 obtain ⟨h1,h2,_,h4⟩:=h
 obtain ⟨cs,ty,g1,⟨g2,g3,_,gm⟩,g4⟩:=h4 hb
 have hs:p.s=1:=h1
 refine ⟨hs,h2,cs,ty,g1,by rw[hs] at g2;simpa using g2,g3,by simpa [GT.cells] using gm,fun i x hi=>?_⟩
 obtain ⟨us,u1,u2,u3⟩:=g4 i x hi
 have:=u2 0 (by decide)
 rw[AAt u3] at this
 simpa [GT.cells] using this
theorem Q' {w:World} {I:Nat->Prop} {β:Nat->Option Place} {p:Place} {l:List qBs} {cs:Array Value} {ty:TypeId} (hs:p.s=1) (hn:p.n=l.length) (hh:w.heap[p.B]?=some (.cells cs ty (0,0))) (h1:p.O+p.n<=cs.size) (h2:cs.size=p.z) (h3:cs.size<=Cs) (hc:∀ (i:Nat) x,l[i]?=some x->cs[p.O+i]?=some (sv x)) (hb:p.backed=true):BD w I β p (.typed .str l):=by
 refine ⟨hs,hn,fun h=>(by rw[hb] at h;cases h),fun _=>⟨cs,ty,hh,⟨by rw[hs];simpa using h1,h2,fun h=>(by cases h),by simpa [GT.cells] using h3⟩,fun i x hi=>⟨[sv x],rfl,fun j hj=>?_,AAn x⟩⟩⟩
 have:j=0:=by simp[GT.cells] at hj;omega
 subst this
 have:=hc i x hi
 simpa [GT.cells] using this
theorem AI6 {gb:Nat} {w w':World} {I:Nat->Prop} {β:Nat->Option Place} {Hin:Ao} (hI:∀ B,I B->B < w.heap.size) {l:List qBs} {v:Value} (hgb:gb<=w.heap.size) (hsz:w.heap.size<=w'.heap.size)
 (h:v=.slice none 0 0/\l=[]\/∃ g cap cur ty,v=.slice (some ⟨g,0,none⟩) l.length cap/\w.heap.size<=g/\w'.heap[g]?=some (.cells cur ty (0,0))/\l.length<=cap/\cap<=cur.size/\cur.size<=Cs/\∀ (i:Nat) x,l[i]?=some x->cur[i]?=some (sv x)) :
 ∃ I' β',OutOK w w' gb I β Hin [some (.typed .str l)] 0 I' β'/\RelL (Ah w') I' β' [.vw 0] [v]:=by
 have main:∀ p:Place,(p.backed=true->w.heap.size<=p.B/\p.B < w'.heap.size)->(∀ β',BD w' I β' p (.typed .str l))->(∀ β':Nat->Option Place,β' 0=some p->RelV (Ah w') I β' (.vw 0) v)->∃ I' β',OutOK w w' gb I β Hin [some (.typed .str l)] 0 I' β'/\RelL (Ah w') I' β' [.vw 0] [v]:=by
  intro p h1 h2 h3
  refine ⟨I,fun i=>if i=0 then some p else none,⟨⟨?_,?_,?_,?_⟩,?_,?_,?_⟩,?_⟩
  ·intro b r hb
   cases b with
   |zero=>cases hb;exact ⟨p,rfl,fun hk=>⟨Nat.le_trans hgb (h1 hk).1,(h1 hk).2⟩,h2 _⟩
   |succ b=>simp at hb
  ·intro b b' r r' p p' hb hb'
   cases b<;>cases b'<;>simp at hb hb' ⊢
  ·intro B hB
   refine ⟨Nat.lt_of_lt_of_le (hI B hB) hsz,?_⟩
   rintro ⟨b,r,q,hb,hq,hk,rfl⟩
   cases b with
   |zero=>cases hq;have:=(h1 hk).1;have:=hI _ hB;omega
   |succ b=>simp at hb
  ·intro b hb
   simp at hb
   exact if_neg (by omega)
  ·exact fun B hB=>.inl hB
  ·intro b r q hb hq hk
   cases b with
   |zero=>cases hq;exact .inr (h1 hk).1
   |succ b=>simp at hb
  ·intro i hi;cases hi
  ·simp only[RelL]
   exact ⟨v,[],rfl,h3 _ rfl,rfl⟩
 rcases h with ⟨rfl,rfl⟩ | ⟨g,cap,cur,ty,rfl,hg,hh,hc,hcap,hcm,hx⟩
 ·refine main ⟨0,0,1,0,0,false⟩ (fun h=>by cases h) (fun β'=>⟨rfl,rfl,fun _=>rfl,fun h=>by cases h⟩) (fun β' hb=>?_)
  simp only[RelV]
  exact ⟨_,hb,none,0,rfl,Nat.le_refl _,.inl rfl⟩
 ·refine main ⟨g,0,1,l.length,cur.size,true⟩ (fun _=>⟨hg,(Array.getElem?_eq_some_iff.1 hh).1⟩) (fun β'=>Q' rfl rfl hh (by simp;omega) rfl hcm (fun i x hi=>by simpa using hx i x hi) rfl) (fun β' hb=>?_)
  simp only[RelV]
  exact ⟨_,hb,_,cap,rfl,hc,.inr ⟨rfl,rfl,by simp;omega⟩⟩
theorem U7 {rd:Nat->Nat->Option Value} {I:Nat->Prop} {l:List qBs} {v:Value} (h:RelC rd I (.sl .str) l [v]):∃ a c,v=.slice a l.length c/\l.length<=c/\(l≠[]->∃ B o,a=some ⟨B,o,none⟩/\I B/\∀ (i:Nat) x,l[i]?=some x->rd B (o+i)=some (sv x)):=by
 simp only[RelC] at h
 obtain ⟨a,c,h1,h2,h3⟩:=h
 refine ⟨a,c,by simpa using h1,h2,fun hne=>?_⟩
 obtain ⟨B,o,rfl,hI,hx⟩:=h3 hne
 refine ⟨B,o,rfl,hI,fun i x hi=>?_⟩
 obtain ⟨us,u1,u2,u3⟩:=hx i x hi
 have:=u2 0 (by decide)
 obtain ⟨b,rfl,hb⟩:=u3
 rw[YH hb] at this
 simpa [GT.cells] using this
end Go.AM
namespace Go.Proofs
open Go.Shelf Go.RowKit Go.Lib
def Tryz.laysIns_ren:Go.Shelf.Ren:=⟨fun | 17=>288 | 22=>114 | 29=>170 | 30=>171 | 36=>235 | n=>n,fun | 24=>22 | n=>n,fun | n=>n⟩
theorem Tryz.laysIns:Go.Proofs.Lays2.n22 Tryz.prog Tryz.laysIns_ren:={
 mixed:=by kernel_rfl
 f17:=Tryz.func288.trans (congrArg some (by kernel_rfl))
 f22:=Tryz.func114.trans (congrArg some (by kernel_rfl))
 f29:=Tryz.func170.trans (congrArg some (by kernel_rfl))
 f30:=Tryz.func171.trans (congrArg some (by kernel_rfl))
 f36:=Tryz.func235.trans (congrArg some (by kernel_rfl))
 t0:=Tryz.underlying0
 a0:=Tryz.isAgg0
 z0:=Tryz.sizeOf0
 v0:=Tryz.zeroValue0
 t3:=Tryz.underlying3
 a3:=Tryz.isAgg3
 z3:=Tryz.sizeOf3
 v3:=Tryz.zeroValue3
 t4:=Tryz.underlying4
 a4:=Tryz.isAgg4
 z4:=Tryz.sizeOf4
 v4:=Tryz.zeroValue4
 t9:=Tryz.underlying9
 a9:=Tryz.isAgg9
 z9:=Tryz.sizeOf9
 v9:=Tryz.zeroValue9
 t24:=Tryz.underlying22
 a24:=Tryz.isAgg22
 z24:=Tryz.sizeOf22
 v24:=Tryz.zeroValue22
 i9:=by kernel_rfl }
end Go.Proofs
end
section
namespace Go.Lib
open Go
theorem run_overlaps_apart2 {P:Program} (w:World) (tS tR e:TypeId) (ht:P.underlying tS=some (.slice e)) (size:Nat) (hz:∀ w,(Go.sizeOf e).run P w=.ok size w)
 (a b:Addr) (la ca lb cb:Nat) (hne:a.block≠b.block) (tA tB:TypeId) (kA kB:Nat)
 (hsa:w.shape? a.block=some (tA,kA+1)) (hsb:w.shape? b.block=some (tB,kB)) (hfb:w.frozen? b=false) (hfe:w.frozen? { block:=b.block,off:=kB }=false) :
 (Extern.SlicesOverlaps.overlaps #[tS,tS] #[tR] #[.slice (some a) la ca,.slice (some b) lb cb]).run P w=.ok (.bool false) w:=by
 have hnb:(a.block !=b.block)=true:=by simpa using hne
 have hnb':(a.block==b.block)=false:=by simpa using hne
 change Sem.run P (α:=Value) (do
  let some t := (#[tS, tS] : Array TypeId)[0]? | stuck "slices.overlaps: no parameter types"
  let .slice elem ← underlying t | stuck "slices.overlaps: slice type expected"
  let size<-sizeOf elem
  match (some a:Option Addr),(some b:Option Addr) with
  |some a,some b=>
   if la=0\/lb=0\/size=0 then pure (Value.bool false)
   else if a.block !=b.block&&(<-frozen a)&&(<-frozen b) then unsupported .addressObserved
   else do
    if a.block !=b.block then do
     noView a;noView b
     if ← mayBeOne a b then return Value.bool ((← choose (.extern "sameAddr.stringBytes" 2)) == 1)
    pure (Value.bool (a.block==b.block&&a.off < b.off+lb * size&&b.off < a.off+la * size))
  |_,_=>pure (Value.bool false)) w=_
 by_cases h0:la=0\/lb=0\/size=0
 ·simp[run_underlying ht,hz,h0]
 ·cases h1:w.frozen? a<;>cases h2:w.frozen? { block:=a.block,off:=kA+1 } <;>
   simp[run_underlying ht,hz,h0,hnb,hnb',frozen,noView,viewAt,mayBeOne,stringish,shape,Sem.run,hsa,hsb,hfb,hfe,h1,h2]
end Go.Lib
namespace Go.Proofs
open Go.Shelf Go.RowKit Go.Lib
set_option maxHeartbeats 4000000 in
set_option maxRecDepth 100000 in
theorem Tryz.Insert_shift (b off n c i vb voff m vc:Nat) (cs vs:List Value) (w:World) (hi:i < n) (hm:0 < m) (hroom:n+m<=c) (hc63:c<=9223372036854775807) (hvb:vb≠b) (hcl:cs.length=n) (hvl:vs.length=m)
 (hcs:∀ j v,cs[j]?=some v->w.cell? ⟨b,off+j,none⟩=some v) (hsp:∀ j,j < n+m->(w.cell? ⟨b,off+j,none⟩).isSome=true) (hfz:∀ j,w.frozen? ⟨b,j,none⟩=false)
 (hvs:∀ j v,vs[j]?=some v->w.cell? ⟨vb,voff+j,none⟩=some v) (h1c:∀ v∈cs,v.oneCell'=true) (h1v:∀ v∈vs,v.oneCell'=true)
 (tA tB:TypeId) (kA kB:Nat) (hsa:w.shape? vb=some (tA,kA+1)) (hsb:w.shape? b=some (tB,kB)) :
 Calls Tryz.prog 114 #[.slice (some ⟨b,off,none⟩) n c,.int .i64 i,.slice (some ⟨vb,voff,none⟩) m vc] w fun e w'=>
  e=.returned (.slice (some ⟨b,off,none⟩) (n+m) c)/\w'=(w.drew.setCells b (off+(i+m)) (cs.drop i)).setCells b (off+i) vs:=by
 have hz1:¬ ((m:Int)=0):=by omega
 have hz2:¬ ((i:Int)=(n:Int)):=by omega
 have hsz:(Tryz.prog.info? 9).map (·.size)=some 1:=by
  obtain ⟨i0,hi0,h0,h1,h2⟩:=info_parts Tryz.laysIns.i9
  exact (congrArg _ hi0).trans (by simp[h1])
 have hov:∀ lb cb,(callFunc 170 #[.slice (some ⟨vb,voff,none⟩) m vc,.slice (some ⟨b,off+(i+m),none⟩) lb cb]).run Tryz.prog w=.ok (.value (.bool false)) w:=fun lb cb=>by
  rw[run_callFunc_extern Tryz.func170 (by kernel_rfl) (by kernel_rfl) (by kernel_rfl) (e:=Extern.SlicesOverlaps.overlaps #[22,22] #[4]) (by kernel_rfl),
   Lib.run_overlaps_apart2 w 22 4 9 Tryz.underlying22 1 Tryz.sizeOf9 ⟨vb,voff,none⟩ ⟨b,off+(i+m),none⟩ m vc lb cb hvb tA tB kA kB hsa hsb (hfz _) (hfz _)]
  rfl
 have hdl:(cs.drop i).length=n - i:=by rw[List.length_drop,hcl]
 have hw1:IntKind.i64.wrap ((i:Int)+(m:Int))=(i:Int)+(m:Int):=by rw[IntKind.wrap_i64];omega
 have hb1:(0:Int)<=(i:Int)+(m:Int):=by omega
 have hin:i<=n:=by omega
 have htn:((i:Int)+(m:Int)).toNat=i+m:=by omega
 have hb2:¬ (c=i+m):=by omega
 have hb3:(i:Int)<=(n:Int)+(m:Int):=by omega
 have hb4:¬ (c=i):=by omega
 have hcp1:∀ ty dc sc,(Builtin.copy_ #[22,22] ty #[.slice (some ⟨b,off+(i+m),none⟩) (n+m - (i+m)) dc,.slice (some ⟨b,off+i,none⟩) (n+m - i) sc]).run Tryz.prog w.drew=.ok (goInt (cs.drop i).length) (w.drew.setCells b (off+(i+m)) (cs.drop i)):=fun ty dc sc=>
  run_copy_cells w.drew _ _ ty 9 b (off+(i+m)) (n+m - (i+m)) dc ⟨b,off+i,none⟩ (n+m - i) sc (cs.drop i) Tryz.underlying22 hsz (by rw[hdl];simp only[Nat.min_def];split<;>omega)
   (fun j v hj=>by rw[Addr.add_lit,Nat.add_assoc];exact hcs (i+j) v (by rwa [List.getElem?_drop] at hj))
   (fun j hj=>by rw[Nat.add_assoc];exact hsp _ (by omega)) (fun j hj=>hfz _) (fun v hv=>h1c v (List.mem_of_mem_drop hv))
 obtain ⟨W1,hW1⟩:∃ W1,W1=w.drew.setCells b (off+(i+m)) (cs.drop i):=⟨_,rfl⟩
 have hsp1:∀ k,k < n+m->(W1.cell? ⟨b,off+k,none⟩).isSome=true:=fun k hk=>by
  rw[hW1]
  exact isSome_setCells b _ _ _ (fun j hj=>by rw[Nat.add_assoc];exact hsp _ (by omega)) _ (hsp k hk)
 have hcp2:∀ (W:World),(∀ x,W.cell? x=W1.cell? x)->(∀ x,W.frozen? x=W1.frozen? x)->∀ ty dc,(Builtin.copy_ #[22,22] ty #[.slice (some ⟨b,off+i,none⟩) (n+m - i) dc,.slice (some ⟨vb,voff,none⟩) m vc]).run Tryz.prog W=.ok (goInt vs.length) (W.setCells b (off+i) vs):=fun W hWc hWf ty dc=>
  run_copy_cells W _ _ ty 9 b (off+i) (n+m - i) dc ⟨vb,voff,none⟩ m vc vs Tryz.underlying22 hsz (by rw[hvl];simp only[Nat.min_def];split<;>omega)
   (fun j v hj=>by
    rw[Addr.add_lit,hWc,hW1,World.cell?_setCells_out b _ _ _ _ (fun h _=>absurd h hvb)]
    exact hvs j v hj)
   (fun j hj=>by rw[hWc,Nat.add_assoc];exact hsp1 _ (by omega)) (fun j hj=>by rw[hWf,hW1,World.frozen?_setCells];exact hfz _) h1v
 rw[<-hW1] at hcp1
 have mixed:=Tryz.laysIns.mixed
 go_enter Tryz.func114,Tryz.ntmps114
 go_wp2_with (simp only[hov])
 go_region_law_o (refine step_copy_runI rfl _ _ 22 22 rfl _ _ (by simp[Act.eval,Act.put]) (by simp[Act.eval,Act.put]) (hcp1 _ _ _) ?_)
 go_wp2_with (at_builtin;refine wpList_copy_runI _ rfl _ _ 22 22 rfl _ _ rfl rfl (hcp2 _ (fun _=>rfl) (fun _=>rfl) _ _) ?_)
 go_ret
 first | exact ⟨rfl,rfl⟩ | exact ⟨rfl,by rw[hW1]⟩
end Go.Proofs
end
section
namespace Go.AM
open Go.RowKit (Below)
theorem O0 {V:Env} {ps:List PK} {w w':World} {I:Nat->Prop} {β:Nat->Option Place} {x:AB ps} (hk:cntK ps=0) (hctx:Ctx V.gb w I β (AT ps x)) (hgb:V.gb<=w.heap.size) (hext:Ext w w') {l:List qBs} {v:Value}
 (h:v=.slice none 0 0/\l=[]\/∃ g cap cur ty,v=.slice (some ⟨g,0,none⟩) l.length cap/\w.heap.size<=g/\w'.heap[g]?=some (.cells cur ty (0,0))/\l.length<=cap/\cap<=cur.size/\cur.size<=Cs/\∀ (i:Nat) x,l[i]?=some x->cur[i]?=some (sv x)) :
 ∃ (us:List Value) (I':Nat->Prop) (β':Nat->Option Place),Ending.returned v=.returned (DI us)/\FrmC w w' (AU (AT ps x) β)/\OutOK w w' V.gb I β (AT ps x) [some (.typed .str l)] (cntK ps) I' β'/\RelL (Ah w') I' β' [.vw 0] us:=by
 obtain ⟨I',β',h1,h2⟩:=AI6 (Hin:=AT ps x) (β:=β) (fun B hB=>(hctx.imm B hB).1) hgb hext.size h
 exact ⟨[v],I',β',rfl,⟨hext.os,hext.tape,hext.output,hext.size,fun B hB _=>hext.block B hB⟩,by rw[hk];exact h1,h2⟩
theorem Wp {w':World} {base n:Nat} {e:TypeId} {v:Value} {l:List qBs} (hn:n=l.length) (h:w'.ownsRow base e 1 v n (l.map sv)) :
 v=.slice none 0 0/\l=[]\/∃ g cap cur ty,v=.slice (some ⟨g,0,none⟩) l.length cap/\base<=g/\w'.heap[g]?=some (.cells cur ty (0,0))/\l.length<=cap/\cap<=cur.size/\cur.size<=Cs/\∀ (i:Nat) x,l[i]?=some x->cur[i]?=some (sv x):=by
 subst hn
 rcases h.2 with ⟨rfl,h0⟩ | ⟨g,cap,cur,rfl,hg,hh,hc,hmx,hsz,ht⟩
 ·exact .inl ⟨rfl,List.eq_nil_of_length_eq_zero h0⟩
 ·refine .inr ⟨g,cap,cur,e,rfl,hg,hh,hc,by omega,by unfold maxLen at hmx;unfold Cs;omega,fun i x hi=>?_⟩
  have hlt:=(List.getElem?_eq_some_iff.1 hi).1
  have:(cur.toList.take (l.length * 1))[i]?=some (sv x):=by rw[ht];simp[hi]
  rw[List.getElem?_take,if_pos (by omega),Array.getElem?_toList] at this
  exact this
theorem Vt {w:World} {I:Nat->Prop} {B o:Nat} {l:List qBs} (h:∀ (i:Nat) x,l[i]?=some x->Ah w B (o+i)=some (sv x)):∀ (i:Nat) x,l[i]?=some x->w.cell? ⟨B,o+i,none⟩=some (sv x):=fun i x hi=>G2 (h i x hi) rfl
end Go.AM
namespace Go.AM.Num
open Go.Proofs Go.RowKit Go.Lib
section
variable {V:Env} (hP:V.P=Tryz.prog)
include hP
theorem ADE:Good V 103 Uw:=
 ⟨⟨_,hP ▸ Tryz.func103,by decide,rfl⟩,fun x y o hx w I β vs hG hgb hctx hargs=>by
  obtain ⟨v,rfl,h1⟩:=PE hargs
  replace h1:RelV (Ah w) I β (.sl .str false x.1) v:=h1
  simp only[RelV] at h1
  obtain ⟨a,c,rfl,hc,hx1⟩:=U7 h1.1
  obtain ⟨hm,hx⟩:=Lt hx
  cases hx
  simp only[decide_eq_true_eq] at hm
  replace hm:x.1.length<=68719476736:=hm
  rw[hP]
  cases a with
  |none=>
   have h0:x.1=[]:=Classical.byContradiction fun hne=>by obtain ⟨B,o,h,_⟩:=hx1 hne;cases h
   refine Calls.mono (Tryz.slices_Clone_string_nil _ c w) ?_
   rintro e w' ⟨rfl,rfl⟩
   exact O0 rfl hctx hgb (Ext.refl _) (.inl ⟨rfl,h0⟩)
  |some ad=>
   by_cases h0:x.1=[]
   ·have hl0:x.1.length=0:=by rw[h0];rfl
    rw[hl0]
    refine Calls.mono (Tryz.slices_Clone_string_zero ad c w) ?_
    rintro e w' ⟨v',rfl,ho,_,hb⟩
    exact O0 rfl hctx hgb (Ext.of_below hb) (Wp (l:=x.1) hl0.symm (by rw[h0];exact ho))
   ·obtain ⟨B,o,he,_,hrd⟩:=hx1 h0
    cases he
    have hcell:=Vt (I:=I) hrd
    refine Calls.mono (Tryz.slices_Clone_string B o x.1.length c (x.1.map fun s=>⟨s.toArray⟩) w (by simp) (by omega) (fun j hj=>by
     simp only[List.length_map] at hj
     rw[hcell j _ (qZ5 hj)]
     simp[List.getD,qZ5 hj])) ?_
    rintro e w' ⟨v',rfl,ho,_,hb⟩
    exact O0 rfl hctx hgb (Ext.of_below hb) (Wp rfl (by simpa [List.map_map,Function.comp_def,List.take_of_length_le] using ho))⟩
theorem AFV:Good V 113 YL:=
 ⟨⟨_,hP ▸ Tryz.func113,by decide,rfl⟩,fun (x:List qBs×Int×Int×Unit) y o hx w I β vs hG hgb hctx hargs=>by
  obtain ⟨v,v',v2,rfl,h1,h2,h3⟩:=Q1 hargs
  obtain rfl:=F7 h2
  obtain rfl:=F7 h3
  obtain ⟨l,i,j,u⟩:=x
  obtain ⟨hm,hx⟩:=Lt hx
  cases hx
  simp only[qY0,decide_eq_true_eq] at hm
  obtain ⟨⟨hi0,hij⟩,hjl⟩:=hm
  replace hjl:j<=(l.length:Int):=hjl
  replace h1:RelV (Ah w) I β (.vw 0) v:=h1
  simp only[RelV] at h1
  obtain ⟨p,hp,a,c,rfl,hpc,ha⟩:=h1
  obtain ⟨p',hp',hbk,hrow⟩:=hctx.rows 0 (.typed .str l) rfl
  rw[hp] at hp';cases hp'
  have hpn:p.n=l.length:=hrow.2.1
  obtain ⟨l',hl'⟩:∃ l',l'=l.take i.toNat++l.drop j.toNat++List.replicate (j.toNat - i.toNat) ([]:qBs):=⟨_,rfl⟩
  have hll:l'.length=l.length:=by rw[hl'];simp;omega
  have fin:∀ w':World,w'.os=w.os->w'.tape=w.tape->w'.output=w.output->w'.heap.size=w.heap.size->(∀ B,(p.backed=true->B≠p.B)->w'.heap[B]?=w.heap[B]?)->BD w' I β p (.typed .str l')->(p.backed=true->CP w w' p)->
   ∃ (us:List Value) (I':Nat->Prop) (β':Nat->Option Place),Ending.returned (.slice a (l.length - (j.toNat - i.toNat)) c)=.returned (DI us)/\FrmC w w' (AU (AT [.row .str,.val (.int .i64),.val (.int .i64)] (l,i,j,u)) β)/\
    OutOK w w' V.gb I β (AT [.row .str,.val (.int .i64),.val (.int .i64)] (l,i,j,u)) [some (.typed .str l')] 1 I' β'/\RelL (Ah w') I' β' [.pre 0 (l.length - (j.toNat - i.toNat))] us:=by
   intro w' e1 e2 e3 e4 e5 hrow' hso
   have hlive:∀ B,AU [some (.typed .str l')] β B ↔ AU (AT [.row .str,.val (.int .i64),.val (.int .i64)] (l,i,j,u)) β B:=fun B=>by
    constructor<;>rintro ⟨b,r,q,hb,hq,hk,e⟩
    ·cases b with
     |zero=>exact ⟨0,.typed .str l,q,rfl,hq,hk,e⟩
     |succ b=>simp at hb
    ·cases b with
     |zero=>exact ⟨0,.typed .str l',q,rfl,hq,hk,e⟩
     |succ b=>change ([]:Ao)[b]?=_ at hb;simp at hb
   refine ⟨[_],I,β,rfl,⟨e1,e2,e3,Nat.le_of_eq e4.symm,fun B hB hnl=>e5 B fun hk e=>hnl ⟨0,.typed .str l,p,rfl,hp,hk,e.symm⟩⟩,⟨⟨fun b r hb=>?_,fun b b' r r' q q' hb hb'=>?_,fun B hB=>⟨by rw[e4];exact (hctx.imm B hB).1,fun h=>(hctx.imm B hB).2 ((hlive B).1 h)⟩,fun b hb=>hctx.dom b hb⟩,fun B hB=>.inl hB,fun b r q hb hq hk=>.inl ((hlive q.B).1 ⟨b,r,q,hb,hq,hk,rfl⟩),fun i hi=>⟨rfl,fun q hq hk=>?_⟩⟩,?_⟩
   ·cases b with
    |zero=>cases hb;exact ⟨p,hp,fun hk=>by rw[e4];exact hbk hk,hrow'⟩
    |succ b=>simp at hb
   ·cases b<;>cases b'<;>simp at hb hb' ⊢
   ·obtain rfl:i=0:=by omega
    rw[hp] at hq;cases hq
    exact hso hk
   ·simp only[RelL,RelV]
    exact ⟨_,[],rfl,⟨p,hp,by omega,a,c,rfl,hpc,ha⟩,rfl⟩
  rw[hP]
  by_cases hl0:l.length=0
  ·have hl:l=[]:=List.eq_nil_of_length_eq_zero hl0
   have hj0:j=0:=by omega
   have hi0':i=0:=by omega
   subst hj0;subst hi0'
   have:(Value.slice a p.n c)=.slice a 0 c:=by rw[hpn,hl0]
   rw[this]
   refine Calls.mono (Tryz.slices_Delete_string_empty a c w) ?_
   rintro e w' ⟨rfl,rfl⟩
   have:=fin w' rfl rfl rfl rfl (fun _ _=>rfl) (by rw[hl'];subst hl;simpa using hrow) (fun hk=>by
    obtain ⟨_,_,cs,ty,g1,_⟩:=LT hrow hk
    exact .inr ⟨cs,cs,ty,g1,g1,rfl,fun _ _=>rfl⟩)
   rw[hl0] at this
   have e:(0:Nat) - ((0:Int).toNat - (0:Int).toNat)=0:=rfl
   rw[e] at this
   rw[hl'] at this
   subst hl
   exact this
  ·have hcz:c≠0:=by omega
   obtain ⟨hk,rfl,hcap⟩:=ha.resolve_left hcz
   obtain ⟨hs,hn,cs,ty,g1,g2,g3,gm,g4⟩:=LT hrow hk
   have hij':i.toNat<=j.toNat:=by omega
   have hi':(i.toNat:Int)=i:=Int.toNat_of_nonneg hi0
   have hj':(j.toNat:Int)=j:=Int.toNat_of_nonneg (by omega)
   have hcell:∀ q,q < l.length->w.cell? ⟨p.B,p.O+q,none⟩=some (.string ⟨(l.getD q []).toArray⟩):=fun q hq=>by
    have:=g4 q _ (qZ5 hq)
    simp[World.cell?,g1,this,List.getD,qZ5 hq]
   have hso:Lib.strsOf (fun q=>⟨(l.getD q []).toArray⟩) l.length=l:=by
    unfold Lib.strsOf
    apply List.ext_getElem (by simp)
    intro q h1 h2
    simp[List.getD,qZ5 h2]
   have hcall:=Tryz.slices_Delete_string_cells p.B p.O l.length c i.toNat j.toNat (fun q=>⟨(l.getD q []).toArray⟩) w (by omega) (by rw[hs] at hcap;unfold Cs at gm;omega) hij' (by omega) hcell (fun q hq=>by simp[World.frozen?,g1])
   rw[hi',hj',hso] at hcall
   rw[hpn]
   refine Calls.mono hcall ?_
   rintro e w' ⟨rfl,q,rfl⟩
   have g1':(w.drewN q).heap[p.B]?=some (.cells cs ty (0,0)):=g1
   obtain ⟨cs',k1,k2,k3,k4,k5,k6,k7,k8⟩:=HS (l'.map sv) p.B p.O (w.drewN q) g1' (by simp[hll];omega)
   have he:(l.take i.toNat++l.drop j.toNat++List.replicate (j.toNat - i.toNat) []).map encStr=l'.map sv:=by rw[hl']
   rw[he]
   have:=fin ((w.drewN q).setCells p.B p.O (l'.map sv)) k6 k7 k8 k5 (fun B hB=>k4 B (hB hk)) (Q' hs (by rw[hn,hll]) k1 (by rw[k2];exact g2) (by rw[k2];exact g3) (by rw[k2];exact gm) (fun r x hr=>by
    have hrl:=(List.getElem?_eq_some_iff.1 hr).1
    rw[k3,if_pos (by simp;omega),show p.O+r - p.O=r from by omega]
    simp[hr]) hk) (fun _=>.inr ⟨cs,cs',ty,g1,k1,k2,fun o ho=>by rw[k3,if_neg (by simp[hll];rw[hs] at ho;omega)]⟩)
   subst hl'
   exact this⟩
theorem AGT:Good V 114 X8:=
 ⟨⟨_,hP ▸ Tryz.func114,by decide,rfl⟩,fun (x:List qBs×Int×List qBs×Unit) y o hx w I β vs hG hgb hctx hargs=>by
  obtain ⟨v,v',v2,rfl,h1,h2,h3⟩:=Q1 hargs
  obtain rfl:=F7 h2
  obtain ⟨l,i,vl,u⟩:=x
  obtain ⟨hm,hx⟩:=Lt hx
  cases hx
  simp only[qY0,decide_eq_true_eq] at hm
  obtain ⟨⟨⟨hi0,hil⟩,hmx⟩,hv0⟩:=hm
  replace hil:i<=(l.length:Int):=hil
  replace hmx:l.length+vl.length<=68719476736:=hmx
  replace hv0:0 < vl.length:=hv0
  replace h1:RelV (Ah w) I β (.vw 0) v:=h1
  simp only[RelV] at h1
  obtain ⟨p,hp,a,c,rfl,hpc,ha⟩:=h1
  obtain ⟨p',hp',hbk,hrow⟩:=hctx.rows 0 (.typed .str l) rfl
  rw[hp] at hp';cases hp'
  have hpn:p.n=l.length:=hrow.2.1
  replace h3:RelV (Ah w) I β (.sl .str false vl) v2:=h3
  simp only[RelV] at h3
  obtain ⟨va,vc,rfl,hvc,hv1⟩:=U7 h3.1
  obtain ⟨vb,voff,rfl,hIv,hrd⟩:=hv1 (by intro e;rw[e] at hv0;simp at hv0)
  have hvcell:=Vt (I:=I) hrd
  have hvs:∀ (j:Nat) v,(vl.map sv)[j]?=some v->w.cell? ⟨vb,voff+j,none⟩=some v:=fun j v hj=>by
   simp only[List.getElem?_map,Option.map_eq_some_iff] at hj
   obtain ⟨x,hx,rfl⟩:=hj
   exact hvcell j x hx
  obtain ⟨n,hn⟩:∃ n,n=l.length:=⟨_,rfl⟩
  obtain ⟨k,hk⟩:∃ k,k=i.toNat:=⟨_,rfl⟩
  have hki:i=(k:Int):=by omega
  obtain ⟨l',hl'⟩:∃ l',l'=l.take i.toNat++vl++l.drop i.toNat:=⟨_,rfl⟩
  have hll:l'.length=l.length+vl.length:=by rw[hl'];simp;omega
  show Calls V.P _ _ _ fun e w'=>∃ (us:List Value) (I':Nat->Prop) (β':Nat->Option Place),e=.returned (DI us)/\FrmC w w' (AU (AT [.own .str,.val (.int .i64),.val (.sl .str)] (l,i,vl,u)) β)/\
   OutOK w w' V.gb I β (AT [.own .str,.val (.int .i64),.val (.sl .str)] (l,i,vl,u)) [some (.typed .str (l.take i.toNat++vl++l.drop i.toNat))] 0 I' β'/\RelL (Ah w') I' β' [.vw 0] us
  rw[<-hl']
  have fresh:∀ (w':World) (cap:Nat) (cur:Array Value) (ty:TypeId),Ext w w'->w'.heap[w.heap.size]?=some (.cells cur ty (0,0))->l'.length<=cap->cap<=cur.size->cur.size<=Cs->(∀ (r:Nat) x,l'[r]?=some x->cur[r]?=some (sv x))->
   ∃ (us:List Value) (I':Nat->Prop) (β':Nat->Option Place),Ending.returned (.slice (some ⟨w.heap.size,0,none⟩) (l.length+vl.length) cap)=.returned (DI us)/\FrmC w w' (AU (AT [.own .str,.val (.int .i64),.val (.sl .str)] (l,i,vl,u)) β)/\
    OutOK w w' V.gb I β (AT [.own .str,.val (.int .i64),.val (.sl .str)] (l,i,vl,u)) [some (.typed .str l')] 0 I' β'/\RelL (Ah w') I' β' [.vw 0] us:=fun w' cap cur ty hext hh h1 h2 h3 h4=>
   O0 (ps:=[.own .str,.val (.int .i64),.val (.sl .str)]) (x:=(l,i,vl,u)) rfl hctx hgb hext (.inr ⟨_,cap,cur,ty,by rw[hll],Nat.le_refl _,hh,h1,h2,h3,h4⟩)
  have place:∀ (w':World) (cs':Array Value) (ty:TypeId),p.backed=true->p.s=1->w'.os=w.os->w'.tape=w.tape->w'.output=w.output->w'.heap.size=w.heap.size->(∀ B,B≠p.B->w'.heap[B]?=w.heap[B]?)->w'.heap[p.B]?=some (.cells cs' ty (0,0))->cs'.size=p.z->cs'.size<=Cs->a=some ⟨p.B,p.O,none⟩->l'.length<=c->p.O+c<=p.z->
   (∀ (r:Nat) x,l'[r]?=some x->cs'[p.O+r]?=some (sv x))->
   ∃ (us:List Value) (I':Nat->Prop) (β':Nat->Option Place),Ending.returned (.slice a (l.length+vl.length) c)=.returned (DI us)/\FrmC w w' (AU (AT [.own .str,.val (.int .i64),.val (.sl .str)] (l,i,vl,u)) β)/\
    OutOK w w' V.gb I β (AT [.own .str,.val (.int .i64),.val (.sl .str)] (l,i,vl,u)) [some (.typed .str l')] 0 I' β'/\RelL (Ah w') I' β' [.vw 0] us:=by
   intro w' cs' ty hb hs e1 e2 e3 e4 e5 hh hz hcm ha' hlc hcz hx
   have hlive:AU (AT [.own .str,.val (.int .i64),.val (.sl .str)] (l,i,vl,u)) β p.B:=⟨0,.typed .str l,p,rfl,hp,hb,rfl⟩
   refine ⟨[_],I,fun j=>if j=0 then some { p with n:=l'.length } else none,rfl,⟨e1,e2,e3,Nat.le_of_eq e4.symm,fun B hB hnl=>e5 B fun e=>hnl (e ▸ hlive)⟩,⟨⟨fun b r hb'=>?_,fun b b' r r' q q' hb hb'=>?_,fun B hB=>⟨by rw[e4];exact (hctx.imm B hB).1,?_⟩,fun b hb'=>?_⟩,fun B hB=>.inl hB,fun b r q hb' hq hk=>?_,fun i hi=>by cases hi⟩,?_⟩
   ·cases b with
    |zero=>cases hb';exact ⟨_,rfl,fun _=>by rw[e4];exact hbk hb,Q' hs rfl hh (by simp only;omega) hz hcm hx hb⟩
    |succ b=>simp at hb'
   ·cases b<;>cases b'<;>simp at hb hb' ⊢
   ·rintro ⟨b,r,q,hb',hq,hk,rfl⟩
    cases b with
    |zero=>cases hq;exact (hctx.imm _ hB).2 hlive
    |succ b=>simp at hb'
   ·simp at hb'
    exact if_neg (by omega)
   ·cases b with
    |zero=>cases hq;exact .inl hlive
    |succ b=>simp at hb'
   ·simp only[RelL,RelV]
    exact ⟨_,[],rfl,⟨_,rfl,a,c,by rw[hll],hlc,.inr ⟨hb,ha',by simp only[hs];omega⟩⟩,rfl⟩
  have bigv:(l.length+vl.length) * 16<=140737488355328:=by omega
  have hlsv:∀ (r:Nat) v,(l.map sv)[r]?=some v->p.backed=true->w.cell? ⟨p.B,p.O+r,none⟩=some v:=fun r v hr hb=>by
   obtain ⟨hs,hn,cs,ty,g1,g2,g3,gm,g4⟩:=LT hrow hb
   simp only[List.getElem?_map,Option.map_eq_some_iff] at hr
   obtain ⟨x,hx,rfl⟩:=hr
   simp[World.cell?,g1,g4 r x hx]
  have hgc:=fun n=>grownCap_le_maxLen w (l.length+vl.length) c n (by unfold maxLen;omega)
  have hgg:=fun n=>grownCap_ge w (l.length+vl.length) c n
  rw[hP,hpn]
  subst hki
  by_cases hend:k=l.length
  ·subst hend
   have hl2:l'=l++vl:=by rw[hl'];simp
   by_cases hroom:l.length+vl.length<=c
   ·obtain ⟨hb,rfl,hcap⟩:=ha.resolve_left (by omega)
    obtain ⟨hs,hn',cs,ty,g1,g2,g3,gm,g4⟩:=LT hrow hb
    rw[hs] at hcap
    have hcall:=Any2.slices_Insert_string_end_room Tryz.laysIns p.B p.O l.length c vb voff vl.length vc (vl.map sv) w hv0 hroom (by unfold Cs at gm;omega) (by simp) (fun j hj=>by simp[World.cell?,g1];omega) (fun j hj=>by simp[World.frozen?,g1]) hvs (Jh _)
    refine Calls.mono hcall ?_
    rintro e w' ⟨rfl,rfl⟩
    obtain ⟨cs',k1,k2,k3,k4,k5,k6,k7,k8⟩:=HS (vl.map sv) p.B (p.O+l.length) w g1 (by simp;omega)
    refine place _ cs' ty hb hs k6 k7 k8 k5 k4 k1 (by rw[k2];exact g3) (by rw[k2];exact gm) rfl (by rw[hll];exact hroom) (by omega) fun r x hr=>?_
    rw[k3]
    rw[hl2] at hr
    by_cases hrl:r < l.length
    ·rw[if_neg (by omega)]
     rw[qY8 hrl] at hr
     exact g4 r x hr
    ·have hr2:=(List.getElem?_eq_some_iff.1 hr).1
     rw[qY9 (by omega)] at hr
     rw[if_pos (by simp at hr2 ⊢;omega),show p.O+r - (p.O+l.length)=r - l.length from by omega]
     simp[hr]
   ·have hcall:=Any2.slices_Insert_string_end_grow Tryz.laysIns a l.length c vb voff vl.length vc (l.map sv) (vl.map sv) w hv0 (by omega) (by omega) bigv (by simp) (by simp) (fun e=>by
     rcases ha with h0 | ⟨_,h0,_⟩
     ·omega
     ·rw[e] at h0;cases h0) (fun ad e r v hr=>by
     rcases ha with h0 | ⟨hb,h0,_⟩
     ·have:=(List.getElem?_eq_some_iff.1 hr).1;simp at this;omega
     ·rw[e] at h0;cases h0;rw[Addr.add_lit];exact hlsv r v hr hb) hvs (Jh _)
    refine Calls.mono hcall ?_
    rintro e w' ⟨rfl,rfl⟩
    have hgl:=hgg (Tryz.laysIns_ren.t 9)
    have hgm:=hgc (Tryz.laysIns_ren.t 9)
    unfold maxLen at hgm
    refine fresh _ _ _ _ ((Ext.drew w).trans (Ext.alloc _ _)) (World.alloc_heap_new w.drew _) (by rw[hll];exact hgl) (by simp[Builtin.zeroCells,Value.cells];omega) (by simp[Builtin.zeroCells,Value.cells];unfold Cs;omega) fun r x hr=>?_
    rw[hl2] at hr
    have hr2:=(List.getElem?_eq_some_iff.1 hr).1
    rw[Array.getElem?_append_left (by simp at hr2 ⊢;omega),List.getElem?_toArray,<-List.map_append,List.getElem?_map,hr]
    rfl
  ·have hkl:k < l.length:=by omega
   have hl2:∀ (r:Nat) x,l'[r]?=some x->if r < k then l[r]?=some x else if r < k+vl.length then vl[r - k]?=some x else l[r - vl.length]?=some x:=fun r x hr=>by
    rw[hl',qZ0,qZ1] at hr
    split
    ·rename_i h;rw[qY8 (by simp;omega),List.getElem?_take,if_pos h] at hr;exact hr
    ·rename_i h
     rw[qY9 (by simp;omega)] at hr
     have hmk:min k l.length=k:=by omega
     simp only[List.length_take,hmk] at hr
     split
     ·rename_i h';rw[qY8 (by omega)] at hr;exact hr
     ·rename_i h'
      rw[qY9 (by omega),List.getElem?_drop,show k+(r - k - vl.length)=r - vl.length from by omega] at hr
      exact hr
   obtain ⟨hb,rfl,hcap⟩:=ha.resolve_left (by omega)
   obtain ⟨hs,hn',cs,ty,g1,g2,g3,gm,g4⟩:=LT hrow hb
   rw[hs] at hcap
   by_cases hroom:l.length+vl.length<=c
   ·obtain ⟨csv,hcsv⟩:∃ x,w.cell? ⟨vb,voff+0,none⟩=some x:=⟨_,hvcell 0 _ (qZ5 hv0)⟩
    obtain ⟨tA,kA,hsA⟩:∃ tA kA,w.shape? vb=some (tA,kA+1):=by
     unfold World.cell? at hcsv
     split at hcsv
     ·rename_i c0 ty0 fr0 hh
      have:voff+0 < c0.size:=by
       have:=hcsv
       simp at this
       exact (Array.getElem?_eq_some_iff.1 this).1
      exact ⟨ty0,c0.size - 1,by simp[World.shape?,hh];omega⟩
     ·cases hcsv
    have hvne:vb≠p.B:=fun e=>(hctx.imm vb hIv).2 ⟨0,.typed .str l,p,rfl,hp,hb,e.symm⟩
    have hcall:=Tryz.Insert_shift p.B p.O l.length c k vb voff vl.length vc (l.map sv) (vl.map sv) w hkl hv0 hroom (by unfold Cs at gm;omega) hvne (by simp) (by simp) (fun j v hj=>hlsv j v hj hb) (fun j hj=>by simp[World.cell?,g1];omega) (fun j=>by simp[World.frozen?,g1]) hvs (Jh _) (Jh _) tA ty kA cs.size hsA (by simp[World.shape?,g1])
    refine Calls.mono hcall ?_
    rintro e w' ⟨rfl,rfl⟩
    have g1':w.drew.heap[p.B]?=some (.cells cs ty (0,0)):=g1
    obtain ⟨cs1,k1,k2,k3,k4,k5,k6,k7,k8⟩:=HS ((l.map sv).drop k) p.B (p.O+(k+vl.length)) w.drew g1' (by simp;omega)
    obtain ⟨cs2,j1,j2,j3,j4,j5,j6,j7,j8⟩:=HS (vl.map sv) p.B (p.O+k) _ k1 (by rw[k2];simp;omega)
    refine place _ cs2 ty hb hs (j6.trans k6) (j7.trans k7) (j8.trans k8) (j5.trans k5) (fun B hB=>(j4 B hB).trans (k4 B hB)) j1 (by rw[j2,k2];exact g3) (by rw[j2,k2];exact gm) rfl (by rw[hll];exact hroom) (by omega) fun r x hr=>?_
    have hr2:=(List.getElem?_eq_some_iff.1 hr).1
    rw[hll] at hr2
    have h:=hl2 r x hr
    rw[j3,k3]
    split at h
    ·rw[if_neg (by omega),if_neg (by omega)];exact g4 r x h
    ·split at h
     ·rw[if_pos (by simp;omega),show p.O+r - (p.O+k)=r - k from by omega];simp[h]
     ·rw[if_neg (by simp;omega),if_pos (by simp;omega),List.getElem?_drop,show k+(p.O+r - (p.O+(k+vl.length)))=r - vl.length from by omega];simp[h]
   ·have hcall:=Any2.slices_Insert_string_grow Tryz.laysIns p.B p.O l.length c k vb voff vl.length vc (l.map sv) (vl.map sv) w hkl hv0 (by omega) (by omega) bigv (by simp) (by simp) (fun j v hj=>hlsv j v hj hb) hvs (Jh _) (Jh _)
    refine Calls.mono hcall ?_
    rintro e w' ⟨rfl,rfl⟩
    have hgl:=hgg (Tryz.laysIns_ren.t 9)
    have hgm:=hgc (Tryz.laysIns_ren.t 9)
    unfold maxLen at hgm
    obtain ⟨W0,hW0⟩:∃ W0,W0=(w.alloc (.cells (((l.map sv).take k).toArray++Builtin.zeroCells (Value.string ⟨#[]⟩).cells (l.length+vl.length - k)++Builtin.zeroCells (Value.string ⟨#[]⟩).cells (grownCap w (l.length+vl.length) c (Tryz.laysIns_ren.t 9) - (l.length+vl.length))) (Tryz.laysIns_ren.t 9))).drew:=⟨_,rfl⟩
    have hh0:W0.heap[w.heap.size]?=some (.cells (((l.map sv).take k).toArray++Builtin.zeroCells (Value.string ⟨#[]⟩).cells (l.length+vl.length - k)++Builtin.zeroCells (Value.string ⟨#[]⟩).cells (grownCap w (l.length+vl.length) c (Tryz.laysIns_ren.t 9) - (l.length+vl.length))) (Tryz.laysIns_ren.t 9) (0,0)):=by rw[hW0];exact World.alloc_heap_new w _
    rw[<-hW0]
    have hsz0:(((l.map sv).take k).toArray++Builtin.zeroCells (Value.string ⟨#[]⟩).cells (l.length+vl.length - k)++Builtin.zeroCells (Value.string ⟨#[]⟩).cells (grownCap w (l.length+vl.length) c (Tryz.laysIns_ren.t 9) - (l.length+vl.length))).size=grownCap w (l.length+vl.length) c (Tryz.laysIns_ren.t 9):=by
     simp[Builtin.zeroCells,Value.cells];omega
    obtain ⟨cs1,k1,k2,k3,k4,k5,k6,k7,k8⟩:=HS (vl.map sv) w.heap.size k W0 hh0 (by rw[hsz0];simp;omega)
    obtain ⟨cs2,j1,j2,j3,j4,j5,j6,j7,j8⟩:=HS ((l.map sv).drop k) w.heap.size (k+vl.length) (W0.setCells w.heap.size k (vl.map sv)).drew k1 (by rw[k2,hsz0];simp;omega)
    have hextW:Ext w W0:=by rw[hW0];exact (Ext.alloc w _).trans (Ext.drew _)
    refine fresh _ _ cs2 _ ⟨j6.trans (k6.trans hextW.os),j7.trans (k7.trans hextW.tape),j8.trans (k8.trans hextW.output),by
     have:=hextW.size
     have e1:(W0.setCells w.heap.size k (vl.map sv)).drew.heap.size=(W0.setCells w.heap.size k (vl.map sv)).heap.size:=rfl
     omega,fun B hB=>(j4 B (by omega)).trans ((k4 B (by omega)).trans (hextW.block B hB))⟩ j1 (by rw[hll];exact hgl) (by rw[j2,k2,hsz0];exact Nat.le_refl _) (by rw[j2,k2,hsz0];unfold Cs;omega) fun r x hr=>?_
    have hr2:=(List.getElem?_eq_some_iff.1 hr).1
    rw[hll] at hr2
    have h:=hl2 r x hr
    rw[j3,k3]
    split at h
    ·rw[if_neg (by omega),if_neg (by omega),Array.append_assoc,Array.getElem?_append_left (by simp;omega),List.getElem?_toArray,List.getElem?_take,if_pos (by assumption)];simp[h]
    ·split at h
     ·rw[if_neg (by simp;omega),if_pos (by simp;omega)];simp[h]
     ·rw[if_pos (by simp;omega),List.getElem?_drop,show k+(r - (k+vl.length))=r - vl.length from by omega];simp[h]⟩
end
end Go.AM.Num
end
section
namespace Go.Lib
open Go
variable {P:Program} (w:World)
theorem AFF {e:TypeId} (hc:P.cellsOf e=1) (count off n:Nat) (hn:off+n<=count):liesAt P P.depth e count off e n=true:=by
 have hd:P.depth=(2 * (P.types.size+Made.depth)+1)+1:=rfl
 rw[hd]
 simp only[liesAt,Bool.or_eq_true]
 left
 rw[hd]
 simp[rowAt,hc,hn,sameLayout,Nat.mod_one]
theorem X5:∀ (l:List Int) (a:Addr) (acc:ByteArray),(∀ (j:Nat) x,l[j]?=some x->w.cell? (a.add j)=some (.int .u8 x))->
 (loadBytes a acc l.length).run P w=.ok ⟨acc.data++(l.map fun n=>UInt8.ofNat n.toNat).toArray⟩ w
 |[],a,acc,_=>by simp[loadBytes]
 |x::l,a,acc,h=>by
  have h0:w.cell? a=some (.int .u8 x):=by
   have:=h 0 x rfl
   simpa [Addr.add] using this
  have ih:=X5 l (a.add 1) (acc.push (UInt8.ofNat x.toNat)) (fun j y hy=>by
   have:=h (j+1) y (by simpa using hy)
   have e:(a.add 1).add j=a.add (j+1):=by
    unfold Addr.add
    by_cases hj:j=0
    ·subst hj;simp
    ·simp[hj];omega
   rw[e];exact this)
  have hx:(x.toNat).toUInt8=UInt8.ofNat x.toNat:=rfl
  simp only[qY11,loadBytes,Sem.run_bind,run_load,h0,Result.andThen,hx]
  rw[ih]
  congr 1
  apply ByteArray.ext
  simp[ByteArray.push]
theorem run_unsafeString_at (pt it ty e:TypeId) (hp:P.underlying pt=some (.pointer e)) (hc:P.cellsOf e=1) (g off cells:Nat) (hsh:w.shape? g=some (e,cells)) (l:List Int) (h0:l≠[]) (hn:off+l.length<=cells) (h63:l.length<=9223372036854775807)
 (hcell:∀ (j:Nat) x,l[j]?=some x->w.cell? ((⟨g,off,none⟩:Addr).add j)=some (.int .u8 x)) :
 (Builtin.unsafeString_ #[pt,it] ty #[.pointer (some ⟨g,off,none⟩),.int .i64 l.length]).run P w=.ok (.string ⟨(l.map fun n=>UInt8.ofNat n.toNat).toArray⟩) (w.freeze ⟨g,off,none⟩ l.length):=by
 have hl:l.length≠0:=by simpa using h0
 have hlb:=X5 (P:=P) w l ⟨g,off,none⟩ .empty hcell
 have hlies:=AFF (P:=P) hc (cells / P.cellsOf e) off l.length (by rw[hc];simpa using hn)
 have h63':¬ (9223372036854775807:Int) < (l.length:Int):=by omega
 have hdef:Builtin.unsafeString_ #[pt,it] ty #[.pointer (some ⟨g,off,none⟩),.int .i64 l.length] =
  (do
   let n<-asInt (.int .i64 l.length)
   if n < 0 then runtimePanic (.error "unsafe.String: len out of range")
   if n > IntKind.i64.max then unsupported (.unsafePointer "String: a length above the largest int")
   if n=0 then pure (.string .empty)
   else if<-variablesAt ⟨g,off,none⟩ (<-elemOf pt) n.toNat then do
    let s<-loadBytes ⟨g,off,none⟩ .empty n.toNat
    freeze ⟨g,off,none⟩ n.toNat
    pure (.string s)
   else unsupported (.unsafePointer "String: not so many bytes at ptr")) := rfl
 rw[hdef]
 have hmax:IntKind.i64.max=9223372036854775807:=rfl
 have hneg:¬ (l.length:Int) < 0:=by omega
 simp[asInt,asIntOf,hmax,h63',hneg,hl,variablesAt,hsh,elemOf,run_underlying hp,hlies,hlb]
end Go.Lib
namespace Go.Proofs
open Go.Shelf Go.RowKit Go.Lib
set_option maxHeartbeats 2000000 in
set_option maxRecDepth 100000 in
theorem Tryz.Builder_String_at (b g off cap:Nat) (p:Value) (cur:Array Value) (l:List Int) (w:World) (h0:l≠[]) (hbk:w.heap[b]?=some (.cells #[p,.slice (some ⟨g,off,none⟩) l.length cap] 125 (0,0))) (hg:w.heap[g]?=some (.cells cur 5 (0,0))) (hfit:off+l.length<=cur.size) (hcap:l.length<=cap) (hsm:l.length<=9223372036854775807)
 (hc:∀ (j:Nat) x,l[j]?=some x->cur[off+j]?=some (.int .u8 x)) :
 Calls Tryz.prog 88 #[.pointer (some ⟨b,0,none⟩)] w fun e w'=>e=.returned (.string ⟨(l.map fun n=>UInt8.ofNat n.toNat).toArray⟩)/\∃ W:World,W.heap=w.heap/\W.os=w.os/\W.tape=w.tape/\W.output=w.output/\w'=W.freeze ⟨g,off,none⟩ l.length:=by
 have hl0:l.length≠0:=by simpa using h0
 have c1:w.drew.cell? ⟨b,1,none⟩=some (.slice (some ⟨g,off,none⟩) l.length cap):=by
  have:w.drew.heap[b]?=some (.cells #[p,.slice (some ⟨g,off,none⟩) l.length cap] 125 (0,0)):=hbk
  rw[Lib.cell_of_heap this];rfl
 have hSD:(Builtin.unsafeSliceData_ #[123] 183 #[.slice (some ⟨g,off,none⟩) l.length cap]).run Tryz.prog w.drew=.ok (.pointer (some ⟨g,off,none⟩)) w.drew:=
  Lib.run_unsafeSliceData_row _ _ _ _ _ _ (by omega)
 have hUS:(Builtin.unsafeString_ #[183,3] 9 #[.pointer (some ⟨g,off,none⟩),.int .i64 l.length]).run Tryz.prog w.drew=.ok (.string ⟨(l.map fun n=>UInt8.ofNat n.toNat).toArray⟩) (w.drew.freeze ⟨g,off,none⟩ l.length):=by
  have hg':w.drew.heap[g]?=some (.cells cur 5 (0,0)):=hg
  refine Lib.run_unsafeString_at w.drew 183 3 9 5 Tryz.underlying183 (by kernel_rfl) g off cur.size (by simp[World.shape?,hg']) l h0 hfit hsm ?_
  intro j x hx
  rw[Addr.add_lit,Lib.cell_of_heap hg']
  exact hc j x hx
 have mixed:Tryz.prog.follows .mixedOrders=true:=by kernel_rfl
 go_enter Tryz.func88,Tryz.ntmps88
 go_wp2
 go_region_o
 all_goals (go_wp2;go_ret;exact ⟨rfl,w.drew,rfl,rfl,rfl,rfl,rfl⟩)
theorem Tryz.layB:(∃ j,Tryz.prog.info? 125=some j/\j.size=2):=Option.map_eq_some_iff.1 (show (Tryz.prog.info? 125).map (·.size)=some 2 by kernel_rfl)
set_option maxHeartbeats 1000000 in
set_option maxRecDepth 100000 in
theorem Tryz.copyCheck_used (b:Nat) (w:World) (h0:w.cell? ⟨b,0,none⟩=some (.pointer (some ⟨b,0,none⟩))) :
 Calls Tryz.prog 190 #[.pointer (some ⟨b,0,none⟩)] w fun e w'=>e=.returned (.tuple #[])/\w'=w:=by
 obtain ⟨j,hj,_⟩:=Tryz.layB
 have mixed:Tryz.prog.follows .mixedOrders=true:=by kernel_rfl
 go_enter Tryz.func190,Tryz.ntmps190
 go_wp2
 rw[Lib.run_neq_ptr_same w _ Tryz.underlying122 hj]
 go_wp2
 go_end0
 exact ⟨rfl,rfl⟩
set_option maxHeartbeats 1000000 in
set_option maxRecDepth 100000 in
theorem Tryz.copyCheck_fresh (b:Nat) (w:World) (h0:w.cell? ⟨b,0,none⟩=some (.pointer none)) (hsh:w.shape? b=some (125,2)) (hfz:w.frozen? ⟨b,0,none⟩=false) :
 Calls Tryz.prog 190 #[.pointer (some ⟨b,0,none⟩)] w fun e w'=>e=.returned (.tuple #[])/\w'=w.setCell ⟨b,0,none⟩ (.pointer (some ⟨b,0,none⟩)):=by
 obtain ⟨j,hj,hjs⟩:=Tryz.layB
 have mixed:Tryz.prog.follows .mixedOrders=true:=by kernel_rfl
 go_enter Tryz.func190,Tryz.ntmps190
 go_wp2
 rw[Lib.run_to_unsafe w ⟨b,0,none⟩ Tryz.underlying122 Tryz.underlying284 hj (by rw[hjs];decide) hsh (Nat.zero_lt_succ 1)]
 simp only[Result.andThen]
 rw[Oper.upon_value]
 go_wp2
 rw[run_callFunc_extern Tryz.func258 (by kernel_rfl) (by kernel_rfl) (by kernel_rfl) (e:=Extern.AbiNoEscape.same) (by kernel_rfl)]
 rw[Lib.run_noEscape]
 simp only[Result.andThen]
 rw[Oper.upon_value]
 go_wp2
 rw[Lib.run_from_unsafe w ⟨b,0,none⟩ Tryz.underlying284 Tryz.underlying122 hj hsh (by kernel_rfl)]
 simp only[Result.andThen]
 rw[Oper.upon_value]
 go_wp2
 go_end0
 exact ⟨rfl,rfl⟩
end Go.Proofs
end
section
namespace Go.AM.Num
open Go.Proofs Go.RowKit Go.Lib
theorem AHp {cs:Array Value} {u0 u1:Value} (hs:cs.size=2) (h0:cs[0]?=some u0) (h1:cs[1]?=some u1):cs=#[u0,u1]:=by
 obtain ⟨l⟩:=cs
 match l,hs with
 |[a,b],_=>simp at h0 h1;rw[h0,h1]
theorem Sn {w:World} {I:Nat->Prop} {β:Nat->Option Place} {p:Place} {k j:Nat} (hp:β k=some p) (h:BD w I β p (.cells [.selfp k,.vw j])) :
 p.backed=true/\p.O=0/\∃ u0 u1,w.heap[p.B]?=some (.cells #[u0,u1] bldT (0,0))/\(u0=.pointer none\/u0=.pointer (some ⟨p.B,0,none⟩))/\RelV (Ah w) I β (.vw j) u1/\p.s=2/\p.n=1/\p.z=2:=by
 obtain ⟨h1,h2,h3,cs,ty,g1,⟨g2,g3,g4⟩,us,g5,g6,g7,g8⟩:=h
 obtain ⟨rfl,hO,hsz⟩:=g4 rfl
 simp only[RelL] at g7
 obtain ⟨u0,us',rfl,r0,u1,us2,rfl,r1,rfl⟩:=g7
 have e0:=g6 0 (by simp)
 have e1:=g6 1 (by simp)
 rw[hO] at e0 e1
 obtain rfl:=AHp hsz (by simpa using e0) (by simpa using e1)
 refine ⟨h3,hO,u0,u1,g1,?_,r1,h1,h2,by rw[<-g3];exact hsz⟩
 simp only[RelV] at r0
 rcases r0 with r0 | ⟨q,hq,_,r0⟩
 ·exact .inl r0
 ·rw[hp] at hq;cases hq;rw[hO] at r0;exact .inr r0
theorem AGO {w:World} {I:Nat->Prop} {β:Nat->Option Place} {p:Place} {k j:Nat} {u0 u1:Value} (hp:β k=some p) (hb:p.backed=true) (hO:p.O=0) (hs:p.s=2) (hn:p.n=1) (hz:p.z=2) (hh:w.heap[p.B]?=some (.cells #[u0,u1] bldT (0,0))) (h0:u0=.pointer none\/u0=.pointer (some ⟨p.B,0,none⟩)) (h1:RelV (Ah w) I β (.vw j) u1):BD w I β p (.cells [.selfp k,.vw j]):=by
 have hu0:u0.oneCell'=true:=by rcases h0 with rfl | rfl<;>rfl
 have hu1:u1.oneCell'=true:=by simp only[RelV] at h1;obtain ⟨_,_,_,_,rfl,_⟩:=h1;rfl
 refine ⟨hs,hn,hb,#[u0,u1],bldT,hh,⟨by rw[hO];simp,by rw[hz];rfl,fun _=>⟨rfl,hO,rfl⟩⟩,[u0,u1],rfl,fun i hi=>?_,?_,by simp[hu0,hu1]⟩
 ·rw[hO];simp
 ·simp only[RelL]
  refine ⟨u0,_,rfl,?_,u1,_,rfl,h1,rfl⟩
  simp only[RelV]
  exact h0.imp id fun h=>⟨p,hp,hb,by rw[hO];exact h⟩
theorem AKk {w w':World} {I:Nat->Prop} {β β':Nat->Option Place} {p:Place} {l:List Int} (h:BD w I β p (.typed (.int .u8) l)) (hh:p.backed=true->w'.heap[p.B]?=w.heap[p.B]?):BD w' I β' p (.typed (.int .u8) l):=by
 obtain ⟨h1,h2,h3,h4⟩:=h
 refine ⟨h1,h2,h3,fun hb=>?_⟩
 obtain ⟨cs,ty,g1,g2,g3⟩:=h4 hb
 refine ⟨cs,ty,(hh hb).trans g1,g2,fun i x hi=>?_⟩
 obtain ⟨us,u1,u2,u3⟩:=g3 i x hi
 exact ⟨us,u1,u2,by simpa only[RelC] using u3⟩
section
variable {V:Env} (hP:V.P=Tryz.prog)
include hP
theorem AB6:Good V 190 Sd:=
 ⟨⟨_,hP ▸ Tryz.func190,by decide,rfl⟩,fun (x:(Unit×List Int)×Unit) y o hx w I β vs hG hgb hctx hargs=>by
  obtain ⟨v,rfl,h1⟩:=PE hargs
  obtain ⟨⟨u,l⟩,u2⟩:=x
  cases hx
  replace h1:RelV (Ah w) I β (.ptr 0 0 0) v:=h1
  simp only[RelV] at h1
  obtain ⟨p,hp,hpb,rfl⟩:=h1
  obtain ⟨p',hp',hbk,hrow⟩:=hctx.rows 0 (.cells [.selfp 0,.vw 1]) rfl
  rw[hp] at hp';cases hp'
  obtain ⟨hb,hO,u0,u1,hh,h0,hu1,hs,hn,hz⟩:=Sn hp hrow
  have hc0:w.cell? ⟨p.B,0,none⟩=some u0:=by simp[World.cell?,hh]
  rw[hP,show (⟨p.B,p.O+0 * p.s+0,none⟩:Addr)=⟨p.B,0,none⟩ by rw[hO];simp]
  let H:Ao:=[some (.cells [.selfp 0,.vw 1]),some (.typed (.int .u8) l)]
  show Calls Tryz.prog _ _ _ fun e w'=>∃ (us:List Value) (I':Nat->Prop) (β':Nat->Option Place),e=.returned (DI us)/\FrmC w w' (AU H β)/\OutOK w w' V.gb I β H H 1 I' β'/\RelL (Ah w') I' β' [] us
  have hctx:Ctx V.gb w I β H:=hctx
  have same:∀ i,i < 1->β i=β i/\∀ q,β i=some q->q.backed=true->CP w w q:=fun i hi=>⟨rfl,fun q hq hk=>by
   obtain rfl:i=0:=by omega
   rw[hp] at hq;cases hq
   exact .inr ⟨_,_,_,hh,hh,rfl,fun _ _=>rfl⟩⟩
  rcases h0 with rfl | rfl
  ·refine Calls.mono (Tryz.copyCheck_fresh p.B w hc0 (by simp[World.shape?,hh];rfl) (by simp[World.frozen?,hh])) ?_
   rintro e w' ⟨rfl,rfl⟩
   have hh':(w.setCell ⟨p.B,0,none⟩ (.pointer (some ⟨p.B,0,none⟩))).heap[p.B]?=some (.cells #[.pointer (some ⟨p.B,0,none⟩),u1] bldT (0,0)):=by
    simp only[World.setCell,Array.getElem?_modify,hh]
    simp
   have hoth:∀ B,B≠p.B->(w.setCell ⟨p.B,0,none⟩ (.pointer (some ⟨p.B,0,none⟩))).heap[B]?=w.heap[B]?:=fun B hB=>by
    simp only[World.setCell,Array.getElem?_modify]
    rw[if_neg (fun h=>hB h.symm)]
   have hsz:(w.setCell ⟨p.B,0,none⟩ (.pointer (some ⟨p.B,0,none⟩))).heap.size=w.heap.size:=by simp[World.setCell]
   refine ⟨[],I,β,rfl,⟨rfl,rfl,rfl,Nat.le_of_eq hsz.symm,fun B hB hnl=>hoth B fun e=>hnl ⟨0,_,p,rfl,hp,hb,e.symm⟩⟩,⟨⟨fun b r hbr=>?_,hctx.apart,fun B hB=>⟨by rw[hsz];exact (hctx.imm B hB).1,(hctx.imm B hB).2⟩,hctx.dom⟩,fun B hB=>.inl hB,fun b r q hbr hq hk=>.inl ⟨b,r,q,hbr,hq,hk,rfl⟩,fun i hi=>⟨rfl,fun q hq hk=>?_⟩⟩,by simp only[RelL]⟩
   ·cases b with
    |zero=>cases hbr;exact ⟨p,hp,fun hk=>by rw[hsz];exact hbk hk,AGO hp hb hO hs hn hz hh' (.inr rfl) (by simpa only[RelV] using hu1)⟩
    |succ b=>cases b with
     |zero=>
      cases hbr
      obtain ⟨q,hq,hqk,hqr⟩:=hctx.rows 1 _ rfl
      exact ⟨q,hq,fun hk=>by rw[hsz];exact hqk hk,AKk hqr fun hk=>hoth q.B fun e=>by have:=hctx.apart 1 0 _ _ q p rfl rfl hq hp hk hb e;cases this⟩
     |succ b=>simp[H] at hbr
   ·obtain rfl:i=0:=by omega
    rw[hp] at hq;cases hq
    refine .inr ⟨_,_,_,hh,hh',rfl,fun o ho=>?_⟩
    rw[hO,hn,hs] at ho
    rw[Array.getElem?_eq_none (by simp;omega),Array.getElem?_eq_none (by simp;omega)]
  ·refine Calls.mono (Tryz.copyCheck_used p.B w hc0) ?_
   rintro e w' ⟨rfl,rfl⟩
   exact ⟨[],I,β,rfl,⟨rfl,rfl,rfl,Nat.le_refl _,fun _ _ _=>rfl⟩,⟨hctx,fun B hB=>.inl hB,fun b r q hbr hq hk=>.inl ⟨b,r,q,hbr,hq,hk,rfl⟩,same⟩,by simp only[RelL]⟩⟩
theorem AHM:Good V 88 Tu:=
 ⟨⟨_,hP ▸ Tryz.func88,by decide,rfl⟩,fun (x:(Unit×List Int)×Unit) y o hx w I β vs hG hgb hctx hargs=>by
  obtain ⟨v,rfl,h1⟩:=PE hargs
  obtain ⟨⟨u,l⟩,u2⟩:=x
  obtain ⟨hm,hx⟩:=Lt hx
  cases hx
  simp only[decide_eq_true_eq] at hm
  replace hm:0 < l.length:=hm
  replace h1:RelV (Ah w) I β (.ptr 0 0 0) v:=h1
  simp only[RelV] at h1
  obtain ⟨p,hp,hpb,rfl⟩:=h1
  obtain ⟨p',hp',hbk,hrow⟩:=hctx.rows 0 (.cells [.selfp 0,.vw 1]) rfl
  rw[hp] at hp';cases hp'
  obtain ⟨hb,hO,u0,u1,hh,h0,hu1,hs,hn,hz⟩:=Sn hp hrow
  obtain ⟨q,hq,hqk,hqr⟩:=hctx.rows 1 (.typed (.int .u8) l) rfl
  simp only[RelV] at hu1
  obtain ⟨q',hq',a,c,rfl,hqc,ha⟩:=hu1
  rw[hq] at hq';cases hq'
  obtain ⟨q1,q2,_,q4⟩:=hqr
  obtain ⟨hqb,rfl,_⟩:=ha.resolve_left (by omega)
  obtain ⟨cs,ty,g1,⟨g2,g3,g4,g5⟩,g6⟩:=q4 hqb
  obtain rfl:=g4 rfl
  have q1:q.s=1:=q1
  rw[q1,q2] at g2
  rw[hP,show (⟨p.B,p.O+0 * p.s+0,none⟩:Addr)=⟨p.B,0,none⟩ by rw[hO];simp]
  let H:Ao:=[some (.cells [.selfp 0,.vw 1]),some (.typed (.int .u8) l)]
  show Calls Tryz.prog _ _ _ fun e w'=>∃ (us:List Value) (I':Nat->Prop) (β':Nat->Option Place),e=.returned (DI us)/\FrmC w w' (AU H β)/\OutOK w w' V.gb I β H [] 0 I' β'/\RelL (Ah w') I' β' [.str (l.map fun n=>UInt8.ofNat n.toNat)] us
  have hcall:=Tryz.Builder_String_at p.B q.B q.O c u0 cs l w (by intro e;rw[e] at hm;simp at hm) (by rw[<-q2];exact hh) g1 (by simpa using g2) (by rw[<-q2];exact hqc) (by have:cs.size<=Cs * 1:=g5;unfold Cs at this;omega) (fun j x hx=>by
   obtain ⟨us,e1,e2,e3⟩:=g6 j x hx
   have:=e2 0 (by decide)
   simp only[RelC] at e3
   subst e3
   simpa [GT.cells] using this)
  refine Calls.mono hcall ?_
  rintro e w' ⟨rfl,W,w1,w2,w3,w4,rfl⟩
  have hfz:∀ B,B≠q.B->(W.freeze ⟨q.B,q.O,none⟩ l.length).heap[B]?=w.heap[B]?:=fun B hB=>by
   rw[<-w1]
   unfold World.freeze
   split
   ·rfl
   ·simp only[Array.getElem?_modify];rw[if_neg (fun h=>hB h.symm)]
  have hfs:(W.freeze ⟨q.B,q.O,none⟩ l.length).heap.size=w.heap.size:=by
   rw[<-w1];unfold World.freeze;split<;>simp
  have hfo:(W.freeze ⟨q.B,q.O,none⟩ l.length).os=w.os/\(W.freeze ⟨q.B,q.O,none⟩ l.length).tape=w.tape/\(W.freeze ⟨q.B,q.O,none⟩ l.length).output=w.output:=by
   unfold World.freeze;split<;>exact ⟨w2,w3,w4⟩
  have hctx:Ctx V.gb w I β H:=hctx
  refine ⟨[_],I,fun _=>none,rfl,⟨hfo.1,hfo.2.1,hfo.2.2,Nat.le_of_eq hfs.symm,fun B hB hnl=>hfz B fun e=>hnl ⟨1,_,q,rfl,hq,hqb,e.symm⟩⟩,⟨⟨fun b r hbr=>by simp at hbr,fun b b' r r' q q' hb=>by simp at hb,fun B hB=>⟨by rw[hfs];exact (hctx.imm B hB).1,H4 B⟩,fun _ _=>rfl⟩,fun B hB=>.inl hB,fun b r q hbr=>by simp at hbr,fun i hi=>by cases hi⟩,?_⟩
  simp only[RelL]
  exact ⟨_,[],rfl,IF _,rfl⟩⟩
end
end Go.AM.Num
end
section
namespace Go.AM.Num
theorem BJ {α:Type} {step:α->Option (Ex×α)} {Q:Ex×α->Prop} (I:Nat->α->Prop)
 (h:∀ n x,I n x->(∃ r,step x=some r/\r.1≠.normal/\Q r)\/(∃ m y,step x=some (.normal,y)/\m < n/\I m y)) :
 ∀ n x,I n x->∃ r,Am step x=some r/\Q r:=by
 intro n
 induction n using Nat.strongRecOn with
 |_ n ih=>
  intro x hx
  rcases h n x hx with ⟨⟨ex,y⟩,hs,hne,hq⟩ | ⟨m,y,hs,hm,hy⟩
  ·refine ⟨_,?_,hq⟩
   rw[OP,hs]
   cases ex with
   |normal=>exact absurd rfl hne
   |exit id=>rfl
   |ret=>rfl
  ·obtain ⟨r,hr,hq⟩:=ih m hm y hy
   exact ⟨r,by rw[OP,hs];exact hr,hq⟩
theorem AZ {α:Type} {step:α->Option (Ex×α)} {x y:α} (h:step x=some (.normal,y)):Am step x=Am step y:=by
 rw[OP,h]
theorem AY {α:Type} {step:α->Option (Ex×α)} {x y:α} {e:Ex} (h:step x=some (e,y)) (he:e≠.normal):Am step x=some (e,y):=by
 rw[OP,h]
 cases e with
 |normal=>exact absurd rfl he
 |exit id=>rfl
 |ret=>rfl
theorem AX (i:Nat):Ex.same (.exit i) (.exit i)=true:=by simp[Ex.same]
theorem Bl:Ex.same .ret .ret=true:=by simp[Ex.same]
theorem Bk (i:Nat):Ex.same .ret (.exit i)=false:=by simp[Ex.same]
theorem YV (i:Nat):Ex.same (.exit i) .ret=false:=by simp[Ex.same]
section
variable {ρ:Type}
theorem DZ (k:Option ρ):Aa true k=k:=rfl
theorem Ak (a b:Bool) (k:Option ρ):Aa (a&&b) k=Aa a (Aa b k):=by cases a<;>rfl
theorem Ab {p:Prop} {_:Decidable p} (h:p:=by omega) (k:Option ρ):Aa (decide p) k=k:=by rw[qZ10 h];rfl
theorem E0 {x y:Int} (h:x≠y) (k:Option ρ):Aa (x !=y) k=k:=by
 have:(x !=y)=true:=by simpa using h
 rw[this];rfl
theorem Ap {α:Type} (a b:α):cond true a b=a:=rfl
theorem AA {α:Type} (a b:α):cond false a b=b:=rfl
theorem As {α:Type} {p:Prop} {_:Decidable p} (h:p:=by omega) (a b:α):cond (decide p) a b=a:=by rw[qZ10 h];rfl
theorem Ax {α:Type} {p:Prop} {_:Decidable p} (h:¬ p:=by omega) (a b:α):cond (decide p) a b=b:=by rw[qZ9 h];rfl
theorem Aq {α:Type} {x y:Int} (h:x=y:=by omega) (a b:α):cond (x==y) a b=a:=by
 have:(x==y)=true:=by simpa using h
 rw[this];rfl
theorem Ag {α:Type} {x y:Int} (h:x≠y:=by omega) (a b:α):cond (x==y) a b=b:=by
 have:(x==y)=false:=by simpa using h
 rw[this];rfl
theorem Bu {α:Type} {x y:Int} (h:x≠y:=by omega) (a b:α):cond (x !=y) a b=a:=by
 have:(x !=y)=true:=by simpa using h
 rw[this];rfl
theorem Bm {α:Type} {x y:Int} (h:x=y:=by omega) (a b:α):cond (x !=y) a b=b:=by
 have:(x !=y)=false:=by simpa using h
 rw[this];rfl
theorem Ad {α β:Type} (x:α) (f:α->Option β):(some x).bind f=f x:=rfl
end
theorem Aw {x:Int} (h:-9223372036854775808<=x/\x<=9223372036854775807:=by omega):qI x=x:=IntWalk.i64_in x h
theorem Je {x:Int} (h:0<=x/\x<=18446744073709551615):qU x=x:=IntWalk.u64_in x h
theorem P6 {x:Int} (h:0<=x/\x<=4294967295):IntKind.u32.wrap x=x:=IntWalk.u32_in x h
theorem Mo {x:Int} (h:0<=x/\x<=255):IntKind.u8.wrap x=x:=IntWalk.u8_in x h
theorem tm {x y:Int} (h:0<=x):x.tmod y=x % y:=Int.tmod_eq_emod_of_nonneg h
theorem td {x y:Int} (h:0<=x):x.tdiv y=x / y:=Int.tdiv_eq_ediv_of_nonneg h
theorem MH (a b:Int):BS a b=if b > a then b else a:=rfl
theorem AGg (a b:Int):Ga a b=if b < a then b else a:=rfl
theorem Aj:type_of% @DZ/\type_of% @Ak/\type_of% @Ab/\type_of% @E0/\type_of% @As/\type_of% @Ax/\type_of% @Aq/\type_of% @Ag/\type_of% @Bu/\type_of% @Bm/\type_of% @Aw/\type_of% @Je/\type_of% @P6/\type_of% @Mo/\type_of% @tm/\type_of% @td/\type_of% @Ad/\type_of% @AX/\type_of% @YV/\type_of% @Bk/\type_of% @Bl/\type_of% @Ap/\type_of% @AA/\(!true)=false/\(!false)=true:=⟨@DZ,@Ak,@Ab,@E0,@As,@Ax,@Aq,@Ag,@Bu,@Bm,@Aw,@Je,@P6,@Mo,@tm,@td,@Ad,@AX,@YV,@Bk,@Bl,@Ap,@AA,rfl,rfl⟩
theorem Ai:Av=68719476736/\(∀ (α:Type) (a b:List α),(a++b).length=a.length+b.length)/\(∀ (α:Type) (x:α) (l:List α),(x::l).length=l.length+1)/\(∀ α:Type,([]:List α).length=0)/\(∀ (α:Type) (l:List α) (n:Nat) (x:α),(l.set n x).length=l.length)/\
 (∀ (α:Type) (n:Nat) (x:α),(List.replicate n x).length=n)/\(∀ (α:Type) (n:Nat) (l:List α),(l.take n).length=min n l.length)/\(∀ (α:Type) (n:Nat) (l:List α),(l.drop n).length=l.length - n):=
 ⟨rfl,fun _ _ _=>qZ6,fun _ _ _=>qY11,fun _=>List.length_nil,fun _ _ _ _=>List.length_set,fun _ _ _=>List.length_replicate,fun _ _ _=>List.length_take,fun _ _ _=>List.length_drop⟩
def bp (i:Nat):Int:=1000000000 ^ i
theorem Da (i:Nat):bp (i+1)=1000000000 * bp i:=by unfold bp;rw[Int.pow_succ,Int.mul_comm]
theorem DX (i:Nat):0 < bp i:=by
 induction i with
 |zero=>decide
 |succ i ih=>rw[Da];omega
theorem Mf (i j:Nat):bp (i+j)=bp i * bp j:=by unfold bp;exact Int.pow_add ..
theorem WM {i j:Nat} (h:i<=j):bp i<=bp j:=by
 obtain ⟨k,rfl⟩:=Nat.exists_eq_add_of_le h
 rw[Mf]
 have h1:=DX i
 have h2:=DX k
 have:bp i * 1<=bp i * bp k:=Int.mul_le_mul_of_nonneg_left (by omega) (by omega)
 omega
def lv:List Int->Int
 |[]=>0
 |x::r=>x+1000000000 * lv r
def Wf (l:List Int):Prop:=∀ x∈l,0<=x/\x < 1000000000
theorem Wf.nil:Wf []:=by simp[Wf]
theorem Wf.cons {x:Int} {l:List Int} (h:0<=x/\x < 1000000000) (hl:Wf l):Wf (x::l):=by
 intro y hy
 rcases List.mem_cons.1 hy with rfl | hy
 ·exact h
 ·exact hl y hy
theorem Wf.app {a b:List Int} (ha:Wf a) (hb:Wf b):Wf (a++b):=by
 intro y hy
 rcases List.mem_append.1 hy with hy | hy
 ·exact ha y hy
 ·exact hb y hy
theorem Wf.one {x:Int} (h:0<=x/\x < 1000000000):Wf [x]:=Wf.cons h Wf.nil
theorem Wf.take {l:List Int} (h:Wf l) (n:Nat):Wf (l.take n):=fun x hx=>h x (List.mem_of_mem_take hx)
theorem Wf.drop {l:List Int} (h:Wf l) (n:Nat):Wf (l.drop n):=fun x hx=>h x (List.mem_of_mem_drop hx)
theorem Wf.set {l:List Int} (h:Wf l) (i:Nat) {x:Int} (hx:0<=x/\x < 1000000000):Wf (l.set i x):=by
 intro y hy
 rcases List.mem_or_eq_of_mem_set hy with hy | rfl
 ·exact h y hy
 ·exact hx
theorem Wf.at {l:List Int} (h:Wf l) (i:Nat):0<=l.getD i 0/\l.getD i 0 < 1000000000:=by
 by_cases hi:i < l.length
 ·rw[qZ4,qZ5 hi]
  exact h _ (List.getElem_mem hi)
 ·rw[qZ4,List.getElem?_eq_none (by omega)]
  decide
theorem Wf.zeros (n:Nat):Wf (List.replicate n (0:Int)):=by
 intro x hx
 rw[List.eq_of_mem_replicate hx]
 decide
theorem OY (a b:List Int):lv (a++b)=lv a+bp a.length * lv b:=by
 induction a with
 |nil=>simp[lv,bp]
 |cons x a ih=>
  simp only[qY5,lv,ih,qY11,Da]
  grind
theorem Pb (x:Int):lv [x]=x:=by simp[lv]
theorem Hr (a:List Int) (x:Int):lv (a++[x])=lv a+x * bp a.length:=by rw[OY,Pb,Int.mul_comm]
theorem ACY (n:Nat):lv (List.replicate n (0:Int))=0:=by
 induction n with
 |zero=>rfl
 |succ n ih=>simp[List.replicate_succ,lv,ih]
theorem CO {l:List Int} (h:Wf l):0<=lv l:=by
 induction l with
 |nil=>simp[lv]
 |cons x l ih=>
  have h1:=h x (by simp)
  have h2:=ih fun y hy=>h y (by simp[hy])
  simp only[lv];omega
theorem DU {l:List Int} (h:Wf l):lv l < bp l.length:=by
 induction l with
 |nil=>simp[lv,bp]
 |cons x l ih=>
  have h1:=h x (by simp)
  have h2:=ih fun y hy=>h y (by simp[hy])
  simp only[lv,qY11,Da];omega
theorem DQ (l:List Int) (n:Nat) (h:n<=l.length):lv l=lv (l.take n)+bp n * lv (l.drop n):=by
 have:=OY (l.take n) (l.drop n)
 rw[List.take_append_drop] at this
 rw[this,List.length_take,Nat.min_eq_left h]
theorem Jj {l:List Int} {i:Nat} (h:i < l.length):l.getD i 0=l[i]:=by
 rw[qZ4,qZ5 h];rfl
theorem N3 {l:List Int} {i:Nat} (h:l.length<=i):l.getD i 0=0:=by
 rw[qZ4,List.getElem?_eq_none h];rfl
theorem ZR {l:List Int} {i:Nat} (h:i < l.length):l.take (i+1)=l.take i++[l.getD i 0]:=by
 rw[Jj h,List.take_succ_eq_append_getElem h]
theorem AMA {l:List Int} {i:Nat} (h:i < l.length):lv (l.take (i+1))=lv (l.take i)+l.getD i 0 * bp i:=by
 rw[ZR h,Hr,List.length_take,Nat.min_eq_left (by omega)]
theorem Ft (l:List Int) (i:Nat):lv (l.take (i+1))=lv (l.take i)+l.getD i 0 * bp i:=by
 by_cases h:i < l.length
 ·exact AMA h
 ·rw[List.take_of_length_le (by omega),List.take_of_length_le (by omega),N3 (by omega)];simp
theorem C7 {l:List Int} {i:Nat} (h:i < l.length):lv (l.drop i)=l.getD i 0+1000000000 * lv (l.drop (i+1)):=by
 rw[qY6 h,lv,Jj h]
theorem NT {l:List Int} {i:Nat} (h:i < l.length) (x:Int):lv (l.set i x)=lv l+(x - l.getD i 0) * bp i:=by
 induction l generalizing i with
 |nil=>simp at h
 |cons y l ih=>
  cases i with
  |zero=>simp[lv,bp];omega
  |succ i=>
   simp only[List.set_cons_succ,lv,qZ2,Da]
   rw[ih (by simpa using h)]
   grind
theorem I5 {l:List Int} {i j:Nat} (h:i < l.length) (x:Int):(l.set i x).getD j 0=if i=j then x else l.getD j 0:=by
 rw[qZ4,List.getElem?_set]
 split
 ·rename_i e;subst e;simp[h]
 ·rw[qZ4]
def limbs (n:Nat):List Int:=if h:n=0 then [] else ((n % 1000000000:Nat):Int)::limbs (n / 1000000000)
 termination_by n
 decreasing_by omega
theorem limbs_zero:limbs 0=[]:=by rw[limbs,dif_pos rfl]
theorem H_ {n:Nat} (h:n≠0):limbs n=((n % 1000000000:Nat):Int)::limbs (n / 1000000000):=by rw[limbs,dif_neg h]
theorem Dw (n:Nat):Wf (limbs n):=by
 induction n using Nat.strongRecOn with
 |_ n ih=>
  by_cases h:n=0
  ·subst h;rw[limbs_zero];exact Wf.nil
  ·rw[H_ h];exact Wf.cons (by omega) (ih _ (by omega))
theorem CE (n:Nat):lv (limbs n)=n:=by
 induction n using Nat.strongRecOn with
 |_ n ih=>
  by_cases h:n=0
  ·subst h;rw[limbs_zero];rfl
  ·rw[H_ h,lv,ih _ (by omega)];omega
theorem limbs_nil {n:Nat}:limbs n=[] ↔ n=0:=by
 constructor
 ·intro h
  have:=CE n
  rw[h] at this;simp[lv] at this;omega
 ·rintro rfl;exact limbs_zero
theorem MD (n i:Nat) (h:i+1=(limbs n).length):(limbs n).getD i 0≠0:=by
 induction n using Nat.strongRecOn generalizing i with
 |_ n ih=>
  by_cases h0:n=0
  ·subst h0;rw[limbs_zero] at h;simp at h
  ·rw[H_ h0] at h ⊢
   cases i with
   |zero=>
    simp only[qY11] at h
    have:limbs (n / 1000000000)=[]:=List.eq_nil_of_length_eq_zero (by omega)
    rw[limbs_nil] at this
    simp;omega
   |succ i=>
    simp only[qY11] at h
    simpa using ih (n / 1000000000) (by omega) i (by omega)
theorem AJd {l:List Int} (h:Wf l) (ht:∀ i,i+1=l.length->l.getD i 0≠0):l=limbs (lv l).toNat:=by
 induction l with
 |nil=>simp[lv,limbs_zero]
 |cons x l ih=>
  have hx:=h x (by simp)
  have hl:Wf l:=fun y hy=>h y (by simp[hy])
  have hn:=CO hl
  have ih':=ih hl fun i hi=>by
   have:=ht (i+1) (by simp[hi])
   simpa using this
  have hpos:(lv (x::l)).toNat≠0:=by
   simp only[lv]
   cases l with
   |nil=>
    have:=ht 0 (by simp)
    simp only[qZ3] at this
    simp only[lv];omega
   |cons y l'=>
    have:lv (y::l')≠0:=by
     intro e
     rw[e] at ih'
     simp[limbs_zero] at ih'
    omega
  rw[H_ hpos]
  have e1:(lv (x::l)).toNat / 1000000000=(lv l).toNat:=by simp only[lv];omega
  have e2:(((lv (x::l)).toNat % 1000000000:Nat):Int)=x:=by simp only[lv];omega
  rw[e1,e2,<-ih']
theorem Jy (n:Nat):(n:Int) < bp (limbs n).length:=by
 have:=DU (Dw n)
 rwa [CE] at this
theorem Ts {n:Nat} (h:n≠0):bp ((limbs n).length - 1)<=n:=by
 induction n using Nat.strongRecOn with
 |_ n ih=>
  rw[H_ h]
  by_cases h0:n / 1000000000=0
  ·rw[h0,limbs_zero];simp[bp];omega
  ·have:=ih (n / 1000000000) (by omega) h0
   have hl:(limbs (n / 1000000000)).length≠0:=by
    intro e;exact h0 (limbs_nil.1 (List.eq_nil_of_length_eq_zero e))
   simp only[qY11,Nat.add_sub_cancel]
   have e:(limbs (n / 1000000000)).length=((limbs (n / 1000000000)).length - 1)+1:=by omega
   rw[e,Da];omega
theorem AIP {i j:Nat} (h:bp i < bp j):i < j:=by
 apply Nat.lt_of_not_le
 intro hle
 have:=WM hle
 omega
theorem O2 {n k:Nat} (h:(n:Int) < bp k):(limbs n).length<=k:=by
 by_cases h0:n=0
 ·subst h0;rw[limbs_zero];simp
 ·have:=Ts h0
  have h2:(limbs n).length - 1 < k:=AIP (by omega)
  omega
theorem IZ {m n:Nat} (h:m<=n):(limbs m).length<=(limbs n).length:=
 O2 (by have:=Jy n;omega)
theorem Tx (m n:Nat):(limbs (m * n)).length<=(limbs m).length+(limbs n).length:=by
 apply O2
 rw[Mf,Int.natCast_mul]
 have h1:=Jy m
 have h2:=Jy n
 exact Int.mul_lt_mul' (by omega) h2 (by omega) (by have:=DX (limbs m).length;omega)
theorem limbs_small {n:Nat} (h0:n≠0) (h:n < 1000000000):limbs n=[(n:Int)]:=by
 rw[H_ h0,Nat.mod_eq_of_lt h,Nat.div_eq_of_lt h,limbs_zero]
end Go.AM.Num
end
section
namespace Go.AM.Num
theorem Cx:Av=68719476736:=rfl
theorem FZ {l:List Int} (hw:Wf l) (hl:l.length<=1000000000000):Eu l=some ((limbs (lv l).toNat,()),()):=by
 obtain ⟨r,hr,n,rfl,hn,hz,ht⟩:=BJ (step:=Ez) (Q:=fun r=>∃ n:Nat,r=(Ex.exit 0,(l,(n:Int),()))/\n<=l.length/\lv (l.drop n)=0/\∀ i,i+1=n->l.getD i 0≠0)
  (fun m x=>x=(l,(m:Int),())/\m<=l.length/\lv (l.drop m)=0) (by
   rintro n x ⟨rfl,hn,hz⟩
   by_cases h0:n=0
   ·subst h0
    refine .inl ⟨_,?_,?_,0,rfl,hn,hz,by omega⟩
    ·simp (disch:=omega) only[Ez,Ax]
    ·simp
   ·have e:((n:Int) - 1).toNat=n - 1:=by omega
    have hi:n - 1 < l.length:=by omega
    by_cases hx:l.getD (n - 1) 0=0
    ·refine .inr ⟨n - 1,_,?_,by omega,rfl,by omega,?_⟩
     ·simp (disch:=omega) only[Ez,As,Ak,Ab,Aw,e,Aq]
      rw[show ((n:Int) - 1)=((n - 1:Nat):Int) by omega]
     ·rw[C7 hi,hx,show n - 1+1=n by omega,hz];rfl
    ·refine .inl ⟨_,?_,?_,n,rfl,hn,hz,fun i hi'=>by rw[show i=n - 1 by omega];exact hx⟩
     ·simp (disch:=omega) only[Ez,As,Ak,Ab,Aw,e,Ag]
     ·simp) l.length (l,(l.length:Int),()) ⟨rfl,Nat.le_refl _,by rw[List.drop_length];rfl⟩
 unfold Eu
 rw[hr]
 have e:((n:Int)).toNat=n:=by omega
 simp (disch:=omega) only[Ad,AX,Ap,Ak,Ab,e]
 congr 2
 congr 1
 rw[AJd (hw.take n) (fun i hi=>by
  rw[List.length_take,Nat.min_eq_left hn] at hi
  have:(l.take n).getD i 0=l.getD i 0:=by
   rw[qZ4,List.getElem?_take,if_pos (by omega),qZ4]
  rw[this];exact ht i hi)]
 have:=DQ l n hn
 rw[hz] at this
 rw[this];simp
theorem ON (l:List Int) {i:Int} (h0:0<=i):Hf l i=some ((l.getD i.toNat 0,()),()):=by
 unfold Hf
 by_cases h:i < l.length
 ·simp (disch:=omega) only[Ax,As,Ak,Ab]
 ·simp (disch:=omega) only[Ax,As,Ak,Ab]
  rw[N3 (by omega)]
theorem Hj (n:Nat):Fo (limbs n)=some ((decide (n=1),()),()):=by
 unfold Fo
 by_cases h0:n=0
 ·subst h0;rw[limbs_zero];simp[cond]
 ·by_cases hl:(limbs n).length=1
  ·have hlt:n < 1000000000:=by
    have:=Jy n
    rw[hl] at this;simp[bp] at this;omega
   rw[limbs_small h0 hlt]
   simp (disch:=(first | omega | (simp only[Ai];omega))) only[Aj]
   by_cases h1:n=1
   ·subst h1;rfl
   ·have e:((n:Int)==1)=false:=by rw[beq_eq_false_iff_ne];omega
    show some (((n:Int)==1,()),())=_
    rw[e,qZ9 h1]
  ·have:n≠1:=by rintro rfl;exact hl (by rw[limbs_small (by decide) (by decide)];rfl)
   simp (disch:=(first | omega | (simp only[Ai];omega))) only[Aj]
   simp[this]
theorem X7 (a b:Nat):BS (a:Int) (b:Int)=((max a b:Nat):Int):=by
 rw[MH];split<;>omega
theorem AJH {a b:List Int} (ha:Wf a) (hb:Wf b) (hal:a.length<=1000000000) (hbl:b.length<=1000000000):Iu a b=some ((limbs (lv a+lv b).toNat,()),()):=by
 obtain ⟨K,hK⟩:∃ K,K=max a.length b.length:=⟨_,rfl⟩
 have hKe:=X7 a.length b.length
 rw[<-hK] at hKe
 have hK1:K<=1000000000:=by omega
 obtain ⟨r,hr,out,c,rfl,ho,hw,hc,hv⟩:=BJ (step:=L_) (Q:=fun r=>∃ (out:List Int) (c:Int),r=(Ex.exit 0,(a,b,out,c,(K:Int),(K:Int),()))/\out.length=K/\Wf out/\(0<=c/\c<=1)/\lv out+c * bp K=lv a+lv b)
  (fun m x=>∃ (k:Nat) (out:List Int) (c:Int),x=(a,b,out,c,(K:Int),(k:Int),())/\m+k=K/\out.length=k/\Wf out/\(0<=c/\c<=1)/\lv out+c * bp k=lv (a.take k)+lv (b.take k)) (by
   rintro m x ⟨k,out,c,rfl,hm,ho,hw,hc,hv⟩
   by_cases hlt:k < K
   ·have h1:=ha.at k
    have h2:=hb.at k
    have hk:(k:Int).toNat=k:=by omega
    have e1:=ON a (i:=(k:Int)) (by omega)
    have e2:=ON b (i:=(k:Int)) (by omega)
    rw[hk] at e1 e2
    refine .inr ⟨m - 1,(a,b,out++[(a.getD k 0+b.getD k 0+c) % 1000000000],(a.getD k 0+b.getD k 0+c) / 1000000000,(K:Int),((k+1:Nat):Int),()),?_,by omega,k+1,_,_,rfl,by omega,by simp[ho],hw.app (Wf.one (by omega)),by omega,?_⟩
    ·simp (disch:=(first | omega | (simp only[Ai];omega))) only[L_,e1,e2,Aj]
     rfl
    ·rw[Hr,ho,Ft,Ft,Da]
     have:=Int.emod_add_mul_ediv (a.getD k 0+b.getD k 0+c) 1000000000
     grind
   ·refine .inl ⟨(Ex.exit 0,(a,b,out,c,(K:Int),(K:Int),())),?_,by simp,out,c,rfl,by omega,hw,hc,?_⟩
    ·simp (disch:=(first | omega | (simp only[Ai];omega))) only[L_,Aj]
     rw[show k=K by omega]
    ·rw[List.take_of_length_le (by omega),List.take_of_length_le (by omega)] at hv
     rw[<-hv,show k=K by omega]) K (a,b,List.replicate (0:Int).toNat 0,0,(K:Int),0,()) ⟨0,[],0,rfl,by omega,rfl,Wf.nil,by omega,by simp[lv]⟩
 unfold Iu
 have hcw:=hw.app (Wf.one (x:=c) (by omega))
 rw[hKe,hr]
 have ht:=FZ hcw (by simp;omega)
 simp (disch:=(first | omega | (simp only[Ai];omega))) only[ht,Aj]
 rw[Hr,ho,hv]
theorem Uk (m n:Nat) (hm:(limbs m).length<=1000000000) (hn:(limbs n).length<=1000000000):Iu (limbs m) (limbs n)=some ((limbs (m+n),()),()):=by
 rw[AJH (Dw m) (Dw n) hm hn,CE,CE,show ((m:Int)+n).toNat=m+n by omega]
end Go.AM.Num
end
section
namespace Go.AM.Num
theorem AGQ {a b:List Int} (ha:Wf a) (hb:Wf b) (hal:a.length<=1000000000) (hbl:b.length<=a.length) (hle:lv b<=lv a):HZ a b=some ((limbs (lv a - lv b).toNat,()),()):=by
 obtain ⟨K,hK⟩:∃ K,K=a.length:=⟨_,rfl⟩
 obtain ⟨r,hr,out,c,rfl,ho,hw,hc,hv⟩:=BJ (step:=Ju) (Q:=fun r=>∃ (out:List Int) (c:Int),r=(Ex.exit 0,(a,b,out,c,(K:Int),(K:Int),()))/\out.length=K/\Wf out/\(0<=c/\c<=1)/\lv out - c * bp K=lv a - lv b)
  (fun m x=>∃ (k:Nat) (out:List Int) (c:Int),x=(a,b,out,c,(K:Int),(k:Int),())/\m+k=K/\out.length=k/\Wf out/\(0<=c/\c<=1)/\lv out - c * bp k=lv (a.take k) - lv (b.take k)) (by
   rintro m x ⟨k,out,c,rfl,hm,ho,hw,hc,hv⟩
   by_cases hlt:k < K
   ·have h1:=ha.at k
    have h2:=hb.at k
    have hk:(k:Int).toNat=k:=by omega
    have e2:=ON b (i:=(k:Int)) (by omega)
    rw[hk] at e2
    by_cases hneg:a.getD k 0 - b.getD k 0 - c < 0
    ·refine .inr ⟨m - 1,(a,b,out++[a.getD k 0 - b.getD k 0 - c+1000000000],1,(K:Int),((k+1:Nat):Int),()),?_,by omega,k+1,_,_,rfl,by omega,by simp[ho],hw.app (Wf.one (by omega)),by omega,?_⟩
     ·simp (disch:=(first | omega | (simp only[Ai];omega))) only[Ju,e2,hk,Aj]
      rfl
     ·rw[Hr,ho,Ft,Ft,Da]
      grind
    ·refine .inr ⟨m - 1,(a,b,out++[a.getD k 0 - b.getD k 0 - c],0,(K:Int),((k+1:Nat):Int),()),?_,by omega,k+1,_,_,rfl,by omega,by simp[ho],hw.app (Wf.one (by omega)),by omega,?_⟩
     ·simp (disch:=(first | omega | (simp only[Ai];omega))) only[Ju,e2,hk,Aj]
      rfl
     ·rw[Hr,ho,Ft,Ft,Da]
      grind
   ·refine .inl ⟨(Ex.exit 0,(a,b,out,c,(K:Int),(K:Int),())),?_,by simp,out,c,rfl,by omega,hw,hc,?_⟩
    ·simp (disch:=(first | omega | (simp only[Ai];omega))) only[Ju,Aj]
     rw[show k=K by omega]
    ·rw[List.take_of_length_le (by omega),List.take_of_length_le (by omega)] at hv
     rw[<-hv,show k=K by omega]) K (a,b,List.replicate (0:Int).toNat 0,0,(K:Int),0,()) ⟨0,[],0,rfl,by omega,rfl,Wf.nil,by omega,by simp[lv]⟩
 have hc0:c=0:=by
  have h1:=DU hw
  rw[ho] at h1
  rcases (show c=0\/c=1 by omega) with h | h
  ·exact h
  ·subst h;omega
 subst hc0
 unfold HZ
 rw[<-hK,hr]
 have ht:=FZ hw (by omega)
 simp (disch:=(first | omega | (simp only[Ai];omega))) only[ht,Aj]
 rw[<-hv];simp
theorem AAB {m n:Nat} (h:n<=m):(limbs n).length<=(limbs m).length:=IZ h
theorem Rg (m n:Nat) (hm:(limbs m).length<=1000000000) (h:n<=m):HZ (limbs m) (limbs n)=some ((limbs (m - n),()),()):=by
 rw[AGQ (Dw m) (Dw n) hm (AAB h) (by rw[CE,CE];omega),CE,CE,show ((m:Int) - n).toNat=m - n by omega]
theorem lv_lt_of_top {a b:List Int} (ha:Wf a) (hb:Wf b) {i:Nat} (hal:i < a.length) (hbl:i < b.length) (hd:a.drop (i+1)=b.drop (i+1)) (h:a.getD i 0 < b.getD i 0):lv a < lv b:=by
 have h1:=DQ a i (by omega)
 have h2:=DQ b i (by omega)
 rw[C7 hal,hd] at h1
 rw[C7 hbl] at h2
 have h3:=DU (ha.take i)
 have h4:=CO (hb.take i)
 rw[List.length_take,Nat.min_eq_left (by omega)] at h3
 have h5:=DX i
 have h6:bp i * (a.getD i 0+1)<=bp i * b.getD i 0:=Int.mul_le_mul_of_nonneg_left (by omega) (by omega)
 rw[Int.mul_add] at h1 h2 h6
 omega
theorem Uc {a b:List Int} (ha:Wf a) (hb:Wf b) (ht:b.getD (b.length - 1) 0≠0) (h:a.length < b.length):lv a < lv b:=by
 have h1:=DU ha
 have h2:=DQ b (b.length - 1) (by omega)
 rw[C7 (by omega),show b.length - 1+1=b.length by omega,List.drop_length] at h2
 have h4:=CO (hb.take (b.length - 1))
 have h5:=hb.at (b.length - 1)
 have h6:=WM (show a.length<=b.length - 1 by omega)
 have h7:=DX (b.length - 1)
 have h8:bp (b.length - 1) * 1<=bp (b.length - 1) * b.getD (b.length - 1) 0:=Int.mul_le_mul_of_nonneg_left (by omega) (by omega)
 simp only[lv] at h2
 rw[Int.mul_add] at h2
 omega
theorem XU (m n:Nat) (hm:(limbs m).length<=1000000000) (hn:(limbs n).length<=1000000000):∃ c,If (limbs m) (limbs n)=some ((c,()),())/\(c < 0 ↔ m < n)/\(c=0 ↔ m=n):=by
 have ha:=Dw m
 have hb:=Dw n
 have hma:=CE m
 have hnb:=CE n
 by_cases hl:(limbs m).length=(limbs n).length
 ·obtain ⟨a,hae⟩:∃ a,a=limbs m:=⟨_,rfl⟩
  obtain ⟨b,hbe⟩:∃ b,b=limbs n:=⟨_,rfl⟩
  rw[<-hae] at ha hma hl hm ⊢
  rw[<-hbe] at hb hnb hl hn ⊢
  obtain ⟨r,hr,hq⟩:=BJ (step:=Iy) (Q:=fun r=>(∃ x,r=(Ex.exit 0,x)/\lv a=lv b)\/(∃ c i,r=(Ex.ret,(a,b,c,i,()))/\(c < 0 ↔ lv a < lv b)/\c≠0/\lv a≠lv b))
   (fun k x=>x=(a,b,0,(k:Int) - 1,())/\k<=a.length/\a.drop k=b.drop k) (by
    rintro k x ⟨rfl,hk,hd⟩
    by_cases h0:k=0
    ·subst h0
     refine .inl ⟨(Ex.exit 0,(a,b,0,((0:Nat):Int) - 1,())),?_,?_,.inl ⟨_,rfl,by simpa using congrArg lv hd⟩⟩
     ·simp (disch:=(first | omega | (simp only[Ai];omega))) only[Iy,Aj]
     ·simp
    ·have e:((k:Int) - 1).toNat=k - 1:=by omega
     have h1:=ha.at (k - 1)
     have h2:=hb.at (k - 1)
     by_cases hx:a.getD (k - 1) 0=b.getD (k - 1) 0
     ·refine .inr ⟨k - 1,_,?_,by omega,rfl,by omega,?_⟩
      ·simp (disch:=(first | omega | (simp only[Ai];omega))) only[Iy,e,Aj]
       rw[show ((k - 1:Nat):Int) - 1=(k:Int) - 1 - 1 by omega]
      ·rw[qY6 (show k - 1 < a.length by omega),qY6 (show k - 1 < b.length by omega),show k - 1+1=k by omega,hd]
       rw[Jj (by omega),Jj (by omega)] at hx
       rw[hx]
     ·have hd':a.drop (k - 1+1)=b.drop (k - 1+1):=by rw[show k - 1+1=k by omega];exact hd
      refine .inl ⟨_,?_,?_,.inr ⟨a.getD (k - 1) 0 - b.getD (k - 1) 0,(k:Int) - 1,rfl,?_,by omega,?_⟩⟩
      ·simp (disch:=(first | omega | (simp only[Ai];omega))) only[Iy,e,Aj]
      ·simp
      ·constructor
       ·intro h;exact lv_lt_of_top ha hb (by omega) (by omega) hd' (by omega)
       ·intro h
        by_cases hy:a.getD (k - 1) 0 < b.getD (k - 1) 0
        ·omega
        ·have:=lv_lt_of_top hb ha (i:=k - 1) (by omega) (by omega) hd'.symm (by omega)
         omega
      ·intro h
       by_cases hy:a.getD (k - 1) 0 < b.getD (k - 1) 0
       ·have:=lv_lt_of_top ha hb (i:=k - 1) (by omega) (by omega) hd' (by omega)
        omega
       ·have:=lv_lt_of_top hb ha (i:=k - 1) (by omega) (by omega) hd'.symm (by omega)
        omega) a.length (a,b,0,(a.length:Int) - 1,()) ⟨rfl,Nat.le_refl _,by rw[List.drop_length,hl,List.drop_length]⟩
  rcases hq with ⟨x,rfl,he⟩ | ⟨c,i,rfl,h1,h2,h3⟩
  ·refine ⟨0,?_,?_,?_⟩
   ·unfold If
    simp (disch:=(first | omega | (simp only[Ai];omega))) only[hr,Aj]
   ·omega
   ·omega
  ·refine ⟨c,?_,?_,?_⟩
   ·unfold If
    simp (disch:=(first | omega | (simp only[Ai];omega))) only[hr,Aj]
   ·omega
   ·omega
 ·have hcases:(limbs m).length < (limbs n).length/\m < n\/(limbs n).length < (limbs m).length/\n < m:=by
   rcases Nat.lt_or_ge (limbs m).length (limbs n).length with h | h
   ·refine .inl ⟨h,?_⟩
    have:=Uc ha hb (MD n _ (by omega)) h
    omega
   ·have h':(limbs n).length < (limbs m).length:=by omega
    refine .inr ⟨h',?_⟩
    have:=Uc hb ha (MD m _ (by omega)) h'
    omega
  refine ⟨((limbs m).length:Int) - (limbs n).length,?_,?_,?_⟩
  ·unfold If
   simp (disch:=(first | omega | (simp only[Ai];omega))) only[Aj]
  ·omega
  ·omega
end Go.AM.Num
end
section
namespace Go.AM.Num
def dig (c:UInt8):Nat:=c.toNat - 48
def FH (c:UInt8):Prop:=48<=c.toNat/\c.toNat<=57
def AS (s:qBs):Prop:=∀ c∈s,FH c
def dval (s:qBs):Nat:=s.foldl (fun v c=>10 * v+dig c) 0
theorem AJi:dval []=0:=rfl
theorem FJ (s:qBs) (c:UInt8):dval (s++[c])=10 * dval s+dig c:=by simp[dval]
theorem AAF (s:qBs) (v:Nat):s.foldl (fun v c=>10 * v+dig c) v=v * 10 ^ s.length+dval s:=by
 induction s generalizing v with
 |nil=>simp[dval]
 |cons c s ih=>
  simp only[List.foldl_cons,dval,qY11,Nat.pow_succ]
  rw[ih (10 * v+dig c),ih (10 * 0+dig c)]
  grind
theorem OQ (a b:qBs):dval (a++b)=dval a * 10 ^ b.length+dval b:=by
 show (a++b).foldl (fun v c=>10 * v+dig c) 0=_
 rw[List.foldl_append,AAF]
 rfl
theorem FB (c:UInt8) (s:qBs):dval (c::s)=dig c * 10 ^ s.length+dval s:=by
 have:=OQ [c] s
 simpa [dval] using this
theorem AS.app {a b:qBs} (ha:AS a) (hb:AS b):AS (a++b):=fun c hc=>(List.mem_append.1 hc).elim (ha c) (hb c)
theorem AS.take {s:qBs} (h:AS s) (n:Nat):AS (s.take n):=fun c hc=>h c (List.mem_of_mem_take hc)
theorem AS.drop {s:qBs} (h:AS s) (n:Nat):AS (s.drop n):=fun c hc=>h c (List.mem_of_mem_drop hc)
theorem Qv {c:UInt8} (h:FH c):dig c < 10:=by unfold dig;have:=h.2;omega
theorem E6 {s:qBs} (h:AS s):dval s < 10 ^ s.length:=by
 induction s with
 |nil=>simp[dval]
 |cons c s ih=>
  have h1:=Qv (h c (by simp))
  have h2:=ih fun c' hc'=>h c' (by simp[hc'])
  rw[FB,qY11,Nat.pow_succ]
  have:dig c * 10 ^ s.length<=9 * 10 ^ s.length:=Nat.mul_le_mul_right _ (by omega)
  omega
theorem T8 (k:Nat):bp k=((10 ^ (9 * k):Nat):Int):=by
 induction k with
 |zero=>rfl
 |succ k ih=>rw[Da,ih,show 9 * (k+1)=9 * k+9 by omega,Nat.pow_add];simp;omega
theorem AIZ (s:qBs) (out:List Int) (e:Int) (ch:qBs) (hd:AS ch) (hl:ch.length<=9) :
 Am Jd (s,out,e,0,ch.map (fun b=>(b.toNat:Int)),(ch.length:Int),0,())=some (Ex.exit 2,(s,out,e,(dval ch:Int),ch.map (fun b=>(b.toNat:Int)),(ch.length:Int),(ch.length:Int),())):=by
 obtain ⟨r,hr,rfl⟩:=BJ (step:=Jd) (Q:=fun r=>r=(Ex.exit 2,(s,out,e,(dval ch:Int),ch.map (fun b=>(b.toNat:Int)),(ch.length:Int),(ch.length:Int),())))
  (fun m x=>∃ k:Nat,m+k=ch.length/\x=(s,out,e,(dval (ch.take k):Int),ch.map (fun b=>(b.toNat:Int)),(ch.length:Int),(k:Int),())) (by
   rintro m x ⟨k,hm,rfl⟩
   by_cases hk:k < ch.length
   ·have hc:=hd _ (List.getElem_mem hk)
    have hg:(ch.map (fun b=>(b.toNat:Int))).getD k 0=(ch[k].toNat:Int):=by
     rw[qZ4,List.getElem?_map,qZ5 hk];rfl
    have hlt:=E6 (hd.take k)
    have hp:10 ^ (ch.take k).length<=10 ^ 8:=Nat.pow_le_pow_right (by decide) (by rw[List.length_take];omega)
    have hs:dval (ch.take (k+1))=10 * dval (ch.take k)+dig ch[k]:=by
     rw[List.take_succ_eq_append_getElem hk,FJ]
    have hk':(k:Int).toNat=k:=by omega
    have h1:=hc.1
    have h2:=hc.2
    have hdig:(dig ch[k]:Int)=(ch[k].toNat:Int) - 48:=by unfold dig;omega
    refine .inr ⟨m - 1,_,?_,by omega,k+1,by omega,rfl⟩
    ·rw[hs]
     have hml:(ch.map (fun b=>(b.toNat:Int))).length=ch.length:=by simp
     simp (disch:=(first | omega | (simp only[Ai];omega))) only[Jd,hk',hg,hml,Aj]
     rw[show ((10 * dval (ch.take k)+dig ch[k]:Nat):Int)=(dval (ch.take k):Int) * 10+((ch[k].toNat:Int) - 48) by omega]
     rfl
   ·refine .inl ⟨_,?_,?_,rfl⟩
    ·simp (disch:=(first | omega | (simp only[Ai];omega))) only[Jd,Aj]
     rw[show k=ch.length by omega,List.take_length]
    ·simp) ch.length _ ⟨0,by omega,rfl⟩
 exact hr
theorem P2 {s:qBs} (hd:AS s) (hl:s.length<=1000000000):HE s=some ((limbs (dval s),()),()):=by
 obtain ⟨r,hr,out,e,rfl,ho,hw,hv⟩:=BJ (step:=J6) (Q:=fun r=>∃ (out:List Int) (e:Int),r=(Ex.exit 0,(s,out,e,()))/\out.length<=s.length+1/\Wf out/\lv out=dval s)
  (fun m x=>∃ (k:Nat) (out:List Int),x=(s,out,(s.length:Int) - 9 * k,())/\m+9 * k=s.length+9/\out.length=k/\Wf out/\lv out=dval (s.drop (s.length - 9 * k))) (by
   rintro m x ⟨k,out,rfl,hm,ho,hw,hv⟩
   by_cases hpos:9 * k < s.length
   ·obtain ⟨lo,hlo⟩:∃ lo:Nat,lo=s.length - 9 * k - 9:=⟨_,rfl⟩
    obtain ⟨hi,hhi⟩:∃ hi:Nat,hi=s.length - 9 * k:=⟨_,rfl⟩
    have hie:(s.length:Int) - 9 * k=(hi:Int):=by omega
    have hmx:BS ((hi:Int) - 9) 0=(lo:Int):=by rw[MH];split<;>omega
    have hin:(hi:Int).toNat=hi:=by omega
    have hln:(lo:Int).toNat=lo:=by omega
    obtain ⟨ch,hch⟩:∃ ch,ch=(s.take hi).drop lo:=⟨_,rfl⟩
    have hchl:ch.length=hi - lo:=by rw[hch,List.length_drop,List.length_take];omega
    have hcd:AS ch:=by rw[hch];exact (hd.take hi).drop lo
    have hlt:=E6 hcd
    have hp:10 ^ ch.length<=10 ^ 9:=Nat.pow_le_pow_right (by decide) (by omega)
    have hin7:=AIZ s out (hi:Int) ch hcd (by omega)
    have hsplit:s.drop lo=ch++s.drop hi:=by
     rw[hch]
     have h1:s=s.take hi++s.drop hi:=(List.take_append_drop hi s).symm
     conv=>lhs;rw[h1,List.drop_append_of_le_length (by rw[List.length_take];omega)]
    rw[hie]
    refine .inr ⟨m - 9,(s,out++[(dval ch:Int)],(hi:Int) - 9,()),?_,by omega,k+1,out++[(dval ch:Int)],?_,by omega,by simp[ho],hw.app (Wf.one (by omega)),?_⟩
    ·have hcl:((ch.map (fun b=>(b.toNat:Int))).length:Int)=(ch.length:Int):=by simp
     have hmap:((s.take hi).drop lo).map (fun b=>(b.toNat:Int))=ch.map (fun b=>(b.toNat:Int)):=by rw[hch]
     simp (disch:=(first | omega | (simp only[Ai];omega))) only[J6,hmx,hin,hln,hmap,hcl,hin7,Aj]
    ·rw[show (s.length:Int) - 9 * ((k+1:Nat):Int)=(hi:Int) - 9 by omega]
    ·rw[Hr,ho,hv,<-hhi,show s.length - 9 * (k+1)=lo by omega,hsplit,OQ,T8,List.length_drop,show s.length - hi=9 * k by omega]
     simp;omega
   ·refine .inl ⟨(Ex.exit 0,(s,out,(s.length:Int) - 9 * k,())),?_,by simp,out,_,rfl,by omega,hw,?_⟩
    ·simp (disch:=(first | omega | (simp only[Ai];omega))) only[J6,Aj]
    ·rw[hv,show s.length - 9 * k=0 by omega,List.drop_zero]) (s.length+9) (s,[],(s.length:Int),()) ⟨0,[],by simp,by omega,rfl,Wf.nil,by simp[lv,dval]⟩
 unfold HE
 rw[hr]
 have ht:=FZ hw (by omega)
 simp (disch:=(first | omega | (simp only[Ai];omega))) only[ht,Aj]
 rw[hv];simp
end Go.AM.Num
end
section
namespace Go.AM.Num
theorem Qk {x y:Int} (hx:0<=x/\x < 1000000000) (hy:0<=y/\y < 1000000000):0<=x * y/\x * y<=999999998000000001:=by
 refine ⟨Int.mul_nonneg hx.1 hy.1,?_⟩
 have h1:x * y<=999999999 * y:=Int.mul_le_mul_of_nonneg_right (by omega) hy.1
 omega
theorem AFk {b out0:List Int} {i:Nat} {x:Int} (hb:Wf b) (ho:Wf out0) (hx:0<=x/\x < 1000000000) (hl:i+b.length < out0.length) (hL:out0.length<=2000000000) (t18:List Int) (t19 t20:Int) :
 ∃ out c,Am IM (b,out0,(i:Int),x,0,t18,t19,t20,b,(b.length:Int),0,())=some (Ex.exit 2,(b,out,(i:Int),x,c,t18,t19,t20,b,(b.length:Int),(b.length:Int),()))/\
  out.length=out0.length/\Wf out/\(0<=c/\c < 1000000000)/\lv out+c * bp (i+b.length)=lv out0+x * lv b * bp i/\∀ j,i+b.length<=j->out.getD j 0=out0.getD j 0:=by
 obtain ⟨r,hr,out,c,rfl,h1,h2,h3,h4,h5⟩:=BJ (step:=IM) (Q:=fun r=>∃ (out:List Int) (c:Int),r=(Ex.exit 2,(b,out,(i:Int),x,c,t18,t19,t20,b,(b.length:Int),(b.length:Int),()))/\
  out.length=out0.length/\Wf out/\(0<=c/\c < 1000000000)/\lv out+c * bp (i+b.length)=lv out0+x * lv b * bp i/\∀ j,i+b.length<=j->out.getD j 0=out0.getD j 0)
  (fun m y=>∃ (k:Nat) (out:List Int) (c:Int),m+k=b.length/\y=(b,out,(i:Int),x,c,t18,t19,t20,b,(b.length:Int),(k:Int),())/\
   out.length=out0.length/\Wf out/\(0<=c/\c < 1000000000)/\lv out+c * bp (i+k)=lv out0+x * lv (b.take k) * bp i/\∀ j,i+k<=j->out.getD j 0=out0.getD j 0) (by
   rintro m y ⟨k,out,c,hm,rfl,h1,h2,h3,h4,h5⟩
   by_cases hk:k < b.length
   ·have hy:=hb.at k
    have hz:=h2.at (i+k)
    have hxy:=Qk hx hy
    have e1:(k:Int).toNat=k:=by omega
    have e2:((i:Int)+k).toNat=i+k:=by omega
    obtain ⟨v,hv⟩:∃ v,v=out.getD (i+k) 0+x * b.getD k 0+c:=⟨_,rfl⟩
    refine .inr ⟨m - 1,(b,out.set (i+k) (v % 1000000000),(i:Int),x,v / 1000000000,t18,t19,t20,b,(b.length:Int),((k+1:Nat):Int),()),?_,by omega,k+1,_,_,by omega,rfl,by simpa using h1,h2.set _ (by omega),by omega,?_,?_⟩
    ·rw[hv]
     simp (disch:=(first | omega | (simp only[Ai];omega))) only[IM,e1,e2,Aj]
     rfl
    ·rw[NT (by omega),Ft,show i+(k+1)=i+k+1 by omega,Da,Mf] at *
     have:=Int.emod_add_mul_ediv v 1000000000
     grind
    ·intro j hj
     rw[I5 (by omega),if_neg (by omega)]
     exact h5 j (by omega)
   ·refine .inl ⟨(Ex.exit 2,(b,out,(i:Int),x,c,t18,t19,t20,b,(b.length:Int),(b.length:Int),())),?_,by simp,out,c,rfl,h1,h2,h3,?_,?_⟩
    ·simp (disch:=(first | omega | (simp only[Ai];omega))) only[IM,Aj]
     rw[show k=b.length by omega]
    ·rw[show k=b.length by omega,List.take_length] at h4;exact h4
    ·intro j hj;exact h5 j (by omega)) b.length _ ⟨0,out0,0,by omega,rfl,rfl,ho,by omega,by simp[lv],fun j _=>rfl⟩
 exact ⟨out,c,hr,h1,h2,h3,h4,h5⟩
theorem T4 {a b:List Int} (ha:Wf a) (hb:Wf b) (hal:a.length<=1000000000) (hbl:b.length<=1000000000) :
 ∃ out,Am HY (b,List.replicate (a.length+b.length) 0,a,(a.length:Int),0,())=some (Ex.exit 0,(b,out,a,(a.length:Int),(a.length:Int),()))/\Wf out/\out.length=a.length+b.length/\lv out=lv a * lv b:=by
 obtain ⟨r,hr,out,rfl,h1,h2,h3⟩:=BJ (step:=HY) (Q:=fun r=>∃ (out:List Int),r=(Ex.exit 0,(b,out,a,(a.length:Int),(a.length:Int),()))/\Wf out/\out.length=a.length+b.length/\lv out=lv a * lv b)
  (fun m y=>∃ (i:Nat) (out:List Int),m+i=a.length/\y=(b,out,a,(a.length:Int),(i:Int),())/\Wf out/\out.length=a.length+b.length/\lv out=lv (a.take i) * lv b/\∀ j,i+b.length<=j->out.getD j 0=0) (by
   rintro m y ⟨i,out,hm,rfl,h1,h2,h3,h4⟩
   by_cases hi:i < a.length
   ·have hx:=ha.at i
    have e1:(i:Int).toNat=i:=by omega
    obtain ⟨o2,c,hin,g1,g2,g3,g4,g5⟩:=AFk (i:=i) hb h1 hx (by omega) (by omega) a (a.length:Int) (i:Int)
    have e2:((i:Int)+b.length).toNat=i+b.length:=by omega
    refine .inr ⟨m - 1,(b,o2.set (i+b.length) c,a,(a.length:Int),((i+1:Nat):Int),()),?_,by omega,i+1,_,by omega,rfl,g2.set _ g3,by simp;omega,?_,?_⟩
    ·simp (disch:=(first | omega | (simp only[Ai];omega))) only[HY,e1,hin,e2,Aj]
     rfl
    ·rw[NT (by omega),g5 _ (Nat.le_refl _),h4 _ (Nat.le_refl _),Ft]
     grind
    ·intro j hj
     rw[I5 (by omega),if_neg (by omega),g5 j (by omega)]
     exact h4 j (by omega)
   ·refine .inl ⟨(Ex.exit 0,(b,out,a,(a.length:Int),(a.length:Int),())),?_,by simp,out,rfl,h1,h2,?_⟩
    ·simp (disch:=(first | omega | (simp only[Ai];omega))) only[HY,Aj]
     rw[show i=a.length by omega]
    ·rw[show i=a.length by omega,List.take_length] at h3;exact h3) a.length _ ⟨0,List.replicate (a.length+b.length) 0,by omega,rfl,Wf.zeros _,by simp,by rw[ACY];simp[lv],fun j _=>by
     rw[qZ4,List.getElem?_replicate];split<;>rfl⟩
 exact ⟨out,hr,h1,h2,h3⟩
theorem ADK {a b:List Int} (ha:Wf a) (hb:Wf b) (hal:a.length<=1000000000) (hbl:b.length<=1000000000):Fz a b=some ((limbs (lv a * lv b).toNat,()),()):=by
 obtain ⟨out,hr,h1,h2,h3⟩:=T4 ha hb hal hbl
 unfold Fz
 have e:((a.length:Int)+b.length).toNat=a.length+b.length:=by omega
 have ht:=FZ h1 (by omega)
 simp (disch:=(first | omega | (simp only[Ai];omega))) only[e,hr,ht,Aj]
 rw[h3]
theorem Km (m n:Nat) (hm:(limbs m).length<=1000000000) (hn:(limbs n).length<=1000000000):Fz (limbs m) (limbs n)=some ((limbs (m * n),()),()):=by
 rw[ADK (Dw m) (Dw n) hm hn,CE,CE,<-Int.natCast_mul,qZ0]
theorem Zr:NM=Ez:=by
 funext x
 unfold NM Ez
 obtain ⟨a,n,u⟩:=x
 simp only
 cases h:decide (n > 0)
 ·rfl
 ·simp only[Ap]
  cases h2:(decide (0<=qI (n - 1))&&decide (qI (n - 1) < a.length))
  ·rfl
  ·simp only[DZ]
   simp only[qY0,decide_eq_true_eq] at h2
   rw[Ab]
theorem AMD {l:List Int} (hw:Wf l) (hl:l.length<=1000000000000):∃ n,Oz l=some ((n,()),l,())/\l.take n=limbs (lv l).toNat/\n<=l.length:=by
 have h:=FZ hw hl
 unfold Eu at h
 unfold Oz
 rw[Zr]
 have hst:∀ x r,Am Ez x=some r->r.2.1=x.1:=by
  intro x r hr
  obtain ⟨n,hn⟩:=RR.1 hr
  clear hr
  have hs:∀ x e y,Ez x=some (e,y)->y.1=x.1:=by
   intro x e y h
   unfold Ez at h
   simp only[Aa] at h
   cases h1:decide (x.2.1 > 0)<;>rw[h1] at h<;>simp only[cond] at h
   ·cases h;rfl
   ·cases h2:(decide (0<=qI (x.2.1 - 1))&&decide (qI (x.2.1 - 1) < x.1.length))<;>rw[h2] at h<;>simp only at h
    ·cases h
    ·split at h<;>cases h<;>rfl
  induction hn with
  |done h _=>exact hs _ _ _ h
  |more h _ ih=>rw[ih];exact hs _ _ _ h
 cases hr:Am Ez (l,(l.length:Int),()) with
 |none=>rw[hr] at h;cases h
 |some r=>
  have hl1:=hst _ _ hr
  rw[hr] at h
  obtain ⟨e,a,n,u⟩:=r
  simp only at hl1
  subst hl1
  simp only[Ad,Aa] at h ⊢
  cases h1:Ex.same e (Ex.exit 0)<;>rw[h1] at h<;>simp only[cond] at h ⊢
  ·cases h
  ·cases h2:(decide (0<=n)&&decide (n<=a.length))<;>rw[h2] at h<;>simp only at h ⊢
   ·cases h
   ·simp only[qY0,decide_eq_true_eq] at h2
    simp only[Option.some.injEq,Prod.mk.injEq,and_true] at h
    exact ⟨n.toNat,rfl,h,by omega⟩
theorem AHw:QU=HY:=rfl
theorem UF {a b:List Int} (ha:Wf a) (hb:Wf b) (hal:a.length<=1000000000) (hbl:b.length<=1000000000):LV a b=some ((limbs (lv a * lv b).toNat,()),()):=by
 obtain ⟨out,hr,h1,h2,h3⟩:=T4 ha hb hal hbl
 unfold LV
 rw[AHw]
 have e:((a.length:Int)+b.length).toNat=a.length+b.length:=by omega
 obtain ⟨n,ht,htk,_⟩:=AMD h1 (by omega)
 simp (disch:=(first | omega | (simp only[Ai];omega))) only[e,hr,ht,Aj]
 rw[htk,h3]
end Go.AM.Num
end
section
namespace Go.AM.Num
theorem AF0 {a:List Int} {b:Int} (ha:Wf a) (hal:a.length<=1000000000) (hb:0 < b/\b < 1000000000) :
 IX a b=some ((limbs (lv a / b).toNat,limbs (lv a % b).toNat,()),()):=by
 obtain ⟨r,hr,q,rest,rfl,h1,h2,h3,h4⟩:=BJ (step:=L') (Q:=fun r=>∃ (q:List Int) (rest:Int),r=(Ex.exit 0,(a,b,q,rest,-1,()))/\Wf q/\q.length=a.length/\(0<=rest/\rest < b)/\lv a=b * lv q+rest)
  (fun k x=>∃ (q:List Int) (rest:Int),x=(a,b,q,rest,(k:Int) - 1,())/\k<=a.length/\Wf q/\q.length=a.length/\(0<=rest/\rest < b)/\lv (a.drop k)=b * lv (q.drop k)+rest) (by
   rintro k x ⟨q,rest,rfl,hk,h1,h2,h3,h4⟩
   by_cases h0:k=0
   ·subst h0
    refine .inl ⟨_,?_,?_,q,rest,rfl,h1,h2,h3,by simpa using h4⟩
    ·simp (disch:=(first | omega | (simp only[Ai];omega))) only[L',Aj]
     rfl
    ·simp
   ·have hz:=ha.at (k - 1)
    have e:((k:Int) - 1).toNat=k - 1:=by omega
    obtain ⟨v,hv⟩:∃ v,v=rest * 1000000000+a.getD (k - 1) 0:=⟨_,rfl⟩
    have hvb:v < b * 1000000000:=by
     have:rest * 1000000000<=(b - 1) * 1000000000:=Int.mul_le_mul_of_nonneg_right (by omega) (by omega)
     omega
    have hq0:0<=v / b:=Int.ediv_nonneg (by omega) (by omega)
    have hq1:v / b < 1000000000:=Int.ediv_lt_of_lt_mul hb.1 (by rw[Int.mul_comm];exact hvb)
    have hr0:=Int.emod_nonneg v (show b≠0 by omega)
    have hr1:=Int.emod_lt_of_pos v hb.1
    refine .inr ⟨k - 1,(a,b,q.set (k - 1) (v / b),v % b,(k:Int) - 1 - 1,()),?_,by omega,q.set (k - 1) (v / b),v % b,?_,by omega,h1.set _ ⟨hq0,hq1⟩,by simpa using h2,⟨hr0,hr1⟩,?_⟩
    ·rw[hv] at hq0 hq1 ⊢
     simp (disch:=(first | omega | (simp only[Ai];omega))) only[L',e,Aj]
    ·rw[show ((k:Int) - 1 - 1)=((k - 1:Nat):Int) - 1 by omega]
    ·have hs:lv ((q.set (k - 1) (v / b)).drop (k - 1))=v / b+1000000000 * lv (q.drop k):=by
      rw[C7 (by simp;omega),I5 (by omega),if_pos rfl,List.drop_set_of_lt (by omega),show k - 1+1=k by omega]
     rw[hs,C7 (by omega),show k - 1+1=k by omega,h4]
     have:=Int.emod_add_mul_ediv v b
     grind) a.length (a,b,List.replicate (a.length:Int).toNat 0,0,(a.length:Int) - 1,()) ⟨_,0,rfl,Nat.le_refl _,Wf.zeros _,by simp,by omega,by rw[List.drop_length,List.drop_of_length_le (by simp)];simp[lv]⟩
 have hdiv:lv a / b=lv q:=by
  rw[h4,Int.mul_comm,Int.add_comm,Int.add_mul_ediv_right _ _ (by omega),Int.ediv_eq_zero_of_lt h3.1 h3.2];omega
 have hmod:lv a % b=rest:=by
  rw[h4,Int.add_comm,Int.add_mul_emod_self_left,Int.emod_eq_of_lt h3.1 h3.2]
 unfold IX
 have ht:=FZ h1 (by omega)
 have ht2:=FZ (l:=[rest]) (Wf.one (by omega)) (by simp)
 have hw:IntKind.u32.wrap rest=rest:=P6 (by omega)
 have hw2:qI ((a.length:Int) - 1)=(a.length:Int) - 1:=Aw
 rw[hw2,hr]
 simp (disch:=(first | omega | (simp only[Ai];omega))) only[ht,hw,ht2,Aj]
 rw[hdiv,hmod,Pb]
theorem YW (m:Nat) (b:Nat) (hm:(limbs m).length<=1000000000) (hb:0 < b/\b < 1000000000):IX (limbs m) (b:Int)=some ((limbs (m / b),limbs (m % b),()),()):=by
 rw[AF0 (Dw m) hm (by omega),CE,<-Int.natCast_ediv,<-Int.natCast_emod,qZ0,qZ0]
theorem Zu {u v:List Int} {t:Int} (hu:Wf u) (hv:Wf v) (hl:v.length < u.length) (hL:u.length<=2000000000) (ht:0<=t/\t < 1000000000) :
 ∃ (neg:Bool) (o:List Int),KM u v t=some ((neg,()),(o,()))/\Wf o/\o.length=u.length/\lv o=lv u - t * lv v+(if neg then bp u.length else 0):=by
 obtain ⟨r,hr,o,br,rfl,h1,h2,h3,h4⟩:=BJ (step:=Fu) (Q:=fun r=>∃ (o:List Int) (br:Int),r=(Ex.exit 0,(o,v,t,0,br,(u.length:Int),(u.length:Int),()))/\Wf o/\o.length=u.length/\(0<=br/\br<=1)/\lv o=lv u - t * lv v+br * bp u.length)
  (fun m x=>∃ (k:Nat) (o:List Int) (c br:Int),m+k=u.length/\x=(o,v,t,c,br,(u.length:Int),(k:Int),())/\Wf o/\o.length=u.length/\(0<=br/\br<=1)/\(0<=c/\c < 1000000000)/\(v.length < k->c=0)/\
   lv o=lv u - t * lv (v.take k)+(c+br) * bp k/\∀ j,k<=j->o.getD j 0=u.getD j 0) (by
   rintro m x ⟨k,o,c,br,hm,rfl,h1,h2,h3,h4,h5,h6,h7⟩
   by_cases hk:k < u.length
   ·have e:(k:Int).toNat=k:=by omega
    have hz:=h1.at k
    have hy:=hv.at k
    have hty:=Qk ht hy
    obtain ⟨c',hc'⟩:∃ c',c'=c+t * v.getD k 0:=⟨_,rfl⟩
    have hcb:0<=c'/\c' < 1000000000000000000:=by omega
    have hzero:v.length<=k->c'=c:=fun h=>by rw[hc',N3 h];simp
    have hnew:v.length < k+1->c' / 1000000000=0:=fun h=>by rw[hzero (by omega)];omega
    have key:∀ d br':Int,d=o.getD k 0 - br - c' % 1000000000+br' * 1000000000->(0<=br'/\br'<=1)->(0<=d/\d < 1000000000)->
     Fu (o,v,t,c,br,(u.length:Int),(k:Int),())=some (Ex.normal,(o.set k d,v,t,c' / 1000000000,br',(u.length:Int),((k+1:Nat):Int),()))->
     (∃ (m':Nat) (y:_),Fu (o,v,t,c,br,(u.length:Int),(k:Int),())=some (Ex.normal,y)/\m' < m/\∃ (k:Nat) (o:List Int) (c br:Int),m'+k=u.length/\y=(o,v,t,c,br,(u.length:Int),(k:Int),())/\Wf o/\o.length=u.length/\(0<=br/\br<=1)/\(0<=c/\c < 1000000000)/\(v.length < k->c=0)/\
      lv o=lv u - t * lv (v.take k)+(c+br) * bp k/\∀ j,k<=j->o.getD j 0=u.getD j 0):=by
     intro d br' hd hbr hd' hst
     refine ⟨m - 1,_,hst,by omega,k+1,o.set k d,c' / 1000000000,br',by omega,rfl,h1.set _ hd',by simpa using h2,hbr,by omega,hnew,?_,?_⟩
     ·rw[NT (by omega),Ft,Da,h6]
      have:=Int.emod_add_mul_ediv c' 1000000000
      grind
     ·intro j hj
      rw[I5 (by omega),if_neg (by omega)]
      exact h7 j (by omega)
    by_cases hkv:k < v.length
    ·by_cases hneg:o.getD k 0 - br - c' % 1000000000 < 0
     ·refine .inr (key (o.getD k 0 - br - c' % 1000000000+1000000000) 1 (by omega) (by omega) (by omega) ?_)
      rw[hc'] at hneg hcb ⊢
      simp (disch:=(first | omega | (simp only[Ai];omega))) only[Fu,e,Aj]
      rfl
     ·refine .inr (key (o.getD k 0 - br - c' % 1000000000) 0 (by omega) (by omega) (by omega) ?_)
      rw[hc'] at hneg hcb ⊢
      simp (disch:=(first | omega | (simp only[Ai];omega))) only[Fu,e,Aj]
      rfl
    ·have hcc:=hzero (by omega)
     by_cases hneg:o.getD k 0 - br - c' % 1000000000 < 0
     ·refine .inr (key (o.getD k 0 - br - c' % 1000000000+1000000000) 1 (by omega) (by omega) (by omega) ?_)
      rw[hcc] at hneg hcb ⊢
      simp (disch:=(first | omega | (simp only[Ai];omega))) only[Fu,e,Aj]
      rfl
     ·refine .inr (key (o.getD k 0 - br - c' % 1000000000) 0 (by omega) (by omega) (by omega) ?_)
      rw[hcc] at hneg hcb ⊢
      simp (disch:=(first | omega | (simp only[Ai];omega))) only[Fu,e,Aj]
      rfl
   ·have hkl:k=u.length:=by omega
    subst hkl
    have hc0:=h5 hl
    subst hc0
    refine .inl ⟨(Ex.exit 0,(o,v,t,0,br,(u.length:Int),(u.length:Int),())),?_,by simp,o,br,rfl,h1,h2,h3,?_⟩
    ·simp (disch:=(first | omega | (simp only[Ai];omega))) only[Fu,Aj]
    ·rw[List.take_of_length_le (by omega)] at h6
     rw[h6];simp) u.length (u,v,t,0,0,(u.length:Int),0,()) ⟨0,u,0,0,by omega,rfl,hu,rfl,by omega,by omega,by omega,by simp[lv],fun j _=>rfl⟩
 refine ⟨decide (br > 0),o,?_,h1,h2,?_⟩
 ·unfold KM
  rw[hr]
  simp (disch:=(first | omega | (simp only[Ai];omega))) only[Aj]
 ·rw[h4]
  rcases (show br=0\/br=1 by omega) with rfl | rfl<;>simp
theorem AFe {u v:List Int} (hu:Wf u) (hv:Wf v) (hl:v.length<=u.length) (hL:u.length<=2000000000) :
 ∃ (c:Int) (o:List Int),Lq u v=some ((),(o,()))/\Wf o/\o.length=u.length/\(0<=c/\c<=1)/\lv o=lv u+lv v - c * bp u.length:=by
 obtain ⟨r,hr,o,c,rfl,h1,h2,h3,h4⟩:=BJ (step:=K3) (Q:=fun r=>∃ (o:List Int) (c:Int),r=(Ex.exit 0,(o,v,c,(u.length:Int),(u.length:Int),()))/\Wf o/\o.length=u.length/\(0<=c/\c<=1)/\lv o=lv u+lv v - c * bp u.length)
  (fun m x=>∃ (k:Nat) (o:List Int) (c:Int),m+k=u.length/\x=(o,v,c,(u.length:Int),(k:Int),())/\Wf o/\o.length=u.length/\(0<=c/\c<=1)/\lv o=lv u+lv (v.take k) - c * bp k/\∀ j,k<=j->o.getD j 0=u.getD j 0) (by
   rintro m x ⟨k,o,c,hm,rfl,h1,h2,h3,h4,h5⟩
   by_cases hk:k < u.length
   ·have e:(k:Int).toNat=k:=by omega
    have hz:=h1.at k
    have hy:=hv.at k
    have e2:=ON v (i:=(k:Int)) (by omega)
    rw[e] at e2
    obtain ⟨s,hs⟩:∃ s,s=o.getD k 0+v.getD k 0+c:=⟨_,rfl⟩
    refine .inr ⟨m - 1,(o.set k (s % 1000000000),v,s / 1000000000,(u.length:Int),((k+1:Nat):Int),()),?_,by omega,k+1,_,_,by omega,rfl,h1.set _ (by omega),by simpa using h2,by omega,?_,?_⟩
    ·rw[hs]
     simp (disch:=(first | omega | (simp only[Ai];omega))) only[K3,e,e2,Aj]
     rfl
    ·rw[NT (by omega),Ft,Da,h4]
     have:=Int.emod_add_mul_ediv s 1000000000
     grind
    ·intro j hj
     rw[I5 (by omega),if_neg (by omega)]
     exact h5 j (by omega)
   ·have hkl:k=u.length:=by omega
    subst hkl
    refine .inl ⟨(Ex.exit 0,(o,v,c,(u.length:Int),(u.length:Int),())),?_,by simp,o,c,rfl,h1,h2,h3,?_⟩
    ·simp (disch:=(first | omega | (simp only[Ai];omega))) only[K3,Aj]
    ·rw[List.take_of_length_le (by omega)] at h4;exact h4) u.length (u,v,0,(u.length:Int),0,()) ⟨0,u,0,by omega,rfl,hu,rfl,by omega,by simp[lv],fun j _=>rfl⟩
 refine ⟨c,o,?_,h1,h2,h3,h4⟩
 unfold Lq
 rw[hr]
 simp (disch:=(first | omega | (simp only[Ai];omega))) only[Aj]
end Go.AM.Num
end
section
namespace Go.AM.Num
theorem Vh {V U g V2 U3 R lv' lu':Int} (hV:V=V2 * R+lv') (hU:U=U3 * R+lu') (h1:0<=lv'/\lv' < R) (h2:0<=lu') (hg:0<=g/\g<=1000000000) (h:g * V2<=U3) (hb:1000000000 * R<=V) (hV0:0 < V):g<=U / V+1:=by
 have e1:g * V2 * R<=U3 * R:=Int.mul_le_mul_of_nonneg_right h (by omega)
 have e2:g * lv'<=g * R:=Int.mul_le_mul_of_nonneg_left (by omega) hg.1
 have e3:g * R<=1000000000 * R:=Int.mul_le_mul_of_nonneg_right hg.2 (by omega)
 have e5:g * V=g * V2 * R+g * lv':=by rw[hV,Int.mul_add,Int.mul_assoc]
 have e4:(g - 1) * V<=U:=by
  rw[Int.sub_mul,Int.one_mul]
  omega
 have:=Int.le_ediv_of_mul_le hV0 e4
 omega
theorem Vm {V U q V2 U3 R lv' lu':Int} (hV:V=V2 * R+lv') (hU:U=U3 * R+lu') (h1:0<=lv') (h2:0<=lu'/\lu' < R) (hq0:0<=q) (hq:q * V<=U):q * V2<=U3:=by
 have e2:0<=q * lv':=Int.mul_nonneg hq0 h1
 have e5:q * V=q * V2 * R+q * lv':=by rw[hV,Int.mul_add,Int.mul_assoc]
 have e3:q * V2 * R < (U3+1) * R:=by
  rw[Int.add_mul,Int.one_mul]
  omega
 have:=Int.lt_of_mul_lt_mul_right e3 (by omega)
 omega
theorem ACS {u v:List Int} {n:Nat} (hu:Wf u) (hv:Wf v) (hn:v.length=n) (hn2:2<=n) (hul:u.length=n+1) (hN:n<=1000000000) (ht:v.getD (n - 1) 0≠0) (hlt:lv u < lv v * 1000000000) (g r:Int)
 (hgr:u.getD n 0 * 1000000000+u.getD (n - 1) 0=g * v.getD (n - 1) 0+r) (hr0:0<=r/\r < v.getD (n - 1) 0) (hg0:0<=g) :
 ∃ g' r',Am EW (u,v,(n:Int),v.getD (n - 1) 0,g,r,())=some (Ex.exit 0,(u,v,(n:Int),v.getD (n - 1) 0,g',r',()))/\(g'=lv u / lv v\/g'=lv u / lv v+1)/\0<=g'/\g' < 1000000000:=by
 obtain ⟨f,hf⟩:∃ f,f=v.getD (n - 1) 0:=⟨_,rfl⟩
 obtain ⟨v2,hv2⟩:∃ x,x=v.getD (n - 2) 0:=⟨_,rfl⟩
 obtain ⟨u0,hu0⟩:∃ x,x=u.getD n 0:=⟨_,rfl⟩
 obtain ⟨u1,hu1⟩:∃ x,x=u.getD (n - 1) 0:=⟨_,rfl⟩
 obtain ⟨u2,hu2⟩:∃ x,x=u.getD (n - 2) 0:=⟨_,rfl⟩
 have bf:=hv.at (n - 1)
 have bv2:=hv.at (n - 2)
 have bu0:=hu.at n
 have bu1:=hu.at (n - 1)
 have bu2:=hu.at (n - 2)
 rw[<-hf] at ht hgr hr0 bf ⊢
 rw[<-hv2] at bv2
 rw[<-hu0] at hgr bu0
 rw[<-hu1] at hgr bu1
 rw[<-hu2] at bu2
 obtain ⟨R,hR⟩:∃ R,R=bp (n - 2):=⟨_,rfl⟩
 have hRp:=DX (n - 2)
 rw[<-hR] at hRp
 have hPR:bp (n - 1)=1000000000 * R:=by rw[hR,show n - 1=n - 2+1 by omega,Da]
 have sv:lv v=(f * 1000000000+v2) * R+lv (v.take (n - 2)):=by
  have:=DQ v (n - 2) (by omega)
  rw[C7 (by omega),C7 (by omega),show n - 2+1=n - 1 by omega,show n - 1+1=n by omega,List.drop_of_length_le (by omega),<-hf,<-hv2,<-hR] at this
  simp only[lv] at this
  grind
 have su:lv u=((u0 * 1000000000+u1) * 1000000000+u2) * R+lv (u.take (n - 2)):=by
  have:=DQ u (n - 2) (by omega)
  rw[C7 (by omega),C7 (by omega),C7 (by omega),show n - 2+1=n - 1 by omega,show n - 1+1=n by omega,List.drop_of_length_le (by omega),<-hu0,<-hu1,<-hu2,<-hR] at this
  simp only[lv] at this
  grind
 have sv1:lv v=f * (1000000000 * R)+lv (v.take (n - 1)):=by
  have:=DQ v (n - 1) (by omega)
  rw[C7 (by omega),show n - 1+1=n by omega,List.drop_of_length_le (by omega),<-hf,hPR] at this
  simp only[lv] at this
  grind
 have su1:lv u=(u0 * 1000000000+u1) * (1000000000 * R)+lv (u.take (n - 1)):=by
  have:=DQ u (n - 1) (by omega)
  rw[C7 (by omega),C7 (by omega),show n - 1+1=n by omega,List.drop_of_length_le (by omega),<-hu0,<-hu1,hPR] at this
  simp only[lv] at this
  grind
 have lvv:=DU (hv.take (n - 2))
 have lvv0:=CO (hv.take (n - 2))
 have luu:=DU (hu.take (n - 2))
 have luu0:=CO (hu.take (n - 2))
 have lvv1:=DU (hv.take (n - 1))
 have lvv10:=CO (hv.take (n - 1))
 have luu1:=DU (hu.take (n - 1))
 have luu10:=CO (hu.take (n - 1))
 rw[List.length_take,Nat.min_eq_left (by omega),<-hR] at lvv luu
 rw[List.length_take,Nat.min_eq_left (by omega),hPR] at lvv1 luu1
 have hVbig:1000000000 * R<=lv v:=by
  have:1 * (1000000000 * R)<=f * (1000000000 * R):=Int.mul_le_mul_of_nonneg_right (by omega) (by omega)
  omega
 have hV0:0 < lv v:=by omega
 obtain ⟨q,hq⟩:∃ q,q=lv u / lv v:=⟨_,rfl⟩
 have hq0:0<=q:=by rw[hq];exact Int.ediv_nonneg (CO hu) (by omega)
 have hqB:q < 1000000000:=by rw[hq];exact Int.ediv_lt_of_lt_mul hV0 (by rw[Int.mul_comm];exact hlt)
 have hqV:q * lv v<=lv u:=by rw[hq];exact Int.ediv_mul_le _ (by omega)
 have htop:u0 * 1000000000+u1 < f * 1000000000+1000000000:=by
  have e:(u0 * 1000000000+u1) * (1000000000 * R) < (f * 1000000000+1000000000) * (1000000000 * R):=by grind
  exact Int.lt_of_mul_lt_mul_right e (by omega)
 have hqf:q * f<=u0 * 1000000000+u1:=Vm sv1 su1 lvv10 ⟨luu10,luu1⟩ hq0 hqV
 have hqg:q<=g:=by
  have:q * f < (g+1) * f:=by grind
  have:=Int.lt_of_mul_lt_mul_right this (by omega)
  omega
 rw[<-hq]
 obtain ⟨r',hr',g',rr,rfl,hfin⟩:=BJ (step:=EW) (Q:=fun z=>∃ g' r',z=(Ex.exit 0,(u,v,(n:Int),f,g',r',()))/\(g'=q\/g'=q+1)/\0<=g'/\g' < 1000000000)
  (fun m x=>∃ g r:Int,x=(u,v,(n:Int),f,g,r,())/\(m:Int)=1000000000 - r/\u0 * 1000000000+u1=g * f+r/\(0<=r/\r < 1000000000)/\q<=g/\g<=1000000000000000000) (by
   rintro m x ⟨g,r,rfl,hm,hgr,hr,hqg,hgb⟩
   have en:((n:Int) - 2).toNat=n - 2:=by omega
   have hw:qI ((n:Int) - 2)=(n:Int) - 2:=Aw
   have dec:q<=g - 1->(EW (u,v,(n:Int),f,g,r,())=cond (decide (r+f>=1000000000)) (some (Ex.exit 0,(u,v,(n:Int),f,g - 1,r+f,()))) (some (Ex.normal,(u,v,(n:Int),f,g - 1,r+f,()))))->
    ((∃ z,EW (u,v,(n:Int),f,g,r,())=some z/\z.1≠.normal/\∃ g' r',z=(Ex.exit 0,(u,v,(n:Int),f,g',r',()))/\(g'=q\/g'=q+1)/\0<=g'/\g' < 1000000000)\/
     ∃ m' y,EW (u,v,(n:Int),f,g,r,())=some (Ex.normal,y)/\m' < m/\∃ g r:Int,y=(u,v,(n:Int),f,g,r,())/\(m':Int)=1000000000 - r/\u0 * 1000000000+u1=g * f+r/\(0<=r/\r < 1000000000)/\q<=g/\g<=1000000000000000000):=by
    intro hqg1 hst
    rw[hst]
    by_cases hb:r+f>=1000000000
    ·have hg1:g - 1 < 1000000000:=by
      have:(g - 1) * f < 1000000000 * f:=by grind
      exact Int.lt_of_mul_lt_mul_right this (by omega)
     have hm2:(g - 1) * v2<=1000000000 * v2:=Int.mul_le_mul_of_nonneg_right (by omega) (by omega)
     have hhi:=Vh (g:=g - 1) sv su ⟨lvv0,lvv⟩ luu0 (by omega) (by grind) hVbig hV0
     rw[<-hq] at hhi
     rw[qZ10 hb]
     exact .inl ⟨_,rfl,by simp,g - 1,r+f,rfl,by omega,by omega,hg1⟩
    ·rw[qZ9 hb]
     exact .inr ⟨(1000000000 - (r+f)).toNat,_,rfl,by omega,g - 1,r+f,rfl,by omega,by grind,by omega,hqg1,by omega⟩
   by_cases hgB:g>=1000000000
   ·refine dec (by omega) ?_
    simp (disch:=(first | omega | (simp only[Ai];omega))) only[EW,Aj]
   ·have hgv:=Qk (x:=g) (y:=v2) (by omega) bv2
    by_cases hc:g * v2 > r * 1000000000+u2
    ·have hne:q≠g:=by
      rintro rfl
      have:=Vm sv su lvv0 ⟨luu0,luu⟩ hq0 hqV
      grind
     refine dec (by omega) ?_
     rw[hv2,hu2] at hc
     rw[hv2] at hgv bv2
     rw[hu2] at bu2
     simp (disch:=(first | omega | (simp only[Ai];omega))) only[EW,en,Aj]
    ·have hhi:=Vh (g:=g) sv su ⟨lvv0,lvv⟩ luu0 (by omega) (by grind) hVbig hV0
     rw[<-hq] at hhi
     refine .inl ⟨(Ex.exit 0,(u,v,(n:Int),f,g,r,())),?_,by simp,g,r,rfl,by omega,by omega,by omega⟩
     rw[hv2,hu2] at hc
     rw[hv2] at hgv bv2
     rw[hu2] at bu2
     simp (disch:=(first | omega | (simp only[Ai];omega))) only[EW,en,Aj]) (1000000000 - r).toNat _ ⟨g,r,rfl,by omega,hgr,by omega,hqg,by
    have:g * 1<=g * f:=Int.mul_le_mul_of_nonneg_left (by omega) hg0
    omega⟩
 exact ⟨g',rr,hr',hfin⟩
theorem AI4 {u v:List Int} {n:Nat} (hu:Wf u) (hv:Wf v) (hn:v.length=n) (hn2:2<=n) (hul:u.length=n+1) (hN:n<=1000000000) (ht:v.getD (n - 1) 0≠0) (hlt:lv u < lv v * 1000000000) :
 ∃ o,Ka u v=some ((lv u / lv v,()),(o,()))/\Wf o/\o.length=n+1/\lv o=lv u % lv v/\0<=lv u / lv v/\lv u / lv v < 1000000000:=by
 have bf:=hv.at (n - 1)
 have bu0:=hu.at n
 have bu1:=hu.at (n - 1)
 obtain ⟨top,htop⟩:∃ t,t=u.getD n 0 * 1000000000+u.getD (n - 1) 0:=⟨_,rfl⟩
 have hf0:0 < v.getD (n - 1) 0:=by omega
 have hr0:=Int.emod_nonneg top (show v.getD (n - 1) 0≠0 by omega)
 have hr1:=Int.emod_lt_of_pos top hf0
 have hg0:0<=top / v.getD (n - 1) 0:=Int.ediv_nonneg (by omega) (by omega)
 have hg1:top / v.getD (n - 1) 0<=top:=Int.ediv_le_self _ (by omega)
 obtain ⟨g',r',hloop,hg',hgl,hgB⟩:=ACS hu hv hn hn2 hul hN ht hlt (top / v.getD (n - 1) 0) (top % v.getD (n - 1) 0) (by
  rw[<-htop];have:=Int.emod_add_mul_ediv top (v.getD (n - 1) 0);grind) ⟨hr0,hr1⟩ hg0
 obtain ⟨neg,o,hs,ho1,ho2,ho3⟩:=Zu hu hv (by omega) (by omega) ⟨hgl,hgB⟩
 have hVp:0 < lv v:=by
  have:=DQ v (n - 1) (by omega)
  rw[C7 (by omega),show n - 1+1=n by omega,List.drop_of_length_le (by omega)] at this
  simp only[lv] at this
  have h1:=CO (hv.take (n - 1))
  have h2:=DX (n - 1)
  have h3:bp (n - 1) * 1<=bp (n - 1) * v.getD (n - 1) 0:=Int.mul_le_mul_of_nonneg_left (by omega) (by omega)
  grind
 have hdm:=Int.emod_add_mul_ediv (lv u) (lv v)
 have hm0:=Int.emod_nonneg (lv u) (show lv v≠0 by omega)
 have hm1:=Int.emod_lt_of_pos (lv u) hVp
 have hol:=DU ho1
 have hol0:=CO ho1
 rw[ho2] at hol
 have hbp:=DX u.length
 have hq0:0<=lv u / lv v:=Int.ediv_nonneg (CO hu) (by omega)
 have hqB:lv u / lv v < 1000000000:=Int.ediv_lt_of_lt_mul hVp (by rw[Int.mul_comm];exact hlt)
 have en:((n:Int) - 1).toNat=n - 1:=by omega
 have en2:(n:Int).toNat=n:=by omega
 have hne:v.getD (n - 1) 0≠0:=by omega
 have hA:Ka u v=(Am EW (u,v,(n:Int),v.getD (n - 1) 0,top / v.getD (n - 1) 0,top % v.getD (n - 1) 0,())).bind fun y1=>
  cond (Ex.same y1.1 (Ex.exit 0)) ((KM y1.2.1 y1.2.2.1 y1.2.2.2.2.2.1).bind fun r2=>
   cond (r2.1.1) ((Lq r2.2.1 y1.2.2.1).bind fun r3=>some ((IntKind.u32.wrap (qU (y1.2.2.2.2.2.1 - (1:Int))),()),r3.2.1,()))
    (some ((IntKind.u32.wrap (y1.2.2.2.2.2.1),()),r2.2.1,()))) (none):=by
  rw[htop]
  rw[htop] at hg0 hg1 hr0 hr1
  unfold Ka
  rw[hn]
  simp (disch:=(first | omega | (simp only[Cx];omega))) only[Ak,Ab,E0,Aw,Je,tm,td,en,en2]
 rw[hA,hloop]
 rcases hg' with rfl | rfl
 ·have hneg:neg=false:=by
   cases neg with
   |false=>rfl
   |true=>simp only[if_true] at ho3;grind
  subst hneg
  refine ⟨o,?_,ho1,by omega,?_,hq0,hqB⟩
  ·simp (disch:=(first | omega | (simp only[Ai];omega))) only[hs,Aj]
  ·simp at ho3;grind
 ·have hneg:neg=true:=by
   cases neg with
   |true=>rfl
   |false=>simp at ho3;grind
  subst hneg
  simp only[if_true] at ho3
  obtain ⟨c,o2,hre,hc1,hc2,hc3,hc4⟩:=AFe ho1 hv (by omega) (by omega)
  have hcl:=DU hc1
  have hcl0:=CO hc1
  rw[hc2,ho2] at hcl
  rw[ho2] at hc4
  have hce:c=1:=by
   rcases (show c=0\/c=1 by omega) with rfl | rfl
   ·grind
   ·rfl
  subst hce
  refine ⟨o2,?_,hc1,by omega,by grind,hq0,hqB⟩
  simp (disch:=(first | omega | (simp only[Ai];omega))) only[hs,hre,Aj]
  congr 3
  omega
end Go.AM.Num
end
section
namespace Go.AM.Num
theorem AE9 {l:List Int} {k:Nat} (h:Wf l) (hk:lv l < bp k) (hkl:k<=l.length):lv (l.drop k)=0:=by
 have h1:=DQ l k hkl
 have h2:=CO (h.take k)
 have h3:=CO (h.drop k)
 rcases Int.lt_or_eq_of_le h3 with h4 | h4
 ·have h5:bp k * 1<=bp k * lv (l.drop k):=Int.mul_le_mul_of_nonneg_left (by omega) (by have:=DX k;omega)
  omega
 ·exact h4.symm
theorem AGI {u v:List Int} {sc:List Int} {lb K:Nat} (hu:Wf u) (hv:Wf v) (hvl:v.length=lb) (hlb:2<=lb) (hul:u.length=K+lb) (hN:K+lb<=1000000000) (ht:v.getD (lb - 1) 0≠0) (hlt:lv u < lv v * bp K) :
 ∃ u' q,Am IA (sc,u,v,List.replicate K 0,(K:Int) - 1,())=some (Ex.exit 3,(sc,u',v,q,-1,()))/\Wf u'/\u'.length=K+lb/\Wf q/\q.length=K/\lv u' < lv v/\lv u=lv u'+lv v * lv q:=by
 obtain ⟨V,hV⟩:∃ V,V=lv v:=⟨_,rfl⟩
 have hVl:V < bp lb:=by rw[hV,<-hvl];exact DU hv
 have hV0:0<=V:=by rw[hV];exact CO hv
 rw[<-hV] at hlt ⊢
 obtain ⟨r,hr,u',q,rfl,h1,h2,h3,h4,h5,h6⟩:=BJ (step:=IA) (Q:=fun r=>∃ u' q,r=(Ex.exit 3,(sc,u',v,q,-1,()))/\Wf u'/\u'.length=K+lb/\Wf q/\q.length=K/\lv u' < V/\lv u=lv u'+V * lv q)
  (fun k x=>∃ u' q:List Int,x=(sc,u',v,q,(k:Int) - 1,())/\k<=K/\Wf u'/\u'.length=K+lb/\Wf q/\q.length=K/\lv u' < V * bp k/\lv u=lv u'+V * bp k * lv (q.drop k)) (by
   rintro k x ⟨u',q,rfl,hk,h1,h2,h3,h4,h5,h6⟩
   by_cases h0:k=0
   ·subst h0
    refine .inl ⟨(Ex.exit 3,(sc,u',v,q,-1,())),?_,by simp,u',q,rfl,h1,h2,h3,h4,by simpa [bp] using h5,by simpa [bp] using h6⟩
    simp (disch:=(first | omega | (simp only[Ai];omega))) only[IA,Aj]
    rfl
   ·obtain ⟨j,rfl⟩:∃ j,k=j+1:=⟨k - 1,by omega⟩
    have ej:((j:Int)).toNat=j:=by omega
    have ek:(((j+1:Nat):Int) - 1)=(j:Int):=by omega
    have eh:((j:Int)+lb+1).toNat - j=lb+1:=by omega
    have hvl':(v.length:Int)=(lb:Int):=by omega
    obtain ⟨w,hw⟩:∃ w,w=(u'.drop j).take (lb+1):=⟨_,rfl⟩
    have hww:Wf w:=by rw[hw];exact (h1.drop j).take _
    have hwl:w.length=lb+1:=by rw[hw,List.length_take,List.length_drop];omega
    have hbj:=DX j
    have huz:lv (u'.drop (j+(lb+1)))=0:=by
     refine AE9 h1 ?_ (by omega)
     have e1:V * bp (j+1)<=bp lb * bp (j+1):=Int.mul_le_mul_of_nonneg_right (by omega) (by have:=DX (j+1);omega)
     rw[<-Mf] at e1
     rw[show j+(lb+1)=lb+(j+1) by omega]
     omega
    have hsplit:lv u'=lv (u'.take j)+bp j * lv w:=by
     rw[DQ u' j (by omega)]
     have:=DQ (u'.drop j) (lb+1) (by rw[List.length_drop];omega)
     rw[List.drop_drop,huz,<-hw] at this
     rw[this];simp
    have htk0:=CO (h1.take j)
    have htk:=DU (h1.take j)
    rw[List.length_take,Nat.min_eq_left (by omega)] at htk
    have hwV:lv w < lv v * 1000000000:=by
     rw[<-hV]
     have:bp j * lv w < bp j * (V * 1000000000):=by
      rw[Da] at h5
      have e:bp j * (V * 1000000000)=V * (1000000000 * bp j):=by grind
      omega
     exact Int.lt_of_mul_lt_mul_left this (by omega)
    obtain ⟨o,hred,ho1,ho2,ho3,ho4,ho5⟩:=AI4 hww hv hvl hlb hwl (by omega) ht hwV
    rw[<-hV] at hred ho3 ho4 ho5
    have hV1:0 < V:=by
     rcases Int.lt_or_eq_of_le hV0 with h | h
     ·exact h
     ·rw[<-h] at h5;simp at h5;have:=CO h1;omega
    have hom:=Int.emod_lt_of_pos (lv w) hV1
    have hdm:=Int.emod_add_mul_ediv (lv w) V
    have hz:lv (u'.drop (j+(lb+1)))=0:=huz
    have hnew:lv (u'.take j++o++u'.drop (j+(lb+1)))=lv (u'.take j)+bp j * (lv w % V):=by
     rw[OY,huz,OY,List.length_take,Nat.min_eq_left (by omega),ho3];simp
    refine .inr ⟨j,(sc,u'.take j++o++u'.drop (j+(lb+1)),v,q.set j (lv w / V),(j:Int) - 1,()),?_,by omega,_,_,rfl,by omega,?_,?_,h3.set _ ⟨ho4,ho5⟩,by simpa using h4,?_,?_⟩
    ·have e0:(lv w / V,()).1=lv w / V:=rfl
     rw[ek]
     simp (disch:=(first | omega | (simp only[Ai];omega))) only[IA,ej,hvl',eh,<-hw,hred,Aj]
    ·exact ((h1.take j).app ho1).app (h1.drop _)
    ·simp only[qZ6,List.length_take,List.length_drop];omega
    ·rw[hnew]
     have:bp j * (lv w % V)<=bp j * (V - 1):=Int.mul_le_mul_of_nonneg_left (by omega) (by omega)
     rw[Int.mul_sub] at this
     rw[Int.mul_comm V]
     omega
    ·rw[hnew,C7 (by simpa using (show j < q.length by omega)),I5 (by omega),if_pos rfl,List.drop_set_of_lt (by omega),h6,hsplit,Da]
     grind) K (sc,u,v,List.replicate K 0,(K:Int) - 1,()) ⟨u,_,rfl,Nat.le_refl _,hu,hul,Wf.zeros _,by simp,hlt,by rw[List.drop_of_length_le (by simp)];simp[lv]⟩
 exact ⟨u',q,hr,h1,h2,h3,h4,h5,h6⟩
theorem ADT {u sc v a:List Int} (hu:Wf u) (hl:u.length<=a.length+1) (hN:a.length<=1000000000) :
 ∃ u',Am JV (a,sc,u,v,())=some (Ex.exit 1,(a,sc,u',v,()))/\Wf u'/\u'.length=a.length+1/\lv u'=lv u:=by
 obtain ⟨r,hr,u',rfl,h1,h2,h3⟩:=BJ (step:=JV) (Q:=fun r=>∃ u',r=(Ex.exit 1,(a,sc,u',v,()))/\Wf u'/\u'.length=a.length+1/\lv u'=lv u)
  (fun m x=>∃ u':List Int,x=(a,sc,u',v,())/\m+u'.length=a.length+1/\Wf u'/\lv u'=lv u) (by
   rintro m x ⟨u',rfl,hm,h1,h2⟩
   by_cases h:u'.length<=a.length
   ·refine .inr ⟨m - 1,(a,sc,u'++[0],v,()),?_,by omega,_,rfl,by simp;omega,h1.app (Wf.one (by omega)),by rw[Hr,h2];simp⟩
    simp (disch:=(first | omega | (simp only[Ai];omega))) only[JV,Aj]
   ·refine .inl ⟨(Ex.exit 1,(a,sc,u',v,())),?_,by simp,u',rfl,h1,by omega,h2⟩
    simp (disch:=(first | omega | (simp only[Ai];omega))) only[JV,Aj]) (a.length+1 - u.length) _ ⟨u,rfl,by omega,hu,rfl⟩
 exact ⟨u',hr,h1,h2,h3⟩
theorem Nn (m n:Nat) (hm:(limbs m).length<=100000000) (hn:(limbs n).length<=100000000) (h0:n≠0) :
 G' (limbs m) (limbs n)=some ((limbs (m / n),limbs (m % n),()),()):=by
 obtain ⟨c,hc,hc1,hc2⟩:=XU m n (by omega) (by omega)
 unfold G'
 rw[hc]
 by_cases hlt:m < n
 ·have:=hc1.2 hlt
  simp (disch:=(first | omega | (simp only[Ai];omega))) only[Aj]
  rw[Nat.div_eq_of_lt hlt,Nat.mod_eq_of_lt hlt,limbs_zero]
 ·have hc0:¬ c < 0:=fun h=>hlt (hc1.1 h)
  by_cases hl1:(limbs n).length=1
  ·have hnB:n < 1000000000:=by
    have:=Jy n
    rw[hl1] at this;simp[bp] at this;omega
   have hq:=YW m n (by omega) (by omega)
   have hg:(limbs n).getD 0 0=(n:Int):=by rw[limbs_small h0 hnB];rfl
   have h00:((0:Int)).toNat=0:=rfl
   simp (disch:=(first | omega | (simp only[Ai];omega))) only[h00,hg,hq,Aj]
  ·obtain ⟨lb,hlb⟩:∃ lb,lb=(limbs n).length:=⟨_,rfl⟩
   obtain ⟨la,hla⟩:∃ la,la=(limbs m).length:=⟨_,rfl⟩
   have hlb2:2<=lb:=by
    rcases Nat.lt_or_ge (limbs n).length 1 with h | h
    ·have:limbs n=[]:=List.eq_nil_of_length_eq_zero (by omega)
     exact absurd (limbs_nil.1 this) h0
    ·omega
   have hab:lb<=la:=by rw[hlb,hla];exact IZ (by omega)
   have hbw:=Dw n
   obtain ⟨t,ht⟩:∃ t,t=(limbs n).getD (lb - 1) 0:=⟨_,rfl⟩
   have htb:=hbw.at (lb - 1)
   have htop:=MD n (lb - 1) (by omega)
   rw[<-ht] at htb htop
   obtain ⟨s,hs⟩:∃ s:Nat,(s:Int)=1000000000 / (t+1):=⟨(1000000000 / (t+1)).toNat,by have:=Int.ediv_nonneg (show (0:Int)<=1000000000 by omega) (show 0<=t+1 by omega);omega⟩
   have hs1:1<=(s:Int):=by rw[hs];exact Int.le_ediv_of_mul_le (by omega) (by omega)
   have hst:(s:Int) * (t+1)<=1000000000:=by rw[hs];exact Int.ediv_mul_le _ (by omega)
   have hs2:(s:Int)<=500000000:=by
    have:(s:Int) * 2<=(s:Int) * (t+1):=Int.mul_le_mul_of_nonneg_left (by omega) (by omega)
    omega
   have hsl:limbs s=[(s:Int)]:=limbs_small (by omega) (by omega)
   have hau:=UF (Dw m) (Wf.one (x:=(s:Int)) (by omega)) (by omega) (by simp)
   have hbu:=UF hbw (Wf.one (x:=(s:Int)) (by omega)) (by omega) (by simp)
   rw[CE,Pb,<-Int.natCast_mul,qZ0] at hau hbu
   have hls:(limbs s).length=1:=by rw[hsl];rfl
   have hnlt:(n:Int) < (t+1) * bp (lb - 1):=by
    have e:=DQ (limbs n) (lb - 1) (by omega)
    rw[C7 (by omega),show lb - 1+1=lb by omega,List.drop_of_length_le (by omega),CE,<-ht] at e
    have h1:=DU (hbw.take (lb - 1))
    rw[List.length_take,Nat.min_eq_left (by omega)] at h1
    simp only[lv] at e
    grind
   have hvlen:(limbs (n * s)).length=lb:=by
    have hup:(limbs (n * s)).length<=lb:=by
     refine O2 ?_
     rw[Int.natCast_mul]
     have e1:(n:Int) * s < (t+1) * bp (lb - 1) * s:=Int.mul_lt_mul_of_pos_right hnlt (by omega)
     have e2:s * (t+1) * bp (lb - 1)<=1000000000 * bp (lb - 1):=Int.mul_le_mul_of_nonneg_right hst (by have:=DX (lb - 1);omega)
     have e3:bp lb=1000000000 * bp (lb - 1):=by rw[<-Da,show lb - 1+1=lb by omega]
     grind
    have hlo:(limbs n).length<=(limbs (n * s)).length:=IZ (Nat.le_mul_of_pos_right n (by omega))
    omega
   have hulen:(limbs (m * s)).length<=(limbs m).length+1:=by
    have:=Tx m s
    omega
   obtain ⟨u',hpad,hu1,hu2,hu3⟩:=ADT (u:=limbs (m * s)) (sc:=[(s:Int)]) (v:=limbs (n * s)) (a:=limbs m) (Dw _) hulen (by omega)
   obtain ⟨K,hK⟩:∃ K:Nat,K=la+1 - lb:=⟨_,rfl⟩
   have hvt:=MD (n * s) (lb - 1) (by omega)
   rw[CE] at hu3
   have hVK:lv u' < lv (limbs (n * s)) * bp K:=by
    rw[hu3,CE,Int.natCast_mul,Int.natCast_mul]
    have e1:(m:Int) < bp la:=by rw[hla];exact Jy m
    have e2:bp (lb - 1)<=(n:Int):=by rw[hlb];exact Ts h0
    have e3:bp la=bp (lb - 1) * bp K:=by rw[<-Mf,show lb - 1+K=la by omega]
    have e4:bp (lb - 1) * bp K<=(n:Int) * bp K:=Int.mul_le_mul_of_nonneg_right e2 (by have:=DX K;omega)
    have e5:(m:Int) * s < (n:Int) * bp K * s:=Int.mul_lt_mul_of_pos_right (by omega) (by omega)
    grind
   obtain ⟨u2,q,hloop,g1,g2,g3,g4,g5,g6⟩:=AGI (sc:=[(s:Int)]) (K:=K) hu1 (Dw (n * s)) hvlen hlb2 (by omega) (by omega) hvt hVK
   rw[hu3,CE] at g6
   rw[CE] at g5
   have hns:0 < n * s:=Nat.mul_pos (by omega) (by omega)
   have hu20:=CO g1
   have hdiv:lv q=((m / n:Nat):Int):=by
    have e:((m * s:Nat):Int) / ((n * s:Nat):Int)=lv q:=by
     rw[g6,Int.add_mul_ediv_left _ _ (by omega),Int.ediv_eq_zero_of_lt hu20 g5];omega
    rw[<-e,<-Int.natCast_ediv,Nat.mul_div_mul_right _ _ (by omega)]
   have hmod:lv u2=((m % n * s:Nat):Int):=by
    have e:((m * s:Nat):Int) % ((n * s:Nat):Int)=lv u2:=by
     rw[g6,Int.add_mul_emod_self_left,Int.emod_eq_of_lt hu20 g5]
    rw[<-e,<-Int.natCast_emod,Nat.mul_mod_mul_right]
   have ht7:=FZ g1 (by omega)
   rw[hmod,qZ0] at ht7
   have hlen7:(limbs (m % n * s)).length<=1000000000:=by
    have h1:=Tx (m % n) s
    have h2:=IZ (Nat.le_of_lt (Nat.mod_lt m (show n > 0 by omega)))
    omega
   have hq8:=YW (m % n * s) s hlen7 (by omega)
   rw[Nat.mul_div_cancel _ (by omega)] at hq8
   have ht9:=FZ g3 (by omega)
   rw[hdiv,qZ0] at ht9
   have hwrap:((lb:Int) - 1).toNat=lb - 1:=by omega
   have hKi:((la+1:Nat):Int) - (lb:Int)=(K:Int):=by omega
   have hKn:((K:Int)).toNat=K:=by omega
   have hlbi:((limbs n).length:Int)=(lb:Int):=by omega
   have hvli:((limbs (n * s)).length:Int)=(lb:Int):=by omega
   have hu2i:((u'.length:Nat):Int)=((la+1:Nat):Int):=by omega
   have hrl:(((List.replicate K (0:Int)).length:Nat):Int)=(K:Int):=by simp
   have h00:((0:Int)).toNat=0:=rfl
   have hg0:([(s:Int)]:List Int).getD 0 0=(s:Int):=rfl
   simp (disch:=(first | omega | (simp only[Ai];omega))) only[hwrap,hlbi,<-ht,<-hs,hau,hbu,hpad,hu2i,hvli,hKi,hKn,hrl,hloop,ht7,h00,hg0,hq8,ht9,Aj]
end Go.AM.Num
end
