/- Law TermNames: a part of its proof. No conditions. -/
import Derived.Test.YtppjkoefhkcjfaaGreatDoorTermNames3
import Derived.Test.YtppjkoefhkcjfaaGreatDoorProg
import Derived.TacticsInMore
import Derived.LoopNIn
import Derived.LoopIn
import Derived.RangeFuncLeaves
import Derived.RangeFuncBox
import Derived.RangeFuncWrites
import Derived.RangeFuncNested
import Derived.OwnWalkIn
import Derived.Shelf.Abstract
import Derived.WalkKit
import Derived.Lib.Walk
import Derived.BigCall
import Derived.BigGuard
set_option linter.unusedSimpArgs false
set_option linter.unusedVariables false
section
namespace Go.AM.Num
set_option maxRecDepth 100000
noncomputable section
def BV:Nat:=2 ^ 64
@[reducible] def BZ : GT := (.pair .str (.int .i64))
abbrev Vr:=qBs×Int
abbrev DW:Vr:=(([]:qBs),(0:Int))
@[reducible] def As : GT := (.pair (.int .i64) (.int .i64))
abbrev Ad:=Int×Int
@[reducible] def AE : GT := (.pair (.sl (.int .i64)) (.int .i64))
abbrev Af:=(List Int)×Int
@[reducible] def CW : GT := (.pair .bool (.pair (.sl (.int .u32)) (.sl (.int .u32))))
abbrev Rt:=Bool×(List Int)×List Int
@[reducible] def Ak : GT := (.pair (.int .i64) (.pair (.int .i64) (.pair .str BZ)))
abbrev Ab:=Int×Int×qBs×Vr
abbrev Am:Ab:=((0:Int),(0:Int),([]:qBs),([]:qBs),(0:Int))
abbrev E0:=Int×Bool×qBs×(List qBs)×List qBs
@[reducible] def BL : GT := (.pair (.sl Ak) (.sl (.pair (.int .i64) As)))
abbrev AL:=(List Ab)×List (Int×Ad)
abbrev AT:AL:=(([]:List Ab),([]:List (Int×Ad)))
def Ed (v0:Int) (n1:Int):Option ((Int×Unit)×Unit):=
 Aa ((qU (n1)) !=0) (some ((qI ((qU (v0)).tmod (qU (n1))),()),()))
def MM (c0:Int):Option ((Bool×Unit)×Unit):=
 cond (c0==32)
 (some ((true,()),()))
 (cond (c0==9)
 (some ((true,()),()))
 (cond (c0==13)
 (some ((true,()),()))
 (some ((c0==10,()),()))))
def K0 (x:(qBs×Int×(List (Int×qBs×Ad))×List Int)×Unit):Option (Ex×((qBs×Int×(List (Int×qBs×Ad))×List Int)×Unit)):=
 let r0:=x.1
 cond (decide (r0.2.1 < (r0.1.length:Int)))
 (Aa (decide (0<=r0.2.1)&&decide (r0.2.1 < r0.1.length)) (
 cond (((r0.1.getD r0.2.1.toNat 0).toNat:Int) !=(10:Int))
 (some (Ex.normal,((r0.1,qI (r0.2.1+1),r0.2.2),())))
 (some (Ex.exit 3,(r0,())))))
 (some (Ex.exit 3,(r0,())))
def JL (x:(qBs×Int×(List (Int×qBs×Ad))×List Int)×Unit):Option (Ex×((qBs×Int×(List (Int×qBs×Ad))×List Int)×Unit)):=
 let r0:=x.1
 cond (decide (r0.2.1 < (r0.1.length:Int)))
 (Aa (decide (0<=r0.2.1)&&decide (r0.2.1 < r0.1.length)) (
 (MM ((r0.1.getD r0.2.1.toNat 0).toNat:Int)).bind fun r1=>
 cond (r1.1.1)
 (some (Ex.normal,((r0.1,qI (r0.2.1+1),r0.2.2),())))
 (cond (((r0.1.getD r0.2.1.toNat 0).toNat:Int)==59)
 ((An K0 (r0,())).bind fun y2=>
 cond (Ex.same y2.1 (Ex.exit 3))
 (some (Ex.normal,(y2.2.1,())))
 (none))
 (some (Ex.ret,(r0,()))))))
 (some (Ex.exit 0,(r0,())))
def HT (r0:qBs×Int×(List (Int×qBs×Ad))×List Int):Option ((Unit)×((qBs×Int×(List (Int×qBs×Ad))×List Int)×Unit)):=
 (An JL (r0,())).bind fun y1=>
 cond (Ex.same y1.1 (Ex.exit 0))
 (some ((),y1.2.1,()))
 (cond (Ex.same y1.1 Ex.ret)
 (some ((),y1.2.1,()))
 (none))
def FX (r0:qBs×Int×(List (Int×qBs×Ad))×List Int) (kind1:Int) (text2:qBs) (pos3:Int):Option ((Int×Unit)×((qBs×Int×(List (Int×qBs×Ad))×List Int)×Unit)):=
 cond (decide ((r0.2.2.2.length:Int) > (256:Int)))
 (some ((6,()),r0,()))
 (cond (decide ((r0.2.2.2.length:Int) > (0:Int)))
 (Aa (decide (0<=qI ((r0.2.2.2.length:Int) - (1:Int)))&&decide (qI ((r0.2.2.2.length:Int) - (1:Int)) < r0.2.2.2.length)) (
 Aa (decide ((qI ((r0.2.2.2.length:Int) - (1:Int))).toNat < r0.2.2.2.length)) (
 Aa (decide (0<=r0.2.2.2.getD ((qI ((r0.2.2.2.length:Int) - (1:Int))).toNat) (0:Int))&&decide (r0.2.2.2.getD ((qI ((r0.2.2.2.length:Int) - (1:Int))).toNat) (0:Int) < r0.2.2.1.length)) (
 Aa (decide ((r0.2.2.2.getD ((qI ((r0.2.2.2.length:Int) - (1:Int))).toNat) (0:Int)).toNat < r0.2.2.1.length)) (
 Aa (decide (0<=r0.2.2.2.getD ((qI ((r0.2.2.2.length:Int) - (1:Int))).toNat) (0:Int))&&decide (r0.2.2.2.getD ((qI ((r0.2.2.2.length:Int) - (1:Int))).toNat) (0:Int) < r0.2.2.1.length)) (
 Aa (decide ((r0.2.2.2.getD ((qI ((r0.2.2.2.length:Int) - (1:Int))).toNat) (0:Int)).toNat < r0.2.2.1.length)) (
 cond (kind1==5)
 (Aa (decide (r0.2.2.2.length+([((r0.2.2.1.set ((r0.2.2.2.getD ((qI ((r0.2.2.2.length:Int) - (1:Int))).toNat) (0:Int)).toNat) ((r0.2.2.1.getD ((r0.2.2.2.getD ((qI ((r0.2.2.2.length:Int) - (1:Int))).toNat) (0:Int)).toNat) ((0:Int),([]:qBs),(0:Int),(0:Int))).1,((r0.2.2.1.getD ((r0.2.2.2.getD ((qI ((r0.2.2.2.length:Int) - (1:Int))).toNat) (0:Int)).toNat) ((0:Int),([]:qBs),(0:Int),(0:Int))).2).1,qI (((((r0.2.2.1.getD ((r0.2.2.2.getD ((qI ((r0.2.2.2.length:Int) - (1:Int))).toNat) (0:Int)).toNat) ((0:Int),([]:qBs),(0:Int),(0:Int))).2).2).1)+1),(((r0.2.2.1.getD ((r0.2.2.2.getD ((qI ((r0.2.2.2.length:Int) - (1:Int))).toNat) (0:Int)).toNat) ((0:Int),([]:qBs),(0:Int),(0:Int))).2).2).2)).length:Int)]:List Int).length<=Az)) (Aa (decide ((r0.2.2.1.set ((r0.2.2.2.getD ((qI ((r0.2.2.2.length:Int) - (1:Int))).toNat) (0:Int)).toNat) ((r0.2.2.1.getD ((r0.2.2.2.getD ((qI ((r0.2.2.2.length:Int) - (1:Int))).toNat) (0:Int)).toNat) ((0:Int),([]:qBs),(0:Int),(0:Int))).1,((r0.2.2.1.getD ((r0.2.2.2.getD ((qI ((r0.2.2.2.length:Int) - (1:Int))).toNat) (0:Int)).toNat) ((0:Int),([]:qBs),(0:Int),(0:Int))).2).1,qI (((((r0.2.2.1.getD ((r0.2.2.2.getD ((qI ((r0.2.2.2.length:Int) - (1:Int))).toNat) (0:Int)).toNat) ((0:Int),([]:qBs),(0:Int),(0:Int))).2).2).1)+1),(((r0.2.2.1.getD ((r0.2.2.2.getD ((qI ((r0.2.2.2.length:Int) - (1:Int))).toNat) (0:Int)).toNat) ((0:Int),([]:qBs),(0:Int),(0:Int))).2).2).2)).length+([(kind1,text2,(0:Int),pos3)]:List (Int×qBs×Ad)).length<=Az)) (some ((0,()),(r0.1,r0.2.1,(r0.2.2.1.set ((r0.2.2.2.getD ((qI ((r0.2.2.2.length:Int) - (1:Int))).toNat) (0:Int)).toNat) ((r0.2.2.1.getD ((r0.2.2.2.getD ((qI ((r0.2.2.2.length:Int) - (1:Int))).toNat) (0:Int)).toNat) ((0:Int),([]:qBs),(0:Int),(0:Int))).1,((r0.2.2.1.getD ((r0.2.2.2.getD ((qI ((r0.2.2.2.length:Int) - (1:Int))).toNat) (0:Int)).toNat) ((0:Int),([]:qBs),(0:Int),(0:Int))).2).1,qI (((((r0.2.2.1.getD ((r0.2.2.2.getD ((qI ((r0.2.2.2.length:Int) - (1:Int))).toNat) (0:Int)).toNat) ((0:Int),([]:qBs),(0:Int),(0:Int))).2).2).1)+1),(((r0.2.2.1.getD ((r0.2.2.2.getD ((qI ((r0.2.2.2.length:Int) - (1:Int))).toNat) (0:Int)).toNat) ((0:Int),([]:qBs),(0:Int),(0:Int))).2).2).2))++([(kind1,text2,(0:Int),pos3)]:List (Int×qBs×Ad)),r0.2.2.2++([((r0.2.2.1.set ((r0.2.2.2.getD ((qI ((r0.2.2.2.length:Int) - (1:Int))).toNat) (0:Int)).toNat) ((r0.2.2.1.getD ((r0.2.2.2.getD ((qI ((r0.2.2.2.length:Int) - (1:Int))).toNat) (0:Int)).toNat) ((0:Int),([]:qBs),(0:Int),(0:Int))).1,((r0.2.2.1.getD ((r0.2.2.2.getD ((qI ((r0.2.2.2.length:Int) - (1:Int))).toNat) (0:Int)).toNat) ((0:Int),([]:qBs),(0:Int),(0:Int))).2).1,qI (((((r0.2.2.1.getD ((r0.2.2.2.getD ((qI ((r0.2.2.2.length:Int) - (1:Int))).toNat) (0:Int)).toNat) ((0:Int),([]:qBs),(0:Int),(0:Int))).2).2).1)+1),(((r0.2.2.1.getD ((r0.2.2.2.getD ((qI ((r0.2.2.2.length:Int) - (1:Int))).toNat) (0:Int)).toNat) ((0:Int),([]:qBs),(0:Int),(0:Int))).2).2).2)).length:Int)]:List Int)),()))))
 (Aa (decide ((r0.2.2.1.set ((r0.2.2.2.getD ((qI ((r0.2.2.2.length:Int) - (1:Int))).toNat) (0:Int)).toNat) ((r0.2.2.1.getD ((r0.2.2.2.getD ((qI ((r0.2.2.2.length:Int) - (1:Int))).toNat) (0:Int)).toNat) ((0:Int),([]:qBs),(0:Int),(0:Int))).1,((r0.2.2.1.getD ((r0.2.2.2.getD ((qI ((r0.2.2.2.length:Int) - (1:Int))).toNat) (0:Int)).toNat) ((0:Int),([]:qBs),(0:Int),(0:Int))).2).1,qI (((((r0.2.2.1.getD ((r0.2.2.2.getD ((qI ((r0.2.2.2.length:Int) - (1:Int))).toNat) (0:Int)).toNat) ((0:Int),([]:qBs),(0:Int),(0:Int))).2).2).1)+1),(((r0.2.2.1.getD ((r0.2.2.2.getD ((qI ((r0.2.2.2.length:Int) - (1:Int))).toNat) (0:Int)).toNat) ((0:Int),([]:qBs),(0:Int),(0:Int))).2).2).2)).length+([(kind1,text2,(0:Int),pos3)]:List (Int×qBs×Ad)).length<=Az)) (some ((0,()),(r0.1,r0.2.1,(r0.2.2.1.set ((r0.2.2.2.getD ((qI ((r0.2.2.2.length:Int) - (1:Int))).toNat) (0:Int)).toNat) ((r0.2.2.1.getD ((r0.2.2.2.getD ((qI ((r0.2.2.2.length:Int) - (1:Int))).toNat) (0:Int)).toNat) ((0:Int),([]:qBs),(0:Int),(0:Int))).1,((r0.2.2.1.getD ((r0.2.2.2.getD ((qI ((r0.2.2.2.length:Int) - (1:Int))).toNat) (0:Int)).toNat) ((0:Int),([]:qBs),(0:Int),(0:Int))).2).1,qI (((((r0.2.2.1.getD ((r0.2.2.2.getD ((qI ((r0.2.2.2.length:Int) - (1:Int))).toNat) (0:Int)).toNat) ((0:Int),([]:qBs),(0:Int),(0:Int))).2).2).1)+1),(((r0.2.2.1.getD ((r0.2.2.2.getD ((qI ((r0.2.2.2.length:Int) - (1:Int))).toNat) (0:Int)).toNat) ((0:Int),([]:qBs),(0:Int),(0:Int))).2).2).2))++([(kind1,text2,(0:Int),pos3)]:List (Int×qBs×Ad)),r0.2.2.2),()))))))))))
 (cond (kind1==5)
 (Aa (decide (r0.2.2.2.length+([(r0.2.2.1.length:Int)]:List Int).length<=Az)) (Aa (decide (r0.2.2.1.length+([(kind1,text2,(0:Int),pos3)]:List (Int×qBs×Ad)).length<=Az)) (some ((0,()),(r0.1,r0.2.1,r0.2.2.1++([(kind1,text2,(0:Int),pos3)]:List (Int×qBs×Ad)),r0.2.2.2++([(r0.2.2.1.length:Int)]:List Int)),()))))
 (Aa (decide (r0.2.2.1.length+([(kind1,text2,(0:Int),pos3)]:List (Int×qBs×Ad)).length<=Az)) (some ((0,()),(r0.1,r0.2.1,r0.2.2.1++([(kind1,text2,(0:Int),pos3)]:List (Int×qBs×Ad)),r0.2.2.2),())))))
def HM (c0:Int):Option ((Bool×Unit)×Unit):=
 cond (decide (c0>=32))
 (some ((decide (c0<=126),()),()))
 (some ((false,()),()))
def DU (b0:Unit×List Int) (c1:Int):Option ((Bool×Unit)×((Unit×List Int)×Unit)):=
 (Hf ((),b0.2)).bind fun r1=>
 Aa (decide (r1.2.1.2.length+([c1]:List Int).length<=Az)) (some ((false,()),((),r1.2.1.2++([c1]:List Int)),()))
def Ja (x:(qBs×Int×(List (Int×qBs×Ad))×List Int)×qBs×Bool×(Unit×List Int)×Unit):Option (Ex×(((qBs×Int×(List (Int×qBs×Ad))×List Int)×qBs×Bool×(Unit×List Int)×Unit) ⊕ ((qBs×Int×(List (Int×qBs×Ad))×List Int)×qBs×Bool×Unit))):=
 let r0:=x.1
 let t2:=x.2.1
 let t3:=x.2.2.1
 let b4:=x.2.2.2.1
 cond (decide (r0.2.1 < (r0.1.length:Int)))
 (Aa (decide (0<=r0.2.1)&&decide (r0.2.1 < r0.1.length)) (
 (HM ((r0.1.getD r0.2.1.toNat 0).toNat:Int)).bind fun r1=>
 cond (!r1.1.1)
 (some (Ex.ret,Sum.inr (r0,([]:qBs),false,())))
 (cond (((r0.1.getD r0.2.1.toNat 0).toNat:Int) !=(34:Int))
 ((DU ((),b4.2) ((r0.1.getD r0.2.1.toNat 0).toNat:Int)).bind fun r2=>
 some (Ex.normal,Sum.inl ((r0.1,qI (r0.2.1+1),r0.2.2),t2,t3,((),r2.2.1.2),())))
 (cond (decide ((qI (r0.2.1+1)) < (r0.1.length:Int)))
 (Aa (decide (0<=qI (r0.2.1+1))&&decide (qI (r0.2.1+1) < r0.1.length)) (
 cond (((r0.1.getD (qI (r0.2.1+1)).toNat 0).toNat:Int)==34)
 ((DU ((),b4.2) ((r0.1.getD r0.2.1.toNat 0).toNat:Int)).bind fun r3=>
 some (Ex.normal,Sum.inl ((r0.1,qI ((qI (r0.2.1+1))+1),r0.2.2),t2,t3,((),r3.2.1.2),())))
 ((EP ((),b4.2)).bind fun r4=>
 some (Ex.ret,Sum.inr ((r0.1,qI (r0.2.1+1),r0.2.2),r4.1.1,true,())))))
 ((EP ((),b4.2)).bind fun r5=>
 some (Ex.ret,Sum.inr ((r0.1,qI (r0.2.1+1),r0.2.2),r5.1.1,true,())))))))
 (some (Ex.exit 0,Sum.inl (r0,t2,t3,((),b4.2),())))
def J8 (r0:qBs×Int×(List (Int×qBs×Ad))×List Int):Option ((qBs×Bool×Unit)×((qBs×Int×(List (Int×qBs×Ad))×List Int)×Unit)):=
 (An (Hh Ja) (Sum.inl ((r0.1,qI (r0.2.1+1),r0.2.2),([]:qBs),false,((),([]:List Int)),()))).bind fun y1=>
 Sum.elim (fun u2=>
 cond (Ex.same y1.1 (Ex.exit 0))
 (some ((([]:qBs),false,()),u2.1,()))
 (none))
 (fun v3=>
 some ((v3.2.1,v3.2.2.1,()),v3.1,())) y1.2
def DS (c0:Int):Option ((Bool×Unit)×Unit):=
 cond (decide (c0>=48))
 (some ((decide (c0<=57),()),()))
 (some ((false,()),()))
def Ie (c0:Int):Option ((Bool×Unit)×Unit):=
 cond (decide (c0>=97))
 (cond (decide (c0<=122))
 (some ((true,()),()))
 (cond (decide (c0>=65))
 (cond (decide (c0<=90))
 (some ((true,()),()))
 ((DS c0).bind fun r1=>
 cond (r1.1.1)
 (some ((true,()),()))
 ((strings_IndexByte ([126,33,64,36,37,94,38,42,95,45,43,61,60,62,46,63,47,58]:qBs) c0).bind fun r2=>
 some ((decide (r2.1.1>=0),()),()))))
 ((DS c0).bind fun r3=>
 cond (r3.1.1)
 (some ((true,()),()))
 ((strings_IndexByte ([126,33,64,36,37,94,38,42,95,45,43,61,60,62,46,63,47,58]:qBs) c0).bind fun r4=>
 some ((decide (r4.1.1>=0),()),())))))
 (cond (decide (c0>=65))
 (cond (decide (c0<=90))
 (some ((true,()),()))
 ((DS c0).bind fun r5=>
 cond (r5.1.1)
 (some ((true,()),()))
 ((strings_IndexByte ([126,33,64,36,37,94,38,42,95,45,43,61,60,62,46,63,47,58]:qBs) c0).bind fun r6=>
 some ((decide (r6.1.1>=0),()),()))))
 ((DS c0).bind fun r7=>
 cond (r7.1.1)
 (some ((true,()),()))
 ((strings_IndexByte ([126,33,64,36,37,94,38,42,95,45,43,61,60,62,46,63,47,58]:qBs) c0).bind fun r8=>
 some ((decide (r8.1.1>=0),()),()))))
def LS (x:(qBs×Int×(List (Int×qBs×Ad))×List Int)×Int×Unit):Option (Ex×((qBs×Int×(List (Int×qBs×Ad))×List Int)×Int×Unit)):=
 let r0:=x.1
 let from3:=x.2.1
 cond (decide (r0.2.1 < (r0.1.length:Int)))
 (Aa (decide (0<=r0.2.1)&&decide (r0.2.1 < r0.1.length)) (
 (Ie ((r0.1.getD r0.2.1.toNat 0).toNat:Int)).bind fun r1=>
 cond (r1.1.1)
 (some (Ex.normal,((r0.1,qI (r0.2.1+1),r0.2.2),from3,())))
 (some (Ex.exit 0,(r0,from3,())))))
 (some (Ex.exit 0,(r0,from3,())))
def NK (r0:qBs×Int×(List (Int×qBs×Ad))×List Int):Option ((qBs×Unit)×((qBs×Int×(List (Int×qBs×Ad))×List Int)×Unit)):=
 (An LS (r0,r0.2.1,())).bind fun y1=>
 cond (Ex.same y1.1 (Ex.exit 0))
 (Aa (decide (0<=y1.2.2.1)&&decide (y1.2.2.1<=y1.2.1.2.1)&&decide (y1.2.1.2.1<=y1.2.1.1.length)) (some (((y1.2.1.1.take y1.2.1.2.1.toNat).drop y1.2.2.1.toNat,()),y1.2.1,())))
 (none)
def M6 (s0:qBs):Option ((Bool×Unit)×Unit):=
 cond (s0==([48]:qBs))
 (some ((true,()),()))
 (cond (!(s0==([]:qBs)))
 (Aa (decide (0<=(0:Int))&&decide ((0:Int) < s0.length)) (
 cond (((s0.getD (0:Int).toNat 0).toNat:Int) !=(48:Int))
 ((EY s0 ([48,49,50,51,52,53,54,55,56,57]:qBs)).bind fun r1=>
 some ((r1.1.1==([]:qBs),()),()))
 (some ((false,()),()))))
 (some ((false,()),())))
def Fp (s0:qBs):Option ((Int×Unit)×Unit):=
 (strings_Cut s0 ([46]:qBs)).bind fun r1=>
 cond (s0==([]:qBs))
 (some ((0,()),()))
 (Aa (decide (0<=(0:Int))&&decide ((0:Int) < s0.length)) (
 (DS ((s0.getD (0:Int).toNat 0).toNat:Int)).bind fun r2=>
 cond (!r2.1.1)
 (some ((1,()),()))
 ((M6 r1.1.1).bind fun r3=>
 cond (!r3.1.1)
 (some ((0,()),()))
 (cond (!r1.1.2.2.1)
 (some ((2,()),()))
 (cond (!(r1.1.2.1==([]:qBs)))
 ((EY r1.1.2.1 ([48,49,50,51,52,53,54,55,56,57]:qBs)).bind fun r4=>
 cond (r4.1.1==([]:qBs))
 (some ((3,()),()))
 (some ((0,()),())))
 (some ((0,()),())))))))
def I_ (r0:qBs×Int×(List (Int×qBs×Ad))×List Int):Option ((Int×Unit)×((qBs×Int×(List (Int×qBs×Ad))×List Int)×Unit)):=
 Aa (decide (0<=r0.2.1)&&decide (r0.2.1 < r0.1.length)) (
 cond (((r0.1.getD r0.2.1.toNat 0).toNat:Int)==40)
 ((FX (r0.1,qI (r0.2.1+1),r0.2.2) 5 ([]:qBs) r0.2.1).bind fun r1=>
 some ((r1.1.1,()),r1.2.1,()))
 (cond (((r0.1.getD r0.2.1.toNat 0).toNat:Int)==41)
 (cond ((r0.2.2.2.length:Int)==0)
 (some ((2,()),r0,()))
 (Aa (decide (0<=qI ((r0.2.2.2.length:Int) - (1:Int)))&&decide (qI ((r0.2.2.2.length:Int) - (1:Int))<=r0.2.2.2.length)) (some ((0,()),(r0.1,qI (r0.2.1+1),r0.2.2.1,r0.2.2.2.take ((qI ((r0.2.2.2.length:Int) - (1:Int))).toNat)),()))))
 (cond (((r0.1.getD r0.2.1.toNat 0).toNat:Int)==34)
 ((J8 r0).bind fun r2=>
 cond (!r2.1.2.1)
 (some ((2,()),r2.2.1,()))
 ((FX r2.2.1 4 r2.1.1 r0.2.1).bind fun r3=>
 some ((r3.1.1,()),r3.2.1,())))
 ((NK r0).bind fun r4=>
 (Fp r4.1.1).bind fun r5=>
 cond (r5.1.1==0)
 (some ((2,()),r4.2.1,()))
 ((FX r4.2.1 r5.1.1 r4.1.1 r0.2.1).bind fun r6=>
 some ((r6.1.1,()),r6.2.1,()))))))
def Ku (x:qBs×(List (Int×qBs×Ad))×Int×Int×(qBs×Int×(List (Int×qBs×Ad))×List Int)×Unit):Option (Ex×(qBs×(List (Int×qBs×Ad))×Int×Int×(qBs×Int×(List (Int×qBs×Ad))×List Int)×Unit)):=
 let src0:=x.1
 let t2:=x.2.1
 let t3:=x.2.2.1
 let t4:=x.2.2.2.1
 let r5:=x.2.2.2.2.1
 cond (decide (r5.2.1 < (src0.length:Int)))
 ((I_ r5).bind fun r1=>
 cond (r1.1.1 !=(0:Int))
 (some (Ex.ret,(src0,([]:List (Int×qBs×Ad)),r5.2.1,r1.1.1,r1.2.1,())))
 ((HT r1.2.1).bind fun r2=>
 some (Ex.normal,(src0,t2,t3,t4,r2.2.1,()))))
 (some (Ex.exit 0,(src0,t2,t3,t4,r5,())))
def Jp (src0:qBs):Option (((List (Int×qBs×Ad))×Int×Int×Unit)×Unit):=
 cond (decide ((src0.length:Int) > (65536:Int)))
 (some ((([]:List (Int×qBs×Ad)),0,6,()),()))
 ((HT (src0,(0:Int),([]:List (Int×qBs×Ad)),([]:List Int))).bind fun r1=>
 (An Ku (src0,([]:List (Int×qBs×Ad)),0,0,r1.2.1,())).bind fun y2=>
 cond (Ex.same y2.1 (Ex.exit 0))
 (cond (decide ((y2.2.2.2.2.2.1.2.2.2.length:Int) > (0:Int)))
 (some ((([]:List (Int×qBs×Ad)),(y2.2.1.length:Int),2,()),()))
 (some ((y2.2.2.2.2.2.1.2.2.1,0,0,()),())))
 (cond (Ex.same y2.1 Ex.ret)
 (some ((y2.2.2.1,y2.2.2.2.1,y2.2.2.2.2.1,()),()))
 (none)))
def L0 (x:(Int×qBs×Ad)×Bool×Int×Int×Unit):Option (Ex×((Int×qBs×Ad)×Bool×Int×Int×Unit)):=
 let x1:=x.1
 let t2:=x.2.1
 let t21:=x.2.2.1
 let t22:=x.2.2.2.1
 cond (decide (t22 < t21))
 (Aa (decide (0<=t22)&&decide (t22 < x1.2.1.length)) (
 (HM ((x1.2.1.getD t22.toNat 0).toNat:Int)).bind fun r1=>
 cond (!r1.1.1)
 (some (Ex.ret,(x1,false,t21,t22,())))
 (some (Ex.normal,(x1,t2,t21,qI (t22+1),())))))
 (some (Ex.exit 1,(x1,t2,t21,t22,())))
def F2 (x:(Int×qBs×Ad)×Bool×Int×Int×Unit):Option (Ex×((Int×qBs×Ad)×Bool×Int×Int×Unit)):=
 let x1:=x.1
 let t2:=x.2.1
 let t41:=x.2.2.1
 let t42:=x.2.2.2.1
 cond (decide (t42 < t41))
 (Aa (decide (0<=t42)&&decide (t42 < x1.2.1.length)) (
 (Ie ((x1.2.1.getD t42.toNat 0).toNat:Int)).bind fun r1=>
 cond (!r1.1.1)
 (some (Ex.ret,(x1,false,t41,t42,())))
 (some (Ex.normal,(x1,t2,t41,qI (t42+1),())))))
 (some (Ex.exit 3,(x1,t2,t41,t42,())))
def K7 (x0:Int×qBs×Ad):Option ((Bool×Unit)×Unit):=
 cond (x0.1==5)
 (cond (x0.2.1==([]:qBs))
 (some ((decide (x0.2.2.1>=0),()),()))
 (some ((false,()),())))
 (cond (x0.1==4)
 ((An L0 (x0,false,(x0.2.1.length:Int),0,())).bind fun y1=>
 cond (Ex.same y1.1 (Ex.exit 1))
 (some ((y1.2.1.2.2.1==0,()),()))
 (cond (Ex.same y1.1 Ex.ret)
 (some ((y1.2.2.1,()),()))
 (none)))
 (cond (x0.1==1)
 ((An F2 (x0,false,(x0.2.1.length:Int),0,())).bind fun y2=>
 cond (Ex.same y2.1 (Ex.exit 3))
 (cond (y2.2.1.2.2.1==0)
 ((Fp y2.2.1.2.1).bind fun r3=>
 some ((r3.1.1==y2.2.1.1,()),()))
 (some ((false,()),())))
 (cond (Ex.same y2.1 Ex.ret)
 (some ((y2.2.2.1,()),()))
 (none)))
 (cond (x0.1==2)
 ((An F2 (x0,false,(x0.2.1.length:Int),0,())).bind fun y4=>
 cond (Ex.same y4.1 (Ex.exit 3))
 (cond (y4.2.1.2.2.1==0)
 ((Fp y4.2.1.2.1).bind fun r5=>
 some ((r5.1.1==y4.2.1.1,()),()))
 (some ((false,()),())))
 (cond (Ex.same y4.1 Ex.ret)
 (some ((y4.2.2.1,()),()))
 (none)))
 (cond (x0.1==3)
 ((An F2 (x0,false,(x0.2.1.length:Int),0,())).bind fun y6=>
 cond (Ex.same y6.1 (Ex.exit 3))
 (cond (y6.2.1.2.2.1==0)
 ((Fp y6.2.1.2.1).bind fun r7=>
 some ((r7.1.1==y6.2.1.1,()),()))
 (some ((false,()),())))
 (cond (Ex.same y6.1 Ex.ret)
 (some ((y6.2.2.1,()),()))
 (none)))
 (some ((false,()),()))))))
def Kh (x:Bool×(List Int)×(Int×qBs×Ad)×(List (Int×qBs×Ad))×Int×Int×Unit):Option (Ex×(Bool×(List Int)×(Int×qBs×Ad)×(List (Int×qBs×Ad))×Int×Int×Unit)):=
 let t2:=x.1
 let left3:=x.2.1
 let x5:=x.2.2.1
 let t8:=x.2.2.2.1
 let t9:=x.2.2.2.2.1
 let t10:=x.2.2.2.2.2.1
 cond (decide ((left3.length:Int) > (0:Int)))
 (Aa (decide (0<=qI ((left3.length:Int) - (1:Int)))&&decide (qI ((left3.length:Int) - (1:Int)) < left3.length)) (
 Aa (decide ((qI ((left3.length:Int) - (1:Int))).toNat < left3.length)) (
 cond ((left3.getD ((qI ((left3.length:Int) - (1:Int))).toNat) (0:Int))==0)
 (Aa (decide (0<=qI ((left3.length:Int) - (1:Int)))&&decide (qI ((left3.length:Int) - (1:Int))<=left3.length)) (some (Ex.normal,(t2,left3.take ((qI ((left3.length:Int) - (1:Int))).toNat),x5,t8,t9,t10,()))))
 (some (Ex.exit 2,(t2,left3,x5,t8,t9,t10,()))))))
 (some (Ex.exit 2,(t2,left3,x5,t8,t9,t10,())))
def NN (x:Bool×(List Int)×(List (Int×qBs×Ad))×Int×Int×Unit):Option (Ex×(Bool×(List Int)×(List (Int×qBs×Ad))×Int×Int×Unit)):=
 let t2:=x.1
 let left3:=x.2.1
 let t8:=x.2.2.1
 let t9:=x.2.2.2.1
 let t10:=x.2.2.2.2.1
 cond (decide (t10 < t9))
 (Aa (decide (0<=t10)&&decide (t10 < t8.length)) (
 (An Kh (t2,left3,t8.getD t10.toNat ((0:Int),([]:qBs),(0:Int),(0:Int)),t8,t9,t10,())).bind fun y1=>
 cond (Ex.same y1.1 (Ex.exit 2))
 (cond (decide ((y1.2.2.1.length:Int) > (256:Int)))
 (some (Ex.ret,(false,y1.2.2.1,y1.2.2.2.2.1,y1.2.2.2.2.2.1,y1.2.2.2.2.2.2.1,())))
 ((K7 y1.2.2.2.1).bind fun r2=>
 cond (!r2.1.1)
 (some (Ex.ret,(false,y1.2.2.1,y1.2.2.2.2.1,y1.2.2.2.2.2.1,y1.2.2.2.2.2.2.1,())))
 (cond (decide ((y1.2.2.1.length:Int) > (0:Int)))
 (Aa (decide (0<=qI ((y1.2.2.1.length:Int) - (1:Int)))&&decide (qI ((y1.2.2.1.length:Int) - (1:Int)) < y1.2.2.1.length)) (
 Aa (decide ((qI ((y1.2.2.1.length:Int) - (1:Int))).toNat < y1.2.2.1.length)) (
 Aa (decide (0<=qI ((y1.2.2.1.length:Int) - (1:Int)))&&decide (qI ((y1.2.2.1.length:Int) - (1:Int)) < y1.2.2.1.length)) (
 Aa (decide ((qI ((y1.2.2.1.length:Int) - (1:Int))).toNat < y1.2.2.1.length)) (
 cond (y1.2.2.2.1.1==5)
 (Aa (decide ((y1.2.2.1.set ((qI ((y1.2.2.1.length:Int) - (1:Int))).toNat) (qI ((y1.2.2.1.getD ((qI ((y1.2.2.1.length:Int) - (1:Int))).toNat) (0:Int)) - (1:Int)))).length+([y1.2.2.2.1.2.2.1]:List Int).length<=Az)) (some (Ex.normal,(y1.2.1,(y1.2.2.1.set ((qI ((y1.2.2.1.length:Int) - (1:Int))).toNat) (qI ((y1.2.2.1.getD ((qI ((y1.2.2.1.length:Int) - (1:Int))).toNat) (0:Int)) - (1:Int))))++([y1.2.2.2.1.2.2.1]:List Int),y1.2.2.2.2.1,y1.2.2.2.2.2.1,qI (y1.2.2.2.2.2.2.1+1),()))))
 (some (Ex.normal,(y1.2.1,y1.2.2.1.set ((qI ((y1.2.2.1.length:Int) - (1:Int))).toNat) (qI ((y1.2.2.1.getD ((qI ((y1.2.2.1.length:Int) - (1:Int))).toNat) (0:Int)) - (1:Int))),y1.2.2.2.2.1,y1.2.2.2.2.2.1,qI (y1.2.2.2.2.2.2.1+1),()))))))))
 (cond (y1.2.2.2.1.1==5)
 (Aa (decide (y1.2.2.1.length+([y1.2.2.2.1.2.2.1]:List Int).length<=Az)) (some (Ex.normal,(y1.2.1,y1.2.2.1++([y1.2.2.2.1.2.2.1]:List Int),y1.2.2.2.2.1,y1.2.2.2.2.2.1,qI (y1.2.2.2.2.2.2.1+1),()))))
 (some (Ex.normal,(y1.2.1,y1.2.2.1,y1.2.2.2.2.1,y1.2.2.2.2.2.1,qI (y1.2.2.2.2.2.2.1+1),())))))))
 (none)))
 (some (Ex.exit 0,(t2,left3,t8,t9,t10,())))
def NL (x:Bool×(List Int)×Int×Int×Unit):Option (Ex×(Bool×(List Int)×Int×Int×Unit)):=
 let t2:=x.1
 let t59:=x.2.1
 let t60:=x.2.2.1
 let t61:=x.2.2.2.1
 cond (decide (t61 < t60))
 (Aa (decide (0<=t61)&&decide (t61 < t59.length)) (
 Aa (decide (t61.toNat < t59.length)) (
 cond (decide ((t59.getD t61.toNat (0:Int)) > (0:Int)))
 (some (Ex.ret,(false,t59,t60,t61,())))
 (some (Ex.normal,(t2,t59,t60,qI (t61+1),()))))))
 (some (Ex.exit 4,(t2,t59,t60,t61,())))
def Hm (l0:List (Int×qBs×Ad)):Option ((Bool×Unit)×Unit):=
 (An NN (false,([]:List Int),l0,(l0.length:Int),0,())).bind fun y1=>
 cond (Ex.same y1.1 (Ex.exit 0))
 ((An NL (y1.2.1,y1.2.2.1,(y1.2.2.1.length:Int),0,())).bind fun y2=>
 cond (Ex.same y2.1 (Ex.exit 4))
 (some ((true,()),()))
 (cond (Ex.same y2.1 Ex.ret)
 (some ((y2.2.1,()),()))
 (none)))
 (cond (Ex.same y1.1 Ex.ret)
 (some ((y1.2.1,()),()))
 (none))
def Mj (x:(List (Int×qBs×Ad))×Int×Int×Unit):Option (Ex×((List (Int×qBs×Ad))×Int×Int×Unit)):=
 let l0:=x.1
 let i1:=x.2.1
 let left5:=x.2.2.1
 cond (decide (left5 > (0:Int)))
 (Aa (decide (0<=i1)&&decide (i1 < l0.length)) (some (Ex.normal,(l0,qI (i1+1),qI (left5+(qI (((((l0.getD i1.toNat ((0:Int),([]:qBs),(0:Int),(0:Int))).2).2).1) - (1:Int)))),()))))
 (some (Ex.exit 0,(l0,i1,left5,())))
def K3 (l0:List (Int×qBs×Ad)) (i1:Int):Option ((Int×Unit)×Unit):=
 (An Mj (l0,i1,1,())).bind fun y1=>
 cond (Ex.same y1.1 (Ex.exit 0))
 (some ((y1.2.2.1,()),()))
 (none)
def JX (x:(List (Int×qBs×Ad))×(List Int)×Int×Unit):Option (Ex×((List (Int×qBs×Ad))×(List Int)×Int×Unit)):=
 let l0:=x.1
 let out3:=x.2.1
 let i4:=x.2.2.1
 cond (decide (i4 < (l0.length:Int)))
 (Aa (decide (out3.length+([i4]:List Int).length<=Az)) (
 (K3 l0 i4).bind fun r1=>
 some (Ex.normal,(l0,out3++([i4]:List Int),r1.1.1,()))))
 (some (Ex.exit 0,(l0,out3,i4,())))
def MO (l0:List (Int×qBs×Ad)):Option (((List Int)×Unit)×Unit):=
 (Hm l0).bind fun r1=>
 cond (!r1.1.1)
 (some ((([]:List Int),()),()))
 ((An JX (l0,([]:List Int),0,())).bind fun y2=>
 cond (Ex.same y2.1 (Ex.exit 0))
 (some ((y2.2.2.1,()),()))
 (none))
def Fe (c0:Int):Option ((Bool×Unit)×Unit):=
 cond (decide (c0>=97))
 (cond (decide (c0<=122))
 (some ((true,()),()))
 (cond (decide (c0>=65))
 (cond (decide (c0<=90))
 (some ((true,()),()))
 (cond (c0==95)
 (some ((true,()),()))
 (cond (c0==36)
 (some ((true,()),()))
 (some ((c0==33,()),())))))
 (cond (c0==95)
 (some ((true,()),()))
 (cond (c0==36)
 (some ((true,()),()))
 (some ((c0==33,()),()))))))
 (cond (decide (c0>=65))
 (cond (decide (c0<=90))
 (some ((true,()),()))
 (cond (c0==95)
 (some ((true,()),()))
 (cond (c0==36)
 (some ((true,()),()))
 (some ((c0==33,()),())))))
 (cond (c0==95)
 (some ((true,()),()))
 (cond (c0==36)
 (some ((true,()),()))
 (some ((c0==33,()),())))))
def Im (s0:qBs):Option ((Bool×Unit)×Unit):=
 cond (s0==([97,110,100]:qBs))
 (some ((true,()),()))
 (cond (s0==([111,114]:qBs))
 (some ((true,()),()))
 (cond (s0==([110,111,116]:qBs))
 (some ((true,()),()))
 (cond (s0==([105,116,101]:qBs))
 (some ((true,()),()))
 (cond (s0==([116,114,117,101]:qBs))
 (some ((true,()),()))
 (cond (s0==([102,97,108,115,101]:qBs))
 (some ((true,()),()))
 (cond (s0==([108,101,116]:qBs))
 (some ((true,()),()))
 (cond (s0==([102,111,114,97,108,108]:qBs))
 (some ((true,()),()))
 (cond (s0==([101,120,105,115,116,115]:qBs))
 (some ((true,()),()))
 (cond (s0==([100,105,115,116,105,110,99,116]:qBs))
 (some ((true,()),()))
 (cond (s0==([100,105,118]:qBs))
 (some ((true,()),()))
 (cond (s0==([109,111,100]:qBs))
 (some ((true,()),()))
 (cond (s0==([115,101,108,101,99,116]:qBs))
 (some ((true,()),()))
 (cond (s0==([115,116,111,114,101]:qBs))
 (some ((true,()),()))
 (cond (s0==([99,111,110,115,116]:qBs))
 (some ((true,()),()))
 (cond (s0==([66,111,111,108]:qBs))
 (some ((true,()),()))
 (cond (s0==([73,110,116]:qBs))
 (some ((true,()),()))
 (cond (s0==([82,101,97,108]:qBs))
 (some ((true,()),()))
 (cond (s0==([65,114,114,97,121]:qBs))
 (some ((true,()),()))
 (some ((false,()),()))))))))))))))))))))
def EN (x:qBs×Bool×Int×Int×Unit):Option (Ex×(qBs×Bool×Int×Int×Unit)):=
 let s0:=x.1
 let t2:=x.2.1
 let t23:=x.2.2.1
 let t24:=x.2.2.2.1
 cond (decide (t24 < t23))
 (Aa (decide (0<=t24)&&decide (t24 < s0.length)) (
 (Fe ((s0.getD t24.toNat 0).toNat:Int)).bind fun r1=>
 cond (!r1.1.1)
 (cond (decide (((s0.getD t24.toNat 0).toNat:Int)>=48))
 (cond (!(decide (((s0.getD t24.toNat 0).toNat:Int)<=57)))
 (cond (((s0.getD t24.toNat 0).toNat:Int) !=(46:Int))
 (cond (((s0.getD t24.toNat 0).toNat:Int) !=(64:Int))
 (some (Ex.ret,(s0,false,t23,t24,())))
 (some (Ex.normal,(s0,t2,t23,qI (t24+1),()))))
 (some (Ex.normal,(s0,t2,t23,qI (t24+1),()))))
 (some (Ex.normal,(s0,t2,t23,qI (t24+1),()))))
 (cond (((s0.getD t24.toNat 0).toNat:Int) !=(46:Int))
 (cond (((s0.getD t24.toNat 0).toNat:Int) !=(64:Int))
 (some (Ex.ret,(s0,false,t23,t24,())))
 (some (Ex.normal,(s0,t2,t23,qI (t24+1),()))))
 (some (Ex.normal,(s0,t2,t23,qI (t24+1),())))))
 (some (Ex.normal,(s0,t2,t23,qI (t24+1),())))))
 (some (Ex.exit 0,(s0,t2,t23,t24,())))
def BM (s0:qBs):Option ((Bool×Unit)×Unit):=
 cond (s0==([]:qBs))
 (some ((false,()),()))
 (cond (decide ((s0.length:Int) > (40:Int)))
 (some ((false,()),()))
 (Aa (decide (0<=(0:Int))&&decide ((0:Int) < s0.length)) (
 (Fe ((s0.getD (0:Int).toNat 0).toNat:Int)).bind fun r1=>
 cond (!r1.1.1)
 (some ((false,()),()))
 ((Im s0).bind fun r2=>
 cond (r2.1.1)
 (some ((false,()),()))
 ((An EN (s0,false,(s0.length:Int),0,())).bind fun y3=>
 cond (Ex.same y3.1 (Ex.exit 0))
 (some ((true,()),()))
 (cond (Ex.same y3.1 Ex.ret)
 (some ((y3.2.2.1,()),()))
 (none)))))))
def Ek (s0:Int):Option ((Bool×Unit)×Unit):=
 cond (decide (s0>=1))
 (some ((decide (s0<=4),()),()))
 (some ((false,()),()))
def CY (n0:Ab):Option (((List Ab)×Unit)×Unit):=
 some ((([n0]:List Ab),()),())
def MH (x:(List Vr)×(List (qBs×Af))×(List (qBs×List Ab))×(List (qBs×qBs×Af))×Bool×(List (qBs×List Ab))×Int×Unit):Option (Ex×((List Vr)×(List (qBs×Af))×(List (qBs×List Ab))×(List (qBs×qBs×Af))×Bool×(List (qBs×List Ab))×Int×Unit)):=
 let vars0:=x.1
 let funcs1:=x.2.1
 let t4:=x.2.2.1
 let t5:=x.2.2.2.1
 let t6:=x.2.2.2.2.1
 let s7:=x.2.2.2.2.2.1
 let i8:=x.2.2.2.2.2.2.1
 cond (decide (i8>=0))
 (Aa (decide (0<=i8)&&decide (i8 < vars0.length)) (
 (BM ((vars0.getD i8.toNat DW).1)).bind fun r1=>
 cond (!r1.1.1)
 (some (Ex.ret,(vars0,funcs1,([]:List (qBs×List Ab)),([]:List (qBs×qBs×Af)),false,s7,i8,())))
 ((Ek ((vars0.getD i8.toNat DW).2)).bind fun r2=>
 cond (!r2.1.1)
 (some (Ex.ret,(vars0,funcs1,([]:List (qBs×List Ab)),([]:List (qBs×qBs×Af)),false,s7,i8,())))
 ((CY (4,(vars0.getD i8.toNat DW).2,(vars0.getD i8.toNat DW).1,([]:qBs),(0:Int))).bind fun r3=>
 some (Ex.normal,(vars0,funcs1,t4,t5,t6,((vars0.getD i8.toNat DW).1,r3.1.1)::s7,qI (i8 - (1:Int)),()))))))
 (some (Ex.exit 0,(vars0,funcs1,t4,t5,t6,s7,i8,())))
def MZ (x:(List (qBs×List Ab))×(List (qBs×qBs×Af))×Bool×(List (qBs×List Ab))×(List (qBs×qBs×Af))×(qBs×Af)×(List (qBs×Af))×Int×Int×Int×Bool×Bool×(List Int)×Int×Bool×(List Int)×Int×Bool×(List Int)×Int×Int×Unit):Option (Ex×((List (qBs×List Ab))×(List (qBs×qBs×Af))×Bool×(List (qBs×List Ab))×(List (qBs×qBs×Af))×(qBs×Af)×(List (qBs×Af))×Int×Int×Int×Bool×Bool×(List Int)×Int×Bool×(List Int)×Int×Bool×(List Int)×Int×Int×Unit)):=
 let t4:=x.1
 let t5:=x.2.1
 let t6:=x.2.2.1
 let s7:=x.2.2.2.1
 let known10:=x.2.2.2.2.1
 let f12:=x.2.2.2.2.2.1
 let t50:=x.2.2.2.2.2.2.1
 let t51:=x.2.2.2.2.2.2.2.1
 let t52:=x.2.2.2.2.2.2.2.2.1
 let t62:=x.2.2.2.2.2.2.2.2.2.1
 let t63:=x.2.2.2.2.2.2.2.2.2.2.1
 let t64:=x.2.2.2.2.2.2.2.2.2.2.2.1
 let t68:=x.2.2.2.2.2.2.2.2.2.2.2.2.1
 let t69:=x.2.2.2.2.2.2.2.2.2.2.2.2.2.1
 let t70:=x.2.2.2.2.2.2.2.2.2.2.2.2.2.2.1
 let t74:=x.2.2.2.2.2.2.2.2.2.2.2.2.2.2.2.1
 let t75:=x.2.2.2.2.2.2.2.2.2.2.2.2.2.2.2.2.1
 let t76:=x.2.2.2.2.2.2.2.2.2.2.2.2.2.2.2.2.2.1
 let t79:=x.2.2.2.2.2.2.2.2.2.2.2.2.2.2.2.2.2.2.1
 let t80:=x.2.2.2.2.2.2.2.2.2.2.2.2.2.2.2.2.2.2.2.1
 let t81:=x.2.2.2.2.2.2.2.2.2.2.2.2.2.2.2.2.2.2.2.2.1
 cond (decide (t81 < t80))
 (Aa (decide (0<=t81)&&decide (t81 < t79.length)) (
 (Ek (t79.getD t81.toNat (0:Int))).bind fun r1=>
 cond (!r1.1.1)
 (some (Ex.ret,(([]:List (qBs×List Ab)),([]:List (qBs×qBs×Af)),false,s7,known10,f12,t50,t51,t52,t62,t63,t64,t68,t69,t70,t74,t75,t76,t79,t80,t81,())))
 (some (Ex.normal,(t4,t5,t6,s7,known10,f12,t50,t51,t52,t62,t63,t64,t68,t69,t70,t74,t75,t76,t79,t80,qI (t81+1),())))))
 (some (Ex.exit 4,(t4,t5,t6,s7,known10,f12,t50,t51,t52,t62,t63,t64,t68,t69,t70,t74,t75,t76,t79,t80,t81,())))
def JV (x:(List (qBs×List Ab))×(List (qBs×qBs×Af))×Bool×(List (qBs×List Ab))×(List (qBs×qBs×Af))×(List (qBs×Af))×Int×Int×Unit):Option (Ex×((List (qBs×List Ab))×(List (qBs×qBs×Af))×Bool×(List (qBs×List Ab))×(List (qBs×qBs×Af))×(List (qBs×Af))×Int×Int×Unit)):=
 let t4:=x.1
 let t5:=x.2.1
 let t6:=x.2.2.1
 let s7:=x.2.2.2.1
 let known10:=x.2.2.2.2.1
 let t50:=x.2.2.2.2.2.1
 let t51:=x.2.2.2.2.2.2.1
 let t52:=x.2.2.2.2.2.2.2.1
 cond (decide (t52 < t51))
 (Aa (decide (0<=t52)&&decide (t52 < t50.length)) (
 (BM ((t50.getD t52.toNat (([]:qBs),([]:List Int),(0:Int))).1)).bind fun r1=>
 cond (!r1.1.1)
 (some (Ex.ret,(([]:List (qBs×List Ab)),([]:List (qBs×qBs×Af)),false,s7,known10,t50,t51,t52,())))
 ((Ek (((t50.getD t52.toNat (([]:qBs),([]:List Int),(0:Int))).2).2)).bind fun r2=>
 cond (!r2.1.1)
 (some (Ex.ret,(([]:List (qBs×List Ab)),([]:List (qBs×qBs×Af)),false,s7,known10,t50,t51,t52,())))
 (cond (decide (((((t50.getD t52.toNat (([]:qBs),([]:List Int),(0:Int))).2).1).length:Int) < (1:Int)))
 (some (Ex.ret,(([]:List (qBs×List Ab)),([]:List (qBs×qBs×Af)),false,s7,known10,t50,t51,t52,())))
 (cond (decide (((((t50.getD t52.toNat (([]:qBs),([]:List Int),(0:Int))).2).1).length:Int) > (40:Int)))
 (some (Ex.ret,(([]:List (qBs×List Ab)),([]:List (qBs×qBs×Af)),false,s7,known10,t50,t51,t52,())))
 ((An MZ (t4,t5,t6,s7,known10,t50.getD t52.toNat (([]:qBs),([]:List Int),(0:Int)),t50,t51,t52,((t50.getD t52.toNat (([]:qBs),([]:List Int),(0:Int))).2).2,r2.1.1,!r2.1.1,((t50.getD t52.toNat (([]:qBs),([]:List Int),(0:Int))).2).1,((((t50.getD t52.toNat (([]:qBs),([]:List Int),(0:Int))).2).1).length:Int),decide (((((t50.getD t52.toNat (([]:qBs),([]:List Int),(0:Int))).2).1).length:Int) < (1:Int)),((t50.getD t52.toNat (([]:qBs),([]:List Int),(0:Int))).2).1,((((t50.getD t52.toNat (([]:qBs),([]:List Int),(0:Int))).2).1).length:Int),decide (((((t50.getD t52.toNat (([]:qBs),([]:List Int),(0:Int))).2).1).length:Int) > (40:Int)),((t50.getD t52.toNat (([]:qBs),([]:List Int),(0:Int))).2).1,((((t50.getD t52.toNat (([]:qBs),([]:List Int),(0:Int))).2).1).length:Int),0,())).bind fun y3=>
 cond (Ex.same y3.1 (Ex.exit 4))
 (cond (!((AG y3.2.2.2.2.2.2.1.1 y3.2.2.2.2.2.1).isSome))
 (some (Ex.normal,(y3.2.1,y3.2.2.1,y3.2.2.2.1,y3.2.2.2.2.1,AZ y3.2.2.2.2.2.2.1.1 y3.2.2.2.2.2.2.1 y3.2.2.2.2.2.1,y3.2.2.2.2.2.2.2.1,y3.2.2.2.2.2.2.2.2.1,qI (y3.2.2.2.2.2.2.2.2.2.1+1),())))
 (some (Ex.normal,(y3.2.1,y3.2.2.1,y3.2.2.2.1,y3.2.2.2.2.1,y3.2.2.2.2.2.1,y3.2.2.2.2.2.2.2.1,y3.2.2.2.2.2.2.2.2.1,qI (y3.2.2.2.2.2.2.2.2.2.1+1),()))))
 (cond (Ex.same y3.1 Ex.ret)
 (some (Ex.ret,(y3.2.1,y3.2.2.1,y3.2.2.2.1,y3.2.2.2.2.1,y3.2.2.2.2.2.1,y3.2.2.2.2.2.2.2.1,y3.2.2.2.2.2.2.2.2.1,y3.2.2.2.2.2.2.2.2.2.1,())))
 (none))))))))
 (some (Ex.exit 2,(t4,t5,t6,s7,known10,t50,t51,t52,())))
def LZ (vars0:List Vr) (funcs1:List (qBs×Af)):Option (((List (qBs×List Ab))×(List (qBs×qBs×Af))×Bool×Unit)×Unit):=
 (An MH (vars0,funcs1,([]:List (qBs×List Ab)),([]:List (qBs×qBs×Af)),false,([]:List (qBs×List Ab)),qI ((vars0.length:Int) - (1:Int)),())).bind fun y1=>
 cond (Ex.same y1.1 (Ex.exit 0))
 ((An JV (y1.2.2.2.1,y1.2.2.2.2.1,y1.2.2.2.2.2.1,y1.2.2.2.2.2.2.1,([]:List (qBs×qBs×Af)),y1.2.2.1,(y1.2.2.1.length:Int),0,())).bind fun y2=>
 cond (Ex.same y2.1 (Ex.exit 2))
 (some ((y2.2.2.2.2.1,y2.2.2.2.2.2.1,true,()),()))
 (cond (Ex.same y2.1 Ex.ret)
 (some ((y2.2.1,y2.2.2.1,y2.2.2.2.1,()),()))
 (none)))
 (cond (Ex.same y1.1 Ex.ret)
 (some ((y1.2.2.2.1,y1.2.2.2.2.1,y1.2.2.2.2.2.1,()),()))
 (none))
def Io (s0:qBs):Option ((Bool×Unit)×Unit):=
 cond (!(s0==([]:qBs)))
 ((EY s0 ([48,49,50,51,52,53,54,55,56,57]:qBs)).bind fun r1=>
 some ((r1.1.1==([]:qBs),()),()))
 (some ((false,()),()))
def LK (x:(List Int)×Int×Unit):Option (Ex×((List Int)×Int×Unit)):=
 let a0:=x.1
 let n3:=x.2.1
 cond (decide (n3 > (0:Int)))
 (Aa (decide (0<=qI (n3 - (1:Int)))&&decide (qI (n3 - (1:Int)) < a0.length)) (
 cond ((a0.getD (qI (n3 - (1:Int))).toNat (0:Int))==0)
 (some (Ex.normal,(a0,qI (n3 - (1:Int)),())))
 (some (Ex.exit 0,(a0,n3,())))))
 (some (Ex.exit 0,(a0,n3,())))
def DP (a0:List Int):Option (((List Int)×Unit)×Unit):=
 (An LK (a0,(a0.length:Int),())).bind fun y1=>
 cond (Ex.same y1.1 (Ex.exit 0))
 (Aa (decide (0<=y1.2.2.1)&&decide (y1.2.2.1<=y1.2.1.length)) (some ((y1.2.1.take y1.2.2.1.toNat,()),())))
 (none)
def KC (x:qBs×(List Int)×Int×Int×(List Int)×Int×Int×Unit):Option (Ex×(qBs×(List Int)×Int×Int×(List Int)×Int×Int×Unit)):=
 let s0:=x.1
 let out3:=x.2.1
 let end4:=x.2.2.1
 let v5:=x.2.2.2.1
 let t20:=x.2.2.2.2.1
 let t21:=x.2.2.2.2.2.1
 let t22:=x.2.2.2.2.2.2.1
 cond (decide (t22 < t21))
 (Aa (decide (0<=t22)&&decide (t22 < t20.length)) (some (Ex.normal,(s0,out3,end4,IntKind.u32.wrap ((IntKind.u32.wrap (v5 * (10:Int)))+(IntKind.u32.wrap (IntKind.u8.wrap ((t20.getD t22.toNat (0:Int)) - (48:Int))))),t20,t21,qI (t22+1),()))))
 (some (Ex.exit 2,(s0,out3,end4,v5,t20,t21,t22,())))
def Nc (x:qBs×(List Int)×Int×Unit):Option (Ex×(qBs×(List Int)×Int×Unit)):=
 let s0:=x.1
 let out3:=x.2.1
 let end4:=x.2.2.1
 cond (decide (end4 > (0:Int)))
 (Aa (decide (0<=Cj (qI (end4 - (9:Int))) (0:Int))&&decide (Cj (qI (end4 - (9:Int))) (0:Int)<=end4)&&decide (end4<=s0.length)) (
 (An KC (s0,out3,end4,0,((s0.take end4.toNat).drop (Cj (qI (end4 - (9:Int))) (0:Int)).toNat).map fun b=>(b.toNat:Int),((((s0.take end4.toNat).drop (Cj (qI (end4 - (9:Int))) (0:Int)).toNat).map fun b=>(b.toNat:Int)).length:Int),0,())).bind fun y1=>
 cond (Ex.same y1.1 (Ex.exit 2))
 (Aa (decide (y1.2.2.1.length+([y1.2.2.2.2.1]:List Int).length<=Az)) (some (Ex.normal,(y1.2.1,y1.2.2.1++([y1.2.2.2.2.1]:List Int),qI (y1.2.2.2.1 - (9:Int)),()))))
 (none)))
 (some (Ex.exit 0,(s0,out3,end4,())))
def CJ (s0:qBs):Option (((List Int)×Unit)×Unit):=
 (An Nc (s0,([]:List Int),(s0.length:Int),())).bind fun y1=>
 cond (Ex.same y1.1 (Ex.exit 0))
 ((DP y1.2.2.1).bind fun r2=>
 some ((r2.1.1,()),()))
 (none)
def Nx (x:(List Int)×(List Int)×Int×Int×Unit):Option (Ex×((List Int)×(List Int)×Int×Int×Unit)):=
 let a0:=x.1
 let b1:=x.2.1
 let t4:=x.2.2.1
 let i5:=x.2.2.2.1
 cond (decide (i5>=0))
 (Aa (decide (0<=i5)&&decide (i5 < a0.length)) (
 Aa (decide (0<=i5)&&decide (i5 < b1.length)) (
 cond ((a0.getD i5.toNat (0:Int)) !=(b1.getD i5.toNat (0:Int)))
 (Aa (decide (0<=i5)&&decide (i5 < a0.length)) (Aa (decide (0<=i5)&&decide (i5 < b1.length)) (some (Ex.ret,(a0,b1,qI ((qI (a0.getD i5.toNat (0:Int))) - (qI (b1.getD i5.toNat (0:Int)))),i5,())))))
 (some (Ex.normal,(a0,b1,t4,qI (i5 - (1:Int)),()))))))
 (some (Ex.exit 0,(a0,b1,t4,i5,())))
def NA (a0:List Int) (b1:List Int):Option ((Int×Unit)×Unit):=
 cond ((a0.length:Int) !=(b1.length:Int))
 (some ((qI ((a0.length:Int) - (b1.length:Int)),()),()))
 ((An Nx (a0,b1,0,qI ((a0.length:Int) - (1:Int)),())).bind fun y1=>
 cond (Ex.same y1.1 (Ex.exit 0))
 (some ((0,()),()))
 (cond (Ex.same y1.1 Ex.ret)
 (some ((y1.2.2.2.1,()),()))
 (none)))
def MY (x:(List Int)×Int×(List Int)×Int×Int×Unit):Option (Ex×((List Int)×Int×(List Int)×Int×Int×Unit)):=
 let a0:=x.1
 let b1:=x.2.1
 let q6:=x.2.2.1
 let rest7:=x.2.2.2.1
 let i8:=x.2.2.2.2.1
 cond (decide (i8>=0))
 (Aa (decide (0<=i8)&&decide (i8 < a0.length)) (Aa ((qU (b1)) !=0) (Aa ((qU (b1)) !=0) (Aa (decide (0<=i8)&&decide (i8 < q6.length)) (Aa (decide (i8.toNat < q6.length)) (some (Ex.normal,(a0,b1,q6.set i8.toNat (IntKind.u32.wrap (qU ((qU ((qU (rest7 * (1000000000:Int)))+(qU (a0.getD i8.toNat (0:Int))))).tdiv (qU (b1))))),(qU ((qU (rest7 * (1000000000:Int)))+(qU (a0.getD i8.toNat (0:Int))))).tmod (qU (b1)),qI (i8 - (1:Int)),()))))))))
 (some (Ex.exit 0,(a0,b1,q6,rest7,i8,())))
def HV (a0:List Int) (b1:Int):Option (((List Int)×(List Int)×Unit)×Unit):=
 Aa (decide (0<=(a0.length:Int))&&decide ((a0.length:Int)<=(a0.length:Int))&&decide ((a0.length:Int)<=Az)) (
 (An MY (a0,b1,List.replicate (a0.length:Int).toNat (0:Int),0,qI ((a0.length:Int) - (1:Int)),())).bind fun y1=>
 cond (Ex.same y1.1 (Ex.exit 0))
 ((DP y1.2.2.2.1).bind fun r2=>
 (DP ([IntKind.u32.wrap (y1.2.2.2.2.1)]:List Int)).bind fun r3=>
 some ((r2.1.1,r3.1.1,()),()))
 (none))
def K5 (x:(List Int)×Int×Unit):Option (Ex×((List Int)×Int×Unit)):=
 let a0:=x.1
 let n3:=x.2.1
 cond (decide (n3 > (0:Int)))
 (Aa (decide (0<=qI (n3 - (1:Int)))&&decide (qI (n3 - (1:Int)) < a0.length)) (
 Aa (decide ((qI (n3 - (1:Int))).toNat < a0.length)) (
 cond ((a0.getD ((qI (n3 - (1:Int))).toNat) (0:Int))==0)
 (some (Ex.normal,(a0,qI (n3 - (1:Int)),())))
 (some (Ex.exit 0,(a0,n3,()))))))
 (some (Ex.exit 0,(a0,n3,())))
def KS (a0:List Int):Option ((Nat×Unit)×((List Int)×Unit)):=
 (An K5 (a0,(a0.length:Int),())).bind fun y1=>
 cond (Ex.same y1.1 (Ex.exit 0))
 (Aa (decide (0<=y1.2.2.1)&&decide (y1.2.2.1<=y1.2.1.length)) (some ((y1.2.2.1.toNat,()),y1.2.1,())))
 (none)
def Mr (x:(List Int)×(List Int)×Int×Int×Int×(List Int)×Int×Int×(List Int)×Int×Int×Unit):Option (Ex×((List Int)×(List Int)×Int×Int×Int×(List Int)×Int×Int×(List Int)×Int×Int×Unit)):=
 let b1:=x.1
 let out5:=x.2.1
 let i6:=x.2.2.1
 let x7:=x.2.2.2.1
 let carry8:=x.2.2.2.2.1
 let t18:=x.2.2.2.2.2.1
 let t19:=x.2.2.2.2.2.2.1
 let t20:=x.2.2.2.2.2.2.2.1
 let t25:=x.2.2.2.2.2.2.2.2.1
 let t26:=x.2.2.2.2.2.2.2.2.2.1
 let t27:=x.2.2.2.2.2.2.2.2.2.2.1
 cond (decide (t27 < t26))
 (Aa (decide (0<=t27)&&decide (t27 < t25.length)) (Aa (decide (0<=qI (i6+t27))&&decide (qI (i6+t27) < out5.length)) (Aa (decide ((qI (i6+t27)).toNat < out5.length)) (Aa ((1000000000:Int) !=0) (Aa ((1000000000:Int) !=0) (Aa (decide (0<=qI (i6+t27))&&decide (qI (i6+t27) < out5.length)) (Aa (decide ((qI (i6+t27)).toNat < out5.length)) (some (Ex.normal,(b1,out5.set ((qI (i6+t27)).toNat) (IntKind.u32.wrap ((qU ((qU ((qU (out5.getD ((qI (i6+t27)).toNat) (0:Int)))+(qU ((qU (x7)) * (qU (t25.getD t27.toNat (0:Int)))))))+carry8)).tmod 1000000000)),i6,x7,qU ((qU ((qU ((qU (out5.getD ((qI (i6+t27)).toNat) (0:Int)))+(qU ((qU (x7)) * (qU (t25.getD t27.toNat (0:Int)))))))+carry8)).tdiv 1000000000),t18,t19,t20,t25,t26,qI (t27+1),()))))))))))
 (some (Ex.exit 2,(b1,out5,i6,x7,carry8,t18,t19,t20,t25,t26,t27,())))
def Je (x:(List Int)×(List Int)×(List Int)×Int×Int×Unit):Option (Ex×((List Int)×(List Int)×(List Int)×Int×Int×Unit)):=
 let b1:=x.1
 let out5:=x.2.1
 let t18:=x.2.2.1
 let t19:=x.2.2.2.1
 let t20:=x.2.2.2.2.1
 cond (decide (t20 < t19))
 (Aa (decide (0<=t20)&&decide (t20 < t18.length)) (
 (An Mr (b1,out5,t20,t18.getD t20.toNat (0:Int),0,t18,t19,t20,b1,(b1.length:Int),0,())).bind fun y1=>
 cond (Ex.same y1.1 (Ex.exit 2))
 (Aa (decide (0<=qI (y1.2.2.2.1+(y1.2.1.length:Int)))&&decide (qI (y1.2.2.2.1+(y1.2.1.length:Int)) < y1.2.2.1.length)) (Aa (decide ((qI (y1.2.2.2.1+(y1.2.1.length:Int))).toNat < y1.2.2.1.length)) (some (Ex.normal,(y1.2.1,y1.2.2.1.set ((qI (y1.2.2.2.1+(y1.2.1.length:Int))).toNat) (IntKind.u32.wrap (y1.2.2.2.2.2.1)),y1.2.2.2.2.2.2.1,y1.2.2.2.2.2.2.2.1,qI (y1.2.2.2.2.2.2.2.2.1+1),())))))
 (none)))
 (some (Ex.exit 0,(b1,out5,t18,t19,t20,())))
def Ip (a0:List Int) (b1:List Int):Option (((List Int)×Unit)×Unit):=
 Aa (decide (0<=qI ((a0.length:Int)+(b1.length:Int)))&&decide (qI ((a0.length:Int)+(b1.length:Int))<=qI ((a0.length:Int)+(b1.length:Int)))&&decide (qI ((a0.length:Int)+(b1.length:Int))<=Az)) (
 (An Je (b1,List.replicate (qI ((a0.length:Int)+(b1.length:Int))).toNat (0:Int),a0,(a0.length:Int),0,())).bind fun y1=>
 cond (Ex.same y1.1 (Ex.exit 0))
 ((KS y1.2.2.1).bind fun r2=>
 some ((r2.2.1.take r2.1.1,()),()))
 (none))
def Kn (x:(List Int)×(List Int)×Int×Int×Int×Int×Int×Unit):Option (Ex×((List Int)×(List Int)×Int×Int×Int×Int×Int×Unit)):=
 let u0:=x.1
 let v1:=x.2.1
 let times2:=x.2.2.1
 let carry7:=x.2.2.2.1
 let borrow8:=x.2.2.2.2.1
 let t12:=x.2.2.2.2.2.1
 let t13:=x.2.2.2.2.2.2.1
 cond (decide (t13 < t12))
 (cond (decide (t13 < (v1.length:Int)))
 (Aa (decide (0<=t13)&&decide (t13 < v1.length)) (
 Aa (decide (0<=t13)&&decide (t13 < u0.length)) (
 Aa (decide (t13.toNat < u0.length)) (
 Aa ((1000000000:Int) !=0) (
 Aa ((1000000000:Int) !=0) (
 cond (decide ((qI ((qI ((qI (u0.getD t13.toNat (0:Int))) - borrow8)) - (qI ((qU (carry7+(qU (times2 * (qU (v1.getD t13.toNat (0:Int))))))).tmod 1000000000)))) < (0:Int)))
 (Aa (decide (0<=t13)&&decide (t13 < u0.length)) (Aa (decide (t13.toNat < u0.length)) (some (Ex.normal,(u0.set t13.toNat (IntKind.u32.wrap (qI ((qI ((qI ((qI (u0.getD t13.toNat (0:Int))) - borrow8)) - (qI ((qU (carry7+(qU (times2 * (qU (v1.getD t13.toNat (0:Int))))))).tmod 1000000000))))+1000000000))),v1,times2,qU ((qU (carry7+(qU (times2 * (qU (v1.getD t13.toNat (0:Int))))))).tdiv 1000000000),1,t12,qI (t13+1),())))))
 (Aa (decide (0<=t13)&&decide (t13 < u0.length)) (Aa (decide (t13.toNat < u0.length)) (some (Ex.normal,(u0.set t13.toNat (IntKind.u32.wrap (qI ((qI ((qI (u0.getD t13.toNat (0:Int))) - borrow8)) - (qI ((qU (carry7+(qU (times2 * (qU (v1.getD t13.toNat (0:Int))))))).tmod 1000000000))))),v1,times2,qU ((qU (carry7+(qU (times2 * (qU (v1.getD t13.toNat (0:Int))))))).tdiv 1000000000),0,t12,qI (t13+1),())))))))))))
 (Aa (decide (0<=t13)&&decide (t13 < u0.length)) (
 Aa (decide (t13.toNat < u0.length)) (
 Aa ((1000000000:Int) !=0) (
 Aa ((1000000000:Int) !=0) (
 cond (decide ((qI ((qI ((qI (u0.getD t13.toNat (0:Int))) - borrow8)) - (qI (carry7.tmod 1000000000)))) < (0:Int)))
 (Aa (decide (0<=t13)&&decide (t13 < u0.length)) (Aa (decide (t13.toNat < u0.length)) (some (Ex.normal,(u0.set t13.toNat (IntKind.u32.wrap (qI ((qI ((qI ((qI (u0.getD t13.toNat (0:Int))) - borrow8)) - (qI (carry7.tmod 1000000000))))+1000000000))),v1,times2,qU (carry7.tdiv 1000000000),1,t12,qI (t13+1),())))))
 (Aa (decide (0<=t13)&&decide (t13 < u0.length)) (Aa (decide (t13.toNat < u0.length)) (some (Ex.normal,(u0.set t13.toNat (IntKind.u32.wrap (qI ((qI ((qI (u0.getD t13.toNat (0:Int))) - borrow8)) - (qI (carry7.tmod 1000000000))))),v1,times2,qU (carry7.tdiv 1000000000),0,t12,qI (t13+1),())))))))))))
 (some (Ex.exit 0,(u0,v1,times2,carry7,borrow8,t12,t13,())))
def M2 (u0:List Int) (v1:List Int) (times2:Int):Option ((Bool×Unit)×((List Int)×Unit)):=
 (An Kn (u0,v1,times2,0,0,(u0.length:Int),0,())).bind fun y1=>
 cond (Ex.same y1.1 (Ex.exit 0))
 (some ((decide (y1.2.2.2.2.2.1 > (0:Int)),()),y1.2.1,()))
 (none)
def JG (a0:List Int) (i1:Int):Option ((Int×Unit)×Unit):=
 cond (decide (i1>=(a0.length:Int)))
 (some ((0,()),()))
 (Aa (decide (0<=i1)&&decide (i1 < a0.length)) (some ((a0.getD i1.toNat (0:Int),()),())))
def JO (x:(List Int)×(List Int)×Int×Int×Int×Unit):Option (Ex×((List Int)×(List Int)×Int×Int×Int×Unit)):=
 let u0:=x.1
 let v1:=x.2.1
 let carry4:=x.2.2.1
 let t8:=x.2.2.2.1
 let t9:=x.2.2.2.2.1
 cond (decide (t9 < t8))
 (Aa (decide (0<=t9)&&decide (t9 < u0.length)) (
 Aa (decide (t9.toNat < u0.length)) (
 (JG v1 t9).bind fun r1=>
 Aa ((1000000000:Int) !=0) (Aa ((1000000000:Int) !=0) (Aa (decide (0<=t9)&&decide (t9 < u0.length)) (Aa (decide (t9.toNat < u0.length)) (some (Ex.normal,(u0.set t9.toNat ((IntKind.u32.wrap ((IntKind.u32.wrap ((u0.getD t9.toNat (0:Int))+r1.1.1))+carry4)).tmod 1000000000),v1,IntKind.u32.wrap ((IntKind.u32.wrap ((IntKind.u32.wrap ((u0.getD t9.toNat (0:Int))+r1.1.1))+carry4)).tdiv 1000000000),t8,qI (t9+1),())))))))))
 (some (Ex.exit 0,(u0,v1,carry4,t8,t9,())))
def Jh (u0:List Int) (v1:List Int):Option ((Unit)×((List Int)×Unit)):=
 (An JO (u0,v1,0,(u0.length:Int),0,())).bind fun y1=>
 cond (Ex.same y1.1 (Ex.exit 0))
 (some ((),y1.2.1,()))
 (none)
def LV (x:(List Int)×(List Int)×Int×Int×Int×Int×Unit):Option (Ex×((List Int)×(List Int)×Int×Int×Int×Int×Unit)):=
 let u0:=x.1
 let v1:=x.2.1
 let n5:=x.2.2.1
 let first7:=x.2.2.2.1
 let guess8:=x.2.2.2.2.1
 let rest9:=x.2.2.2.2.2.1
 cond (decide (guess8>=1000000000))
 (cond (decide ((qU (rest9+first7))>=1000000000))
 (some (Ex.exit 0,(u0,v1,n5,first7,qU (guess8 - (1:Int)),qU (rest9+first7),())))
 (some (Ex.normal,(u0,v1,n5,first7,qU (guess8 - (1:Int)),qU (rest9+first7),()))))
 (Aa (decide (0<=qI (n5 - (2:Int)))&&decide (qI (n5 - (2:Int)) < v1.length)) (
 Aa (decide (0<=qI (n5 - (2:Int)))&&decide (qI (n5 - (2:Int)) < u0.length)) (
 Aa (decide ((qI (n5 - (2:Int))).toNat < u0.length)) (
 cond (decide ((qU (guess8 * (qU (v1.getD (qI (n5 - (2:Int))).toNat (0:Int))))) > (qU ((qU (rest9 * (1000000000:Int)))+(qU (u0.getD ((qI (n5 - (2:Int))).toNat) (0:Int)))))))
 (cond (decide ((qU (rest9+first7))>=1000000000))
 (some (Ex.exit 0,(u0,v1,n5,first7,qU (guess8 - (1:Int)),qU (rest9+first7),())))
 (some (Ex.normal,(u0,v1,n5,first7,qU (guess8 - (1:Int)),qU (rest9+first7),()))))
 (some (Ex.exit 0,(u0,v1,n5,first7,guess8,rest9,())))))))
def Lm (u0:List Int) (v1:List Int):Option ((Int×Unit)×((List Int)×Unit)):=
 Aa (decide (0<=(v1.length:Int))&&decide ((v1.length:Int) < u0.length)) (
 Aa (decide ((v1.length:Int).toNat < u0.length)) (
 Aa (decide (0<=qI ((v1.length:Int) - (1:Int)))&&decide (qI ((v1.length:Int) - (1:Int)) < u0.length)) (
 Aa (decide ((qI ((v1.length:Int) - (1:Int))).toNat < u0.length)) (
 Aa (decide (0<=qI ((v1.length:Int) - (1:Int)))&&decide (qI ((v1.length:Int) - (1:Int)) < v1.length)) (
 Aa ((qU (v1.getD (qI ((v1.length:Int) - (1:Int))).toNat (0:Int))) !=0) (
 Aa ((qU (v1.getD (qI ((v1.length:Int) - (1:Int))).toNat (0:Int))) !=0) (
 (An LV (u0,v1,(v1.length:Int),qU (v1.getD (qI ((v1.length:Int) - (1:Int))).toNat (0:Int)),qU ((qU ((qU ((qU (u0.getD ((v1.length:Int).toNat) (0:Int))) * (1000000000:Int)))+(qU (u0.getD ((qI ((v1.length:Int) - (1:Int))).toNat) (0:Int))))).tdiv (qU (v1.getD (qI ((v1.length:Int) - (1:Int))).toNat (0:Int)))),(qU ((qU ((qU (u0.getD ((v1.length:Int).toNat) (0:Int))) * (1000000000:Int)))+(qU (u0.getD ((qI ((v1.length:Int) - (1:Int))).toNat) (0:Int))))).tmod (qU (v1.getD (qI ((v1.length:Int) - (1:Int))).toNat (0:Int))),())).bind fun y1=>
 cond (Ex.same y1.1 (Ex.exit 0))
 ((M2 y1.2.1 y1.2.2.1 y1.2.2.2.2.2.1).bind fun r2=>
 cond (r2.1.1)
 ((Jh r2.2.1 y1.2.2.1).bind fun r3=>
 some ((IntKind.u32.wrap (qU (y1.2.2.2.2.2.1 - (1:Int))),()),r3.2.1,()))
 (some ((IntKind.u32.wrap (y1.2.2.2.2.2.1),()),r2.2.1,())))
 (none))))))))
def Kq (x:(List Int)×(List Int)×(List Int)×(List Int)×Unit):Option (Ex×((List Int)×(List Int)×(List Int)×(List Int)×Unit)):=
 let a0:=x.1
 let scale6:=x.2.1
 let u7:=x.2.2.1
 let v8:=x.2.2.2.1
 cond (decide ((u7.length:Int)<=(a0.length:Int)))
 (Aa (decide (u7.length+([0]:List Int).length<=Az)) (some (Ex.normal,(a0,scale6,u7++([0]:List Int),v8,()))))
 (some (Ex.exit 1,(a0,scale6,u7,v8,())))
def KG (x:(List Int)×(List Int)×(List Int)×(List Int)×Int×Unit):Option (Ex×((List Int)×(List Int)×(List Int)×(List Int)×Int×Unit)):=
 let scale6:=x.1
 let u7:=x.2.1
 let v8:=x.2.2.1
 let q9:=x.2.2.2.1
 let j10:=x.2.2.2.2.1
 cond (decide (j10>=0))
 (Aa (decide (0<=j10)&&decide (j10<=qI ((qI (j10+(v8.length:Int)))+1))&&decide (qI ((qI (j10+(v8.length:Int)))+1)<=u7.length)) (
 (Lm ((u7.drop j10.toNat).take ((qI ((qI (j10+(v8.length:Int)))+1)).toNat - j10.toNat)) v8).bind fun r1=>
 Aa (decide (0<=j10)&&decide (j10 < q9.length)) (Aa (decide (j10.toNat < q9.length)) (some (Ex.normal,(scale6,u7.take j10.toNat++r1.2.1++u7.drop (j10.toNat+((qI ((qI (j10+(v8.length:Int)))+1)).toNat - j10.toNat)),v8,q9.set j10.toNat r1.1.1,qI (j10 - (1:Int)),()))))))
 (some (Ex.exit 3,(scale6,u7,v8,q9,j10,())))
def GG (a0:List Int) (b1:List Int):Option (((List Int)×(List Int)×Unit)×Unit):=
 (NA a0 b1).bind fun r1=>
 cond (decide (r1.1.1 < (0:Int)))
 (some ((([]:List Int),a0,()),()))
 (cond ((b1.length:Int)==1)
 (Aa (decide (0<=(0:Int))&&decide ((0:Int) < b1.length)) (
 (HV a0 (b1.getD (0:Int).toNat (0:Int))).bind fun r2=>
 some ((r2.1.1,r2.1.2.1,()),())))
 (Aa (decide (0<=qI ((b1.length:Int) - (1:Int)))&&decide (qI ((b1.length:Int) - (1:Int)) < b1.length)) (
 Aa ((qU ((qU (b1.getD (qI ((b1.length:Int) - (1:Int))).toNat (0:Int)))+1)) !=0) (
 (Ip a0 ([IntKind.u32.wrap (qU ((1000000000:Int).tdiv (qU ((qU (b1.getD (qI ((b1.length:Int) - (1:Int))).toNat (0:Int)))+1))))]:List Int)).bind fun r3=>
 (Ip b1 ([IntKind.u32.wrap (qU ((1000000000:Int).tdiv (qU ((qU (b1.getD (qI ((b1.length:Int) - (1:Int))).toNat (0:Int)))+1))))]:List Int)).bind fun r4=>
 (An Kq (a0,([IntKind.u32.wrap (qU ((1000000000:Int).tdiv (qU ((qU (b1.getD (qI ((b1.length:Int) - (1:Int))).toNat (0:Int)))+1))))]:List Int),r3.1.1,r4.1.1,())).bind fun y5=>
 cond (Ex.same y5.1 (Ex.exit 1))
 (Aa (decide (0<=qI ((y5.2.2.2.1.length:Int) - (y5.2.2.2.2.1.length:Int)))&&decide (qI ((y5.2.2.2.1.length:Int) - (y5.2.2.2.2.1.length:Int))<=qI ((y5.2.2.2.1.length:Int) - (y5.2.2.2.2.1.length:Int)))&&decide (qI ((y5.2.2.2.1.length:Int) - (y5.2.2.2.2.1.length:Int))<=Az)) (
 (An KG (y5.2.2.1,y5.2.2.2.1,y5.2.2.2.2.1,List.replicate (qI ((y5.2.2.2.1.length:Int) - (y5.2.2.2.2.1.length:Int))).toNat (0:Int),qI (((List.replicate (qI ((y5.2.2.2.1.length:Int) - (y5.2.2.2.2.1.length:Int))).toNat (0:Int)).length:Int) - (1:Int)),())).bind fun y6=>
 cond (Ex.same y6.1 (Ex.exit 3))
 ((DP y6.2.2.1).bind fun r7=>
 Aa (decide (0<=(0:Int))&&decide ((0:Int) < y6.2.1.length)) (
 (HV r7.1.1 (y6.2.1.getD (0:Int).toNat (0:Int))).bind fun r8=>
 (DP y6.2.2.2.2.1).bind fun r9=>
 some ((r9.1.1,r8.1.1,()),())))
 (none)))
 (none)))))
def LM (x:(List Int)×(List Int)×Unit):Option (Ex×((List Int)×(List Int)×Unit)):=
 let a0:=x.1
 let b1:=x.2.1
 cond (decide ((b1.length:Int) > (0:Int)))
 ((GG a0 b1).bind fun r1=>
 some (Ex.normal,(b1,r1.1.2.1,())))
 (some (Ex.exit 0,(a0,b1,())))
def Gy (a0:List Int) (b1:List Int):Option (((List Int)×Unit)×Unit):=
 (An LM (a0,b1,())).bind fun y1=>
 cond (Ex.same y1.1 (Ex.exit 0))
 (some ((y1.2.1,()),()))
 (none)
def Dq (a0:List Int):Option ((Bool×Unit)×Unit):=
 cond ((a0.length:Int)==1)
 (Aa (decide (0<=(0:Int))&&decide ((0:Int) < a0.length)) (some (((a0.getD (0:Int).toNat (0:Int))==1,()),())))
 (some ((false,()),()))
def F6 (neg0:Bool) (num1:List Int) (den2:List Int):Option ((Rt×Unit)×Unit):=
 (Gy num1 den2).bind fun r1=>
 (Dq r1.1.1).bind fun r2=>
 cond (!r2.1.1)
 ((GG num1 r1.1.1).bind fun r3=>
 (GG den2 r1.1.1).bind fun r4=>
 some (((neg0,r3.1.1,r4.1.1),()),()))
 (some (((neg0,num1,den2),()),()))
def Cy (b0:Unit×List Int) (s1:qBs):Option ((Int×Bool×Unit)×((Unit×List Int)×Unit)):=
 (Hf ((),b0.2)).bind fun r1=>
 Aa (decide (r1.2.1.2.length+(s1.map fun c=>((c.toNat:Nat):Int)).length<=Az)) (some (((s1.length:Int),false,()),((),r1.2.1.2++(s1.map fun c=>((c.toNat:Nat):Int))),()))
def Iu (v:Int) (i:Nat) (x:(Unit×List Int)×Unit):Option ((Unit×List Int)×Unit):=
 let b3:=x.1
 (Gv (qU (v)) 10).bind fun r1=>
 Aa (decide (0<=(r1.1.1.length:Int))&&decide ((r1.1.1.length:Int)<=([48,48,48,48,48,48,48,48,48]:qBs).length)) (
 (Cy ((),b3.2) (([48,48,48,48,48,48,48,48,48]:qBs).drop (r1.1.1.length:Int).toNat)).bind fun r2=>
 (Cy ((),r2.2.1.2) r1.1.1).bind fun r3=>
 some (((),r3.2.1.2),()))
def HG (y:(Unit×List Int)×Unit) (o:(Unit×List Int)×Unit):(Unit×List Int)×Unit:=(o.1,())
def Ix (y:(Unit×List Int)×Unit):(Unit×List Int)×Unit:=(y.1,())
def EM (a0:List Int):Option ((qBs×Unit)×Unit):=
 cond ((a0.length:Int)==0)
 (some ((([48]:qBs),()),()))
 (Aa (decide (0<=qI ((a0.length:Int) - (1:Int)))&&decide (qI ((a0.length:Int) - (1:Int)) < a0.length)) (
 (Gv (qU (a0.getD (qI ((a0.length:Int) - (1:Int))).toNat (0:Int))) 10).bind fun r1=>
 (Cy ((),([]:List Int)) r1.1.1).bind fun r2=>
 Aa (decide (0<=qI ((a0.length:Int) - (1:Int)))&&decide (qI ((a0.length:Int) - (1:Int))<=a0.length)) (
 Aa (decide ((a0.take (qI ((a0.length:Int) - (1:Int))).toNat).length<=Az)) (((Cg (fun p y=>(Iu p.1 p.2 y).bind fun o=>some (HG y o)) (a0.take (qI ((a0.length:Int) - (1:Int))).toNat).zipIdx.reverse (((),r2.2.1.2),())).bind fun y=>some ((),Ix y)).bind fun y3=>
 (EP ((),y3.2.1.2)).bind fun r4=>
 some ((r4.1.1,()),())))))
def Ga (x0:Rt):Option ((qBs×Unit)×Unit):=
 (EM x0.2.1).bind fun r1=>
 cond (x0.1)
 (cond (decide ((x0.2.1.length:Int) > (0:Int)))
 (Aa (decide (([45]:qBs).length+r1.1.1.length<=AR)) (
 (Dq x0.2.2).bind fun r2=>
 cond (!r2.1.1)
 ((EM x0.2.2).bind fun r3=>
 Aa (decide (([47]:qBs).length+r3.1.1.length<=AR)) (Aa (decide ((([45]:qBs)++r1.1.1).length+(([47]:qBs)++r3.1.1).length<=AR)) (some (((([45]:qBs)++r1.1.1)++(([47]:qBs)++r3.1.1),()),()))))
 (some ((([45]:qBs)++r1.1.1,()),()))))
 ((Dq x0.2.2).bind fun r4=>
 cond (!r4.1.1)
 ((EM x0.2.2).bind fun r5=>
 Aa (decide (([47]:qBs).length+r5.1.1.length<=AR)) (Aa (decide (r1.1.1.length+(([47]:qBs)++r5.1.1).length<=AR)) (some ((r1.1.1++(([47]:qBs)++r5.1.1),()),()))))
 (some ((r1.1.1,()),()))))
 ((Dq x0.2.2).bind fun r6=>
 cond (!r6.1.1)
 ((EM x0.2.2).bind fun r7=>
 Aa (decide (([47]:qBs).length+r7.1.1.length<=AR)) (Aa (decide (r1.1.1.length+(([47]:qBs)++r7.1.1).length<=AR)) (some ((r1.1.1++(([47]:qBs)++r7.1.1),()),()))))
 (some ((r1.1.1,()),())))
def LR (s0:qBs):Option ((qBs×Bool×Unit)×Unit):=
 (strings_CutPrefix s0 ([45]:qBs)).bind fun r1=>
 (strings_Cut r1.1.1 ([46]:qBs)).bind fun r2=>
 (Io r2.1.1).bind fun r3=>
 cond (!r3.1.1)
 (some ((([]:qBs),false,()),()))
 (cond (r2.1.2.2.1)
 ((Io r2.1.2.1).bind fun r4=>
 cond (!r4.1.1)
 (some ((([]:qBs),false,()),()))
 (Aa (decide (r2.1.1.length+r2.1.2.1.length<=AR)) (
 (CJ (r2.1.1++r2.1.2.1)).bind fun r5=>
 (strings_Repeat ([48]:qBs) (r2.1.2.1.length:Int)).bind fun r6=>
 Aa (decide (([49]:qBs).length+r6.1.1.length<=AR)) (
 (CJ (([49]:qBs)++r6.1.1)).bind fun r7=>
 (F6 r1.1.2.1 r5.1.1 r7.1.1).bind fun r8=>
 (Ga (r8.1.1.1,r8.1.1.2.1,r8.1.1.2.2)).bind fun r9=>
 some ((r9.1.1,true,()),())))))
 (Aa (decide (r2.1.1.length+r2.1.2.1.length<=AR)) (
 (CJ (r2.1.1++r2.1.2.1)).bind fun r10=>
 (strings_Repeat ([48]:qBs) (r2.1.2.1.length:Int)).bind fun r11=>
 Aa (decide (([49]:qBs).length+r11.1.1.length<=AR)) (
 (CJ (([49]:qBs)++r11.1.1)).bind fun r12=>
 (F6 r1.1.2.1 r10.1.1 r12.1.1).bind fun r13=>
 (Ga (r13.1.1.1,r13.1.1.2.1,r13.1.1.2.2)).bind fun r14=>
 some ((r14.1.1,true,()),())))))
def Kj (x:(List (qBs×List Ab))×qBs×(List Ab)×Unit):Option (Ex×((List (qBs×List Ab))×qBs×(List Ab)×Unit)):=
 let s0:=x.1
 let name1:=x.2.1
 let t4:=x.2.2.1
 cond (!s0.isEmpty)
 (Aa (!s0.isEmpty) (
 cond (((s0.headD (([]:qBs),([]:List Ab))).1)==name1)
 (Aa (!s0.isEmpty) (some (Ex.ret,(s0,name1,(s0.headD (([]:qBs),([]:List Ab))).2,()))))
 (Aa (!s0.isEmpty) (some (Ex.normal,(s0.tail,name1,t4,()))))))
 (some (Ex.exit 0,(s0,name1,t4,())))
def Mt (s0:List (qBs×List Ab)) (name1:qBs):Option (((Option (List Ab))×Unit)×Unit):=
 (An Kj (s0,name1,([]:List Ab),())).bind fun y1=>
 cond (Ex.same y1.1 (Ex.exit 0))
 (some (((none:Option (List Ab)),()),()))
 (cond (Ex.same y1.1 Ex.ret)
 (some ((some y1.2.2.2.1,()),()))
 (none))
def M8 (name0:qBs) (i1:Int) (s2:List (qBs×List Ab)):Option (((List Ab)×Ad×Unit)×Unit):=
 (Mt s2 name0).bind fun r1=>
 Aa (Gq r1.1.1) (
 cond (!r1.1.1.isNone)
 (some ((r1.1.1.getD [],((0:Int),(0:Int)),()),()))
 (cond (name0==([116,114,117,101]:qBs))
 ((CY (1,(0:Int),([]:qBs),([]:qBs),(0:Int))).bind fun r2=>
 some ((r2.1.1,((0:Int),(0:Int)),()),()))
 (cond (name0==([102,97,108,115,101]:qBs))
 ((CY (2,(0:Int),([]:qBs),([]:qBs),(0:Int))).bind fun r3=>
 some ((r3.1.1,((0:Int),(0:Int)),()),()))
 (some ((([]:List Ab),(4,i1),()),())))))
def Mv (x:((List (Int×qBs×Ad))×List (qBs×qBs×Af))×(List Int)×Int×Int×Int×Int×Unit):Option (Ex×(((List (Int×qBs×Ad))×List (qBs×qBs×Af))×(List Int)×Int×Int×Int×Int×Unit)):=
 let r0:=x.1
 let out5:=x.2.1
 let at6:=x.2.2.1
 let left7:=x.2.2.2.1
 let t17:=x.2.2.2.2.1
 let t18:=x.2.2.2.2.2.1
 cond (decide (left7 > (0:Int)))
 (Aa (decide (0<=at6)&&decide (at6 < r0.1.length)) (some (Ex.normal,(r0,out5,qI (at6+1),qI (left7+(qI (((((r0.1.getD at6.toNat ((0:Int),([]:qBs),(0:Int),(0:Int))).2).2).1) - (1:Int)))),t17,t18,()))))
 (some (Ex.exit 2,(r0,out5,at6,left7,t17,t18,())))
def Ko (x:((List (Int×qBs×Ad))×List (qBs×qBs×Af))×(List Int)×Int×Int×Int×Unit):Option (Ex×(((List (Int×qBs×Ad))×List (qBs×qBs×Af))×(List Int)×Int×Int×Int×Unit)):=
 let r0:=x.1
 let out5:=x.2.1
 let at6:=x.2.2.1
 let t17:=x.2.2.2.1
 let t18:=x.2.2.2.2.1
 cond (decide (t18 < t17))
 (Aa (decide (out5.length+([at6]:List Int).length<=Az)) (
 (An Mv (r0,out5++([at6]:List Int),at6,1,t17,t18,())).bind fun y1=>
 cond (Ex.same y1.1 (Ex.exit 2))
 (some (Ex.normal,(y1.2.1,y1.2.2.1,y1.2.2.2.1,y1.2.2.2.2.2.1,qI (y1.2.2.2.2.2.2.1+1),())))
 (none)))
 (some (Ex.exit 0,(r0,out5,at6,t17,t18,())))
def F5 (r0:(List (Int×qBs×Ad))×List (qBs×qBs×Af)) (i1:Int):Option (((List Int)×Unit)×(((List (Int×qBs×Ad))×List (qBs×qBs×Af))×Unit)):=
 Aa (decide (0<=i1)&&decide (i1 < r0.1.length)) (
 (An Ko (r0,([]:List Int),qI (i1+1),(((r0.1.getD i1.toNat ((0:Int),([]:qBs),(0:Int),(0:Int))).2).2).1,0,())).bind fun y1=>
 cond (Ex.same y1.1 (Ex.exit 0))
 (some ((y1.2.2.1,()),y1.2.1,()))
 (none))
def MN (r0:(List (Int×qBs×Ad))×List (qBs×qBs×Af)) (word1:qBs):Option ((Int×Int×Bool×Unit)×(((List (Int×qBs×Ad))×List (qBs×qBs×Af))×Unit)):=
 cond (word1==([97,110,100]:qBs))
 (some ((0,65536,true,()),r0,()))
 (cond (word1==([111,114]:qBs))
 (some ((0,65536,true,()),r0,()))
 (cond (word1==([43]:qBs))
 (some ((1,65536,true,()),r0,()))
 (cond (word1==([45]:qBs))
 (some ((1,65536,true,()),r0,()))
 (cond (word1==([110,111,116]:qBs))
 (some ((1,1,true,()),r0,()))
 (cond (word1==([99,111,110,115,116]:qBs))
 (some ((1,1,true,()),r0,()))
 (cond (word1==([105,116,101]:qBs))
 (some ((3,3,true,()),r0,()))
 (cond (word1==([115,116,111,114,101]:qBs))
 (some ((3,3,true,()),r0,()))
 (cond (word1==([61,62]:qBs))
 (some ((2,2,true,()),r0,()))
 (cond (word1==([61]:qBs))
 (some ((2,2,true,()),r0,()))
 (cond (word1==([60,61]:qBs))
 (some ((2,2,true,()),r0,()))
 (cond (word1==([60]:qBs))
 (some ((2,2,true,()),r0,()))
 (cond (word1==([62]:qBs))
 (some ((2,2,true,()),r0,()))
 (cond (word1==([62,61]:qBs))
 (some ((2,2,true,()),r0,()))
 (cond (word1==([100,105,115,116,105,110,99,116]:qBs))
 (some ((2,2,true,()),r0,()))
 (cond (word1==([42]:qBs))
 (some ((2,2,true,()),r0,()))
 (cond (word1==([47]:qBs))
 (some ((2,2,true,()),r0,()))
 (cond (word1==([100,105,118]:qBs))
 (some ((2,2,true,()),r0,()))
 (cond (word1==([109,111,100]:qBs))
 (some ((2,2,true,()),r0,()))
 (cond (word1==([115,101,108,101,99,116]:qBs))
 (some ((2,2,true,()),r0,()))
 (cond (word1==([108,101,116]:qBs))
 (some ((2,2,true,()),r0,()))
 (some (((((((AG word1 r0.2).getD (([]:qBs),([]:List Int),(0:Int))).2).1).length:Int),(((((AG word1 r0.2).getD (([]:qBs),([]:List Int),(0:Int))).2).1).length:Int),(AG word1 r0.2).isSome,()),r0,()))))))))))))))))))))))
def Ey (t0:List Ab):Option ((Bool×Unit)×Unit):=
 Aa (decide (0<=(0:Int))&&decide ((0:Int) < t0.length)) (some ((((t0.getD (0:Int).toNat Am).1)==3,()),()))
def MG (x:qBs×Bool×(List Int)×Int×Int×Unit):Option (Ex×(qBs×Bool×(List Int)×Int×Int×Unit)):=
 let s0:=x.1
 let t2:=x.2.1
 let t6:=x.2.2.1
 let t7:=x.2.2.2.1
 let t8:=x.2.2.2.2.1
 cond (decide (t8 < t7))
 (Aa (decide (0<=t8)&&decide (t8 < t6.length)) (
 cond (decide ((t6.getD t8.toNat (0:Int)) < (48:Int)))
 (some (Ex.ret,(s0,false,t6,t7,t8,())))
 (cond (decide ((t6.getD t8.toNat (0:Int)) > (57:Int)))
 (some (Ex.ret,(s0,false,t6,t7,t8,())))
 (some (Ex.normal,(s0,t2,t6,t7,qI (t8+1),()))))))
 (some (Ex.exit 0,(s0,t2,t6,t7,t8,())))
def C5 (s0:qBs):Option ((Bool×Unit)×Unit):=
 (An MG (s0,false,s0.map fun b=>(b.toNat:Int),((s0.map fun b=>(b.toNat:Int)).length:Int),0,())).bind fun y1=>
 cond (Ex.same y1.1 (Ex.exit 0))
 (cond (y1.2.1==([48]:qBs))
 (some ((true,()),()))
 (cond (!(y1.2.1==([]:qBs)))
 (Aa (decide (0<=(0:Int))&&decide ((0:Int) < y1.2.1.length)) (some ((((y1.2.1.getD (0:Int).toNat 0).toNat:Int) !=(48:Int),()),())))
 (some ((false,()),()))))
 (cond (Ex.same y1.1 Ex.ret)
 (some ((y1.2.2.1,()),()))
 (none))
def Fy (a0:qBs):Option ((Bool×Unit)×Unit):=
 (strings_CutPrefix a0 ([45]:qBs)).bind fun r1=>
 (C5 r1.1.1).bind fun r2=>
 cond (r2.1.1)
 (cond (r1.1.2.1)
 (some ((!(r1.1.1==([48]:qBs)),()),()))
 (some ((true,()),())))
 (some ((false,()),()))
def LW (x:Int×Int×Unit):Option (Ex×(Int×Int×Unit)):=
 let a0:=x.1
 let b1:=x.2.1
 cond (b1 !=(0:Int))
 (Aa (b1 !=0) (some (Ex.normal,(b1,a0.tmod b1,()))))
 (some (Ex.exit 0,(a0,b1,())))
def EL (a0:Int) (b1:Int):Option ((Int×Unit)×Unit):=
 (An LW (a0,b1,())).bind fun y1=>
 cond (Ex.same y1.1 (Ex.exit 0))
 (some ((y1.2.1,()),()))
 (none)
def GQ (a0:qBs):Option ((Ad×Bool×Unit)×Unit):=
 (strings_CutPrefix a0 ([45]:qBs)).bind fun r1=>
 (strings_Cut r1.1.1 ([47]:qBs)).bind fun r2=>
 cond (decide ((r2.1.1.length:Int) > (9:Int)))
 (some ((((0:Int),(0:Int)),false,()),()))
 (cond (decide ((r2.1.2.1.length:Int) > (9:Int)))
 (some ((((0:Int),(0:Int)),false,()),()))
 ((C5 r2.1.1).bind fun r3=>
 cond (!r3.1.1)
 (some ((((0:Int),(0:Int)),false,()),()))
 (cond (r2.1.1==([48]:qBs))
 (cond (r1.1.2.1)
 (some ((((0:Int),(0:Int)),false,()),()))
 (cond (r2.1.2.2.1)
 (some ((((0:Int),(0:Int)),false,()),()))
 ((Ez r2.1.1 10 64).bind fun r4=>
 cond (r2.1.2.2.1)
 ((C5 r2.1.2.1).bind fun r5=>
 cond (!r5.1.1)
 (some ((((0:Int),(0:Int)),false,()),()))
 ((Ez r2.1.2.1 10 64).bind fun r6=>
 cond (decide (r6.1.1 < (2:Int)))
 (some ((((0:Int),(0:Int)),false,()),()))
 ((EL r4.1.1 r6.1.1).bind fun r7=>
 cond (r7.1.1 !=(1:Int))
 (some ((((0:Int),(0:Int)),false,()),()))
 (cond (r1.1.2.1)
 (some (((qI (0 - r4.1.1),r6.1.1),true,()),()))
 (some (((r4.1.1,r6.1.1),true,()),()))))))
 (cond (r1.1.2.1)
 (some (((qI (0 - r4.1.1),1),true,()),()))
 (some (((r4.1.1,1),true,()),()))))))
 ((Ez r2.1.1 10 64).bind fun r8=>
 cond (r2.1.2.2.1)
 ((C5 r2.1.2.1).bind fun r9=>
 cond (!r9.1.1)
 (some ((((0:Int),(0:Int)),false,()),()))
 ((Ez r2.1.2.1 10 64).bind fun r10=>
 cond (decide (r10.1.1 < (2:Int)))
 (some ((((0:Int),(0:Int)),false,()),()))
 ((EL r8.1.1 r10.1.1).bind fun r11=>
 cond (r11.1.1 !=(1:Int))
 (some ((((0:Int),(0:Int)),false,()),()))
 (cond (r1.1.2.1)
 (some (((qI (0 - r8.1.1),r10.1.1),true,()),()))
 (some (((r8.1.1,r10.1.1),true,()),()))))))
 (cond (r1.1.2.1)
 (some (((qI (0 - r8.1.1),1),true,()),()))
 (some (((r8.1.1,1),true,()),())))))))
def DY (a0:qBs):Option ((Rt×Bool×Unit)×Unit):=
 (strings_CutPrefix a0 ([45]:qBs)).bind fun r1=>
 (strings_Cut r1.1.1 ([47]:qBs)).bind fun r2=>
 (C5 r2.1.1).bind fun r3=>
 cond (!r3.1.1)
 (some (((false,([]:List Int),([]:List Int)),false,()),()))
 (cond (r2.1.1==([48]:qBs))
 (cond (r1.1.2.1)
 (some (((false,([]:List Int),([]:List Int)),false,()),()))
 (cond (r2.1.2.2.1)
 (some (((false,([]:List Int),([]:List Int)),false,()),()))
 ((CJ r2.1.1).bind fun r4=>
 cond (!r2.1.2.2.1)
 (some (((r1.1.2.1,r4.1.1,([1]:List Int)),true,()),()))
 ((C5 r2.1.2.1).bind fun r5=>
 cond (!r5.1.1)
 (some (((false,([]:List Int),([]:List Int)),false,()),()))
 (cond (r2.1.2.1==([48]:qBs))
 (some (((false,([]:List Int),([]:List Int)),false,()),()))
 (cond (r2.1.2.1==([49]:qBs))
 (some (((false,([]:List Int),([]:List Int)),false,()),()))
 ((CJ r2.1.2.1).bind fun r6=>
 (Gy r4.1.1 r6.1.1).bind fun r7=>
 (Dq r7.1.1).bind fun r8=>
 some (((r1.1.2.1,r4.1.1,r6.1.1),r8.1.1,()),()))))))))
 ((CJ r2.1.1).bind fun r9=>
 cond (!r2.1.2.2.1)
 (some (((r1.1.2.1,r9.1.1,([1]:List Int)),true,()),()))
 ((C5 r2.1.2.1).bind fun r10=>
 cond (!r10.1.1)
 (some (((false,([]:List Int),([]:List Int)),false,()),()))
 (cond (r2.1.2.1==([48]:qBs))
 (some (((false,([]:List Int),([]:List Int)),false,()),()))
 (cond (r2.1.2.1==([49]:qBs))
 (some (((false,([]:List Int),([]:List Int)),false,()),()))
 ((CJ r2.1.2.1).bind fun r11=>
 (Gy r9.1.1 r11.1.1).bind fun r12=>
 (Dq r12.1.1).bind fun r13=>
 some (((r1.1.2.1,r9.1.1,r11.1.1),r13.1.1,()),())))))))
def DV (a0:qBs):Option ((Bool×Unit)×Unit):=
 (GQ a0).bind fun r1=>
 cond (r1.1.2.1)
 (some ((true,()),()))
 ((DY a0).bind fun r2=>
 some ((r2.1.2.1,()),()))
def Li (sort0:Int) (a1:qBs):Option ((Bool×Unit)×Unit):=
 cond (sort0==2)
 ((Fy a1).bind fun r1=>
 cond (r1.1.1)
 (some ((true,()),()))
 (cond (sort0==3)
 ((DV a1).bind fun r2=>
 some ((r2.1.1,()),()))
 (some ((false,()),()))))
 (cond (sort0==3)
 ((DV a1).bind fun r3=>
 some ((r3.1.1,()),()))
 (some ((false,()),())))
def Ea (a0:qBs):Option ((Int×Unit)×Unit):=
 (DV a0).bind fun r1=>
 cond (!r1.1.1)
 (some ((0,()),()))
 (cond (a0==([48]:qBs))
 (some ((0,()),()))
 (Aa (decide (0<=(0:Int))&&decide ((0:Int) < a0.length)) (
 cond (((a0.getD (0:Int).toNat 0).toNat:Int)==45)
 (some ((-1,()),()))
 (some ((1,()),())))))
def IG (n0:Ab):Option ((Bool×Unit)×Unit):=
 cond (n0.1==3)
 (cond (n0.2.2.1==([]:qBs))
 ((Li n0.2.1 n0.2.2.2.1).bind fun r1=>
 some ((r1.1.1,()),()))
 (some ((false,()),())))
 (cond (n0.1==4)
 ((Ek n0.2.1).bind fun r2=>
 cond (r2.1.1)
 ((BM n0.2.2.1).bind fun r3=>
 cond (r3.1.1)
 (some ((n0.2.2.2.1==([]:qBs),()),()))
 (some ((false,()),())))
 (some ((false,()),())))
 (cond (n0.1==5)
 ((Ek n0.2.1).bind fun r4=>
 cond (r4.1.1)
 ((BM n0.2.2.1).bind fun r5=>
 cond (r5.1.1)
 (some ((n0.2.2.2.1==([]:qBs),()),()))
 (some ((false,()),())))
 (some ((false,()),())))
 (cond (n0.1==16)
 (cond (n0.2.1==0)
 (cond (n0.2.2.1==([]:qBs))
 ((Fy n0.2.2.2.1).bind fun r6=>
 cond (r6.1.1)
 ((Ea n0.2.2.2.1).bind fun r7=>
 some ((decide (r7.1.1 > (0:Int)),()),()))
 (some ((false,()),())))
 (some ((false,()),())))
 (some ((false,()),())))
 (cond (n0.1==17)
 (cond (n0.2.1==0)
 (cond (n0.2.2.1==([]:qBs))
 ((Fy n0.2.2.2.1).bind fun r8=>
 cond (r8.1.1)
 ((Ea n0.2.2.2.1).bind fun r9=>
 some ((decide (r9.1.1 > (0:Int)),()),()))
 (some ((false,()),())))
 (some ((false,()),())))
 (some ((false,()),())))
 (cond (decide (n0.1>=1))
 (cond (decide (n0.1<=20))
 (cond (n0.2.1==0)
 (cond (n0.2.2.1==([]:qBs))
 (some ((n0.2.2.2.1==([]:qBs),()),()))
 (some ((false,()),())))
 (some ((false,()),())))
 (some ((false,()),())))
 (some ((false,()),())))))))
def IA (op0:Int) (n1:Int):Option ((Bool×Unit)×Unit):=
 cond (op0==1)
 (some ((n1==0,()),()))
 (cond (op0==2)
 (some ((n1==0,()),()))
 (cond (op0==3)
 (some ((n1==0,()),()))
 (cond (op0==4)
 (some ((n1==0,()),()))
 (cond (op0==5)
 (cond (decide (n1>=1))
 (some ((decide (n1<=40),()),()))
 (some ((false,()),())))
 (cond (op0==6)
 (some ((n1==1,()),()))
 (cond (op0==16)
 (some ((n1==1,()),()))
 (cond (op0==17)
 (some ((n1==1,()),()))
 (cond (op0==20)
 (some ((n1==1,()),()))
 (cond (op0==7)
 (some ((true,()),()))
 (cond (op0==8)
 (some ((true,()),()))
 (cond (op0==14)
 (some ((decide (n1>=1),()),()))
 (cond (op0==10)
 (some ((n1==3,()),()))
 (cond (op0==19)
 (some ((n1==3,()),()))
 (some ((n1==2,()),())))))))))))))))
def Nz (x0:Int) (a1:Option Int):Option ((Bool×Unit)×Unit):=
 Aa (a1.isSome) (some ((x0 !=(a1.getD (0:Int)),()),()))
def Jr (x:(List Int)×(Option Int)×Int×Int×Int×Unit):Option (Ex×((List Int)×(Option Int)×Int×Int×Int×Unit)):=
 let s0:=x.1
 let f1:=x.2.1
 let t4:=x.2.2.1
 let t7:=x.2.2.2.1
 let t8:=x.2.2.2.2.1
 cond (decide (t8 < t7))
 (Aa (decide (0<=t8)&&decide (t8 < s0.length)) (
 (Nz (s0.getD t8.toNat (0:Int)) f1).bind fun r1=>
 cond (r1.1.1)
 (some (Ex.ret,(s0,f1,t8,t7,t8,())))
 (some (Ex.normal,(s0,f1,t4,t7,qI (t8+1),())))))
 (some (Ex.exit 0,(s0,f1,t4,t7,t8,())))
def Ns (s0:List Int) (f1:Option Int):Option ((Int×Unit)×Unit):=
 (An Jr (s0,f1,0,(s0.length:Int),0,())).bind fun y1=>
 cond (Ex.same y1.1 (Ex.exit 0))
 (some ((-1,()),()))
 (cond (Ex.same y1.1 Ex.ret)
 (some ((y1.2.2.2.1,()),()))
 (none))
def Js (s0:List Int) (f1:Option Int):Option ((Bool×Unit)×Unit):=
 (Ns s0 f1).bind fun r1=>
 some ((decide (r1.1.1>=0),()),())
def BX (sorts0:List Int) (s1:Int):Option ((Bool×Unit)×Unit):=
 (Js sorts0 (some s1)).bind fun r1=>
 some ((!r1.1.1,()),())
def A1 (is0:Bool) (sort1:Int):Option ((Int×Unit)×Unit):=
 cond (is0)
 (some ((sort1,()),()))
 (some ((0,()),()))
def Eb (s0:Int):Option ((Bool×Unit)×Unit):=
 cond (s0==2)
 (some ((true,()),()))
 (some ((s0==3,()),()))
def GF (n0:Ab) (sorts1:List Int):Option ((Int×Unit)×Unit):=
 cond (n0.1==3)
 (some ((n0.2.1,()),()))
 (cond (n0.1==4)
 (some ((n0.2.1,()),()))
 (cond (n0.1==5)
 (some ((n0.2.1,()),()))
 (cond (n0.1==1)
 ((BX sorts1 1).bind fun r1=>
 (A1 r1.1.1 1).bind fun r2=>
 some ((r2.1.1,()),()))
 (cond (n0.1==2)
 ((BX sorts1 1).bind fun r3=>
 (A1 r3.1.1 1).bind fun r4=>
 some ((r4.1.1,()),()))
 (cond (n0.1==6)
 ((BX sorts1 1).bind fun r5=>
 (A1 r5.1.1 1).bind fun r6=>
 some ((r6.1.1,()),()))
 (cond (n0.1==7)
 ((BX sorts1 1).bind fun r7=>
 (A1 r7.1.1 1).bind fun r8=>
 some ((r8.1.1,()),()))
 (cond (n0.1==8)
 ((BX sorts1 1).bind fun r9=>
 (A1 r9.1.1 1).bind fun r10=>
 some ((r10.1.1,()),()))
 (cond (n0.1==9)
 ((BX sorts1 1).bind fun r11=>
 (A1 r11.1.1 1).bind fun r12=>
 some ((r12.1.1,()),()))
 (cond (n0.1==10)
 (Aa (decide (0<=(0:Int))&&decide ((0:Int) < sorts1.length)) (
 cond ((sorts1.getD (0:Int).toNat (0:Int))==1)
 (Aa (decide (0<=(1:Int))&&decide ((1:Int) < sorts1.length)) (
 Aa (decide (0<=(2:Int))&&decide ((2:Int) < sorts1.length)) (
 Aa (decide (0<=(1:Int))&&decide ((1:Int) < sorts1.length)) (
 (A1 ((sorts1.getD (1:Int).toNat (0:Int))==(sorts1.getD (2:Int).toNat (0:Int))) (sorts1.getD (1:Int).toNat (0:Int))).bind fun r13=>
 some ((r13.1.1,()),())))))
 (Aa (decide (0<=(1:Int))&&decide ((1:Int) < sorts1.length)) (
 (A1 false (sorts1.getD (1:Int).toNat (0:Int))).bind fun r14=>
 some ((r14.1.1,()),())))))
 (cond (n0.1==11)
 (Aa (decide (0<=(0:Int))&&decide ((0:Int) < sorts1.length)) (
 Aa (decide (0<=(1:Int))&&decide ((1:Int) < sorts1.length)) (
 (A1 ((sorts1.getD (0:Int).toNat (0:Int))==(sorts1.getD (1:Int).toNat (0:Int))) 1).bind fun r15=>
 some ((r15.1.1,()),()))))
 (cond (n0.1==12)
 (Aa (decide (0<=(0:Int))&&decide ((0:Int) < sorts1.length)) (
 (Eb (sorts1.getD (0:Int).toNat (0:Int))).bind fun r16=>
 cond (r16.1.1)
 (Aa (decide (0<=(0:Int))&&decide ((0:Int) < sorts1.length)) (
 (BX sorts1 (sorts1.getD (0:Int).toNat (0:Int))).bind fun r17=>
 (A1 r17.1.1 1).bind fun r18=>
 some ((r18.1.1,()),())))
 ((A1 false 1).bind fun r19=>
 some ((r19.1.1,()),()))))
 (cond (n0.1==13)
 (Aa (decide (0<=(0:Int))&&decide ((0:Int) < sorts1.length)) (
 (Eb (sorts1.getD (0:Int).toNat (0:Int))).bind fun r20=>
 cond (r20.1.1)
 (Aa (decide (0<=(0:Int))&&decide ((0:Int) < sorts1.length)) (
 (BX sorts1 (sorts1.getD (0:Int).toNat (0:Int))).bind fun r21=>
 (A1 r21.1.1 1).bind fun r22=>
 some ((r22.1.1,()),())))
 ((A1 false 1).bind fun r23=>
 some ((r23.1.1,()),()))))
 (cond (n0.1==14)
 (Aa (decide (0<=(0:Int))&&decide ((0:Int) < sorts1.length)) (
 (Eb (sorts1.getD (0:Int).toNat (0:Int))).bind fun r24=>
 cond (r24.1.1)
 (Aa (decide (0<=(0:Int))&&decide ((0:Int) < sorts1.length)) (
 (BX sorts1 (sorts1.getD (0:Int).toNat (0:Int))).bind fun r25=>
 Aa (decide (0<=(0:Int))&&decide ((0:Int) < sorts1.length)) (
 (A1 r25.1.1 (sorts1.getD (0:Int).toNat (0:Int))).bind fun r26=>
 some ((r26.1.1,()),()))))
 (Aa (decide (0<=(0:Int))&&decide ((0:Int) < sorts1.length)) (
 (A1 false (sorts1.getD (0:Int).toNat (0:Int))).bind fun r27=>
 some ((r27.1.1,()),())))))
 (cond (n0.1==15)
 (Aa (decide (0<=(0:Int))&&decide ((0:Int) < sorts1.length)) (
 (Eb (sorts1.getD (0:Int).toNat (0:Int))).bind fun r28=>
 cond (r28.1.1)
 (Aa (decide (0<=(0:Int))&&decide ((0:Int) < sorts1.length)) (
 (BX sorts1 (sorts1.getD (0:Int).toNat (0:Int))).bind fun r29=>
 Aa (decide (0<=(0:Int))&&decide ((0:Int) < sorts1.length)) (
 (A1 r29.1.1 (sorts1.getD (0:Int).toNat (0:Int))).bind fun r30=>
 some ((r30.1.1,()),()))))
 (Aa (decide (0<=(0:Int))&&decide ((0:Int) < sorts1.length)) (
 (A1 false (sorts1.getD (0:Int).toNat (0:Int))).bind fun r31=>
 some ((r31.1.1,()),())))))
 (cond (n0.1==16)
 (Aa (decide (0<=(0:Int))&&decide ((0:Int) < sorts1.length)) (
 (A1 ((sorts1.getD (0:Int).toNat (0:Int))==2) 2).bind fun r32=>
 some ((r32.1.1,()),())))
 (cond (n0.1==17)
 (Aa (decide (0<=(0:Int))&&decide ((0:Int) < sorts1.length)) (
 (A1 ((sorts1.getD (0:Int).toNat (0:Int))==2) 2).bind fun r33=>
 some ((r33.1.1,()),())))
 (cond (n0.1==18)
 (Aa (decide (0<=(0:Int))&&decide ((0:Int) < sorts1.length)) (
 cond ((sorts1.getD (0:Int).toNat (0:Int))==4)
 (Aa (decide (0<=(1:Int))&&decide ((1:Int) < sorts1.length)) (
 (A1 ((sorts1.getD (1:Int).toNat (0:Int))==2) 2).bind fun r34=>
 some ((r34.1.1,()),())))
 ((A1 false 2).bind fun r35=>
 some ((r35.1.1,()),()))))
 (cond (n0.1==19)
 (Aa (decide (0<=(0:Int))&&decide ((0:Int) < sorts1.length)) (
 cond ((sorts1.getD (0:Int).toNat (0:Int))==4)
 (Aa (decide (0<=(1:Int))&&decide ((1:Int)<=sorts1.length)) (
 (BX (sorts1.drop (1:Int).toNat) 2).bind fun r36=>
 (A1 r36.1.1 4).bind fun r37=>
 some ((r37.1.1,()),())))
 ((A1 false 4).bind fun r38=>
 some ((r38.1.1,()),()))))
 (Aa (decide (0<=(0:Int))&&decide ((0:Int) < sorts1.length)) (
 (A1 ((sorts1.getD (0:Int).toNat (0:Int))==2) 4).bind fun r39=>
 some ((r39.1.1,()),())))))))))))))))))))))
def G7 (v:Int) (i:Nat) (x:((List Ab)×List (Int×Ad))×(Int×Ad)×(List Int)×Unit):Option (((List Ab)×List (Int×Ad))×(Int×Ad)×(List Int)×Unit):=
 let v4:=x.1
 let p9:=x.2.1
 let sorts10:=x.2.2.1
 Aa (decide (0<=v)&&decide (v < v4.2.length)) (Aa (decide (v.toNat < v4.2.length)) (Aa (decide (sorts10.length+([(v4.2.getD v.toNat ((0:Int),(0:Int),(0:Int))).1]:List Int).length<=Az)) (Aa (decide (0<=v)&&decide (v < v4.2.length)) (Aa (decide (v.toNat < v4.2.length)) (Aa (decide (0<=v)&&decide (v < v4.2.length)) (Aa (decide (v.toNat < v4.2.length)) (some (v4,(p9.1,Cj p9.2.1 (qI ((((v4.2.getD v.toNat ((0:Int),(0:Int),(0:Int))).2).1)+1)),((v4.2.getD v.toNat ((0:Int),(0:Int),(0:Int))).2).2),sorts10++([(v4.2.getD v.toNat ((0:Int),(0:Int),(0:Int))).1]:List Int),()))))))))
def Hg (y:((List Ab)×List (Int×Ad))×(Int×Ad)×(List Int)×Unit) (o:((List Ab)×List (Int×Ad))×(Int×Ad)×(List Int)×Unit):((List Ab)×List (Int×Ad))×(Int×Ad)×(List Int)×Unit:=(o.1,o.2.1,o.2.2.1,())
def HO (y:((List Ab)×List (Int×Ad))×(Int×Ad)×(List Int)×Unit):((List Ab)×List (Int×Ad))×(Int×Ad)×(List Int)×Unit:=(y.1,y.2.1,y.2.2.1,())
def Jw (x:(List Ab)×(Option AL)×Bool×((List Ab)×List (Int×Ad))×(List Int)×Int×Unit):Option (Ex×((List Ab)×(Option AL)×Bool×((List Ab)×List (Int×Ad))×(List Int)×Int×Unit)):=
 let t0:=x.1
 let t2:=x.2.1
 let t3:=x.2.2.1
 let v4:=x.2.2.2.1
 let roots5:=x.2.2.2.2.1
 let i6:=x.2.2.2.2.2.1
 cond (decide (i6>=0))
 (Aa (decide (0<=i6)&&decide (i6 < t0.length)) (
 cond (decide ((((((t0.getD i6.toNat Am).2).2).2).2) < (0:Int)))
 (some (Ex.ret,(t0,(none:Option AL),false,v4,roots5,i6,())))
 (cond (decide ((((((t0.getD i6.toNat Am).2).2).2).2) > (roots5.length:Int)))
 (some (Ex.ret,(t0,(none:Option AL),false,v4,roots5,i6,())))
 ((IG (t0.getD i6.toNat Am)).bind fun r1=>
 cond (!r1.1.1)
 (some (Ex.ret,(t0,(none:Option AL),false,v4,roots5,i6,())))
 ((IA ((t0.getD i6.toNat Am).1) (((((t0.getD i6.toNat Am).2).2).2).2)).bind fun r2=>
 cond (!r2.1.1)
 (some (Ex.ret,(t0,(none:Option AL),false,v4,roots5,i6,())))
 (Aa (decide (0<=qI ((roots5.length:Int) - (((((t0.getD i6.toNat Am).2).2).2).2)))&&decide (qI ((roots5.length:Int) - (((((t0.getD i6.toNat Am).2).2).2).2))<=roots5.length)) (
 Aa (decide (((roots5.drop ((qI ((roots5.length:Int) - (((((t0.getD i6.toNat Am).2).2).2).2))).toNat)).take (roots5.length - (qI ((roots5.length:Int) - (((((t0.getD i6.toNat Am).2).2).2).2))).toNat)).length<=Az)) (((Cg (fun p y=>(G7 p.1 p.2 y).bind fun o=>some (Hg y o)) ((roots5.drop ((qI ((roots5.length:Int) - (((((t0.getD i6.toNat Am).2).2).2).2))).toNat)).take (roots5.length - (qI ((roots5.length:Int) - (((((t0.getD i6.toNat Am).2).2).2).2))).toNat)).zipIdx.reverse (v4,((0:Int),1,qI (i6+1)),([]:List Int),())).bind fun y=>some ((),HO y)).bind fun y3=>
 (GF (t0.getD i6.toNat Am) y3.2.2.2.1).bind fun r4=>
 cond (r4.1.1==0)
 (some (Ex.ret,(t0,(none:Option AL),false,y3.2.1,roots5,i6,())))
 (cond (((t0.getD i6.toNat Am).1)==15)
 (Aa (decide (0<=qI (i6+1))&&decide (qI (i6+1) < t0.length)) (
 cond (((t0.getD (qI (i6+1)).toNat Am).1) !=(3:Int))
 (some (Ex.ret,(t0,(none:Option AL),false,y3.2.1,roots5,i6,())))
 (Aa (decide (0<=i6)&&decide (i6 < y3.2.1.2.length)) (Aa (decide (i6.toNat < y3.2.1.2.length)) (Aa (decide (0<=qI ((roots5.length:Int) - (((((t0.getD i6.toNat Am).2).2).2).2)))&&decide (qI ((roots5.length:Int) - (((((t0.getD i6.toNat Am).2).2).2).2))<=roots5.length)) (Aa (decide (((qI ((roots5.length:Int) - (((((t0.getD i6.toNat Am).2).2).2).2))).toNat)+([i6]:List Int).length<=Az)) (some (Ex.normal,(t0,t2,t3,(y3.2.1.1,y3.2.1.2.set i6.toNat (r4.1.1,y3.2.2.1.2)),roots5.take ((qI ((roots5.length:Int) - (((((t0.getD i6.toNat Am).2).2).2).2))).toNat)++([i6]:List Int),qI (i6 - (1:Int)),())))))))))
 (Aa (decide (0<=i6)&&decide (i6 < y3.2.1.2.length)) (Aa (decide (i6.toNat < y3.2.1.2.length)) (Aa (decide (0<=qI ((roots5.length:Int) - (((((t0.getD i6.toNat Am).2).2).2).2)))&&decide (qI ((roots5.length:Int) - (((((t0.getD i6.toNat Am).2).2).2).2))<=roots5.length)) (Aa (decide (((qI ((roots5.length:Int) - (((((t0.getD i6.toNat Am).2).2).2).2))).toNat)+([i6]:List Int).length<=Az)) (some (Ex.normal,(t0,t2,t3,(y3.2.1.1,y3.2.1.2.set i6.toNat (r4.1.1,y3.2.2.1.2)),roots5.take ((qI ((roots5.length:Int) - (((((t0.getD i6.toNat Am).2).2).2).2))).toNat)++([i6]:List Int),qI (i6 - (1:Int)),()))))))))))))))))
 (some (Ex.exit 0,(t0,t2,t3,v4,roots5,i6,())))
def FQ (t0:List Ab):Option (((Option AL)×Bool×Unit)×Unit):=
 Aa (decide (0<=(t0.length:Int))&&decide ((t0.length:Int)<=(t0.length:Int))&&decide ((t0.length:Int)<=Az)) (
 (An Jw (t0,(none:Option AL),false,(t0,List.replicate (t0.length:Int).toNat ((0:Int),(0:Int),(0:Int))),([]:List Int),qI ((t0.length:Int) - (1:Int)),())).bind fun y1=>
 cond (Ex.same y1.1 (Ex.exit 0))
 (some ((some y1.2.2.2.2.1,(y1.2.2.2.2.2.1.length:Int)==1,()),()))
 (cond (Ex.same y1.1 Ex.ret)
 (some ((y1.2.2.1,y1.2.2.2.1,()),()))
 (none)))
def Gp (v0:Option AL):Option ((Bool×Unit)×Unit):=
 Aa (v0.isSome) (
 cond (decide ((((v0.getD AT).1).length:Int) > (20000:Int)))
 (some ((true,()),()))
 (Aa (v0.isSome) (Aa (decide (0<=(0:Int))&&decide ((0:Int) < ((v0.getD AT).2).length)) (some ((decide ((((((v0.getD AT).2).getD (0:Int).toNat ((0:Int),(0:Int),(0:Int))).2).1) > (257:Int)),()),())))))
def LG (x:(Option AL)×(List Int)×Int×Int×Int×Unit):Option (Ex×((Option AL)×(List Int)×Int×Int×Int×Unit)):=
 let v0:=x.1
 let out5:=x.2.1
 let at6:=x.2.2.1
 let t16:=x.2.2.2.1
 let t17:=x.2.2.2.2.1
 cond (decide (t17 < t16))
 (Aa (decide (out5.length+([at6]:List Int).length<=Az)) (Aa (v0.isSome) (Aa (decide (0<=at6)&&decide (at6 < ((v0.getD AT).2).length)) (some (Ex.normal,(v0,out5++([at6]:List Int),((((v0.getD AT).2).getD at6.toNat ((0:Int),(0:Int),(0:Int))).2).2,t16,qI (t17+1),()))))))
 (some (Ex.exit 0,(v0,out5,at6,t16,t17,())))
def IW (v0:Option AL) (i1:Int):Option (((List Int)×Unit)×Unit):=
 Aa (v0.isSome) (
 Aa (decide (0<=i1)&&decide (i1 < ((v0.getD AT).1).length)) (
 (An LG (v0,([]:List Int),qI (i1+1),((((((v0.getD AT).1).getD i1.toNat Am).2).2).2).2,0,())).bind fun y1=>
 cond (Ex.same y1.1 (Ex.exit 0))
 (some ((y1.2.2.1,()),()))
 (none)))
def JJ (x:(Option AL)×(qBs×Af)×(qBs×(List Int)×Int)×(List Int)×Int×Int×Unit):Option (Ex×((Option AL)×(qBs×Af)×(qBs×(List Int)×Int)×(List Int)×Int×Int×Unit)):=
 let v0:=x.1
 let t4:=x.2.1
 let f5:=x.2.2.1
 let t27:=x.2.2.2.1
 let t28:=x.2.2.2.2.1
 let t29:=x.2.2.2.2.2.1
 cond (decide (t29 < t28))
 (Aa (decide (0<=t29)&&decide (t29 < t27.length)) (Aa (v0.isSome) (Aa (decide (0<=t27.getD t29.toNat (0:Int))&&decide (t27.getD t29.toNat (0:Int) < ((v0.getD AT).2).length)) (Aa (decide (f5.2.1.length+([(((v0.getD AT).2).getD (t27.getD t29.toNat (0:Int)).toNat ((0:Int),(0:Int),(0:Int))).1]:List Int).length<=Az)) (some (Ex.normal,(v0,t4,(f5.1,f5.2.1++([(((v0.getD AT).2).getD (t27.getD t29.toNat (0:Int)).toNat ((0:Int),(0:Int),(0:Int))).1]:List Int),f5.2.2),t27,t28,qI (t29+1),())))))))
 (some (Ex.exit 0,(v0,t4,f5,t27,t28,t29,())))
def LT (v0:Option AL) (i1:Int):Option (((qBs×Af)×Unit)×Unit):=
 Aa (v0.isSome) (
 Aa (decide (0<=i1)&&decide (i1 < ((v0.getD AT).1).length)) (
 Aa (v0.isSome) (
 Aa (decide (0<=i1)&&decide (i1 < ((v0.getD AT).1).length)) (
 (IW v0 i1).bind fun r1=>
 (An JJ (v0,(([]:qBs),([]:List Int),(0:Int)),((((((v0.getD AT).1).getD i1.toNat Am).2).2).1,([]:List Int),((((v0.getD AT).1).getD i1.toNat Am).2).1),r1.1.1,(r1.1.1.length:Int),0,())).bind fun y2=>
 cond (Ex.same y2.1 (Ex.exit 0))
 (some ((y2.2.2.2.1,()),()))
 (none)))))
def Mz (x:(List Int)×(List Int)×Bool×Int×Int×Unit):Option (Ex×((List Int)×(List Int)×Bool×Int×Int×Unit)):=
 let s10:=x.1
 let s21:=x.2.1
 let t4:=x.2.2.1
 let t12:=x.2.2.2.1
 let t13:=x.2.2.2.2.1
 cond (decide (t13 < t12))
 (Aa (decide (0<=t13)&&decide (t13 < s10.length)) (
 Aa (decide (0<=t13)&&decide (t13 < s21.length)) (
 cond ((s10.getD t13.toNat (0:Int)) !=(s21.getD t13.toNat (0:Int)))
 (some (Ex.ret,(s10,s21,false,t12,t13,())))
 (some (Ex.normal,(s10,s21,t4,t12,qI (t13+1),()))))))
 (some (Ex.exit 0,(s10,s21,t4,t12,t13,())))
def I5 (s10:List Int) (s21:List Int):Option ((Bool×Unit)×Unit):=
 cond ((s10.length:Int) !=(s21.length:Int))
 (some ((false,()),()))
 ((An Mz (s10,s21,false,(s10.length:Int),0,())).bind fun y1=>
 cond (Ex.same y1.1 (Ex.exit 0))
 (some ((true,()),()))
 (cond (Ex.same y1.1 Ex.ret)
 (some ((y1.2.2.2.1,()),()))
 (none)))
def G2 (f0:qBs×Af) (g1:qBs×Af):Option ((Bool×Unit)×Unit):=
 cond (f0.1==g1.1)
 (cond (f0.2.2==g1.2.2)
 ((I5 f0.2.1 g1.2.1).bind fun r1=>
 some ((r1.1.1,()),()))
 (some ((false,()),())))
 (some ((false,()),()))
def Jg (x:(Option AL)×(List Vr)×(List (qBs×Af))×Bool×(List (qBs×Vr))×(List (qBs×qBs×Af))×(List Vr)×(List (qBs×Af))×(List Ab)×Int×Int×Unit):Option (Ex×((Option AL)×(List Vr)×(List (qBs×Af))×Bool×(List (qBs×Vr))×(List (qBs×qBs×Af))×(List Vr)×(List (qBs×Af))×(List Ab)×Int×Int×Unit)):=
 let v0:=x.1
 let t2:=x.2.1
 let t3:=x.2.2.1
 let t4:=x.2.2.2.1
 let vars5:=x.2.2.2.2.1
 let funcs6:=x.2.2.2.2.2.1
 let l7:=x.2.2.2.2.2.2.1
 let m8:=x.2.2.2.2.2.2.2.1
 let t25:=x.2.2.2.2.2.2.2.2.1
 let t26:=x.2.2.2.2.2.2.2.2.2.1
 let t27:=x.2.2.2.2.2.2.2.2.2.2.1
 cond (decide (t27 < t26))
 (Aa (decide (0<=t27)&&decide (t27 < t25.length)) (
 cond (((t25.getD t27.toNat Am).1)==4)
 (cond (!((AG ((((t25.getD t27.toNat Am).2).2).1) vars5).isSome))
 (Aa (decide (l7.length+([((((t25.getD t27.toNat Am).2).2).1,((t25.getD t27.toNat Am).2).1)]:List Vr).length<=Az)) (
 cond ((AG ((((t25.getD t27.toNat Am).2).2).1) funcs6).isSome)
 (some (Ex.ret,(v0,([]:List Vr),([]:List (qBs×Af)),false,AZ ((((t25.getD t27.toNat Am).2).2).1) ((((t25.getD t27.toNat Am).2).2).1,((t25.getD t27.toNat Am).2).1) vars5,funcs6,l7++([((((t25.getD t27.toNat Am).2).2).1,((t25.getD t27.toNat Am).2).1)]:List Vr),m8,t25,t26,t27,())))
 (cond ((((t25.getD t27.toNat Am).2).1) !=(((t25.getD t27.toNat Am).2).1))
 (some (Ex.ret,(v0,([]:List Vr),([]:List (qBs×Af)),false,AZ ((((t25.getD t27.toNat Am).2).2).1) ((((t25.getD t27.toNat Am).2).2).1,((t25.getD t27.toNat Am).2).1) vars5,funcs6,l7++([((((t25.getD t27.toNat Am).2).2).1,((t25.getD t27.toNat Am).2).1)]:List Vr),m8,t25,t26,t27,())))
 (some (Ex.normal,(v0,t2,t3,t4,AZ ((((t25.getD t27.toNat Am).2).2).1) ((((t25.getD t27.toNat Am).2).2).1,((t25.getD t27.toNat Am).2).1) vars5,funcs6,l7++([((((t25.getD t27.toNat Am).2).2).1,((t25.getD t27.toNat Am).2).1)]:List Vr),m8,t25,t26,qI (t27+1),()))))))
 (cond ((AG ((((t25.getD t27.toNat Am).2).2).1) funcs6).isSome)
 (some (Ex.ret,(v0,([]:List Vr),([]:List (qBs×Af)),false,vars5,funcs6,l7,m8,t25,t26,t27,())))
 (cond ((((AG ((((t25.getD t27.toNat Am).2).2).1) vars5).getD DW).2) !=(((t25.getD t27.toNat Am).2).1))
 (some (Ex.ret,(v0,([]:List Vr),([]:List (qBs×Af)),false,vars5,funcs6,l7,m8,t25,t26,t27,())))
 (some (Ex.normal,(v0,t2,t3,t4,vars5,funcs6,l7,m8,t25,t26,qI (t27+1),()))))))
 (cond (((t25.getD t27.toNat Am).1)==5)
 ((LT v0 t27).bind fun r1=>
 cond (!((AG ((((t25.getD t27.toNat Am).2).2).1) funcs6).isSome))
 (Aa (decide (m8.length+([r1.1.1]:List (qBs×Af)).length<=Az)) (
 cond ((AG ((((t25.getD t27.toNat Am).2).2).1) vars5).isSome)
 (some (Ex.ret,(v0,([]:List Vr),([]:List (qBs×Af)),false,vars5,AZ ((((t25.getD t27.toNat Am).2).2).1) r1.1.1 funcs6,l7,m8++([r1.1.1]:List (qBs×Af)),t25,t26,t27,())))
 ((G2 r1.1.1 r1.1.1).bind fun r2=>
 cond (!r2.1.1)
 (some (Ex.ret,(v0,([]:List Vr),([]:List (qBs×Af)),false,vars5,AZ ((((t25.getD t27.toNat Am).2).2).1) r1.1.1 funcs6,l7,m8++([r1.1.1]:List (qBs×Af)),t25,t26,t27,())))
 (some (Ex.normal,(v0,t2,t3,t4,vars5,AZ ((((t25.getD t27.toNat Am).2).2).1) r1.1.1 funcs6,l7,m8++([r1.1.1]:List (qBs×Af)),t25,t26,qI (t27+1),()))))))
 (cond ((AG ((((t25.getD t27.toNat Am).2).2).1) vars5).isSome)
 (some (Ex.ret,(v0,([]:List Vr),([]:List (qBs×Af)),false,vars5,funcs6,l7,m8,t25,t26,t27,())))
 ((G2 ((AG ((((t25.getD t27.toNat Am).2).2).1) funcs6).getD (([]:qBs),([]:List Int),(0:Int))) r1.1.1).bind fun r3=>
 cond (!r3.1.1)
 (some (Ex.ret,(v0,([]:List Vr),([]:List (qBs×Af)),false,vars5,funcs6,l7,m8,t25,t26,t27,())))
 (some (Ex.normal,(v0,t2,t3,t4,vars5,funcs6,l7,m8,t25,t26,qI (t27+1),()))))))
 (some (Ex.normal,(v0,t2,t3,t4,vars5,funcs6,l7,m8,t25,t26,qI (t27+1),()))))))
 (some (Ex.exit 0,(v0,t2,t3,t4,vars5,funcs6,l7,m8,t25,t26,t27,())))
def FI (v0:Option AL):Option (((List Vr)×(List (qBs×Af))×Bool×Unit)×Unit):=
 Aa (v0.isSome) (
 (An Jg (v0,([]:List Vr),([]:List (qBs×Af)),false,([]:List (qBs×Vr)),([]:List (qBs×qBs×Af)),([]:List Vr),([]:List (qBs×Af)),(v0.getD AT).1,(((v0.getD AT).1).length:Int),0,())).bind fun y1=>
 cond (Ex.same y1.1 (Ex.exit 0))
 (some ((y1.2.2.2.2.2.2.2.1,y1.2.2.2.2.2.2.2.2.1,true,()),()))
 (cond (Ex.same y1.1 Ex.ret)
 (some ((y1.2.2.1,y1.2.2.2.1,y1.2.2.2.2.1,()),()))
 (none)))
def Ij (t0:List Ab):Option (((Option AL)×Bool×Unit)×Unit):=
 cond ((t0.length:Int)==0)
 (some (((none:Option AL),false,()),()))
 (cond (decide ((t0.length:Int) > (20000:Int)))
 (some (((none:Option AL),false,()),()))
 ((FQ t0).bind fun r1=>
 cond (!r1.1.2.1)
 (some (((none:Option AL),false,()),()))
 ((Gp r1.1.1).bind fun r2=>
 cond (r2.1.1)
 (some (((none:Option AL),false,()),()))
 ((FI r1.1.1).bind fun r3=>
 cond (!r3.1.2.2.1)
 (some (((none:Option AL),false,()),()))
 (some ((r1.1.1,true,()),()))))))
def ES (t0:List Ab):Option ((Int×Unit)×Unit):=
 (Ij t0).bind fun r1=>
 cond (!r1.1.2.1)
 (some ((0,()),()))
 (Aa (r1.1.1.isSome) (Aa (decide (0<=(0:Int))&&decide ((0:Int) < ((r1.1.1.getD AT).2).length)) (some (((((r1.1.1.getD AT).2).getD (0:Int).toNat ((0:Int),(0:Int),(0:Int))).1,()),()))))
def KW (x:Ab×(List Ab)×Int×(List Int)×(List Ab)×(List (List Ab))×Int×Int×Unit):Option (Ex×(Ab×(List Ab)×Int×(List Int)×(List Ab)×(List (List Ab))×Int×Int×Unit)):=
 let n2:=x.1
 let t4:=x.2.1
 let t5:=x.2.2.1
 let sorts6:=x.2.2.2.1
 let t7:=x.2.2.2.2.1
 let t21:=x.2.2.2.2.2.1
 let t22:=x.2.2.2.2.2.2.1
 let t23:=x.2.2.2.2.2.2.2.1
 cond (decide (t23 < t22))
 (Aa (decide (0<=t23)&&decide (t23 < t21.length)) (
 (ES (t21.getD t23.toNat ([]:List Ab))).bind fun r1=>
 cond (r1.1.1==0)
 (some (Ex.ret,(n2,([]:List Ab),1,sorts6,t7,t21,t22,t23,())))
 (Aa (decide (sorts6.length+([r1.1.1]:List Int).length<=Az)) (Aa (decide (t7.length+(t21.getD t23.toNat ([]:List Ab)).length<=Az)) (some (Ex.normal,(n2,t4,t5,sorts6++([r1.1.1]:List Int),t7++(t21.getD t23.toNat ([]:List Ab)),t21,t22,qI (t23+1),())))))))
 (some (Ex.exit 0,(n2,t4,t5,sorts6,t7,t21,t22,t23,())))
def B6 (n0:Ab) (kids1:List (List Ab)):Option (((List Ab)×Int×Unit)×Unit):=
 (An KW ((n0.1,n0.2.1,n0.2.2.1,n0.2.2.2.1,(kids1.length:Int)),([]:List Ab),0,([]:List Int),([(n0.1,n0.2.1,n0.2.2.1,n0.2.2.2.1,(kids1.length:Int))]:List Ab),kids1,(kids1.length:Int),0,())).bind fun y1=>
 cond (Ex.same y1.1 (Ex.exit 0))
 ((IG y1.2.1).bind fun r2=>
 cond (!r2.1.1)
 (some ((([]:List Ab),8,()),()))
 ((IA y1.2.1.1 y1.2.1.2.2.2.2).bind fun r3=>
 cond (!r3.1.1)
 (some ((([]:List Ab),8,()),()))
 (cond (y1.2.1.1==15)
 (Aa (decide (0<=(1:Int))&&decide ((1:Int) < y1.2.2.2.2.2.1.length)) (
 cond (((y1.2.2.2.2.2.1.getD (1:Int).toNat Am).1) !=(3:Int))
 (some ((([]:List Ab),8,()),()))
 ((GF y1.2.1 y1.2.2.2.2.1).bind fun r4=>
 cond (r4.1.1==0)
 (some ((([]:List Ab),3,()),()))
 ((FQ y1.2.2.2.2.2.1).bind fun r5=>
 (FI r5.1.1).bind fun r6=>
 cond (!r6.1.2.2.1)
 (some ((([]:List Ab),3,()),()))
 ((Gp r5.1.1).bind fun r7=>
 cond (r7.1.1)
 (some ((([]:List Ab),6,()),()))
 (some ((y1.2.2.2.2.2.1,0,()),())))))))
 ((GF y1.2.1 y1.2.2.2.2.1).bind fun r8=>
 cond (r8.1.1==0)
 (some ((([]:List Ab),3,()),()))
 ((FQ y1.2.2.2.2.2.1).bind fun r9=>
 (FI r9.1.1).bind fun r10=>
 cond (!r10.1.2.2.1)
 (some ((([]:List Ab),3,()),()))
 ((Gp r9.1.1).bind fun r11=>
 cond (r11.1.1)
 (some ((([]:List Ab),6,()),()))
 (some ((y1.2.2.2.2.2.1,0,()),()))))))))
 (cond (Ex.same y1.1 Ex.ret)
 (some ((y1.2.2.1,y1.2.2.2.1,()),()))
 (none))
def KH (a0:List Ab) (b1:List Ab):Option (((List Ab)×Int×Unit)×Unit):=
 (Ey a0).bind fun r1=>
 cond (r1.1.1)
 ((B6 (15,(0:Int),([]:qBs),([]:qBs),(0:Int)) ([a0,b1]:List (List Ab))).bind fun r2=>
 some ((r2.1.1,r2.1.2.1,()),()))
 ((Ey b1).bind fun r3=>
 cond (r3.1.1)
 ((B6 (15,(0:Int),([]:qBs),([]:qBs),(0:Int)) ([b1,a0]:List (List Ab))).bind fun r4=>
 some ((r4.1.1,r4.1.2.1,()),()))
 (some ((([]:List Ab),8,()),())))
def Hy (a0:qBs):Option ((qBs×Unit)×Unit):=
 (Ea a0).bind fun r1=>
 cond (decide (r1.1.1 < (0:Int)))
 (Aa (decide (0<=(1:Int))&&decide ((1:Int)<=a0.length)) (some ((a0.drop (1:Int).toNat,()),())))
 ((Ea a0).bind fun r2=>
 cond (decide (r2.1.1 > (0:Int)))
 (Aa (decide (([45]:qBs).length+a0.length<=AR)) (some ((([45]:qBs)++a0,()),())))
 (cond (a0==([48]:qBs))
 (some ((a0,()),()))
 (some ((([]:qBs),()),()))))
def G3 (a0:List Ab):Option (((List Ab)×Int×Unit)×Unit):=
 (Ey a0).bind fun r1=>
 cond (r1.1.1)
 (Aa (decide (0<=(0:Int))&&decide ((0:Int) < a0.length)) (
 Aa (decide (0<=(0:Int))&&decide ((0:Int) < a0.length)) (
 (Hy (((((a0.getD (0:Int).toNat Am).2).2).2).1)).bind fun r2=>
 (CY (3,((a0.getD (0:Int).toNat Am).2).1,([]:qBs),r2.1.1,(0:Int))).bind fun r3=>
 some ((r3.1.1,0,()),()))))
 ((ES a0).bind fun r4=>
 (Eb r4.1.1).bind fun r5=>
 cond (!r5.1.1)
 (some ((([]:List Ab),3,()),()))
 ((CY (3,r4.1.1,([]:qBs),([45,49]:qBs),(0:Int))).bind fun r6=>
 (B6 (15,(0:Int),([]:qBs),([]:qBs),(0:Int)) ([r6.1.1,a0]:List (List Ab))).bind fun r7=>
 some ((r7.1.1,r7.1.2.1,()),())))
def Lu (x:(List Ab)×Int×(List (List Ab))×(List (List Ab))×Int×Int×Unit):Option (Ex×((List Ab)×Int×(List (List Ab))×(List (List Ab))×Int×Int×Unit)):=
 let t2:=x.1
 let t3:=x.2.1
 let sum4:=x.2.2.1
 let t23:=x.2.2.2.1
 let t24:=x.2.2.2.2.1
 let t25:=x.2.2.2.2.2.1
 cond (decide (t25 < t24))
 (Aa (decide (0<=t25)&&decide (t25 < t23.length)) (
 (G3 (t23.getD t25.toNat ([]:List Ab))).bind fun r1=>
 cond (r1.1.2.1 !=(0:Int))
 (some (Ex.ret,(([]:List Ab),r1.1.2.1,sum4,t23,t24,t25,())))
 (Aa (decide (sum4.length+([r1.1.1]:List (List Ab)).length<=Az)) (some (Ex.normal,(t2,t3,sum4++([r1.1.1]:List (List Ab)),t23,t24,qI (t25+1),()))))))
 (some (Ex.exit 0,(t2,t3,sum4,t23,t24,t25,())))
def Jl (l0:List (List Ab)):Option (((List Ab)×Int×Unit)×Unit):=
 cond ((l0.length:Int)==1)
 (Aa (decide (0<=(0:Int))&&decide ((0:Int) < l0.length)) (
 (G3 (l0.getD (0:Int).toNat ([]:List Ab))).bind fun r1=>
 some ((r1.1.1,r1.1.2.1,()),())))
 (Aa (decide (0<=(0:Int))&&decide ((0:Int) < l0.length)) (
 Aa (decide (0<=(1:Int))&&decide ((1:Int)<=l0.length)) (
 (An Lu (([]:List Ab),0,([l0.getD (0:Int).toNat ([]:List Ab)]:List (List Ab)),l0.drop (1:Int).toNat,((l0.drop (1:Int).toNat).length:Int),0,())).bind fun y2=>
 cond (Ex.same y2.1 (Ex.exit 0))
 ((B6 (14,(0:Int),([]:qBs),([]:qBs),(0:Int)) y2.2.2.2.1).bind fun r3=>
 some ((r3.1.1,r3.1.2.1,()),()))
 (cond (Ex.same y2.1 Ex.ret)
 (some ((y2.2.1,y2.2.2.1,()),()))
 (none)))))
def Jo (n0:Int) (d1:Int):Option ((qBs×Unit)×Unit):=
 cond (decide (d1 < (0:Int)))
 ((EL (Cj (qI (0 - n0)) (qI (0 - (qI (0 - n0))))) (qI (0 - d1))).bind fun r1=>
 Aa (r1.1.1 !=0) (
 Aa (r1.1.1 !=0) (
 (D7 (qI ((qI (0 - n0)).tdiv r1.1.1)) 10).bind fun r2=>
 cond (decide ((qI ((qI (0 - d1)).tdiv r1.1.1)) > (1:Int)))
 ((D7 (qI ((qI (0 - d1)).tdiv r1.1.1)) 10).bind fun r3=>
 Aa (decide (([47]:qBs).length+r3.1.1.length<=AR)) (Aa (decide (r2.1.1.length+(([47]:qBs)++r3.1.1).length<=AR)) (some ((r2.1.1++(([47]:qBs)++r3.1.1),()),()))))
 (some ((r2.1.1,()),())))))
 ((EL (Cj n0 (qI (0 - n0))) d1).bind fun r4=>
 Aa (r4.1.1 !=0) (
 Aa (r4.1.1 !=0) (
 (D7 (qI (n0.tdiv r4.1.1)) 10).bind fun r5=>
 cond (decide ((qI (d1.tdiv r4.1.1)) > (1:Int)))
 ((D7 (qI (d1.tdiv r4.1.1)) 10).bind fun r6=>
 Aa (decide (([47]:qBs).length+r6.1.1.length<=AR)) (Aa (decide (r5.1.1.length+(([47]:qBs)++r6.1.1).length<=AR)) (some ((r5.1.1++(([47]:qBs)++r6.1.1),()),()))))
 (some ((r5.1.1,()),())))))
def KT (x0:Ad) (y1:Ad):Option ((qBs×Unit)×Unit):=
 (Jo (qI (x0.1 * y1.2)) (qI (x0.2 * y1.1))).bind fun r1=>
 some ((r1.1.1,()),())
def JQ (x:(List Int)×(List Int)×Int×Int×Int×(List Int)×Int×Int×(List Int)×Int×Int×Unit):Option (Ex×((List Int)×(List Int)×Int×Int×Int×(List Int)×Int×Int×(List Int)×Int×Int×Unit)):=
 let b1:=x.1
 let out5:=x.2.1
 let i6:=x.2.2.1
 let x7:=x.2.2.2.1
 let carry8:=x.2.2.2.2.1
 let t18:=x.2.2.2.2.2.1
 let t19:=x.2.2.2.2.2.2.1
 let t20:=x.2.2.2.2.2.2.2.1
 let t25:=x.2.2.2.2.2.2.2.2.1
 let t26:=x.2.2.2.2.2.2.2.2.2.1
 let t27:=x.2.2.2.2.2.2.2.2.2.2.1
 cond (decide (t27 < t26))
 (Aa (decide (0<=t27)&&decide (t27 < t25.length)) (Aa (decide (0<=qI (i6+t27))&&decide (qI (i6+t27) < out5.length)) (Aa (decide ((qI (i6+t27)).toNat < out5.length)) (Aa ((1000000000:Int) !=0) (Aa ((1000000000:Int) !=0) (Aa (decide (0<=qI (i6+t27))&&decide (qI (i6+t27) < out5.length)) (Aa (decide ((qI (i6+t27)).toNat < out5.length)) (some (Ex.normal,(b1,out5.set ((qI (i6+t27)).toNat) (IntKind.u32.wrap ((qU ((qU ((qU (out5.getD ((qI (i6+t27)).toNat) (0:Int)))+(qU ((qU (x7)) * (qU (t25.getD t27.toNat (0:Int)))))))+carry8)).tmod 1000000000)),i6,x7,qU ((qU ((qU ((qU (out5.getD ((qI (i6+t27)).toNat) (0:Int)))+(qU ((qU (x7)) * (qU (t25.getD t27.toNat (0:Int)))))))+carry8)).tdiv 1000000000),t18,t19,t20,t25,t26,qI (t27+1),()))))))))))
 (some (Ex.exit 2,(b1,out5,i6,x7,carry8,t18,t19,t20,t25,t26,t27,())))
def Nj (x:(List Int)×(List Int)×(List Int)×Int×Int×Unit):Option (Ex×((List Int)×(List Int)×(List Int)×Int×Int×Unit)):=
 let b1:=x.1
 let out5:=x.2.1
 let t18:=x.2.2.1
 let t19:=x.2.2.2.1
 let t20:=x.2.2.2.2.1
 cond (decide (t20 < t19))
 (Aa (decide (0<=t20)&&decide (t20 < t18.length)) (
 (An JQ (b1,out5,t20,t18.getD t20.toNat (0:Int),0,t18,t19,t20,b1,(b1.length:Int),0,())).bind fun y1=>
 cond (Ex.same y1.1 (Ex.exit 2))
 (Aa (decide (0<=qI (y1.2.2.2.1+(y1.2.1.length:Int)))&&decide (qI (y1.2.2.2.1+(y1.2.1.length:Int)) < y1.2.2.1.length)) (Aa (decide ((qI (y1.2.2.2.1+(y1.2.1.length:Int))).toNat < y1.2.2.1.length)) (some (Ex.normal,(y1.2.1,y1.2.2.1.set ((qI (y1.2.2.2.1+(y1.2.1.length:Int))).toNat) (IntKind.u32.wrap (y1.2.2.2.2.2.1)),y1.2.2.2.2.2.2.1,y1.2.2.2.2.2.2.2.1,qI (y1.2.2.2.2.2.2.2.2.1+1),())))))
 (none)))
 (some (Ex.exit 0,(b1,out5,t18,t19,t20,())))
def HA (a0:List Int) (b1:List Int):Option (((List Int)×Unit)×Unit):=
 Aa (decide (0<=qI ((a0.length:Int)+(b1.length:Int)))&&decide (qI ((a0.length:Int)+(b1.length:Int))<=qI ((a0.length:Int)+(b1.length:Int)))&&decide (qI ((a0.length:Int)+(b1.length:Int))<=Az)) (
 (An Nj (b1,List.replicate (qI ((a0.length:Int)+(b1.length:Int))).toNat (0:Int),a0,(a0.length:Int),0,())).bind fun y1=>
 cond (Ex.same y1.1 (Ex.exit 0))
 ((DP y1.2.2.1).bind fun r2=>
 some ((r2.1.1,()),()))
 (none))
def Nu (x0:Rt) (y1:Rt):Option ((Rt×Unit)×Unit):=
 (HA x0.2.1 y1.2.1).bind fun r1=>
 (HA x0.2.2 y1.2.2).bind fun r2=>
 (F6 (!(x0.1==y1.1)) r1.1.1 r2.1.1).bind fun r3=>
 some (((r3.1.1.1,r3.1.1.2.1,r3.1.1.2.2),()),())
def IB (x0:Rt) (y1:Rt):Option ((qBs×Unit)×Unit):=
 (Nu (x0.1,x0.2.1,x0.2.2) (y1.1,y1.2.2,y1.2.1)).bind fun r1=>
 (Ga (r1.1.1.1,r1.1.1.2.1,r1.1.1.2.2)).bind fun r2=>
 some ((r2.1.1,()),())
def Mg (a0:qBs) (b1:qBs) (small2:Unit) (all3:Unit):Option ((qBs×Unit)×Unit):=
 (GQ a0).bind fun r1=>
 (GQ b1).bind fun r2=>
 cond (r1.1.2.1)
 (cond (r2.1.2.1)
 ((KT (r1.1.1.1,r1.1.1.2) (r2.1.1.1,r2.1.1.2)).bind fun r3=>
 some ((r3.1.1,()),()))
 ((DY a0).bind fun r4=>
 (DY b1).bind fun r5=>
 cond (!r4.1.2.1)
 (some ((([]:qBs),()),()))
 (cond (!r5.1.2.1)
 (some ((([]:qBs),()),()))
 ((IB (r4.1.1.1,r4.1.1.2.1,r4.1.1.2.2) (r5.1.1.1,r5.1.1.2.1,r5.1.1.2.2)).bind fun r6=>
 some ((r6.1.1,()),())))))
 ((DY a0).bind fun r7=>
 (DY b1).bind fun r8=>
 cond (!r7.1.2.1)
 (some ((([]:qBs),()),()))
 (cond (!r8.1.2.1)
 (some ((([]:qBs),()),()))
 ((IB (r7.1.1.1,r7.1.1.2.1,r7.1.1.2.2) (r8.1.1.1,r8.1.1.2.1,r8.1.1.2.2)).bind fun r9=>
 some ((r9.1.1,()),()))))
def LP (a0:qBs) (b1:qBs):Option ((qBs×Unit)×Unit):=
 cond (b1==([48]:qBs))
 (some ((([]:qBs),()),()))
 ((Mg a0 b1 () ()).bind fun r1=>
 some ((r1.1.1,()),()))
def KJ (a0:List Ab) (b1:List Ab):Option (((List Ab)×Int×Unit)×Unit):=
 (Ey a0).bind fun r1=>
 cond (!r1.1.1)
 (some ((([]:List Ab),8,()),()))
 ((Ey b1).bind fun r2=>
 cond (!r2.1.1)
 (some ((([]:List Ab),8,()),()))
 (Aa (decide (0<=(0:Int))&&decide ((0:Int) < a0.length)) (
 Aa (decide (0<=(0:Int))&&decide ((0:Int) < b1.length)) (
 cond ((((a0.getD (0:Int).toNat Am).2).1) !=(((b1.getD (0:Int).toNat Am).2).1))
 (some ((([]:List Ab),8,()),()))
 (Aa (decide (0<=(0:Int))&&decide ((0:Int) < b1.length)) (
 cond ((((((b1.getD (0:Int).toNat Am).2).2).2).1)==([48]:qBs))
 (some ((([]:List Ab),8,()),()))
 (Aa (decide (0<=(0:Int))&&decide ((0:Int) < a0.length)) (
 Aa (decide (0<=(0:Int))&&decide ((0:Int) < b1.length)) (
 (LP (((((a0.getD (0:Int).toNat Am).2).2).2).1) (((((b1.getD (0:Int).toNat Am).2).2).2).1)).bind fun r3=>
 (CY (3,3,([]:qBs),r3.1.1,(0:Int))).bind fun r4=>
 some ((r4.1.1,0,()),()))))))))))
def Is (r0:(List (Int×qBs×Ad))×List (qBs×qBs×Af)) (op1:Int) (a2:List Ab) (i3:Int):Option (((List Ab)×Int×Unit)×(((List (Int×qBs×Ad))×List (qBs×qBs×Af))×Unit)):=
 Aa (decide (0<=i3)&&decide (i3 < r0.1.length)) (
 cond (((r0.1.getD i3.toNat ((0:Int),([]:qBs),(0:Int),(0:Int))).1) !=(2:Int))
 (some ((([]:List Ab),8,()),r0,()))
 (cond ((((r0.1.getD i3.toNat ((0:Int),([]:qBs),(0:Int),(0:Int))).2).1)==([48]:qBs))
 (some ((([]:List Ab),8,()),r0,()))
 ((B6 (op1,(0:Int),([]:qBs),((r0.1.getD i3.toNat ((0:Int),([]:qBs),(0:Int),(0:Int))).2).1,(0:Int)) ([a2]:List (List Ab))).bind fun r1=>
 some ((r1.1.1,r1.1.2.1,()),r0,()))))
def H9 (n0:Ab):Option ((qBs×Unit)×Unit):=
 cond (n0.1==6)
 (some ((([110,111,116]:qBs),()),()))
 (cond (n0.1==7)
 (some ((([97,110,100]:qBs),()),()))
 (cond (n0.1==8)
 (some ((([111,114]:qBs),()),()))
 (cond (n0.1==9)
 (some ((([61,62]:qBs),()),()))
 (cond (n0.1==10)
 (some ((([105,116,101]:qBs),()),()))
 (cond (n0.1==11)
 (some ((([61]:qBs),()),()))
 (cond (n0.1==12)
 (some ((([60,61]:qBs),()),()))
 (cond (n0.1==13)
 (some ((([60]:qBs),()),()))
 (cond (n0.1==14)
 (some ((([43]:qBs),()),()))
 (cond (n0.1==15)
 (some ((([42]:qBs),()),()))
 (cond (n0.1==16)
 (some ((([100,105,118]:qBs),()),()))
 (cond (n0.1==17)
 (some ((([109,111,100]:qBs),()),()))
 (cond (n0.1==18)
 (some ((([115,101,108,101,99,116]:qBs),()),()))
 (cond (n0.1==19)
 (some ((([115,116,111,114,101]:qBs),()),()))
 (cond (n0.1==20)
 (some ((([99,111,110,115,116]:qBs),()),()))
 (some ((n0.2.2.1,()),()))))))))))))))))
def M0 (x:((List (Int×qBs×Ad))×List (qBs×qBs×Af))×(List Ab)×Int×(qBs×Af)×(List Ab)×Int×(List (List Ab))×Int×Int×Unit):Option (Ex×(((List (Int×qBs×Ad))×List (qBs×qBs×Af))×(List Ab)×Int×(qBs×Af)×(List Ab)×Int×(List (List Ab))×Int×Int×Unit)):=
 let r0:=x.1
 let t6:=x.2.1
 let t7:=x.2.2.1
 let f8:=x.2.2.2.1
 let t9:=x.2.2.2.2.1
 let e10:=x.2.2.2.2.2.1
 let t28:=x.2.2.2.2.2.2.1
 let t29:=x.2.2.2.2.2.2.2.1
 let t30:=x.2.2.2.2.2.2.2.2.1
 cond (decide (t30 < t29))
 (Aa (decide (0<=t30)&&decide (t30 < t28.length)) (
 (ES (t28.getD t30.toNat ([]:List Ab))).bind fun r1=>
 Aa (decide (0<=t30)&&decide (t30 < f8.2.1.length)) (
 cond (r1.1.1 !=(f8.2.1.getD t30.toNat (0:Int)))
 (some (Ex.ret,(r0,([]:List Ab),3,f8,t9,e10,t28,t29,t30,())))
 (some (Ex.normal,(r0,t6,t7,f8,t9,e10,t28,t29,qI (t30+1),()))))))
 (some (Ex.exit 0,(r0,t6,t7,f8,t9,e10,t28,t29,t30,())))
def J5 (r0:(List (Int×qBs×Ad))×List (qBs×qBs×Af)) (name1:qBs) (l2:List (List Ab)):Option (((List Ab)×Int×Unit)×(((List (Int×qBs×Ad))×List (qBs×qBs×Af))×Unit)):=
 (B6 (5,(((AG name1 r0.2).getD (([]:qBs),([]:List Int),(0:Int))).2).2,name1,([]:qBs),(0:Int)) l2).bind fun r1=>
 (An M0 (r0,([]:List Ab),0,(AG name1 r0.2).getD (([]:qBs),([]:List Int),(0:Int)),r1.1.1,r1.1.2.1,l2,(l2.length:Int),0,())).bind fun y2=>
 cond (Ex.same y2.1 (Ex.exit 0))
 (some ((y2.2.2.2.2.2.1,y2.2.2.2.2.2.2.1,()),y2.2.1,()))
 (cond (Ex.same y2.1 Ex.ret)
 (some ((y2.2.2.1,y2.2.2.2.1,()),y2.2.1,()))
 (none))
def Mc (x:((List (Int×qBs×Ad))×List (qBs×qBs×Af))×qBs×(List (List Ab))×(List Ab)×Int×Int×Unit):Option (Ex×(((List (Int×qBs×Ad))×List (qBs×qBs×Af))×qBs×(List (List Ab))×(List Ab)×Int×Int×Unit)):=
 let r0:=x.1
 let word1:=x.2.1
 let l3:=x.2.2.1
 let t8:=x.2.2.2.1
 let t9:=x.2.2.2.2.1
 let op12:=x.2.2.2.2.2.1
 cond (decide (op12<=20))
 ((H9 (op12,(0:Int),([]:qBs),([]:qBs),(0:Int))).bind fun r1=>
 cond (r1.1.1==word1)
 ((B6 (op12,(0:Int),([]:qBs),([]:qBs),(0:Int)) l3).bind fun r2=>
 some (Ex.ret,(r0,word1,l3,r2.1.1,r2.1.2.1,op12,())))
 (some (Ex.normal,(r0,word1,l3,t8,t9,qI (op12+1),()))))
 (some (Ex.exit 1,(r0,word1,l3,t8,t9,op12,())))
def GI (r0:(List (Int×qBs×Ad))×List (qBs×qBs×Af)) (word1:qBs) (kids2:List Int) (l3:List (List Ab)):Option (((List Ab)×Int×Unit)×(((List (Int×qBs×Ad))×List (qBs×qBs×Af))×Unit)):=
 cond (word1==([42]:qBs))
 (Aa (decide (0<=(0:Int))&&decide ((0:Int) < l3.length)) (
 Aa (decide (0<=(1:Int))&&decide ((1:Int) < l3.length)) (
 (KH (l3.getD (0:Int).toNat ([]:List Ab)) (l3.getD (1:Int).toNat ([]:List Ab))).bind fun r1=>
 some ((r1.1.1,r1.1.2.1,()),r0,()))))
 (cond (word1==([45]:qBs))
 ((Jl l3).bind fun r2=>
 some ((r2.1.1,r2.1.2.1,()),r0,()))
 (cond (word1==([47]:qBs))
 (Aa (decide (0<=(0:Int))&&decide ((0:Int) < l3.length)) (
 Aa (decide (0<=(1:Int))&&decide ((1:Int) < l3.length)) (
 (KJ (l3.getD (0:Int).toNat ([]:List Ab)) (l3.getD (1:Int).toNat ([]:List Ab))).bind fun r3=>
 some ((r3.1.1,r3.1.2.1,()),r0,()))))
 (cond (word1==([100,105,118]:qBs))
 (Aa (decide (0<=(0:Int))&&decide ((0:Int) < l3.length)) (
 Aa (decide (0<=(1:Int))&&decide ((1:Int) < kids2.length)) (
 (Is r0 16 (l3.getD (0:Int).toNat ([]:List Ab)) (kids2.getD (1:Int).toNat (0:Int))).bind fun r4=>
 some ((r4.1.1,r4.1.2.1,()),r4.2.1,()))))
 (cond (word1==([109,111,100]:qBs))
 (Aa (decide (0<=(0:Int))&&decide ((0:Int) < l3.length)) (
 Aa (decide (0<=(1:Int))&&decide ((1:Int) < kids2.length)) (
 (Is r0 17 (l3.getD (0:Int).toNat ([]:List Ab)) (kids2.getD (1:Int).toNat (0:Int))).bind fun r5=>
 some ((r5.1.1,r5.1.2.1,()),r5.2.1,()))))
 (cond (word1==([62]:qBs))
 (Aa (decide (0<=(1:Int))&&decide ((1:Int) < l3.length)) (
 Aa (decide (0<=(0:Int))&&decide ((0:Int) < l3.length)) (
 (B6 (13,(0:Int),([]:qBs),([]:qBs),(0:Int)) ([l3.getD (1:Int).toNat ([]:List Ab),l3.getD (0:Int).toNat ([]:List Ab)]:List (List Ab))).bind fun r6=>
 some ((r6.1.1,r6.1.2.1,()),r0,()))))
 (cond (word1==([62,61]:qBs))
 (Aa (decide (0<=(1:Int))&&decide ((1:Int) < l3.length)) (
 Aa (decide (0<=(0:Int))&&decide ((0:Int) < l3.length)) (
 (B6 (12,(0:Int),([]:qBs),([]:qBs),(0:Int)) ([l3.getD (1:Int).toNat ([]:List Ab),l3.getD (0:Int).toNat ([]:List Ab)]:List (List Ab))).bind fun r7=>
 some ((r7.1.1,r7.1.2.1,()),r0,()))))
 (cond (word1==([100,105,115,116,105,110,99,116]:qBs))
 ((B6 (11,(0:Int),([]:qBs),([]:qBs),(0:Int)) l3).bind fun r8=>
 cond (r8.1.2.1 !=(0:Int))
 (some ((([]:List Ab),r8.1.2.1,()),r0,()))
 ((B6 (6,(0:Int),([]:qBs),([]:qBs),(0:Int)) ([r8.1.1]:List (List Ab))).bind fun r9=>
 some ((r9.1.1,r9.1.2.1,()),r0,())))
 ((An Mc (r0,word1,l3,([]:List Ab),0,6,())).bind fun y10=>
 cond (Ex.same y10.1 (Ex.exit 1))
 ((J5 y10.2.1 y10.2.2.1 y10.2.2.2.1).bind fun r11=>
 some ((r11.1.1,r11.1.2.1,()),r11.2.1,()))
 (cond (Ex.same y10.1 Ex.ret)
 (some ((y10.2.2.2.2.1,y10.2.2.2.2.2.1,()),y10.2.1,()))
 (none))))))))))
def J3 (x:((List (Int×qBs×Ad))×List (qBs×qBs×Af))×(List qBs)×(List Int)×Bool×(List qBs)×(List Int)×(List (qBs×Bool))×(List Int)×Int×Int×Unit):Option (Ex×(((List (Int×qBs×Ad))×List (qBs×qBs×Af))×(List qBs)×(List Int)×Bool×(List qBs)×(List Int)×(List (qBs×Bool))×(List Int)×Int×Int×Unit)):=
 let r0:=x.1
 let t4:=x.2.1
 let t5:=x.2.2.1
 let t6:=x.2.2.2.1
 let names7:=x.2.2.2.2.1
 let items8:=x.2.2.2.2.2.1
 let seen9:=x.2.2.2.2.2.2.1
 let t37:=x.2.2.2.2.2.2.2.1
 let t38:=x.2.2.2.2.2.2.2.2.1
 let t39:=x.2.2.2.2.2.2.2.2.2.1
 cond (decide (t39 < t38))
 (Aa (decide (0<=t39)&&decide (t39 < t37.length)) (
 Aa (decide (0<=t37.getD t39.toNat (0:Int))&&decide (t37.getD t39.toNat (0:Int) < r0.1.length)) (
 cond (((r0.1.getD (t37.getD t39.toNat (0:Int)).toNat ((0:Int),([]:qBs),(0:Int),(0:Int))).1) !=(5:Int))
 (some (Ex.ret,(r0,([]:List qBs),([]:List Int),false,names7,items8,seen9,t37,t38,t39,())))
 (Aa (decide (0<=t37.getD t39.toNat (0:Int))&&decide (t37.getD t39.toNat (0:Int) < r0.1.length)) (
 cond (((((r0.1.getD (t37.getD t39.toNat (0:Int)).toNat ((0:Int),([]:qBs),(0:Int),(0:Int))).2).2).1) !=(2:Int))
 (some (Ex.ret,(r0,([]:List qBs),([]:List Int),false,names7,items8,seen9,t37,t38,t39,())))
 ((F5 r0 (t37.getD t39.toNat (0:Int))).bind fun r1=>
 Aa (decide (0<=(0:Int))&&decide ((0:Int) < r1.1.1.length)) (
 Aa (decide (0<=r1.1.1.getD (0:Int).toNat (0:Int))&&decide (r1.1.1.getD (0:Int).toNat (0:Int) < r1.2.1.1.length)) (
 cond (((r1.2.1.1.getD (r1.1.1.getD (0:Int).toNat (0:Int)).toNat ((0:Int),([]:qBs),(0:Int),(0:Int))).1) !=(1:Int))
 (some (Ex.ret,(r1.2.1,([]:List qBs),([]:List Int),false,names7,items8,seen9,t37,t38,t39,())))
 ((BM (((r1.2.1.1.getD (r1.1.1.getD (0:Int).toNat (0:Int)).toNat ((0:Int),([]:qBs),(0:Int),(0:Int))).2).1)).bind fun r2=>
 cond (!r2.1.1)
 (some (Ex.ret,(r1.2.1,([]:List qBs),([]:List Int),false,names7,items8,seen9,t37,t38,t39,())))
 (cond ((AG (((r1.2.1.1.getD (r1.1.1.getD (0:Int).toNat (0:Int)).toNat ((0:Int),([]:qBs),(0:Int),(0:Int))).2).1) seen9).getD false)
 (some (Ex.ret,(r1.2.1,([]:List qBs),([]:List Int),false,names7,items8,seen9,t37,t38,t39,())))
 (Aa (decide (names7.length+([((r1.2.1.1.getD (r1.1.1.getD (0:Int).toNat (0:Int)).toNat ((0:Int),([]:qBs),(0:Int),(0:Int))).2).1]:List qBs).length<=Az)) (Aa (decide (0<=(1:Int))&&decide ((1:Int) < r1.1.1.length)) (Aa (decide (items8.length+([r1.1.1.getD (1:Int).toNat (0:Int)]:List Int).length<=Az)) (some (Ex.normal,(r1.2.1,t4,t5,t6,names7++([((r1.2.1.1.getD (r1.1.1.getD (0:Int).toNat (0:Int)).toNat ((0:Int),([]:qBs),(0:Int),(0:Int))).2).1]:List qBs),items8++([r1.1.1.getD (1:Int).toNat (0:Int)]:List Int),AZ (((r1.2.1.1.getD (r1.1.1.getD (0:Int).toNat (0:Int)).toNat ((0:Int),([]:qBs),(0:Int),(0:Int))).2).1) true seen9,t37,t38,qI (t39+1),()))))))))))))))))
 (some (Ex.exit 0,(r0,t4,t5,t6,names7,items8,seen9,t37,t38,t39,())))
def JF (r0:(List (Int×qBs×Ad))×List (qBs×qBs×Af)) (i1:Int):Option (((List qBs)×(List Int)×Bool×Unit)×(((List (Int×qBs×Ad))×List (qBs×qBs×Af))×Unit)):=
 Aa (decide (0<=i1)&&decide (i1 < r0.1.length)) (
 cond (((r0.1.getD i1.toNat ((0:Int),([]:qBs),(0:Int),(0:Int))).1) !=(5:Int))
 (some ((([]:List qBs),([]:List Int),false,()),r0,()))
 (Aa (decide (0<=i1)&&decide (i1 < r0.1.length)) (
 cond (((((r0.1.getD i1.toNat ((0:Int),([]:qBs),(0:Int),(0:Int))).2).2).1)==0)
 (some ((([]:List qBs),([]:List Int),false,()),r0,()))
 ((F5 r0 i1).bind fun r1=>
 (An J3 (r1.2.1,([]:List qBs),([]:List Int),false,([]:List qBs),([]:List Int),([]:List (qBs×Bool)),r1.1.1,(r1.1.1.length:Int),0,())).bind fun y2=>
 cond (Ex.same y2.1 (Ex.exit 0))
 (some ((y2.2.2.2.2.2.1,y2.2.2.2.2.2.2.1,true,()),y2.2.1,()))
 (cond (Ex.same y2.1 Ex.ret)
 (some ((y2.2.2.1,y2.2.2.2.1,y2.2.2.2.2.1,()),y2.2.1,()))
 (none))))))
def My (U8:((List (Int×qBs×Ad))×List (qBs×qBs×Af))->Int->(List (qBs×List Ab))->Option (((List Ab)×Ad×Unit)×(((List (Int×qBs×Ad))×List (qBs×qBs×Af))×Unit))) (U7:((List (Int×qBs×Ad))×List (qBs×qBs×Af))->Int->(List (qBs×List Ab))->Option (((List Ab)×Ad×Unit)×(((List (Int×qBs×Ad))×List (qBs×qBs×Af))×Unit))) (U6:((List (Int×qBs×Ad))×List (qBs×qBs×Af))->Int->List Int->(List (qBs×List Ab))->Option (((List Ab)×Ad×Unit)×(((List (Int×qBs×Ad))×List (qBs×qBs×Af))×Unit))) (r0:(List (Int×qBs×Ad))×List (qBs×qBs×Af)) (i1:Int) (s2:List (qBs×List Ab)):Option (((List Ab)×Ad×Unit)×(((List (Int×qBs×Ad))×List (qBs×qBs×Af))×Unit)):=
 Aa (decide (0<=i1)&&decide (i1 < r0.1.length)) (
 cond (((r0.1.getD i1.toNat ((0:Int),([]:qBs),(0:Int),(0:Int))).1)==2)
 ((CY (3,2,([]:qBs),((r0.1.getD i1.toNat ((0:Int),([]:qBs),(0:Int),(0:Int))).2).1,(0:Int))).bind fun r1=>
 some ((r1.1.1,((0:Int),(0:Int)),()),r0,()))
 (cond (((r0.1.getD i1.toNat ((0:Int),([]:qBs),(0:Int),(0:Int))).1)==3)
 ((LR (((r0.1.getD i1.toNat ((0:Int),([]:qBs),(0:Int),(0:Int))).2).1)).bind fun r2=>
 (CY (3,3,([]:qBs),r2.1.1,(0:Int))).bind fun r3=>
 some ((r3.1.1,((0:Int),(0:Int)),()),r0,()))
 (cond (((r0.1.getD i1.toNat ((0:Int),([]:qBs),(0:Int),(0:Int))).1)==1)
 ((M8 (((r0.1.getD i1.toNat ((0:Int),([]:qBs),(0:Int),(0:Int))).2).1) i1 s2).bind fun r4=>
 some ((r4.1.1,r4.1.2.1,()),r0,()))
 (cond (((r0.1.getD i1.toNat ((0:Int),([]:qBs),(0:Int),(0:Int))).1)==5)
 ((U7 r0 i1 s2).bind fun r5=>
 some ((r5.1.1,r5.1.2.1,()),r5.2.1,()))
 (some ((([]:List Ab),(2,i1),()),r0,()))))))
def GV (U8:((List (Int×qBs×Ad))×List (qBs×qBs×Af))->Int->(List (qBs×List Ab))->Option (((List Ab)×Ad×Unit)×(((List (Int×qBs×Ad))×List (qBs×qBs×Af))×Unit))) (U7:((List (Int×qBs×Ad))×List (qBs×qBs×Af))->Int->(List (qBs×List Ab))->Option (((List Ab)×Ad×Unit)×(((List (Int×qBs×Ad))×List (qBs×qBs×Af))×Unit))) (U6:((List (Int×qBs×Ad))×List (qBs×qBs×Af))->Int->List Int->(List (qBs×List Ab))->Option (((List Ab)×Ad×Unit)×(((List (Int×qBs×Ad))×List (qBs×qBs×Af))×Unit))) (x:((List (Int×qBs×Ad))×List (qBs×qBs×Af))×Int×(List (qBs×List Ab))×(List Ab)×Ad×(List Int)×qBs×(List (List Ab))×(List Int)×Int×Int×Unit):Option (Ex×(((List (Int×qBs×Ad))×List (qBs×qBs×Af))×Int×(List (qBs×List Ab))×(List Ab)×Ad×(List Int)×qBs×(List (List Ab))×(List Int)×Int×Int×Unit)):=
 let r0:=x.1
 let i1:=x.2.1
 let s2:=x.2.2.1
 let t6:=x.2.2.2.1
 let t7:=x.2.2.2.2.1
 let kids8:=x.2.2.2.2.2.1
 let word9:=x.2.2.2.2.2.2.1
 let terms14:=x.2.2.2.2.2.2.2.1
 let t95:=x.2.2.2.2.2.2.2.2.1
 let t96:=x.2.2.2.2.2.2.2.2.2.1
 let t97:=x.2.2.2.2.2.2.2.2.2.2.1
 cond (decide (t97 < t96))
 (Aa (decide (0<=t97)&&decide (t97 < t95.length)) (
 (U8 r0 (t95.getD t97.toNat (0:Int)) s2).bind fun r1=>
 cond (r1.1.2.1.1 !=(0:Int))
 (some (Ex.ret,(r1.2.1,i1,s2,([]:List Ab),r1.1.2.1,kids8,word9,terms14,t95,t96,t97,())))
 (Aa (decide (terms14.length+([r1.1.1]:List (List Ab)).length<=Az)) (some (Ex.normal,(r1.2.1,i1,s2,t6,t7,kids8,word9,terms14++([r1.1.1]:List (List Ab)),t95,t96,qI (t97+1),()))))))
 (some (Ex.exit 0,(r0,i1,s2,t6,t7,kids8,word9,terms14,t95,t96,t97,())))
def MU (U8:((List (Int×qBs×Ad))×List (qBs×qBs×Af))->Int->(List (qBs×List Ab))->Option (((List Ab)×Ad×Unit)×(((List (Int×qBs×Ad))×List (qBs×qBs×Af))×Unit))) (U7:((List (Int×qBs×Ad))×List (qBs×qBs×Af))->Int->(List (qBs×List Ab))->Option (((List Ab)×Ad×Unit)×(((List (Int×qBs×Ad))×List (qBs×qBs×Af))×Unit))) (U6:((List (Int×qBs×Ad))×List (qBs×qBs×Af))->Int->List Int->(List (qBs×List Ab))->Option (((List Ab)×Ad×Unit)×(((List (Int×qBs×Ad))×List (qBs×qBs×Af))×Unit))) (r0:(List (Int×qBs×Ad))×List (qBs×qBs×Af)) (i1:Int) (s2:List (qBs×List Ab)):Option (((List Ab)×Ad×Unit)×(((List (Int×qBs×Ad))×List (qBs×qBs×Af))×Unit)):=
 (F5 r0 i1).bind fun r1=>
 cond ((r1.1.1.length:Int)==0)
 (some ((([]:List Ab),(2,i1),()),r1.2.1,()))
 (Aa (decide (0<=(0:Int))&&decide ((0:Int) < r1.1.1.length)) (
 Aa (decide (0<=r1.1.1.getD (0:Int).toNat (0:Int))&&decide (r1.1.1.getD (0:Int).toNat (0:Int) < r1.2.1.1.length)) (
 cond (((r1.2.1.1.getD (r1.1.1.getD (0:Int).toNat (0:Int)).toNat ((0:Int),([]:qBs),(0:Int),(0:Int))).1) !=(1:Int))
 (some ((([]:List Ab),(2,i1),()),r1.2.1,()))
 (Aa (decide (0<=(0:Int))&&decide ((0:Int) < r1.1.1.length)) (
 Aa (decide (0<=r1.1.1.getD (0:Int).toNat (0:Int))&&decide (r1.1.1.getD (0:Int).toNat (0:Int) < r1.2.1.1.length)) (
 (MN r1.2.1 (((r1.2.1.1.getD (r1.1.1.getD (0:Int).toNat (0:Int)).toNat ((0:Int),([]:qBs),(0:Int),(0:Int))).2).1)).bind fun r2=>
 Aa (decide (0<=(1:Int))&&decide ((1:Int)<=r1.1.1.length)) (
 cond (!r2.1.2.2.1)
 (some ((([]:List Ab),(2,i1),()),r2.2.1,()))
 (cond (decide (((r1.1.1.drop (1:Int).toNat).length:Int) < r2.1.1))
 (some ((([]:List Ab),(2,i1),()),r2.2.1,()))
 (cond (decide (((r1.1.1.drop (1:Int).toNat).length:Int) > r2.1.2.1))
 (some ((([]:List Ab),(2,i1),()),r2.2.1,()))
 (cond ((((r1.2.1.1.getD (r1.1.1.getD (0:Int).toNat (0:Int)).toNat ((0:Int),([]:qBs),(0:Int),(0:Int))).2).1)==([108,101,116]:qBs))
 ((U6 r2.2.1 i1 (r1.1.1.drop (1:Int).toNat) s2).bind fun r3=>
 some ((r3.1.1,r3.1.2.1,()),r3.2.1,()))
 (cond ((((r1.2.1.1.getD (r1.1.1.getD (0:Int).toNat (0:Int)).toNat ((0:Int),([]:qBs),(0:Int),(0:Int))).2).1)==([100,105,118]:qBs))
 (Aa (decide (0<=(1:Int))&&decide ((1:Int)<=(r1.1.1.drop (1:Int).toNat).length)) (
 (An (GV U8 U7 U6) (r2.2.1,i1,s2,([]:List Ab),((0:Int),(0:Int)),r1.1.1.drop (1:Int).toNat,((r1.2.1.1.getD (r1.1.1.getD (0:Int).toNat (0:Int)).toNat ((0:Int),([]:qBs),(0:Int),(0:Int))).2).1,([]:List (List Ab)),(r1.1.1.drop (1:Int).toNat).take (1:Int).toNat,(((r1.1.1.drop (1:Int).toNat).take (1:Int).toNat).length:Int),0,())).bind fun y4=>
 cond (Ex.same y4.1 (Ex.exit 0))
 ((GI y4.2.1 y4.2.2.2.2.2.2.2.1 y4.2.2.2.2.2.2.1 y4.2.2.2.2.2.2.2.2.1).bind fun r5=>
 cond (r5.1.2.1 !=(0:Int))
 (some ((([]:List Ab),(r5.1.2.1,y4.2.2.1),()),r5.2.1,()))
 (some ((r5.1.1,((0:Int),(0:Int)),()),r5.2.1,())))
 (cond (Ex.same y4.1 Ex.ret)
 (some ((y4.2.2.2.2.1,y4.2.2.2.2.2.1,()),y4.2.1,()))
 (none))))
 (cond ((((r1.2.1.1.getD (r1.1.1.getD (0:Int).toNat (0:Int)).toNat ((0:Int),([]:qBs),(0:Int),(0:Int))).2).1)==([109,111,100]:qBs))
 (Aa (decide (0<=(1:Int))&&decide ((1:Int)<=(r1.1.1.drop (1:Int).toNat).length)) (
 (An (GV U8 U7 U6) (r2.2.1,i1,s2,([]:List Ab),((0:Int),(0:Int)),r1.1.1.drop (1:Int).toNat,((r1.2.1.1.getD (r1.1.1.getD (0:Int).toNat (0:Int)).toNat ((0:Int),([]:qBs),(0:Int),(0:Int))).2).1,([]:List (List Ab)),(r1.1.1.drop (1:Int).toNat).take (1:Int).toNat,(((r1.1.1.drop (1:Int).toNat).take (1:Int).toNat).length:Int),0,())).bind fun y6=>
 cond (Ex.same y6.1 (Ex.exit 0))
 ((GI y6.2.1 y6.2.2.2.2.2.2.2.1 y6.2.2.2.2.2.2.1 y6.2.2.2.2.2.2.2.2.1).bind fun r7=>
 cond (r7.1.2.1 !=(0:Int))
 (some ((([]:List Ab),(r7.1.2.1,y6.2.2.1),()),r7.2.1,()))
 (some ((r7.1.1,((0:Int),(0:Int)),()),r7.2.1,())))
 (cond (Ex.same y6.1 Ex.ret)
 (some ((y6.2.2.2.2.1,y6.2.2.2.2.2.1,()),y6.2.1,()))
 (none))))
 ((An (GV U8 U7 U6) (r2.2.1,i1,s2,([]:List Ab),((0:Int),(0:Int)),r1.1.1.drop (1:Int).toNat,((r1.2.1.1.getD (r1.1.1.getD (0:Int).toNat (0:Int)).toNat ((0:Int),([]:qBs),(0:Int),(0:Int))).2).1,([]:List (List Ab)),r1.1.1.drop (1:Int).toNat,((r1.1.1.drop (1:Int).toNat).length:Int),0,())).bind fun y8=>
 cond (Ex.same y8.1 (Ex.exit 0))
 ((GI y8.2.1 y8.2.2.2.2.2.2.2.1 y8.2.2.2.2.2.2.1 y8.2.2.2.2.2.2.2.2.1).bind fun r9=>
 cond (r9.1.2.1 !=(0:Int))
 (some ((([]:List Ab),(r9.1.2.1,y8.2.2.1),()),r9.2.1,()))
 (some ((r9.1.1,((0:Int),(0:Int)),()),r9.2.1,())))
 (cond (Ex.same y8.1 Ex.ret)
 (some ((y8.2.2.2.2.1,y8.2.2.2.2.2.1,()),y8.2.1,()))
 (none)))))))))))))))
def NM (U8:((List (Int×qBs×Ad))×List (qBs×qBs×Af))->Int->(List (qBs×List Ab))->Option (((List Ab)×Ad×Unit)×(((List (Int×qBs×Ad))×List (qBs×qBs×Af))×Unit))) (U7:((List (Int×qBs×Ad))×List (qBs×qBs×Af))->Int->(List (qBs×List Ab))->Option (((List Ab)×Ad×Unit)×(((List (Int×qBs×Ad))×List (qBs×qBs×Af))×Unit))) (U6:((List (Int×qBs×Ad))×List (qBs×qBs×Af))->Int->List Int->(List (qBs×List Ab))->Option (((List Ab)×Ad×Unit)×(((List (Int×qBs×Ad))×List (qBs×qBs×Af))×Unit))) (x:((List (Int×qBs×Ad))×List (qBs×qBs×Af))×(List Int)×(List (qBs×List Ab))×(List Ab)×Ad×(List qBs)×(List (qBs×List Ab))×(List Int)×Int×Int×Unit):Option (Ex×(((List (Int×qBs×Ad))×List (qBs×qBs×Af))×(List Int)×(List (qBs×List Ab))×(List Ab)×Ad×(List qBs)×(List (qBs×List Ab))×(List Int)×Int×Int×Unit)):=
 let r0:=x.1
 let kids2:=x.2.1
 let s3:=x.2.2.1
 let t8:=x.2.2.2.1
 let t9:=x.2.2.2.2.1
 let names10:=x.2.2.2.2.2.1
 let inner13:=x.2.2.2.2.2.2.1
 let t32:=x.2.2.2.2.2.2.2.1
 let t33:=x.2.2.2.2.2.2.2.2.1
 let t34:=x.2.2.2.2.2.2.2.2.2.1
 cond (decide (t34 < t33))
 (Aa (decide (0<=t34)&&decide (t34 < t32.length)) (
 (U8 r0 (t32.getD t34.toNat (0:Int)) s3).bind fun r1=>
 cond (r1.1.2.1.1 !=(0:Int))
 (some (Ex.ret,(r1.2.1,kids2,s3,([]:List Ab),r1.1.2.1,names10,inner13,t32,t33,t34,())))
 (Aa (decide (0<=t34)&&decide (t34 < names10.length)) (some (Ex.normal,(r1.2.1,kids2,s3,t8,t9,names10,(names10.getD t34.toNat ([]:qBs),r1.1.1)::inner13,t32,t33,qI (t34+1),()))))))
 (some (Ex.exit 0,(r0,kids2,s3,t8,t9,names10,inner13,t32,t33,t34,())))
def Me (U8:((List (Int×qBs×Ad))×List (qBs×qBs×Af))->Int->(List (qBs×List Ab))->Option (((List Ab)×Ad×Unit)×(((List (Int×qBs×Ad))×List (qBs×qBs×Af))×Unit))) (U7:((List (Int×qBs×Ad))×List (qBs×qBs×Af))->Int->(List (qBs×List Ab))->Option (((List Ab)×Ad×Unit)×(((List (Int×qBs×Ad))×List (qBs×qBs×Af))×Unit))) (U6:((List (Int×qBs×Ad))×List (qBs×qBs×Af))->Int->List Int->(List (qBs×List Ab))->Option (((List Ab)×Ad×Unit)×(((List (Int×qBs×Ad))×List (qBs×qBs×Af))×Unit))) (r0:(List (Int×qBs×Ad))×List (qBs×qBs×Af)) (i1:Int) (kids2:List Int) (s3:List (qBs×List Ab)):Option (((List Ab)×Ad×Unit)×(((List (Int×qBs×Ad))×List (qBs×qBs×Af))×Unit)):=
 Aa (decide (0<=(0:Int))&&decide ((0:Int) < kids2.length)) (
 (JF r0 (kids2.getD (0:Int).toNat (0:Int))).bind fun r1=>
 cond (!r1.1.2.2.1)
 (some ((([]:List Ab),(2,i1),()),r1.2.1,()))
 ((An (NM U8 U7 U6) (r1.2.1,kids2,s3,([]:List Ab),((0:Int),(0:Int)),r1.1.1,s3,r1.1.2.1,(r1.1.2.1.length:Int),0,())).bind fun y2=>
 cond (Ex.same y2.1 (Ex.exit 0))
 (Aa (decide (0<=(1:Int))&&decide ((1:Int) < y2.2.2.1.length)) (
 (U8 y2.2.1 (y2.2.2.1.getD (1:Int).toNat (0:Int)) y2.2.2.2.2.2.2.2.1).bind fun r3=>
 some ((r3.1.1,r3.1.2.1,()),r3.2.1,())))
 (cond (Ex.same y2.1 Ex.ret)
 (some ((y2.2.2.2.2.1,y2.2.2.2.2.2.1,()),y2.2.1,()))
 (none))))
def B1:Nat->(((List (Int×qBs×Ad))×List (qBs×qBs×Af))->Int->(List (qBs×List Ab))->Option (((List Ab)×Ad×Unit)×(((List (Int×qBs×Ad))×List (qBs×qBs×Af))×Unit)))×(((List (Int×qBs×Ad))×List (qBs×qBs×Af))->Int->(List (qBs×List Ab))->Option (((List Ab)×Ad×Unit)×(((List (Int×qBs×Ad))×List (qBs×qBs×Af))×Unit)))×(((List (Int×qBs×Ad))×List (qBs×qBs×Af))->Int->List Int->(List (qBs×List Ab))->Option (((List Ab)×Ad×Unit)×(((List (Int×qBs×Ad))×List (qBs×qBs×Af))×Unit)))
 |0=>(fun _ _ _=>none,fun _ _ _=>none,fun _ _ _ _=>none)
 |n+1=>(My (B1 n).1 (B1 n).2.1 (B1 n).2.2,MU (B1 n).1 (B1 n).2.1 (B1 n).2.2,Me (B1 n).1 (B1 n).2.1 (B1 n).2.2)
def Et (n:Nat):((List (Int×qBs×Ad))×List (qBs×qBs×Af))->Int->(List (qBs×List Ab))->Option (((List Ab)×Ad×Unit)×(((List (Int×qBs×Ad))×List (qBs×qBs×Af))×Unit)):=(B1 n).1
def EO (n:Nat):((List (Int×qBs×Ad))×List (qBs×qBs×Af))->Int->(List (qBs×List Ab))->Option (((List Ab)×Ad×Unit)×(((List (Int×qBs×Ad))×List (qBs×qBs×Af))×Unit)):=(B1 n).2.1
def E_ (n:Nat):((List (Int×qBs×Ad))×List (qBs×qBs×Af))->Int->List Int->(List (qBs×List Ab))->Option (((List Ab)×Ad×Unit)×(((List (Int×qBs×Ad))×List (qBs×qBs×Af))×Unit)):=(B1 n).2.2
def Le (l0:List (Int×qBs×Ad)) (i1:Int) (vars2:List Vr) (funcs3:List (qBs×Af)):Option (((List Ab)×Int×Int×Unit)×Unit):=
 (LZ vars2 funcs3).bind fun r1=>
 cond (!r1.1.2.2.1)
 (some ((([]:List Ab),0,1,()),()))
 ((Hm l0).bind fun r2=>
 cond (!r2.1.1)
 (some ((([]:List Ab),0,1,()),()))
 (cond (decide (i1 < (0:Int)))
 (some ((([]:List Ab),0,1,()),()))
 (cond (decide (i1>=(l0.length:Int)))
 (some ((([]:List Ab),0,1,()),()))
 ((Et BV (l0,r1.1.2.1) i1 r1.1.1).bind fun r3=>
 cond (r3.1.2.1.1 !=(0:Int))
 (some ((([]:List Ab),r3.1.2.1.2,r3.1.2.1.1,()),()))
 (Aa (decide (r3.1.1.length<=Az)) (some ((r3.1.1,0,0,()),())))))))
def Iw (src0:qBs) (vars1:List Vr) (funcs2:List (qBs×Af)):Option (((List Ab)×Int×Int×Unit)×Unit):=
 (Jp src0).bind fun r1=>
 cond (r1.1.2.2.1 !=(0:Int))
 (some ((([]:List Ab),r1.1.2.1,r1.1.2.2.1,()),()))
 ((MO r1.1.1).bind fun r2=>
 cond ((r2.1.1.length:Int)==0)
 (some ((([]:List Ab),(src0.length:Int),2,()),()))
 (cond (decide ((r2.1.1.length:Int) > (1:Int)))
 (Aa (decide (0<=(1:Int))&&decide ((1:Int) < r2.1.1.length)) (Aa (decide (0<=r2.1.1.getD (1:Int).toNat (0:Int))&&decide (r2.1.1.getD (1:Int).toNat (0:Int) < r1.1.1.length)) (some ((([]:List Ab),(((r1.1.1.getD (r2.1.1.getD (1:Int).toNat (0:Int)).toNat ((0:Int),([]:qBs),(0:Int),(0:Int))).2).2).2,2,()),()))))
 ((Le r1.1.1 0 vars1 funcs2).bind fun r3=>
 cond (r3.1.2.2.1==0)
 (some ((r3.1.1,0,r3.1.2.2.1,()),()))
 (cond (r3.1.2.2.1==1)
 (some ((r3.1.1,0,r3.1.2.2.1,()),()))
 (Aa (decide (0<=r3.1.2.1)&&decide (r3.1.2.1 < r1.1.1.length)) (some ((([]:List Ab),(((r1.1.1.getD r3.1.2.1.toNat ((0:Int),([]:qBs),(0:Int),(0:Int))).2).2).2,r3.1.2.2.1,()),())))))))
def Lk (a0:qBs):Option ((qBs×Unit)×Unit):=
 (DV a0).bind fun r1=>
 cond (!r1.1.1)
 (some ((([]:qBs),()),()))
 ((strings_Cut a0 ([47]:qBs)).bind fun r2=>
 some ((r2.1.1,()),()))
def NG (a0:qBs):Option ((qBs×Unit)×Unit):=
 (DV a0).bind fun r1=>
 cond (!r1.1.1)
 (some ((([]:qBs),()),()))
 ((strings_Cut a0 ([47]:qBs)).bind fun r2=>
 cond (r2.1.2.2.1)
 (some ((r2.1.2.1,()),()))
 (some ((([49]:qBs),()),())))
def Lc (U5:Int->qBs->Option ((qBs×Unit)×Unit)) (sort0:Int) (a1:qBs):Option ((qBs×Unit)×Unit):=
 (Ea a1).bind fun r1=>
 cond (decide (r1.1.1 < (0:Int)))
 ((Hy a1).bind fun r2=>
 (U5 sort0 r2.1.1).bind fun r3=>
 Aa (decide (([40,45,32]:qBs).length+r3.1.1.length<=AR)) (Aa (decide ((([40,45,32]:qBs)++r3.1.1).length+([41]:qBs).length<=AR)) (some (((([40,45,32]:qBs)++r3.1.1)++([41]:qBs),()),()))))
 (cond (sort0==2)
 (some ((a1,()),()))
 ((Fy a1).bind fun r4=>
 cond (r4.1.1)
 (Aa (decide (a1.length+([46,48]:qBs).length<=AR)) (some ((a1++([46,48]:qBs),()),())))
 ((Lk a1).bind fun r5=>
 Aa (decide (([40,47,32]:qBs).length+r5.1.1.length<=AR)) (
 Aa (decide ((([40,47,32]:qBs)++r5.1.1).length+([46,48,32]:qBs).length<=AR)) (
 (NG a1).bind fun r6=>
 Aa (decide (((([40,47,32]:qBs)++r5.1.1)++([46,48,32]:qBs)).length+r6.1.1.length<=AR)) (Aa (decide ((((([40,47,32]:qBs)++r5.1.1)++([46,48,32]:qBs))++r6.1.1).length+([46,48,41]:qBs).length<=AR)) (some (((((([40,47,32]:qBs)++r5.1.1)++([46,48,32]:qBs))++r6.1.1)++([46,48,41]:qBs),()),()))))))))
def Fr:Nat->Int->qBs->Option ((qBs×Unit)×Unit)
 |0=>fun _ _=>none
 |n+1=>Lc (Fr n)
def I6 (U9:Option AL->(Unit×List Int)->Int->Option ((Unit)×((Unit×List Int)×Unit))) (x:(Option AL)×(Unit×List Int)×Ab×(List Int)×Int×Int×Unit):Option (Ex×((Option AL)×(Unit×List Int)×Ab×(List Int)×Int×Int×Unit)):=
 let v0:=x.1
 let b1:=x.2.1
 let n6:=x.2.2.1
 let t25:=x.2.2.2.1
 let t26:=x.2.2.2.2.1
 let t27:=x.2.2.2.2.2.1
 cond (decide (t27 < t26))
 (Aa (decide (0<=t27)&&decide (t27 < t25.length)) (
 (DU ((),b1.2) 32).bind fun r1=>
 (U9 v0 ((),r1.2.1.2) (t25.getD t27.toNat (0:Int))).bind fun r2=>
 some (Ex.normal,(v0,((),r2.2.1.2),n6,t25,t26,qI (t27+1),()))))
 (some (Ex.exit 1,(v0,((),b1.2),n6,t25,t26,t27,())))
def KD (U9:Option AL->(Unit×List Int)->Int->Option ((Unit)×((Unit×List Int)×Unit))) (v0:Option AL) (b1:Unit×List Int) (i2:Int):Option ((Unit)×((Unit×List Int)×Unit)):=
 Aa (v0.isSome) (
 Aa (decide (0<=i2)&&decide (i2 < ((v0.getD AT).1).length)) (
 cond (((((v0.getD AT).1).getD i2.toNat Am).1)==1)
 ((Cy ((),b1.2) ([116,114,117,101]:qBs)).bind fun r1=>
 some ((),((),r1.2.1.2),()))
 (cond (((((v0.getD AT).1).getD i2.toNat Am).1)==2)
 ((Cy ((),b1.2) ([102,97,108,115,101]:qBs)).bind fun r2=>
 some ((),((),r2.2.1.2),()))
 (cond (((((v0.getD AT).1).getD i2.toNat Am).1)==3)
 ((Fr BV (((((v0.getD AT).1).getD i2.toNat Am).2).1) (((((((v0.getD AT).1).getD i2.toNat Am).2).2).2).1)).bind fun r3=>
 (Cy ((),b1.2) r3.1.1).bind fun r4=>
 some ((),((),r4.2.1.2),()))
 (cond (((((v0.getD AT).1).getD i2.toNat Am).1)==4)
 ((Cy ((),b1.2) ((((((v0.getD AT).1).getD i2.toNat Am).2).2).1)).bind fun r5=>
 some ((),((),r5.2.1.2),()))
 ((H9 (((v0.getD AT).1).getD i2.toNat Am)).bind fun r6=>
 Aa (decide (([40]:qBs).length+r6.1.1.length<=AR)) (
 (Cy ((),b1.2) (([40]:qBs)++r6.1.1)).bind fun r7=>
 (IW v0 i2).bind fun r8=>
 (An (I6 U9) (v0,((),r7.2.1.2),((v0.getD AT).1).getD i2.toNat Am,r8.1.1,(r8.1.1.length:Int),0,())).bind fun y9=>
 cond (Ex.same y9.1 (Ex.exit 1))
 (cond (!(y9.2.2.2.1.2.2.2.1==([]:qBs)))
 (Aa (decide (([32]:qBs).length+y9.2.2.2.1.2.2.2.1.length<=AR)) (
 (Cy ((),y9.2.2.1.2) (([32]:qBs)++y9.2.2.2.1.2.2.2.1)).bind fun r10=>
 (DU ((),r10.2.1.2) 41).bind fun r11=>
 some ((),((),r11.2.1.2),())))
 ((DU ((),y9.2.2.1.2) 41).bind fun r12=>
 some ((),((),r12.2.1.2),())))
 (none))))))))
def Fk:Nat->Option AL->(Unit×List Int)->Int->Option ((Unit)×((Unit×List Int)×Unit))
 |0=>fun _ _ _=>none
 |n+1=>KD (Fk n)
def LA (t0:List Ab):Option ((qBs×Unit)×Unit):=
 (Ij t0).bind fun r1=>
 cond (!r1.1.2.1)
 (some ((([]:qBs),()),()))
 ((Fk BV r1.1.1 ((),([]:List Int)) 0).bind fun r2=>
 (EP ((),r2.2.1.2)).bind fun r3=>
 some ((r3.1.1,()),()))
def FB:Option ((Bool×Unit)×Unit):=
 (Iw ([40,60,61,32,40,43,32,120,32,49,41,32,121,41]:qBs) ([(([120]:qBs),2),(([121]:qBs),2)]:List Vr) ([]:List (qBs×Af))).bind fun r1=>
 (Iw ([40,42,32,120,32,121,41]:qBs) ([(([120]:qBs),2),(([121]:qBs),2)]:List Vr) ([]:List (qBs×Af))).bind fun r2=>
 cond (r1.1.2.2.1==0)
 (cond ((r1.1.1.length:Int)==5)
 (Aa (decide (0<=(0:Int))&&decide ((0:Int) < r1.1.1.length)) (
 cond (((r1.1.1.getD (0:Int).toNat Am).1)==12)
 ((ES r1.1.1).bind fun r3=>
 cond (r3.1.1==1)
 (cond (r2.1.2.2.1==8)
 (cond (r2.1.2.1==0)
 ((LA ([(3,3,([]:qBs),([45,51,47,52]:qBs),(0:Int))]:List Ab)).bind fun r4=>
 some ((r4.1.1==([40,45,32,40,47,32,51,46,48,32,52,46,48,41,41]:qBs),()),()))
 (some ((false,()),())))
 (some ((false,()),())))
 (some ((false,()),())))
 (some ((false,()),()))))
 (some ((false,()),())))
 (some ((false,()),()))
def GX:Option (((List qBs)×Unit)×Unit):=
 some ((([([97,110,100]:qBs),([111,114]:qBs),([110,111,116]:qBs),([105,116,101]:qBs),([116,114,117,101]:qBs),([102,97,108,115,101]:qBs),([108,101,116]:qBs),([102,111,114,97,108,108]:qBs),([101,120,105,115,116,115]:qBs),([100,105,115,116,105,110,99,116]:qBs),([100,105,118]:qBs),([109,111,100]:qBs),([115,101,108,101,99,116]:qBs),([115,116,111,114,101]:qBs),([99,111,110,115,116]:qBs),([66,111,111,108]:qBs),([73,110,116]:qBs),([82,101,97,108]:qBs),([65,114,114,97,121]:qBs)]:List qBs),()),())
def EZ (x:(List qBs)×qBs×Bool×Int×Unit):Option (Ex×((List qBs)×qBs×Bool×Int×Unit)):=
 let l0:=x.1
 let s1:=x.2.1
 let t4:=x.2.2.1
 let i5:=x.2.2.2.1
 cond (decide (i5 < (l0.length:Int)))
 (Aa (decide (0<=i5)&&decide (i5 < l0.length)) (
 cond ((l0.getD i5.toNat ([]:qBs))==s1)
 (some (Ex.ret,(l0,s1,true,i5,())))
 (some (Ex.normal,(l0,s1,t4,qI (i5+1),())))))
 (some (Ex.exit 0,(l0,s1,t4,i5,())))
def Gd (l0:List qBs) (s1:qBs):Option ((Bool×Unit)×Unit):=
 (An EZ (l0,s1,false,0,())).bind fun y1=>
 cond (Ex.same y1.1 (Ex.exit 0))
 (some ((false,()),()))
 (cond (Ex.same y1.1 Ex.ret)
 (some ((y1.2.2.2.1,()),()))
 (none))
def FU (c0:Int):Option ((Bool×Unit)×Unit):=
 cond (decide (c0>=97))
 (cond (decide (c0<=122))
 (some ((true,()),()))
 (cond (decide (c0>=65))
 (some ((decide (c0<=90),()),()))
 (some ((false,()),()))))
 (cond (decide (c0>=65))
 (some ((decide (c0<=90),()),()))
 (some ((false,()),())))
def E7 (x:qBs×Bool×Int×Unit):Option (Ex×(qBs×Bool×Int×Unit)):=
 let s0:=x.1
 let t2:=x.2.1
 let i3:=x.2.2.1
 cond (decide (i3 < (s0.length:Int)))
 (Aa (decide (0<=i3)&&decide (i3 < s0.length)) (
 (FU ((s0.getD i3.toNat 0).toNat:Int)).bind fun r1=>
 cond (r1.1.1)
 (some (Ex.normal,(s0,t2,qI (i3+1),())))
 (cond (((s0.getD i3.toNat 0).toNat:Int)==95)
 (some (Ex.normal,(s0,t2,qI (i3+1),())))
 (cond (((s0.getD i3.toNat 0).toNat:Int)==36)
 (some (Ex.normal,(s0,t2,qI (i3+1),())))
 (cond (!(((s0.getD i3.toNat 0).toNat:Int)==33))
 (cond (i3==0)
 (some (Ex.ret,(s0,false,i3,())))
 (cond (decide (((s0.getD i3.toNat 0).toNat:Int) < (48:Int)))
 (cond (((s0.getD i3.toNat 0).toNat:Int) !=(46:Int))
 (cond (((s0.getD i3.toNat 0).toNat:Int) !=(64:Int))
 (some (Ex.ret,(s0,false,i3,())))
 (some (Ex.normal,(s0,t2,qI (i3+1),()))))
 (some (Ex.normal,(s0,t2,qI (i3+1),()))))
 (cond (decide (((s0.getD i3.toNat 0).toNat:Int) > (57:Int)))
 (cond (((s0.getD i3.toNat 0).toNat:Int) !=(46:Int))
 (cond (((s0.getD i3.toNat 0).toNat:Int) !=(64:Int))
 (some (Ex.ret,(s0,false,i3,())))
 (some (Ex.normal,(s0,t2,qI (i3+1),()))))
 (some (Ex.normal,(s0,t2,qI (i3+1),()))))
 (some (Ex.normal,(s0,t2,qI (i3+1),()))))))
 (some (Ex.normal,(s0,t2,qI (i3+1),()))))))))
 (some (Ex.exit 0,(s0,t2,i3,())))
def CF (s0:qBs):Option ((Bool×Unit)×Unit):=
 cond (s0==([]:qBs))
 (some ((false,()),()))
 (cond (decide ((s0.length:Int) > (40:Int)))
 (some ((false,()),()))
 (GX.bind fun r1=>
 (Gd r1.1.1 s0).bind fun r2=>
 cond (r2.1.1)
 (some ((false,()),()))
 ((An E7 (s0,false,0,())).bind fun y3=>
 cond (Ex.same y3.1 (Ex.exit 0))
 (some ((true,()),()))
 (cond (Ex.same y3.1 Ex.ret)
 (some ((y3.2.2.1,()),()))
 (none)))))
def Fi (x:qBs×Int×qBs×Int×Unit):Option (Ex×(qBs×Int×qBs×Int×Unit)):=
 let s0:=x.1
 let n1:=x.2.1
 let long5:=x.2.2.1
 let i6:=x.2.2.2.1
 (Ed n1 6).bind fun r1=>
 cond (decide (i6 < (qI ((37:Int)+r1.1.1))))
 (Aa (decide (long5.length+([49]:qBs).length<=AR)) (some (Ex.normal,(s0,n1,long5++([49]:qBs),qI (i6+1),()))))
 (some (Ex.exit 0,(s0,n1,long5,i6,())))
def Gn (s0:qBs) (n1:Int):Option ((Bool×Unit)×Unit):=
 (An Fi (s0,n1,([120]:qBs),0,())).bind fun y1=>
 cond (Ex.same y1.1 (Ex.exit 0))
 ((Ed y1.2.2.1 (([([97,110,100]:qBs),([105,116,101]:qBs),([73,110,116]:qBs),([100,105,118]:qBs),([99,111,110,115,116]:qBs),([120]:qBs),([95]:qBs),([36,97]:qBs),([33]:qBs),([120,46,121,64,122]:qBs),([49,120]:qBs),([]:qBs),([97,45,98]:qBs),([64]:qBs),([100,105,115,116,105,110,99,116,49]:qBs)]:List qBs).length:Int)).bind fun r2=>
 Aa (decide (0<=r2.1.1)&&decide (r2.1.1 < ([([97,110,100]:qBs),([105,116,101]:qBs),([73,110,116]:qBs),([100,105,118]:qBs),([99,111,110,115,116]:qBs),([120]:qBs),([95]:qBs),([36,97]:qBs),([33]:qBs),([120,46,121,64,122]:qBs),([49,120]:qBs),([]:qBs),([97,45,98]:qBs),([64]:qBs),([100,105,115,116,105,110,99,116,49]:qBs)]:List qBs).length)) (
 cond (decide ((y1.2.1.length:Int) > (100:Int)))
 (FB.bind fun r3=>
 cond (r3.1.1)
 (some ((true,()),()))
 (cond (decide ((y1.2.1.length:Int)<=100))
 ((BM y1.2.1).bind fun r4=>
 (CF y1.2.1).bind fun r5=>
 cond (r4.1.1==r5.1.1)
 ((BM y1.2.2.2.1).bind fun r6=>
 (CF y1.2.2.2.1).bind fun r7=>
 cond (r6.1.1==r7.1.1)
 ((BM (([([97,110,100]:qBs),([105,116,101]:qBs),([73,110,116]:qBs),([100,105,118]:qBs),([99,111,110,115,116]:qBs),([120]:qBs),([95]:qBs),([36,97]:qBs),([33]:qBs),([120,46,121,64,122]:qBs),([49,120]:qBs),([]:qBs),([97,45,98]:qBs),([64]:qBs),([100,105,115,116,105,110,99,116,49]:qBs)]:List qBs).getD r2.1.1.toNat ([]:qBs))).bind fun r8=>
 (CF (([([97,110,100]:qBs),([105,116,101]:qBs),([73,110,116]:qBs),([100,105,118]:qBs),([99,111,110,115,116]:qBs),([120]:qBs),([95]:qBs),([36,97]:qBs),([33]:qBs),([120,46,121,64,122]:qBs),([49,120]:qBs),([]:qBs),([97,45,98]:qBs),([64]:qBs),([100,105,115,116,105,110,99,116,49]:qBs)]:List qBs).getD r2.1.1.toNat ([]:qBs))).bind fun r9=>
 cond (r8.1.1==r9.1.1)
 (FB.bind fun r10=>
 some ((r10.1.1,()),()))
 (some ((false,()),())))
 (some ((false,()),())))
 (some ((false,()),())))
 (some ((false,()),()))))
 (cond (decide ((y1.2.1.length:Int)<=100))
 ((BM y1.2.1).bind fun r11=>
 (CF y1.2.1).bind fun r12=>
 cond (r11.1.1==r12.1.1)
 ((BM y1.2.2.2.1).bind fun r13=>
 (CF y1.2.2.2.1).bind fun r14=>
 cond (r13.1.1==r14.1.1)
 ((BM (([([97,110,100]:qBs),([105,116,101]:qBs),([73,110,116]:qBs),([100,105,118]:qBs),([99,111,110,115,116]:qBs),([120]:qBs),([95]:qBs),([36,97]:qBs),([33]:qBs),([120,46,121,64,122]:qBs),([49,120]:qBs),([]:qBs),([97,45,98]:qBs),([64]:qBs),([100,105,115,116,105,110,99,116,49]:qBs)]:List qBs).getD r2.1.1.toNat ([]:qBs))).bind fun r15=>
 (CF (([([97,110,100]:qBs),([105,116,101]:qBs),([73,110,116]:qBs),([100,105,118]:qBs),([99,111,110,115,116]:qBs),([120]:qBs),([95]:qBs),([36,97]:qBs),([33]:qBs),([120,46,121,64,122]:qBs),([49,120]:qBs),([]:qBs),([97,45,98]:qBs),([64]:qBs),([100,105,115,116,105,110,99,116,49]:qBs)]:List qBs).getD r2.1.1.toNat ([]:qBs))).bind fun r16=>
 cond (r15.1.1==r16.1.1)
 (FB.bind fun r17=>
 some ((r17.1.1,()),()))
 (some ((false,()),())))
 (some ((false,()),())))
 (some ((false,()),())))
 (some ((false,()),())))))
 (none)
end
end Go.AM.Num
end
section
namespace Go.AM
open Go.Proofs Go.RowKit
attribute [local go_sem] Oper.semAt_some
theorem MJ {xs:List Int} {k:Nat} (h:k < xs.length):xs.zipIdx.reverse[k]?=some (xs[xs.length - 1 - k],xs.length - 1 - k):=by
 rw[List.getElem?_reverse (by simpa using h)]
 simp only[List.length_zipIdx,List.getElem?_zipIdx,Nat.zero_add]
 rw[qZ5 (by omega)]
 rfl
set_option maxHeartbeats 1000000 in
theorem O2 (F:Fence) (n:Nat) (h:F.fn 94) (hro:F.round=none) (v:Value) (w:World) (hv:v.oneCell'=true) :
 CallsIn F n Tryz.prog 94 #[v] w fun e w'=>e=.returned (.func (.func 134) #[] #[.pointer (some ⟨w.heap.size,0,none⟩)])/\∃ ty,w'=w.alloc (.cells #[v] ty):=by
 cases v<;>(try (simp[Value.oneCell'] at hv;done))
 all_goals refine callsIn_of_wp Tryz.func94 rfl h ?_ hro
 all_goals simp only[Tryz.ntmps94,List.size_toArray,qY11,List.length_nil,Nat.reduceAdd,Nat.reduceSub,Array.replicate_succ,Array.replicate_zero,List.push_toArray,List.append_toArray,List.nil_append,qY5]
 all_goals gi_wp2
 all_goals go_ret
 all_goals exact ⟨rfl,_,rfl⟩
theorem Qs:Eh Tryz.prog 94 134:=by
 refine ⟨⟨_,Tryz.func94,by decide,rfl⟩,fun v w hv=>(callsIn_wide (n:=0)).1 (CallsIn.mono (O2 Fence.wide 0 trivial rfl v w hv) ?_)⟩
 rintro e w' ⟨rfl,ty,rfl⟩
 exact ⟨ty,rfl,Ext.alloc _ _,by simp,World.alloc_heap_new _ _⟩
set_option maxRecDepth 100000 in
set_option maxHeartbeats 2000000 in
theorem T3 (F:Fence) (n:Nat) (h8:F.fn 134) (hro:F.round=none) (hn:1<=n) (Bs ob:Nat) (ad:Option Addr) (cap:Nat) (xs:List Int) (W:World) (l:Nat) (J:Nat->World->Prop) (hlen:xs.length<=2 ^ 40) (hBs:W.cell? ⟨Bs,ob,none⟩=some (.slice ad xs.length cap))
 (hcs:xs≠[]->∃ b off,ad=some ⟨b,off,none⟩/\∀ (k:Nat) x,xs[k]?=some x->W.cell? ⟨b,off+k,none⟩=some (.int .i64 x))
 (hY:∀ (k:Nat) x W1,xs.zipIdx.reverse[k]?=some x->J k W1->YieldAt F (n - 1) Tryz.prog l (Df .i64 x) W1 fun e W'=>e=.returned (.bool true)/\J (k+1) W'/\FA Bs (ad.map (·.block)) W1 W') (h0:J 0 W) :
 CallsIn F n Tryz.prog 134 #[.func (.yield l) #[] #[],.pointer (some ⟨Bs,ob,none⟩)] W fun e W'=>(∃ v,e=.returned v)/\J xs.length W':=by
 refine callsIn_of_wp Tryz.func134 rfl h8 ?_ hro
 simp only[Tryz.ntmps134,List.size_toArray,qY11,List.length_nil,Nat.reduceAdd,Nat.reduceSub,Array.replicate_succ,Array.replicate_zero,List.push_toArray,List.append_toArray,List.nil_append,qY5]
 gi_wp2
 gi_loopw [3] (fun i wr=>∃ k:Nat,k<=xs.length/\i=.int .i64 ((xs.length:Int) - 1 - k)/\J k wr/\FA Bs (ad.map (·.block)) W wr)
  (fun i _=>((RowKit.intOf i)+1).toNat)
 case atStart=>exact ⟨0,Nat.zero_le _,by simp,h0,⟨Nat.le_refl _,rfl,fun _ _=>rfl⟩⟩
 case round=>
  obtain ⟨k,hk,rfl,hJk,hnx⟩:=hrel
  by_cases hlt:k < xs.length
  ·have hz:=MJ hlt
   obtain ⟨fn,tmps,assign,body,hy,hR⟩:=hY k _ wr hz hJk
   dsimp only[Df] at hy
   have hix:((xs.length - 1 - k:Nat):Int)=(xs.length:Int) - 1 - k:=by omega
   rw[hix] at hy
   have hBx:wr.cell? ⟨Bs,ob,none⟩=some (.slice ad xs.length cap):=by rw[<-hBs];simp only[World.cell?,hnx.2.1]
   obtain ⟨b,off,rfl,hcell⟩:=hcs (by intro e;rw[e] at hlt;simp at hlt)
   have hcx:wr.cell? ⟨b,off+(xs.length - 1 - k),none⟩=some (.int .i64 (xs[xs.length - 1 - k]'(by omega))):=by
    rw[<-hcell (xs.length - 1 - k) _ (qZ5 (by omega))]
    simp only[World.cell?,hnx.2.2 b rfl]
   gi_wp2
   refine hR.mono ?_
   rintro e W3 ⟨rfl,hJ3,hk3⟩
   gi_wp2
   go_roundw
   case rel=>exact ⟨k+1,by omega,by simp;omega,hJ3,⟨Nat.le_trans hnx.1 hk3.1,hk3.2.1.trans hnx.2.1,fun j hj=>(hk3.2.2 j hj).trans (hnx.2.2 j hj)⟩⟩
   case measure=>simp[RowKit.intOf];omega
  ·obtain rfl:k=xs.length:=by omega
   gi_wp2
   go_end0
   exact ⟨⟨_,rfl⟩,hJk⟩
theorem Qo:GC Tryz.prog 134 .i64:=
 ⟨⟨_,Tryz.func134,by decide,rfl⟩,fun Bs ob ad cap xs W l J hlen hBs hcs hY h0=>(callsIn_wide (n:=0)).2 ((callsIn_wide (n:=1)).1 (T3 Fence.wide 1 trivial rfl (Nat.le_refl _) Bs ob ad cap xs W l J hlen hBs hcs hY h0))⟩
set_option maxHeartbeats 1000000 in
theorem Tb (F:Fence) (n:Nat) (h:F.fn 229) (hro:F.round=none) (v:Value) (w:World) (hv:v.oneCell'=true) :
 CallsIn F n Tryz.prog 229 #[v] w fun e w'=>e=.returned (.func (.func 250) #[] #[.pointer (some ⟨w.heap.size,0,none⟩)])/\∃ ty,w'=w.alloc (.cells #[v] ty):=by
 cases v<;>(try (simp[Value.oneCell'] at hv;done))
 all_goals refine callsIn_of_wp Tryz.func229 rfl h ?_ hro
 all_goals simp only[Tryz.ntmps229,List.size_toArray,qY11,List.length_nil,Nat.reduceAdd,Nat.reduceSub,Array.replicate_succ,Array.replicate_zero,List.push_toArray,List.append_toArray,List.nil_append,qY5]
 all_goals gi_wp2
 all_goals go_ret
 all_goals exact ⟨rfl,_,rfl⟩
theorem T2:Eh Tryz.prog 229 250:=by
 refine ⟨⟨_,Tryz.func229,by decide,rfl⟩,fun v w hv=>(callsIn_wide (n:=0)).1 (CallsIn.mono (Tb Fence.wide 0 trivial rfl v w hv) ?_)⟩
 rintro e w' ⟨rfl,ty,rfl⟩
 exact ⟨ty,rfl,Ext.alloc _ _,by simp,World.alloc_heap_new _ _⟩
set_option maxRecDepth 100000 in
set_option maxHeartbeats 2000000 in
theorem R4 (F:Fence) (n:Nat) (h8:F.fn 250) (hro:F.round=none) (hn:1<=n) (Bs ob:Nat) (ad:Option Addr) (cap:Nat) (xs:List Int) (W:World) (l:Nat) (J:Nat->World->Prop) (hlen:xs.length<=2 ^ 40) (hBs:W.cell? ⟨Bs,ob,none⟩=some (.slice ad xs.length cap))
 (hcs:xs≠[]->∃ b off,ad=some ⟨b,off,none⟩/\∀ (k:Nat) x,xs[k]?=some x->W.cell? ⟨b,off+k,none⟩=some (.int .u32 x))
 (hY:∀ (k:Nat) x W1,xs.zipIdx.reverse[k]?=some x->J k W1->YieldAt F (n - 1) Tryz.prog l (Df .u32 x) W1 fun e W'=>e=.returned (.bool true)/\J (k+1) W'/\FA Bs (ad.map (·.block)) W1 W') (h0:J 0 W) :
 CallsIn F n Tryz.prog 250 #[.func (.yield l) #[] #[],.pointer (some ⟨Bs,ob,none⟩)] W fun e W'=>(∃ v,e=.returned v)/\J xs.length W':=by
 refine callsIn_of_wp Tryz.func250 rfl h8 ?_ hro
 simp only[Tryz.ntmps250,List.size_toArray,qY11,List.length_nil,Nat.reduceAdd,Nat.reduceSub,Array.replicate_succ,Array.replicate_zero,List.push_toArray,List.append_toArray,List.nil_append,qY5]
 gi_wp2
 gi_loopw [3] (fun i wr=>∃ k:Nat,k<=xs.length/\i=.int .i64 ((xs.length:Int) - 1 - k)/\J k wr/\FA Bs (ad.map (·.block)) W wr)
  (fun i _=>((RowKit.intOf i)+1).toNat)
 case atStart=>exact ⟨0,Nat.zero_le _,by simp,h0,⟨Nat.le_refl _,rfl,fun _ _=>rfl⟩⟩
 case round=>
  obtain ⟨k,hk,rfl,hJk,hnx⟩:=hrel
  by_cases hlt:k < xs.length
  ·have hz:=MJ hlt
   obtain ⟨fn,tmps,assign,body,hy,hR⟩:=hY k _ wr hz hJk
   dsimp only[Df] at hy
   have hix:((xs.length - 1 - k:Nat):Int)=(xs.length:Int) - 1 - k:=by omega
   rw[hix] at hy
   have hBx:wr.cell? ⟨Bs,ob,none⟩=some (.slice ad xs.length cap):=by rw[<-hBs];simp only[World.cell?,hnx.2.1]
   obtain ⟨b,off,rfl,hcell⟩:=hcs (by intro e;rw[e] at hlt;simp at hlt)
   have hcx:wr.cell? ⟨b,off+(xs.length - 1 - k),none⟩=some (.int .u32 (xs[xs.length - 1 - k]'(by omega))):=by
    rw[<-hcell (xs.length - 1 - k) _ (qZ5 (by omega))]
    simp only[World.cell?,hnx.2.2 b rfl]
   gi_wp2
   refine hR.mono ?_
   rintro e W3 ⟨rfl,hJ3,hk3⟩
   gi_wp2
   go_roundw
   case rel=>exact ⟨k+1,by omega,by simp;omega,hJ3,⟨Nat.le_trans hnx.1 hk3.1,hk3.2.1.trans hnx.2.1,fun j hj=>(hk3.2.2 j hj).trans (hnx.2.2 j hj)⟩⟩
   case measure=>simp[RowKit.intOf];omega
  ·obtain rfl:k=xs.length:=by omega
   gi_wp2
   go_end0
   exact ⟨⟨_,rfl⟩,hJk⟩
theorem Qd:GC Tryz.prog 250 .u32:=
 ⟨⟨_,Tryz.func250,by decide,rfl⟩,fun Bs ob ad cap xs W l J hlen hBs hcs hY h0=>(callsIn_wide (n:=0)).2 ((callsIn_wide (n:=1)).1 (R4 Fence.wide 1 trivial rfl (Nat.le_refl _) Bs ob ad cap xs W l J hlen hBs hcs hY h0))⟩
end Go.AM
end
section
namespace Go.AM.Num
open Go.Proofs
set_option maxRecDepth 100000
noncomputable section
def SW:List (Nat×TI):=[(3,⟨.int .i64,1,8,some (.int .i64)⟩),(9,⟨.str,1,16,some .str⟩),(30,⟨.slice 28,1,24,some (.sl Ak)⟩),(29,⟨.slice 3,1,24,some (.sl (.int .i64))⟩),(28,⟨.struct [(0,3),(1,3),(2,9),(3,9),(4,3)],5,56,some Ak⟩),(191,⟨.slice 212,1,24,some (.sl (.int .u32))⟩),(212,⟨.int .u32,1,4,some (.int .u32)⟩),(93,⟨.slice 98,1,24,some (.sl (.pair (.int .i64) (.pair .str As)))⟩),(98,⟨.struct [(0,3),(1,9),(2,3),(3,3)],4,40,some (.pair (.int .i64) (.pair .str As))⟩),(148,⟨.struct [(0,93),(1,124)],2,32,some (.pair (.sl (.pair (.int .i64) (.pair .str As))) (.map (.pair .str AE)))⟩),(32,⟨.slice 30,1,24,some (.sl (.sl Ak))⟩),(242,⟨.int .u64,1,8,some (.int .u64)⟩),(193,⟨.struct [(0,4),(1,191),(2,191)],3,56,some CW⟩),(4,⟨.bool,1,1,some .bool⟩),(82,⟨.struct [(0,30),(1,80)],2,48,some BL⟩),(139,⟨.struct [(0,9),(1,3),(2,93),(3,29)],4,72,some (.pair .str (.pair (.int .i64) (.pair (.sl (.pair (.int .i64) (.pair .str As))) (.sl (.int .i64)))))⟩),(127,⟨.struct [(0,9),(1,29),(2,3)],3,48,some (.pair .str AE)⟩),(102,⟨.struct [(0,100),(1,65)],2,32,some (.pair (.ptr .unit) (.sl (.int .u8)))⟩),(124,⟨.map 9 127,1,8,some (.map (.pair .str AE))⟩),(35,⟨.int .i64,1,8,some (.int .i64)⟩),(150,⟨.struct [(0,35),(1,3)],2,16,some As⟩),(79,⟨.struct [(0,3),(1,3),(2,3)],3,24,some (.pair (.int .i64) As)⟩),(80,⟨.slice 79,1,24,some (.sl (.pair (.int .i64) As))⟩),(23,⟨.slice 9,1,24,some (.sl .str)⟩),(65,⟨.slice 5,1,24,some (.sl (.int .u8))⟩),(5,⟨.int .u8,1,1,some (.int .u8)⟩),(187,⟨.struct [(0,2),(1,2)],2,16,some As⟩),(143,⟨.pointer 180,1,8,some (.chain (.pair .str (.sl Ak)))⟩),(49,⟨.struct [(0,9),(1,3)],2,24,some BZ⟩),(50,⟨.slice 49,1,24,some (.sl BZ)⟩),(180,⟨.struct [(0,9),(1,30),(2,143)],3,48,some (.pair .str (.pair (.sl Ak) (.chain (.pair .str (.sl Ak)))))⟩),(2,⟨.int .i64,1,8,some (.int .i64)⟩),(72,⟨.slice 127,1,24,some (.sl (.pair .str AE))⟩),(47,⟨.int .u64,1,8,some (.int .u64)⟩),(69,⟨.pointer 82,1,8,some (.ptr BL)⟩),(123,⟨.map 9 49,1,8,some (.map BZ)⟩),(253,⟨.map 9 4,1,8,some (.map .bool)⟩)]
theorem Ag:Dw Tryz.prog SW:=
 (AI (AH Tryz.underlying3 Tryz.type3 rfl rfl rfl (fun g hg=>by cases hg;exact ⟨rfl,rfl,rfl⟩))
 (AI (AH Tryz.underlying9 Tryz.type9 rfl rfl rfl (fun g hg=>by cases hg;exact ⟨rfl,rfl,rfl⟩))
 (AI (AH Tryz.underlying30 Tryz.type30 rfl rfl rfl (fun g hg=>by cases hg;exact ⟨rfl,rfl,rfl⟩))
 (AI (AH Tryz.underlying29 Tryz.type29 rfl rfl rfl (fun g hg=>by cases hg;exact ⟨rfl,rfl,rfl⟩))
 (AI (AH Tryz.underlying28 Tryz.type28 rfl rfl rfl (fun g hg=>by cases hg;exact ⟨rfl,rfl,rfl⟩))
 (AI (AH Tryz.underlying191 Tryz.type191 rfl rfl rfl (fun g hg=>by cases hg;exact ⟨rfl,rfl,rfl⟩))
 (AI (AH Tryz.underlying212 Tryz.type212 rfl rfl rfl (fun g hg=>by cases hg;exact ⟨rfl,rfl,rfl⟩))
 (AI (AH Tryz.underlying93 Tryz.type93 rfl rfl rfl (fun g hg=>by cases hg;exact ⟨rfl,rfl,rfl⟩))
 (AI (AH Tryz.underlying98 Tryz.type98 rfl rfl rfl (fun g hg=>by cases hg;exact ⟨rfl,rfl,rfl⟩))
 (AI (AH Tryz.underlying148 Tryz.type148 rfl rfl rfl (fun g hg=>by cases hg;exact ⟨rfl,rfl,rfl⟩))
 (AI (AH Tryz.underlying32 Tryz.type32 rfl rfl rfl (fun g hg=>by cases hg;exact ⟨rfl,rfl,rfl⟩))
 (AI (AH Tryz.underlying242 Tryz.type242 rfl rfl rfl (fun g hg=>by cases hg;exact ⟨rfl,rfl,rfl⟩))
 (AI (AH Tryz.underlying193 Tryz.type193 rfl rfl rfl (fun g hg=>by cases hg;exact ⟨rfl,rfl,rfl⟩))
 (AI (AH Tryz.underlying4 Tryz.type4 rfl rfl rfl (fun g hg=>by cases hg;exact ⟨rfl,rfl,rfl⟩))
 (AI (AH Tryz.underlying82 Tryz.type82 rfl rfl rfl (fun g hg=>by cases hg;exact ⟨rfl,rfl,rfl⟩))
 (AI (AH Tryz.underlying139 Tryz.type139 rfl rfl rfl (fun g hg=>by cases hg;exact ⟨rfl,rfl,rfl⟩))
 (AI (AH Tryz.underlying127 Tryz.type127 rfl rfl rfl (fun g hg=>by cases hg;exact ⟨rfl,rfl,rfl⟩))
 (AI (AH Tryz.underlying102 Tryz.type102 rfl rfl rfl (fun g hg=>by cases hg;exact ⟨rfl,rfl,rfl⟩))
 (AI (AH Tryz.underlying124 Tryz.type124 rfl rfl rfl (fun g hg=>by cases hg;exact ⟨rfl,rfl,rfl⟩))
 (AI (AH Tryz.underlying35 Tryz.type35 rfl rfl rfl (fun g hg=>by cases hg;exact ⟨rfl,rfl,rfl⟩))
 (AI (AH Tryz.underlying150 Tryz.type150 rfl rfl rfl (fun g hg=>by cases hg;exact ⟨rfl,rfl,rfl⟩))
 (AI (AH Tryz.underlying79 Tryz.type79 rfl rfl rfl (fun g hg=>by cases hg;exact ⟨rfl,rfl,rfl⟩))
 (AI (AH Tryz.underlying80 Tryz.type80 rfl rfl rfl (fun g hg=>by cases hg;exact ⟨rfl,rfl,rfl⟩))
 (AI (AH Tryz.underlying23 Tryz.type23 rfl rfl rfl (fun g hg=>by cases hg;exact ⟨rfl,rfl,rfl⟩))
 (AI (AH Tryz.underlying65 Tryz.type65 rfl rfl rfl (fun g hg=>by cases hg;exact ⟨rfl,rfl,rfl⟩))
 (AI (AH Tryz.underlying5 Tryz.type5 rfl rfl rfl (fun g hg=>by cases hg;exact ⟨rfl,rfl,rfl⟩))
 (AI (AH Tryz.underlying187 Tryz.type187 rfl rfl rfl (fun g hg=>by cases hg;exact ⟨rfl,rfl,rfl⟩))
 (AI (AH Tryz.underlying143 Tryz.type143 rfl rfl rfl (fun g hg=>by cases hg;exact ⟨rfl,rfl,rfl⟩))
 (AI (AH Tryz.underlying49 Tryz.type49 rfl rfl rfl (fun g hg=>by cases hg;exact ⟨rfl,rfl,rfl⟩))
 (AI (AH Tryz.underlying50 Tryz.type50 rfl rfl rfl (fun g hg=>by cases hg;exact ⟨rfl,rfl,rfl⟩))
 (AI (AH Tryz.underlying180 Tryz.type180 rfl rfl rfl (fun g hg=>by cases hg;exact ⟨rfl,rfl,rfl⟩))
 (AI (AH Tryz.underlying2 Tryz.type2 rfl rfl rfl (fun g hg=>by cases hg;exact ⟨rfl,rfl,rfl⟩))
 (AI (AH Tryz.underlying72 Tryz.type72 rfl rfl rfl (fun g hg=>by cases hg;exact ⟨rfl,rfl,rfl⟩))
 (AI (AH Tryz.underlying47 Tryz.type47 rfl rfl rfl (fun g hg=>by cases hg;exact ⟨rfl,rfl,rfl⟩))
 (AI (AH Tryz.underlying69 Tryz.type69 rfl rfl rfl (fun g hg=>by cases hg;exact ⟨rfl,rfl,rfl⟩))
 (AI (AH Tryz.underlying123 Tryz.type123 rfl rfl rfl (fun g hg=>by cases hg;exact ⟨rfl,rfl,rfl⟩))
 (AI (AH Tryz.underlying253 Tryz.type253 rfl rfl rfl (fun g hg=>by cases hg;exact ⟨rfl,rfl,rfl⟩))
 Q8)))))))))))))))))))))))))))))))))))))
def l0:FL:=[(75,none,JA),(130,none,Ig),(149,none,Kx),(167,none,He),(170,none,HU),(173,none,HP),(185,none,Ia),(190,none,IU),(228,none,HN),(268,none,G1)]
variable {V:Env} (h0:Fs Tryz.prog V l0)
include h0
theorem g0:Fs Tryz.prog V l0:=h0
def Pg:Callee:=⟨[.val (.int .i64),.val (.int .i64)],[.val (.int .i64)],fun x=>Ed x.1 x.2.1⟩
def l1:FL:=(8,none,Pg)::l0
theorem g1:Fs Tryz.prog V l1:=
 have h:=g0 h0
 h.cons (gz h Ag Tryz.func8 (by kernel_rfl) (fun x=>by kernel_rfl))
def Ub:Callee:=⟨[.val (.int .u8)],[.val .bool],fun x=>MM x.1⟩
def l2:FL:=(139,none,Ub)::l1
theorem g2:Fs Tryz.prog V l2:=
 have h:=g1 h0
 h.cons (gz h Ag Tryz.func139 (by kernel_rfl) (fun x=>by kernel_rfl))
def S4:Callee:=⟨[.box (.pair (.dat .str) (.pair (.dat (.int .i64)) (.pair (.own (.pair (.int .i64) (.pair .str As))) (.own (.int .i64)))))],[],fun x=>HT x.1⟩
def l3:FL:=(109,none,S4)::l2
theorem g3:Fs Tryz.prog V l3:=
 have h:=g2 h0
 h.cons (gd [.lp 5 ⟨64,[0],[.box (.pair (.dat .str) (.pair (.dat (.int .i64)) (.pair (.own (.pair (.int .i64) (.pair .str As))) (.own (.int .i64)))))],[0],[]⟩ [.exit 3] K0,.lp 0 ⟨64,[0],[.box (.pair (.dat .str) (.pair (.dat (.int .i64)) (.pair (.own (.pair (.int .i64) (.pair .str As))) (.own (.int .i64)))))],[0],[]⟩ [.exit 0,.ret] JL] [] [] h Ag AB Tryz.func109 (by kernel_rfl) (fun _=>(Au (fun x=>by kernel_rfl) (Au (fun x=>by kernel_rfl) AC))) (fun x=>by kernel_rfl))
def Ot:Callee:=⟨[.box (.pair (.dat .str) (.pair (.dat (.int .i64)) (.pair (.own (.pair (.int .i64) (.pair .str As))) (.own (.int .i64))))),.val (.int .i64),.val .str,.val (.int .i64)],[.val (.int .i64)],fun x=>FX x.1 x.2.1 x.2.2.1 x.2.2.2.1⟩
def l4:FL:=(140,none,Ot)::l3
theorem g4:Fs Tryz.prog V l4:=
 have h:=g3 h0
 h.cons (gz h Ag Tryz.func140 (by kernel_rfl) (fun x=>by kernel_rfl))
def Pz:Callee:=⟨[.val (.int .u8)],[.val .bool],fun x=>HM x.1⟩
def l5:FL:=(165,none,Pz)::l4
theorem g5:Fs Tryz.prog V l5:=
 have h:=g4 h0
 h.cons (gz h Ag Tryz.func165 (by kernel_rfl) (fun x=>by kernel_rfl))
def RH:Callee:=⟨[.box (.pair .slf (.own (.int .u8))),.val (.int .u8)],[.val .err],fun x=>DU x.1 x.2.1⟩
def l6:FL:=(118,none,RH)::l5
theorem g6:Fs Tryz.prog V l6:=
 have h:=g5 h0
 h.cons (gz h Ag Tryz.func118 (by kernel_rfl) (fun x=>by kernel_rfl))
def Uc:Callee:=⟨[.box (.pair (.dat .str) (.pair (.dat (.int .i64)) (.pair (.own (.pair (.int .i64) (.pair .str As))) (.own (.int .i64)))))],[.val .str,.val .bool],fun x=>J8 x.1⟩
def l7:FL:=(141,none,Uc)::l6
theorem g7:Fs Tryz.prog V l7:=
 have h:=g6 h0
 h.cons (gd [.lr 3 ⟨90,[0,2,3,4],[.box (.pair (.dat .str) (.pair (.dat (.int .i64)) (.pair (.own (.pair (.int .i64) (.pair .str As))) (.own (.int .i64))))),.val .str,.val .bool,.box (.pair .slf (.own (.int .u8)))],[0],[]⟩ ⟨90,[0,2,3],[.box (.pair (.dat .str) (.pair (.dat (.int .i64)) (.pair (.own (.pair (.int .i64) (.pair .str As))) (.own (.int .i64))))),.val .str,.val .bool],[0],[]⟩ [.exit 0] Ja] [] [] h Ag AB Tryz.func141 (by kernel_rfl) (fun _=>(Qy (fun x=>by kernel_rfl) AC)) (fun x=>by kernel_rfl))
def OF:Callee:=⟨[.val (.int .u8)],[.val .bool],fun x=>DS x.1⟩
def l8:FL:=(168,none,OF)::l7
theorem g8:Fs Tryz.prog V l8:=
 have h:=g7 h0
 h.cons (gz h Ag Tryz.func168 (by kernel_rfl) (fun x=>by kernel_rfl))
def RT:Callee:=⟨[.val (.int .u8)],[.val .bool],fun x=>Ie x.1⟩
def l9:FL:=(166,none,RT)::l8
theorem g9:Fs Tryz.prog V l9:=
 have h:=g8 h0
 h.cons (gz h Ag Tryz.func166 (by kernel_rfl) (fun x=>by kernel_rfl))
def Oh:Callee:=⟨[.box (.pair (.dat .str) (.pair (.dat (.int .i64)) (.pair (.own (.pair (.int .i64) (.pair .str As))) (.own (.int .i64)))))],[.val .str],fun x=>NK x.1⟩
def Kw:FL:=(142,none,Oh)::l9
theorem UC:Fs Tryz.prog V Kw:=
 have h:=g9 h0
 h.cons (gd [.lp 2 ⟨47,[0,3],[.box (.pair (.dat .str) (.pair (.dat (.int .i64)) (.pair (.own (.pair (.int .i64) (.pair .str As))) (.own (.int .i64))))),.val (.int .i64)],[0],[]⟩ [.exit 0] LS] [] [] h Ag AB Tryz.func142 (by kernel_rfl) (fun _=>(Au (fun x=>by kernel_rfl) AC)) (fun x=>by kernel_rfl))
def O_:Callee:=⟨[.val .str],[.val .bool],fun x=>M6 x.1⟩
def M5:FL:=(169,none,O_)::Kw
theorem Rd:Fs Tryz.prog V M5:=
 have h:=UC h0
 h.cons (gz h Ag Tryz.func169 (by kernel_rfl) (fun x=>by kernel_rfl))
def QR:Callee:=⟨[.val .str],[.val (.int .i64)],fun x=>Fp x.1⟩
def Jf:FL:=(143,none,QR)::M5
theorem OW:Fs Tryz.prog V Jf:=
 have h:=Rd h0
 h.cons (gz h Ag Tryz.func143 (by kernel_rfl) (fun x=>by kernel_rfl))
def RV:Callee:=⟨[.box (.pair (.dat .str) (.pair (.dat (.int .i64)) (.pair (.own (.pair (.int .i64) (.pair .str As))) (.own (.int .i64)))))],[.val (.int .i64)],fun x=>I_ x.1⟩
def J4:FL:=(110,none,RV)::Jf
theorem RM:Fs Tryz.prog V J4:=
 have h:=OW h0
 h.cons (gz h Ag Tryz.func110 (by kernel_rfl) (fun x=>by kernel_rfl))
def Tq:Callee:=⟨[.val .str],[.val (.sl (.pair (.int .i64) (.pair .str As))),.val (.int .i64),.val (.int .i64)],fun x=>Jp x.1⟩
def Nd:FL:=(71,none,Tq)::J4
theorem PM:Fs Tryz.prog V Nd:=
 have h:=RM h0
 h.cons (gd [.lp 5 ⟨47,[0,2,3,4,5],[.val .str,.val (.sl (.pair (.int .i64) (.pair .str As))),.val (.int .i64),.val (.int .i64),.box (.pair (.dat .str) (.pair (.dat (.int .i64)) (.pair (.own (.pair (.int .i64) (.pair .str As))) (.own (.int .i64)))))],[],[]⟩ [.exit 0,.ret] Ku] [] [] h Ag AB Tryz.func71 (by kernel_rfl) (fun _=>(Au (fun x=>by kernel_rfl) AC)) (fun x=>by kernel_rfl))
def Pc:Callee:=⟨[.val (.pair (.int .i64) (.pair .str As))],[.val .bool],fun x=>K7 x.1⟩
def Ka:FL:=(144,none,Pc)::Nd
theorem Pt:Fs Tryz.prog V Ka:=
 have h:=PM h0
 h.cons (gd [.lp 6 ⟨63,[1,2,21,22],[.box (.dat (.pair (.int .i64) (.pair .str As))),.val .bool,.val (.int .i64),.val (.int .i64)],[],[]⟩ [.exit 1,.ret] L0,.lp 16 ⟨63,[1,2,41,42],[.box (.dat (.pair (.int .i64) (.pair .str As))),.val .bool,.val (.int .i64),.val (.int .i64)],[],[]⟩ [.exit 3,.ret] F2] [] [] h Ag AB Tryz.func144 (by kernel_rfl) (fun _=>(Au (fun x=>by kernel_rfl) (Au (fun x=>by kernel_rfl) AC))) (fun x=>by kernel_rfl))
def N2:Callee:=⟨[.val (.sl (.pair (.int .i64) (.pair .str As)))],[.val .bool],fun x=>Hm x.1⟩
def JY:FL:=(111,none,N2)::Ka
theorem Pn:Fs Tryz.prog V JY:=
 have h:=Pt h0
 h.cons (gd [.lp 5 ⟨68,[2,3,5,8,9,10],[.val .bool,.row (.int .i64),.box (.dat (.pair (.int .i64) (.pair .str As))),.val (.sl (.pair (.int .i64) (.pair .str As))),.val (.int .i64),.val (.int .i64)],[],[]⟩ [.exit 2] Kh,.lp 3 ⟨68,[2,3,8,9,10],[.val .bool,.own (.int .i64),.val (.sl (.pair (.int .i64) (.pair .str As))),.val (.int .i64),.val (.int .i64)],[],[]⟩ [.exit 0,.ret] NN,.lp 15 ⟨68,[2,59,60,61],[.val .bool,.row (.int .i64),.val (.int .i64),.val (.int .i64)],[],[]⟩ [.exit 4,.ret] NL] [] [] h Ag AB Tryz.func111 (by kernel_rfl) (fun _=>(Au (fun x=>by kernel_rfl) (Au (fun x=>by kernel_rfl) (Au (fun x=>by kernel_rfl) AC)))) (fun x=>by kernel_rfl))
def Q':Callee:=⟨[.val (.sl (.pair (.int .i64) (.pair .str As))),.val (.int .i64)],[.val (.int .i64)],fun x=>K3 x.1 x.2.1⟩
def JP:FL:=(112,none,Q')::JY
theorem RO:Fs Tryz.prog V JP:=
 have h:=Pn h0
 h.cons (gd [.lp 2 ⟨19,[0,1,5],[.val (.sl (.pair (.int .i64) (.pair .str As))),.val (.int .i64),.val (.int .i64)],[],[]⟩ [.exit 0] Mj] [] [] h Ag AB Tryz.func112 (by kernel_rfl) (fun _=>(Au (fun x=>by kernel_rfl) AC)) (fun x=>by kernel_rfl))
def Q6:Callee:=⟨[.val (.sl (.pair (.int .i64) (.pair .str As)))],[.val (.sl (.int .i64))],fun x=>MO x.1⟩
def Jz:FL:=(72,none,Q6)::JP
theorem Of:Fs Tryz.prog V Jz:=
 have h:=RO h0
 h.cons (gd [.lp 5 ⟨20,[0,3,4],[.val (.sl (.pair (.int .i64) (.pair .str As))),.own (.int .i64),.val (.int .i64)],[],[]⟩ [.exit 0] JX] [] [] h Ag AB Tryz.func72 (by kernel_rfl) (fun _=>(Au (fun x=>by kernel_rfl) AC)) (fun x=>by kernel_rfl))
def T4:Callee:=⟨[.val (.int .u8)],[.val .bool],fun x=>Fe x.1⟩
def LX:FL:=(27,none,T4)::Jz
theorem Sg:Fs Tryz.prog V LX:=
 have h:=Of h0
 h.cons (gz h Ag Tryz.func27 (by kernel_rfl) (fun x=>by kernel_rfl))
def Oz:Callee:=⟨[.val .str],[.val .bool],fun x=>Im x.1⟩
def KZ:FL:=(28,none,Oz)::LX
theorem O5:Fs Tryz.prog V KZ:=
 have h:=Sg h0
 h.cons (gz h Ag Tryz.func28 (by kernel_rfl) (fun x=>by kernel_rfl))
def PA:Callee:=⟨[.val .str],[.val .bool],fun x=>BM x.1⟩
def J9:FL:=(10,none,PA)::KZ
theorem g21:Fs Tryz.prog V J9:=
 have h:=O5 h0
 h.cons (gd [.lp 4 ⟨51,[0,2,23,24],[.val .str,.val .bool,.val (.int .i64),.val (.int .i64)],[],[]⟩ [.exit 0,.ret] EN] [] [] h Ag AB Tryz.func10 (by kernel_rfl) (fun _=>(Au (fun x=>by kernel_rfl) AC)) (fun x=>by kernel_rfl))
def QG:Callee:=⟨[.val (.int .i64)],[.val .bool],fun x=>Ek x.1⟩
def NF:FL:=(88,none,QG)::J9
theorem g22:Fs Tryz.prog V NF:=
 have h:=g21 h0
 h.cons (gz h Ag Tryz.func88 (by kernel_rfl) (fun x=>by kernel_rfl))
def P9:Callee:=⟨[.val Ak],[.val (.sl Ak)],fun x=>CY x.1⟩
def Mb:FL:=(145,none,P9)::NF
theorem PG:Fs Tryz.prog V Mb:=
 have h:=g22 h0
 h.cons (gz h Ag Tryz.func145 (by kernel_rfl) (fun x=>by kernel_rfl))
def Sp:Callee:=⟨[.val (.sl BZ),.val (.sl (.pair .str AE))],[.val (.chain (.pair .str (.sl Ak))),.val (.map (.pair .str AE)),.val .bool],fun x=>LZ x.1 x.2.1⟩
def NC:FL:=(113,none,Sp)::Mb
theorem PN:Fs Tryz.prog V NC:=
 have h:=PG h0
 h.cons (gd [.lp 3 ⟨105,[0,1,4,5,6,7,8],[.val (.sl BZ),.val (.sl (.pair .str AE)),.val (.chain (.pair .str (.sl Ak))),.val (.map (.pair .str AE)),.val .bool,.val (.chain (.pair .str (.sl Ak))),.val (.int .i64)],[],[]⟩ [.exit 0,.ret] MH,.lp 16 ⟨105,[4,5,6,7,10,12,50,51,52,62,63,64,68,69,70,74,75,76,79,80,81],[.val (.chain (.pair .str (.sl Ak))),.val (.map (.pair .str AE)),.val .bool,.val (.chain (.pair .str (.sl Ak))),.mp (.pair .str AE),.box (.dat (.pair .str AE)),.val (.sl (.pair .str AE)),.val (.int .i64),.val (.int .i64),.val (.int .i64),.val .bool,.val .bool,.val (.sl (.int .i64)),.val (.int .i64),.val .bool,.val (.sl (.int .i64)),.val (.int .i64),.val .bool,.val (.sl (.int .i64)),.val (.int .i64),.val (.int .i64)],[],[]⟩ [.exit 4,.ret] MZ,.lp 11 ⟨105,[4,5,6,7,10,50,51,52],[.val (.chain (.pair .str (.sl Ak))),.val (.map (.pair .str AE)),.val .bool,.val (.chain (.pair .str (.sl Ak))),.mp (.pair .str AE),.val (.sl (.pair .str AE)),.val (.int .i64),.val (.int .i64)],[],[]⟩ [.exit 2,.ret] JV] [] [] h Ag AB Tryz.func113 (by kernel_rfl) (fun _=>(Au (fun x=>by kernel_rfl) (Au (fun x=>by kernel_rfl) (Au (fun x=>by kernel_rfl) AC)))) (fun x=>by kernel_rfl))
def R0:Callee:=⟨[.val .str],[.val .bool],fun x=>Io x.1⟩
def Nt:FL:=(171,none,R0)::NC
theorem R8:Fs Tryz.prog V Nt:=
 have h:=PN h0
 h.cons (gz h Ag Tryz.func171 (by kernel_rfl) (fun x=>by kernel_rfl))
def NW:Callee:=⟨[.val (.sl (.int .u32))],[.val (.sl (.int .u32))],fun x=>DP x.1⟩
def Lj:FL:=(199,none,NW)::Nt
theorem N3:Fs Tryz.prog V Lj:=
 have h:=R8 h0
 h.cons (gd [.lp 2 ⟨21,[0,3],[.val (.sl (.int .u32)),.val (.int .i64)],[],[]⟩ [.exit 0] LK] [] [] h Ag AB Tryz.func199 (by kernel_rfl) (fun _=>(Au (fun x=>by kernel_rfl) AC)) (fun x=>by kernel_rfl))
def P6:Callee:=⟨[.val .str],[.val (.sl (.int .u32))],fun x=>CJ x.1⟩
def NE:FL:=(172,none,P6)::Lj
theorem Pw:Fs Tryz.prog V NE:=
 have h:=N3 h0
 h.cons (gd [.lp 7 ⟨39,[0,3,4,5,20,21,22],[.val .str,.row (.int .u32),.val (.int .i64),.val (.int .u32),.val (.sl (.int .u8)),.val (.int .i64),.val (.int .i64)],[],[]⟩ [.exit 2] KC,.lp 3 ⟨39,[0,3,4],[.val .str,.own (.int .u32),.val (.int .i64)],[],[]⟩ [.exit 0] Nc] [] [] h Ag AB Tryz.func172 (by kernel_rfl) (fun _=>(Au (fun x=>by kernel_rfl) (Au (fun x=>by kernel_rfl) AC))) (fun x=>by kernel_rfl))
def UN:Callee:=⟨[.val (.sl (.int .u32)),.val (.sl (.int .u32))],[.val (.int .i64)],fun x=>NA x.1 x.2.1⟩
def Jk:FL:=(224,none,UN)::NE
theorem Od:Fs Tryz.prog V Jk:=
 have h:=Pw h0
 h.cons (gd [.lp 4 ⟨43,[0,1,4,5],[.val (.sl (.int .u32)),.val (.sl (.int .u32)),.val (.int .i64),.val (.int .i64)],[],[]⟩ [.exit 0,.ret] Nx] [] [] h Ag AB Tryz.func224 (by kernel_rfl) (fun _=>(Au (fun x=>by kernel_rfl) AC)) (fun x=>by kernel_rfl))
def Ss:Callee:=⟨[.val (.sl (.int .u32)),.val (.int .u32)],[.val (.sl (.int .u32)),.val (.sl (.int .u32))],fun x=>HV x.1 x.2.1⟩
def Kr:FL:=(225,none,Ss)::Jk
theorem Ii:Fs Tryz.prog V Kr:=
 have h:=Od h0
 h.cons (gd [.lp 4 ⟨46,[0,1,6,7,8],[.val (.sl (.int .u32)),.val (.int .u32),.row (.int .u32),.val (.int .u64),.val (.int .i64)],[],[]⟩ [.exit 0] MY] [] [] h Ag AB Tryz.func225 (by kernel_rfl) (fun _=>(Au (fun x=>by kernel_rfl) AC)) (fun x=>by kernel_rfl))
def Q5:Callee:=⟨[.row (.int .u32)],[.view 0],fun x=>KS x.1⟩
theorem P1:Good V 199 Q5:=
 have h:=Ii h0
 gd [.lp 2 ⟨21,[0,3],[.row (.int .u32),.val (.int .i64)],[0],[]⟩ [.exit 0] K5] [] [] h Ag AB Tryz.func199 (by kernel_rfl) (fun _=>(Au (fun x=>by kernel_rfl) AC)) (fun x=>by kernel_rfl)
def N_:Callee:=⟨[.val (.sl (.int .u32)),.val (.sl (.int .u32))],[.own (.int .u32)],fun x=>Ip x.1 x.2.1⟩
theorem PZ:Good V 226 N_:=
 have h:=Ii h0
 gd [.lp 7 ⟨69,[1,5,6,7,8,18,19,20,25,26,27],[.val (.sl (.int .u32)),.row (.int .u32),.val (.int .i64),.val (.int .u32),.val (.int .u64),.val (.sl (.int .u32)),.val (.int .i64),.val (.int .i64),.val (.sl (.int .u32)),.val (.int .i64),.val (.int .i64)],[],[]⟩ [.exit 2] Mr,.lp 3 ⟨69,[1,5,18,19,20],[.val (.sl (.int .u32)),.row (.int .u32),.val (.sl (.int .u32)),.val (.int .i64),.val (.int .i64)],[],[]⟩ [.exit 0] Je] [] [] (Fs.cons (s:=none) h (P1 h0)) Ag AB Tryz.func226 (by kernel_rfl) (fun _=>(Au (fun x=>by kernel_rfl) (Au (fun x=>by kernel_rfl) AC))) (fun x=>by kernel_rfl)
def Rv:Callee:=⟨[.row (.int .u32),.val (.sl (.int .u32)),.val (.int .u64)],[.val .bool],fun x=>M2 x.1 x.2.1 x.2.2.1⟩
def K6:FL:=(247,none,Rv)::Kr
theorem Rl:Fs Tryz.prog V K6:=
 have h:=Ii h0
 h.cons (gd [.lp 3 ⟨54,[0,1,2,7,8,12,13],[.row (.int .u32),.val (.sl (.int .u32)),.val (.int .u64),.val (.int .u64),.val (.int .i64),.val (.int .i64),.val (.int .i64)],[0],[]⟩ [.exit 0] Kn] [] [] h Ag AB Tryz.func247 (by kernel_rfl) (fun _=>(Au (fun x=>by kernel_rfl) AC)) (fun x=>by kernel_rfl))
def Pe:Callee:=⟨[.val (.sl (.int .u32)),.val (.int .i64)],[.val (.int .u32)],fun x=>JG x.1 x.2.1⟩
def Ny:FL:=(263,none,Pe)::K6
theorem Ra:Fs Tryz.prog V Ny:=
 have h:=Rl h0
 h.cons (gz h Ag Tryz.func263 (by kernel_rfl) (fun x=>by kernel_rfl))
def T1:Callee:=⟨[.row (.int .u32),.val (.sl (.int .u32))],[],fun x=>Jh x.1 x.2.1⟩
def MF:FL:=(248,none,T1)::Ny
theorem Sx:Fs Tryz.prog V MF:=
 have h:=Ra h0
 h.cons (gd [.lp 2 ⟨30,[0,1,4,8,9],[.row (.int .u32),.val (.sl (.int .u32)),.val (.int .u32),.val (.int .i64),.val (.int .i64)],[0],[]⟩ [.exit 0] JO] [] [] h Ag AB Tryz.func248 (by kernel_rfl) (fun _=>(Au (fun x=>by kernel_rfl) AC)) (fun x=>by kernel_rfl))
def UP:Callee:=⟨[.row (.int .u32),.val (.sl (.int .u32))],[.val (.int .u32)],fun x=>Lm x.1 x.2.1⟩
def KK:FL:=(227,none,UP)::MF
theorem QZ:Fs Tryz.prog V KK:=
 have h:=Sx h0
 h.cons (gd [.lp 4 ⟨77,[0,1,5,7,8,9],[.row (.int .u32),.val (.sl (.int .u32)),.val (.int .i64),.val (.int .u64),.val (.int .u64),.val (.int .u64)],[0],[]⟩ [.exit 0] LV] [] [] h Ag AB Tryz.func227 (by kernel_rfl) (fun _=>(Au (fun x=>by kernel_rfl) AC)) (fun x=>by kernel_rfl))
def PR:Callee:=⟨[.val (.sl (.int .u32)),.val (.sl (.int .u32))],[.val (.sl (.int .u32)),.val (.sl (.int .u32))],fun x=>GG x.1 x.2.1⟩
def Ng:FL:=(204,none,PR)::KK
theorem Rn:Fs Tryz.prog V Ng:=
 have h:=QZ h0
 h.cons (gd [.lp 7 ⟨93,[0,6,7,8],[.val (.sl (.int .u32)),.val (.sl (.int .u32)),.row (.int .u32),.row (.int .u32)],[],[]⟩ [.exit 1] Kq,.lp 11 ⟨93,[6,7,8,9,10],[.val (.sl (.int .u32)),.row (.int .u32),.row (.int .u32),.row (.int .u32),.val (.int .i64)],[],[7]⟩ [.exit 3] KG] [] [] (Fs.cons (s:=none) h (PZ h0)) Ag AB Tryz.func204 (by kernel_rfl) (fun _=>(Au (fun x=>by kernel_rfl) (Au (fun x=>by kernel_rfl) AC))) (fun x=>by kernel_rfl))
def Tr:Callee:=⟨[.val (.sl (.int .u32)),.val (.sl (.int .u32))],[.val (.sl (.int .u32))],fun x=>Gy x.1 x.2.1⟩
def ND:FL:=(187,none,Tr)::Ng
theorem SR:Fs Tryz.prog V ND:=
 have h:=Rn h0
 h.cons (gd [.lp 1 ⟨19,[0,1],[.val (.sl (.int .u32)),.val (.sl (.int .u32))],[],[]⟩ [.exit 0] LM] [] [] h Ag AB Tryz.func187 (by kernel_rfl) (fun _=>(Au (fun x=>by kernel_rfl) AC)) (fun x=>by kernel_rfl))
def QW:Callee:=⟨[.val (.sl (.int .u32))],[.val .bool],fun x=>Dq x.1⟩
def Kz:FL:=(188,none,QW)::ND
theorem Qm:Fs Tryz.prog V Kz:=
 have h:=SR h0
 h.cons (gz h Ag Tryz.func188 (by kernel_rfl) (fun x=>by kernel_rfl))
def UQ:Callee:=⟨[.val .bool,.val (.sl (.int .u32)),.val (.sl (.int .u32))],[.val CW],fun x=>F6 x.1 x.2.1 x.2.2.1⟩
def Nq:FL:=(174,none,UQ)::Kz
theorem PX:Fs Tryz.prog V Nq:=
 have h:=Qm h0
 h.cons (gz h Ag Tryz.func174 (by kernel_rfl) (fun x=>by kernel_rfl))
def Up:Callee:=⟨[.box (.pair .slf (.own (.int .u8))),.val .str],[.val (.int .i64),.val .err],fun x=>Cy x.1 x.2.1⟩
def K9:FL:=(115,none,Up)::Nq
theorem S6:Fs Tryz.prog V K9:=
 have h:=PX h0
 h.cons (gz h Ag Tryz.func115 (by kernel_rfl) (fun x=>by kernel_rfl))
def LQ:Ann:=⟨37,[3],[.box (.pair .slf (.own (.int .u8)))],[0],[]⟩
def SJ:Callee:=⟨[.val (.sl (.int .u32))],[.val .str],fun x=>EM x.1⟩
def K4:FL:=(205,none,SJ)::K9
theorem P0:Fs Tryz.prog V K4:=
 have h:=S6 h0
 h.cons (gd [.raw 6 (Fn LQ 250 .u32 (.tmp 24) (fun v i y=>(Iu v i y).bind fun o=>some (HG y o)) Ix)] [] [] h Ag (Jx T2 AB) Tryz.func205 (by kernel_rfl) (fun hE=>(Ls (L6 (A:=LQ) (merge:=HG) (outs:=Ix) (t1:=25) (t2:=26) (s:=26) (d:=5) (round:=Iu) hE (h.prog ▸ Qd) (show pick 6 (AO (fb Tryz.f205))=bb (sr (sl (sr (sr (sr (sr (fb Tryz.f205))))))) from by kernel_rfl) rfl rfl rfl (fun v i y=>by kernel_rfl) (fun y o=>by kernel_rfl) (fun y=>by kernel_rfl) (fun y=>by kernel_rfl) rfl (fun y=>by kernel_rfl)) AC)) (fun x=>by kernel_rfl))
def UL:Callee:=⟨[.val CW],[.val .str],fun x=>Ga x.1⟩
def Nk:FL:=(175,none,UL)::K4
theorem Sh:Fs Tryz.prog V Nk:=
 have h:=P0 h0
 h.cons (gz h Ag Tryz.func175 (by kernel_rfl) (fun x=>by kernel_rfl))
def SQ:Callee:=⟨[.val .str],[.val .str,.val .bool],fun x=>LR x.1⟩
def J2:FL:=(146,none,SQ)::Nk
theorem U3:Fs Tryz.prog V J2:=
 have h:=Sh h0
 h.cons (gz h Ag Tryz.func146 (by kernel_rfl) (fun x=>by kernel_rfl))
def TK:Callee:=⟨[.val (.chain (.pair .str (.sl Ak))),.val .str],[.val (.osl Ak)],fun x=>Mt x.1 x.2.1⟩
def Kp:FL:=(176,none,TK)::J2
theorem PE:Fs Tryz.prog V Kp:=
 have h:=U3 h0
 h.cons (gd [.lp 1 ⟨21,[0,1,4],[.val (.chain (.pair .str (.sl Ak))),.val .str,.val (.sl Ak)],[],[]⟩ [.exit 0,.ret] Kj] [] [] h Ag AB Tryz.func176 (by kernel_rfl) (fun _=>(Au (fun x=>by kernel_rfl) AC)) (fun x=>by kernel_rfl))
def NS:Callee:=⟨[.val .str,.val (.int .i64),.val (.chain (.pair .str (.sl Ak)))],[.val (.sl Ak),.val As],fun x=>M8 x.1 x.2.1 x.2.2.1⟩
def LO:FL:=(147,none,NS)::Kp
theorem Px:Fs Tryz.prog V LO:=
 have h:=PE h0
 h.cons (gz h Ag Tryz.func147 (by kernel_rfl) (fun x=>by kernel_rfl))
def Uj:Callee:=⟨[.box (.dat (.pair (.sl (.pair (.int .i64) (.pair .str As))) (.map (.pair .str AE)))),.val (.int .i64)],[.val (.sl (.int .i64))],fun x=>F5 x.1 x.2.1⟩
def Ks:FL:=(177,none,Uj)::LO
theorem TQ:Fs Tryz.prog V Ks:=
 have h:=Px h0
 h.cons (gd [.lp 7 ⟨41,[0,5,6,7,17,18],[.box (.dat (.pair (.sl (.pair (.int .i64) (.pair .str As))) (.map (.pair .str AE)))),.row (.int .i64),.val (.int .i64),.val (.int .i64),.val (.int .i64),.val (.int .i64)],[0],[]⟩ [.exit 2] Mv,.lp 4 ⟨41,[0,5,6,17,18],[.box (.dat (.pair (.sl (.pair (.int .i64) (.pair .str As))) (.map (.pair .str AE)))),.own (.int .i64),.val (.int .i64),.val (.int .i64),.val (.int .i64)],[0],[]⟩ [.exit 0] Ko] [] [] h Ag AB Tryz.func177 (by kernel_rfl) (fun _=>(Au (fun x=>by kernel_rfl) (Au (fun x=>by kernel_rfl) AC))) (fun x=>by kernel_rfl))
def Tl:Callee:=⟨[.box (.dat (.pair (.sl (.pair (.int .i64) (.pair .str As))) (.map (.pair .str AE)))),.val .str],[.val (.int .i64),.val (.int .i64),.val .bool],fun x=>MN x.1 x.2.1⟩
def I8:FL:=(178,none,Tl)::Ks
theorem Uf:Fs Tryz.prog V I8:=
 have h:=TQ h0
 h.cons (gz h Ag Tryz.func178 (by kernel_rfl) (fun x=>by kernel_rfl))
def Qz:Callee:=⟨[.val (.sl Ak)],[.val .bool],fun x=>Ey x.1⟩
def Ma:FL:=(230,none,Qz)::I8
theorem UJ:Fs Tryz.prog V Ma:=
 have h:=Uf h0
 h.cons (gz h Ag Tryz.func230 (by kernel_rfl) (fun x=>by kernel_rfl))
def Py:Callee:=⟨[.val .str],[.val .bool],fun x=>C5 x.1⟩
def M_:FL:=(131,none,Py)::Ma
theorem Te:Fs Tryz.prog V M_:=
 have h:=UJ h0
 h.cons (gd [.lp 2 ⟨30,[0,2,6,7,8],[.val .str,.val .bool,.val (.sl (.int .u8)),.val (.int .i64),.val (.int .i64)],[],[]⟩ [.exit 0,.ret] MG] [] [] h Ag AB Tryz.func131 (by kernel_rfl) (fun _=>(Au (fun x=>by kernel_rfl) AC)) (fun x=>by kernel_rfl))
def T5:Callee:=⟨[.val .str],[.val .bool],fun x=>Fy x.1⟩
def JI:FL:=(89,none,T5)::M_
theorem QO:Fs Tryz.prog V JI:=
 have h:=Te h0
 h.cons (gz h Ag Tryz.func89 (by kernel_rfl) (fun x=>by kernel_rfl))
def Sq:Callee:=⟨[.val (.int .i64),.val (.int .i64)],[.val (.int .i64)],fun x=>EL x.1 x.2.1⟩
def Ld:FL:=(186,none,Sq)::JI
theorem Oo:Fs Tryz.prog V Ld:=
 have h:=QO h0
 h.cons (gd [.lp 1 ⟨12,[0,1],[.val (.int .i64),.val (.int .i64)],[],[]⟩ [.exit 0] LW] [] [] h Ag AB Tryz.func186 (by kernel_rfl) (fun _=>(Au (fun x=>by kernel_rfl) AC)) (fun x=>by kernel_rfl))
def QM:Callee:=⟨[.val .str],[.val As,.val .bool],fun x=>GQ x.1⟩
def MP:FL:=(158,none,QM)::Ld
theorem T0:Fs Tryz.prog V MP:=
 have h:=Oo h0
 h.cons (gz h Ag Tryz.func158 (by kernel_rfl) (fun x=>by kernel_rfl))
def SS:Callee:=⟨[.val .str],[.val CW,.val .bool],fun x=>DY x.1⟩
def Lt:FL:=(159,none,SS)::MP
theorem Ok:Fs Tryz.prog V Lt:=
 have h:=T0 h0
 h.cons (gz h Ag Tryz.func159 (by kernel_rfl) (fun x=>by kernel_rfl))
def QF:Callee:=⟨[.val .str],[.val .bool],fun x=>DV x.1⟩
def Mp:FL:=(129,none,QF)::Lt
theorem R7:Fs Tryz.prog V Mp:=
 have h:=Ok h0
 h.cons (gz h Ag Tryz.func129 (by kernel_rfl) (fun x=>by kernel_rfl))
def O1:Callee:=⟨[.val (.int .i64),.val .str],[.val .bool],fun x=>Li x.1 x.2.1⟩
def KU:FL:=(87,none,O1)::Mp
theorem Sz:Fs Tryz.prog V KU:=
 have h:=R7 h0
 h.cons (gz h Ag Tryz.func87 (by kernel_rfl) (fun x=>by kernel_rfl))
def Qf:Callee:=⟨[.val .str],[.val (.int .i64)],fun x=>Ea x.1⟩
def LH:FL:=(90,none,Qf)::KU
theorem O7:Fs Tryz.prog V LH:=
 have h:=Sz h0
 h.cons (gz h Ag Tryz.func90 (by kernel_rfl) (fun x=>by kernel_rfl))
def Oy:Callee:=⟨[.val Ak],[.val .bool],fun x=>IG x.1⟩
def KN:FL:=(40,none,Oy)::LH
theorem Q0:Fs Tryz.prog V KN:=
 have h:=O7 h0
 h.cons (gz h Ag Tryz.func40 (by kernel_rfl) (fun x=>by kernel_rfl))
def S':Callee:=⟨[.val (.int .i64),.val (.int .i64)],[.val .bool],fun x=>IA x.1 x.2.1⟩
def L':FL:=(41,none,S')::KN
theorem TN:Fs Tryz.prog V L':=
 have h:=Q0 h0
 h.cons (gz h Ag Tryz.func41 (by kernel_rfl) (fun x=>by kernel_rfl))
def OU:Callee:=⟨[.val (.int .i64),.val (.ptr (.int .i64))],[.val .bool],fun x=>Nz x.1 x.2.1⟩
def MS:FL:=(133,none,OU)::L'
theorem P7:Fs Tryz.prog V MS:=
 have h:=TN h0
 h.cons (gz h Ag Tryz.func133 (by kernel_rfl) (fun x=>by kernel_rfl))
def RA:Callee:=⟨[.val (.sl (.int .i64)),.val (.fnv 133 (.ptr (.int .i64)))],[.val (.int .i64)],fun x=>Ns x.1 x.2.1⟩
def L4:FL:=(161,some 133,RA)::MS
theorem UF:Fs Tryz.prog V L4:=
 have h:=P7 h0
 h.cons (gd [.lp 2 ⟨19,[0,1,4,7,8],[.val (.sl (.int .i64)),.val (.fnv 133 (.ptr (.int .i64))),.val (.int .i64),.val (.int .i64),.val (.int .i64)],[],[]⟩ [.exit 0,.ret] Jr] [] [] h Ag AB Tryz.func161 (by kernel_rfl) (fun _=>(Au (fun x=>by kernel_rfl) AC)) (fun x=>by kernel_rfl))
def TW:Callee:=⟨[.val (.sl (.int .i64)),.val (.fnv 133 (.ptr (.int .i64)))],[.val .bool],fun x=>Js x.1 x.2.1⟩
def Lg:FL:=(132,some 133,TW)::L4
theorem TZ:Fs Tryz.prog V Lg:=
 have h:=UF h0
 h.cons (gz h Ag Tryz.func132 (by kernel_rfl) (fun x=>by kernel_rfl))
def Pk:Callee:=⟨[.val (.sl (.int .i64)),.val (.int .i64)],[.val .bool],fun x=>BX x.1 x.2.1⟩
def Kf:FL:=(92,none,Pk)::Lg
theorem PI:Fs Tryz.prog V Kf:=
 have h:=TZ h0
 h.cons (gz h Ag Tryz.func92 (by kernel_rfl) (fun x=>by kernel_rfl))
def UY:Callee:=⟨[.val .bool,.val (.int .i64)],[.val (.int .i64)],fun x=>A1 x.1 x.2.1⟩
def JW:FL:=(91,none,UY)::Kf
theorem OO:Fs Tryz.prog V JW:=
 have h:=PI h0
 h.cons (gz h Ag Tryz.func91 (by kernel_rfl) (fun x=>by kernel_rfl))
def Un:Callee:=⟨[.val (.int .i64)],[.val .bool],fun x=>Eb x.1⟩
def L_:FL:=(93,none,Un)::JW
theorem Sj:Fs Tryz.prog V L_:=
 have h:=OO h0
 h.cons (gz h Ag Tryz.func93 (by kernel_rfl) (fun x=>by kernel_rfl))
def Uk:Callee:=⟨[.val Ak,.val (.sl (.int .i64))],[.val (.int .i64)],fun x=>GF x.1 x.2.1⟩
def Mu:FL:=(42,none,Uk)::L_
theorem Sf:Fs Tryz.prog V Mu:=
 have h:=Sj h0
 h.cons (gz h Ag Tryz.func42 (by kernel_rfl) (fun x=>by kernel_rfl))
def Md:Ann:=⟨142,[4,9,10],[.box (.box (.pair (.dat (.sl Ak)) (.own (.pair (.int .i64) As)))),.box (.dat (.pair (.int .i64) As)),.box (.own (.int .i64))],[0,1,2],[]⟩
def QL:Callee:=⟨[.val (.sl Ak)],[.val (.ptr BL),.val .bool],fun x=>FQ x.1⟩
def ME:FL:=(43,none,QL)::Mu
theorem Rf:Fs Tryz.prog V ME:=
 have h:=Sf h0
 h.cons (gd [.raw 13 (Fn Md 134 .i64 (.tmp 64) (fun v i y=>(G7 v i y).bind fun o=>some (Hg y o)) HO),.lp 4 ⟨142,[0,2,3,4,5,6],[.val (.sl Ak),.val (.ptr BL),.val .bool,.box (.box (.pair (.dat (.sl Ak)) (.own (.pair (.int .i64) As)))),.own (.int .i64),.val (.int .i64)],[],[]⟩ [.exit 0,.ret] Jw] [] [] h Ag (Jx Qs AB) Tryz.func43 (by kernel_rfl) (fun hE=>(Ls (L6 (A:=Md) (merge:=Hg) (outs:=HO) (t1:=65) (t2:=66) (s:=66) (d:=12) (round:=G7) hE (h.prog ▸ Qo) (show pick 13 (AO (fb Tryz.f43))=bb (sr (sl (sr (sr (sr (sr (sr (bb (sl (sr (lb (bb (sr (sl (sr (sr (sr (fb Tryz.f43)))))))))))))))))) from by kernel_rfl) rfl rfl rfl (fun v i y=>by kernel_rfl) (fun y o=>by kernel_rfl) (fun y=>by kernel_rfl) (fun y=>by kernel_rfl) rfl (fun y=>by kernel_rfl)) (Au (fun x=>by kernel_rfl) AC))) (fun x=>by kernel_rfl))
def NV:Callee:=⟨[.val (.ptr BL)],[.val .bool],fun x=>Gp x.1⟩
def Kl:FL:=(45,none,NV)::ME
theorem Pj:Fs Tryz.prog V Kl:=
 have h:=Rf h0
 h.cons (gz h Ag Tryz.func45 (by kernel_rfl) (fun x=>by kernel_rfl))
def To:Callee:=⟨[.val (.ptr BL),.val (.int .i64)],[.val (.sl (.int .i64))],fun x=>IW x.1 x.2.1⟩
def JM:FL:=(53,none,To)::Kl
theorem OQ:Fs Tryz.prog V JM:=
 have h:=Pj h0
 h.cons (gd [.lp 4 ⟨33,[0,5,6,16,17],[.val (.ptr BL),.own (.int .i64),.val (.int .i64),.val (.int .i64),.val (.int .i64)],[],[]⟩ [.exit 0] LG] [] [] h Ag AB Tryz.func53 (by kernel_rfl) (fun _=>(Au (fun x=>by kernel_rfl) AC)) (fun x=>by kernel_rfl))
def SN:Callee:=⟨[.val (.ptr BL),.val (.int .i64)],[.val (.pair .str AE)],fun x=>LT x.1 x.2.1⟩
def Ni:FL:=(95,none,SN)::JM
theorem RG:Fs Tryz.prog V Ni:=
 have h:=OQ h0
 h.cons (gd [.lp 3 ⟨48,[0,4,5,27,28,29],[.val (.ptr BL),.box (.dat (.pair .str AE)),.box (.pair (.dat .str) (.pair (.own (.int .i64)) (.dat (.int .i64)))),.val (.sl (.int .i64)),.val (.int .i64),.val (.int .i64)],[],[]⟩ [.exit 0] JJ] [] [(1,[0,11,19],[100005])] h Ag AB Tryz.func95 (by kernel_rfl) (fun _=>(Au (fun x=>by kernel_rfl) AC)) (fun x=>by kernel_rfl))
def Ts:Callee:=⟨[.val (.sl (.int .i64)),.val (.sl (.int .i64))],[.val .bool],fun x=>I5 x.1 x.2.1⟩
def L7:FL:=(135,none,Ts)::Ni
theorem RR:Fs Tryz.prog V L7:=
 have h:=RG h0
 h.cons (gd [.lp 4 ⟨26,[0,1,4,12,13],[.val (.sl (.int .i64)),.val (.sl (.int .i64)),.val .bool,.val (.int .i64),.val (.int .i64)],[],[]⟩ [.exit 0,.ret] Mz] [] [] h Ag AB Tryz.func135 (by kernel_rfl) (fun _=>(Au (fun x=>by kernel_rfl) AC)) (fun x=>by kernel_rfl))
def RZ:Callee:=⟨[.val (.pair .str AE),.val (.pair .str AE)],[.val .bool],fun x=>G2 x.1 x.2.1⟩
def KR:FL:=(96,none,RZ)::L7
theorem TL:Fs Tryz.prog V KR:=
 have h:=RR h0
 h.cons (gz h Ag Tryz.func96 (by kernel_rfl) (fun x=>by kernel_rfl))
def OH:Callee:=⟨[.val (.ptr BL)],[.val (.sl BZ),.val (.sl (.pair .str AE)),.val .bool],fun x=>FI x.1⟩
def MD:FL:=(44,none,OH)::KR
theorem OV:Fs Tryz.prog V MD:=
 have h:=TL h0
 h.cons (gd [.lp 5 ⟨113,[0,2,3,4,5,6,7,8,25,26,27],[.val (.ptr BL),.val (.sl BZ),.val (.sl (.pair .str AE)),.val .bool,.mp BZ,.mp (.pair .str AE),.own BZ,.own (.pair .str AE),.val (.sl Ak),.val (.int .i64),.val (.int .i64)],[],[]⟩ [.exit 0,.ret] Jg] [] [] h Ag AB Tryz.func44 (by kernel_rfl) (fun _=>(Au (fun x=>by kernel_rfl) AC)) (fun x=>by kernel_rfl))
def P2:Callee:=⟨[.val (.sl Ak)],[.val (.ptr BL),.val .bool],fun x=>Ij x.1⟩
def MT:FL:=(52,none,P2)::MD
theorem Tk:Fs Tryz.prog V MT:=
 have h:=OV h0
 h.cons (gz h Ag Tryz.func52 (by kernel_rfl) (fun x=>by kernel_rfl))
def UT:Callee:=⟨[.val (.sl Ak)],[.val (.int .i64)],fun x=>ES x.1⟩
def KB:FL:=(25,none,UT)::MT
theorem Pa:Fs Tryz.prog V KB:=
 have h:=Tk h0
 h.cons (gz h Ag Tryz.func25 (by kernel_rfl) (fun x=>by kernel_rfl))
def Sv:Callee:=⟨[.val Ak,.val (.sl (.sl Ak))],[.val (.sl Ak),.val (.int .i64)],fun x=>B6 x.1 x.2.1⟩
def Kg:FL:=(15,none,Sv)::KB
theorem PP:Fs Tryz.prog V Kg:=
 have h:=Pa h0
 h.cons (gd [.lp 5 ⟨82,[2,4,5,6,7,21,22,23],[.box (.dat Ak),.val (.sl Ak),.val (.int .i64),.own (.int .i64),.row Ak,.val (.sl (.sl Ak)),.val (.int .i64),.val (.int .i64)],[],[7]⟩ [.exit 0,.ret] KW] [20] [] h Ag AB Tryz.func15 (by kernel_rfl) (fun _=>(Au (fun x=>by kernel_rfl) AC)) (fun x=>by kernel_rfl))
def Pp:Callee:=⟨[.val (.sl Ak),.val (.sl Ak)],[.val (.sl Ak),.val (.int .i64)],fun x=>KH x.1 x.2.1⟩
def L3:FL:=(207,none,Pp)::Kg
theorem RW:Fs Tryz.prog V L3:=
 have h:=PP h0
 h.cons (gz h Ag Tryz.func207 (by kernel_rfl) (fun x=>by kernel_rfl))
def OJ:Callee:=⟨[.val .str],[.val .str],fun x=>Hy x.1⟩
def LI:FL:=(150,none,OJ)::L3
theorem Tx:Fs Tryz.prog V LI:=
 have h:=RW h0
 h.cons (gz h Ag Tryz.func150 (by kernel_rfl) (fun x=>by kernel_rfl))
def Ro:Callee:=⟨[.val (.sl Ak)],[.val (.sl Ak),.val (.int .i64)],fun x=>G3 x.1⟩
def JU:FL:=(231,none,Ro)::LI
theorem Ug:Fs Tryz.prog V JU:=
 have h:=Tx h0
 h.cons (gz h Ag Tryz.func231 (by kernel_rfl) (fun x=>by kernel_rfl))
def SC:Callee:=⟨[.val (.sl (.sl Ak))],[.val (.sl Ak),.val (.int .i64)],fun x=>Jl x.1⟩
def Kd:FL:=(208,none,SC)::JU
theorem N4:Fs Tryz.prog V Kd:=
 have h:=Ug h0
 h.cons (gd [.lp 5 ⟨47,[2,3,4,23,24,25],[.val (.sl Ak),.val (.int .i64),.row (.sl Ak),.val (.sl (.sl Ak)),.val (.int .i64),.val (.int .i64)],[],[]⟩ [.exit 0,.ret] Lu] [21] [] h Ag AB Tryz.func208 (by kernel_rfl) (fun _=>(Au (fun x=>by kernel_rfl) AC)) (fun x=>by kernel_rfl))
def UW:Callee:=⟨[.val (.int .i64),.val (.int .i64)],[.val .str],fun x=>Jo x.1 x.2.1⟩
def Mf:FL:=(253,none,UW)::Kd
theorem PD:Fs Tryz.prog V Mf:=
 have h:=N4 h0
 h.cons (gz h Ag Tryz.func253 (by kernel_rfl) (fun x=>by kernel_rfl))
def RD:Callee:=⟨[.val As,.val As],[.val .str],fun x=>KT x.1 x.2.1⟩
def LD:FL:=(252,none,RD)::Mf
theorem UX:Fs Tryz.prog V LD:=
 have h:=PD h0
 h.cons (gz h Ag Tryz.func252 (by kernel_rfl) (fun x=>by kernel_rfl))
def Ps:Callee:=⟨[.val (.sl (.int .u32)),.val (.sl (.int .u32))],[.val (.sl (.int .u32))],fun x=>HA x.1 x.2.1⟩
def Jv:FL:=(226,none,Ps)::LD
theorem O0:Fs Tryz.prog V Jv:=
 have h:=UX h0
 h.cons (gd [.lp 7 ⟨69,[1,5,6,7,8,18,19,20,25,26,27],[.val (.sl (.int .u32)),.row (.int .u32),.val (.int .i64),.val (.int .u32),.val (.int .u64),.val (.sl (.int .u32)),.val (.int .i64),.val (.int .i64),.val (.sl (.int .u32)),.val (.int .i64),.val (.int .i64)],[],[]⟩ [.exit 2] JQ,.lp 3 ⟨69,[1,5,18,19,20],[.val (.sl (.int .u32)),.row (.int .u32),.val (.sl (.int .u32)),.val (.int .i64),.val (.int .i64)],[],[]⟩ [.exit 0] Nj] [] [] h Ag AB Tryz.func226 (by kernel_rfl) (fun _=>(Au (fun x=>by kernel_rfl) (Au (fun x=>by kernel_rfl) AC))) (fun x=>by kernel_rfl))
def P3:Callee:=⟨[.val CW,.val CW],[.val CW],fun x=>Nu x.1 x.2.1⟩
def KE:FL:=(255,none,P3)::Jv
theorem R_:Fs Tryz.prog V KE:=
 have h:=O0 h0
 h.cons (gz h Ag Tryz.func255 (by kernel_rfl) (fun x=>by kernel_rfl))
def Qk:Callee:=⟨[.val CW,.val CW],[.val .str],fun x=>IB x.1 x.2.1⟩
def Lw:FL:=(254,none,Qk)::KE
theorem Td:Fs Tryz.prog V Lw:=
 have h:=R_ h0
 h.cons (gz h Ag Tryz.func254 (by kernel_rfl) (fun x=>by kernel_rfl))
def QE:Callee:=⟨[.val .str,.val .str,.val (.fnv 252 .unit),.val (.fnv 254 .unit)],[.val .str],fun x=>Mg x.1 x.2.1 x.2.2.1 x.2.2.2.1⟩
def Kk:FL:=(251,some 252,QE)::Lw
theorem Tw:Fs Tryz.prog V Kk:=
 have h:=Td h0
 h.cons (gz h Ag Tryz.func251 (by kernel_rfl) (fun x=>by kernel_rfl))
def Ry:Callee:=⟨[.val .str,.val .str],[.val .str],fun x=>LP x.1 x.2.1⟩
def I4:FL:=(232,none,Ry)::Kk
theorem Pr:Fs Tryz.prog V I4:=
 have h:=Tw h0
 h.cons (gz h Ag Tryz.func232 (by kernel_rfl) (fun x=>by kernel_rfl))
def UR:Callee:=⟨[.val (.sl Ak),.val (.sl Ak)],[.val (.sl Ak),.val (.int .i64)],fun x=>KJ x.1 x.2.1⟩
def Mi:FL:=(209,none,UR)::I4
theorem N':Fs Tryz.prog V Mi:=
 have h:=Pr h0
 h.cons (gz h Ag Tryz.func209 (by kernel_rfl) (fun x=>by kernel_rfl))
def Sy:Callee:=⟨[.box (.dat (.pair (.sl (.pair (.int .i64) (.pair .str As))) (.map (.pair .str AE)))),.val (.int .i64),.val (.sl Ak),.val (.int .i64)],[.val (.sl Ak),.val (.int .i64)],fun x=>Is x.1 x.2.1 x.2.2.1 x.2.2.2.1⟩
def Mk:FL:=(210,none,Sy)::Mi
theorem So:Fs Tryz.prog V Mk:=
 have h:=N' h0
 h.cons (gz h Ag Tryz.func210 (by kernel_rfl) (fun x=>by kernel_rfl))
def Sc:Callee:=⟨[.val Ak],[.val .str],fun x=>H9 x.1⟩
def KP:FL:=(117,none,Sc)::Mk
theorem OR:Fs Tryz.prog V KP:=
 have h:=So h0
 h.cons (gz h Ag Tryz.func117 (by kernel_rfl) (fun x=>by kernel_rfl))
def T':Callee:=⟨[.box (.dat (.pair (.sl (.pair (.int .i64) (.pair .str As))) (.map (.pair .str AE)))),.val .str,.val (.sl (.sl Ak))],[.val (.sl Ak),.val (.int .i64)],fun x=>J5 x.1 x.2.1 x.2.2.1⟩
def KI:FL:=(211,none,T')::KP
theorem T6:Fs Tryz.prog V KI:=
 have h:=OR h0
 h.cons (gd [.lp 4 ⟨46,[0,6,7,8,9,10,28,29,30],[.box (.dat (.pair (.sl (.pair (.int .i64) (.pair .str As))) (.map (.pair .str AE)))),.val (.sl Ak),.val (.int .i64),.box (.dat (.pair .str AE)),.val (.sl Ak),.val (.int .i64),.val (.sl (.sl Ak)),.val (.int .i64),.val (.int .i64)],[0],[]⟩ [.exit 0,.ret] M0] [] [] h Ag AB Tryz.func211 (by kernel_rfl) (fun _=>(Au (fun x=>by kernel_rfl) AC)) (fun x=>by kernel_rfl))
def O9:Callee:=⟨[.box (.dat (.pair (.sl (.pair (.int .i64) (.pair .str As))) (.map (.pair .str AE)))),.val .str,.val (.sl (.int .i64)),.val (.sl (.sl Ak))],[.val (.sl Ak),.val (.int .i64)],fun x=>GI x.1 x.2.1 x.2.2.1 x.2.2.2.1⟩
def Mh:FL:=(180,none,O9)::KI
theorem Rs:Fs Tryz.prog V Mh:=
 have h:=T6 h0
 h.cons (gd [.lp 22 ⟨131,[0,1,3,8,9,12],[.box (.dat (.pair (.sl (.pair (.int .i64) (.pair .str As))) (.map (.pair .str AE)))),.val .str,.val (.sl (.sl Ak)),.val (.sl Ak),.val (.int .i64),.val (.int .i64)],[0],[]⟩ [.exit 1,.ret] Mc] [] [] h Ag AB Tryz.func180 (by kernel_rfl) (fun _=>(Au (fun x=>by kernel_rfl) AC)) (fun x=>by kernel_rfl))
def RC:Callee:=⟨[.box (.dat (.pair (.sl (.pair (.int .i64) (.pair .str As))) (.map (.pair .str AE)))),.val (.int .i64)],[.val (.sl .str),.val (.sl (.int .i64)),.val .bool],fun x=>JF x.1 x.2.1⟩
def Lf:FL:=(206,none,RC)::Mh
theorem Gg:Fs Tryz.prog V Lf:=
 have h:=Rs h0
 h.cons (gd [.lp 7 ⟨107,[0,4,5,6,7,8,9,37,38,39],[.box (.dat (.pair (.sl (.pair (.int .i64) (.pair .str As))) (.map (.pair .str AE)))),.val (.sl .str),.val (.sl (.int .i64)),.val .bool,.own .str,.own (.int .i64),.mp .bool,.val (.sl (.int .i64)),.val (.int .i64),.val (.int .i64)],[0],[]⟩ [.exit 0,.ret] J3] [] [(12,[0,12,69],[100013]),(16,[12],[95,96,103])] h Ag AB Tryz.func206 (by kernel_rfl) (fun _=>(Au (fun x=>by kernel_rfl) AC)) (fun x=>by kernel_rfl))
def EG (g:((List (Int×qBs×Ad))×List (qBs×qBs×Af))->Int->(List (qBs×List Ab))->Option (((List Ab)×Ad×Unit)×(((List (Int×qBs×Ad))×List (qBs×qBs×Af))×Unit))):Callee:=⟨[.box (.dat (.pair (.sl (.pair (.int .i64) (.pair .str As))) (.map (.pair .str AE)))),.val (.int .i64),.val (.chain (.pair .str (.sl Ak)))],[.val (.sl Ak),.val As],fun x=>g x.1 x.2.1 x.2.2.1⟩
def Rw:Callee:=EG (Et BV)
def El (g:((List (Int×qBs×Ad))×List (qBs×qBs×Af))->Int->(List (qBs×List Ab))->Option (((List Ab)×Ad×Unit)×(((List (Int×qBs×Ad))×List (qBs×qBs×Af))×Unit))):Callee:=⟨[.box (.dat (.pair (.sl (.pair (.int .i64) (.pair .str As))) (.map (.pair .str AE)))),.val (.int .i64),.val (.chain (.pair .str (.sl Ak)))],[.val (.sl Ak),.val As],fun x=>g x.1 x.2.1 x.2.2.1⟩
def Oc:Callee:=El (EO BV)
def Ep (g:((List (Int×qBs×Ad))×List (qBs×qBs×Af))->Int->List Int->(List (qBs×List Ab))->Option (((List Ab)×Ad×Unit)×(((List (Int×qBs×Ad))×List (qBs×qBs×Af))×Unit))):Callee:=⟨[.box (.dat (.pair (.sl (.pair (.int .i64) (.pair .str As))) (.map (.pair .str AE)))),.val (.int .i64),.val (.sl (.int .i64)),.val (.chain (.pair .str (.sl Ak)))],[.val (.sl Ak),.val As],fun x=>g x.1 x.2.1 x.2.2.1 x.2.2.2.1⟩
def Se:Callee:=Ep (E_ BV)
theorem TP (U8:((List (Int×qBs×Ad))×List (qBs×qBs×Af))->Int->(List (qBs×List Ab))->Option (((List Ab)×Ad×Unit)×(((List (Int×qBs×Ad))×List (qBs×qBs×Af))×Unit))) (U7:((List (Int×qBs×Ad))×List (qBs×qBs×Af))->Int->(List (qBs×List Ab))->Option (((List Ab)×Ad×Unit)×(((List (Int×qBs×Ad))×List (qBs×qBs×Af))×Unit))) (U6:((List (Int×qBs×Ad))×List (qBs×qBs×Af))->Int->List Int->(List (qBs×List Ab))->Option (((List Ab)×Ad×Unit)×(((List (Int×qBs×Ad))×List (qBs×qBs×Af))×Unit))) (r0:Good V 114 (EG U8)) (r1:Good V 148 (El U7)) (r2:Good V 179 (Ep U6)):Good V 114 (EG (My U8 U7 U6)):=
 have h:=Gg h0
 gz (Fs.cons (s:=none) (Fs.cons (s:=none) (Fs.cons (s:=none) h r0) r1) r2) Ag Tryz.func114 (by kernel_rfl) (fun x=>by kernel_rfl)
theorem Pv (U8:((List (Int×qBs×Ad))×List (qBs×qBs×Af))->Int->(List (qBs×List Ab))->Option (((List Ab)×Ad×Unit)×(((List (Int×qBs×Ad))×List (qBs×qBs×Af))×Unit))) (U7:((List (Int×qBs×Ad))×List (qBs×qBs×Af))->Int->(List (qBs×List Ab))->Option (((List Ab)×Ad×Unit)×(((List (Int×qBs×Ad))×List (qBs×qBs×Af))×Unit))) (U6:((List (Int×qBs×Ad))×List (qBs×qBs×Af))->Int->List Int->(List (qBs×List Ab))->Option (((List Ab)×Ad×Unit)×(((List (Int×qBs×Ad))×List (qBs×qBs×Af))×Unit))) (r0:Good V 114 (EG U8)) (r1:Good V 148 (El U7)) (r2:Good V 179 (Ep U6)):Good V 148 (El (MU U8 U7 U6)):=
 have h:=Gg h0
 gd [.lp 16 ⟨132,[0,1,2,6,7,8,9,14,95,96,97],[.box (.dat (.pair (.sl (.pair (.int .i64) (.pair .str As))) (.map (.pair .str AE)))),.val (.int .i64),.val (.chain (.pair .str (.sl Ak))),.val (.sl Ak),.box (.dat As),.val (.sl (.int .i64)),.val .str,.own (.sl Ak),.val (.sl (.int .i64)),.val (.int .i64),.val (.int .i64)],[0],[]⟩ [.exit 0,.ret] (GV U8 U7 U6)] [] [] (Fs.cons (s:=none) (Fs.cons (s:=none) (Fs.cons (s:=none) h r0) r1) r2) Ag AB Tryz.func148 (by kernel_rfl) (fun _=>(Au (fun x=>by kernel_rfl) AC)) (fun x=>by kernel_rfl)
theorem Sb (U8:((List (Int×qBs×Ad))×List (qBs×qBs×Af))->Int->(List (qBs×List Ab))->Option (((List Ab)×Ad×Unit)×(((List (Int×qBs×Ad))×List (qBs×qBs×Af))×Unit))) (U7:((List (Int×qBs×Ad))×List (qBs×qBs×Af))->Int->(List (qBs×List Ab))->Option (((List Ab)×Ad×Unit)×(((List (Int×qBs×Ad))×List (qBs×qBs×Af))×Unit))) (U6:((List (Int×qBs×Ad))×List (qBs×qBs×Af))->Int->List Int->(List (qBs×List Ab))->Option (((List Ab)×Ad×Unit)×(((List (Int×qBs×Ad))×List (qBs×qBs×Af))×Unit))) (r0:Good V 114 (EG U8)) (r1:Good V 148 (El U7)) (r2:Good V 179 (Ep U6)):Good V 179 (Ep (Me U8 U7 U6)):=
 have h:=Gg h0
 gd [.lp 6 ⟨67,[0,2,3,8,9,10,13,32,33,34],[.box (.dat (.pair (.sl (.pair (.int .i64) (.pair .str As))) (.map (.pair .str AE)))),.val (.sl (.int .i64)),.val (.chain (.pair .str (.sl Ak))),.val (.sl Ak),.box (.dat As),.val (.sl .str),.val (.chain (.pair .str (.sl Ak))),.val (.sl (.int .i64)),.val (.int .i64),.val (.int .i64)],[0],[]⟩ [.exit 0,.ret] (NM U8 U7 U6)] [] [] (Fs.cons (s:=none) (Fs.cons (s:=none) (Fs.cons (s:=none) h r0) r1) r2) Ag AB Tryz.func179 (by kernel_rfl) (fun _=>(Au (fun x=>by kernel_rfl) AC)) (fun x=>by kernel_rfl)
theorem IN (n:Nat):Good V 114 (EG (Et n))/\Good V 148 (El (EO n))/\Good V 179 (Ep (E_ n)):=by
 induction n with
 |zero=>exact ⟨Fc ⟨_,h0.prog ▸ Tryz.func114,by decide,rfl⟩ (fun _=>rfl),Fc ⟨_,h0.prog ▸ Tryz.func148,by decide,rfl⟩ (fun _=>rfl),Fc ⟨_,h0.prog ▸ Tryz.func179,by decide,rfl⟩ (fun _=>rfl)⟩
 |succ n ih=>exact ⟨TP h0 (Et n) (EO n) (E_ n) ih.1 ih.2.1 ih.2.2,Pv h0 (Et n) (EO n) (E_ n) ih.1 ih.2.1 ih.2.2,Sb h0 (Et n) (EO n) (E_ n) ih.1 ih.2.1 ih.2.2⟩
def K_:FL:=(179,none,Se)::(148,none,Oc)::(114,none,Rw)::Lf
theorem OE:Fs Tryz.prog V K_:=(Fs.cons (s:=none) (Fs.cons (s:=none) (Fs.cons (s:=none) (Gg h0) (IN h0 BV).1) (IN h0 BV).2.1) (IN h0 BV).2.2)
def QD:Callee:=⟨[.val (.sl (.pair (.int .i64) (.pair .str As))),.val (.int .i64),.val (.sl BZ),.val (.sl (.pair .str AE))],[.val (.sl Ak),.val (.int .i64),.val (.int .i64)],fun x=>Le x.1 x.2.1 x.2.2.1 x.2.2.2.1⟩
def Jb:FL:=(73,none,QD)::K_
theorem SI:Fs Tryz.prog V Jb:=
 have h:=OE h0
 h.cons (gz h Ag Tryz.func73 (by kernel_rfl) (fun x=>by kernel_rfl))
def Oi:Callee:=⟨[.val .str,.val (.sl BZ),.val (.sl (.pair .str AE))],[.val (.sl Ak),.val (.int .i64),.val (.int .i64)],fun x=>Iw x.1 x.2.1 x.2.2.1⟩
def Mo:FL:=(24,none,Oi)::Jb
theorem Q1:Fs Tryz.prog V Mo:=
 have h:=SI h0
 h.cons (gz h Ag Tryz.func24 (by kernel_rfl) (fun x=>by kernel_rfl))
def O3:Callee:=⟨[.val .str],[.val .str],fun x=>Lk x.1⟩
def ML:FL:=(151,none,O3)::Mo
theorem P':Fs Tryz.prog V ML:=
 have h:=Q1 h0
 h.cons (gz h Ag Tryz.func151 (by kernel_rfl) (fun x=>by kernel_rfl))
def SY:Callee:=⟨[.val .str],[.val .str],fun x=>NG x.1⟩
def MK:FL:=(152,none,SY)::ML
theorem Kb:Fs Tryz.prog V MK:=
 have h:=P' h0
 h.cons (gz h Ag Tryz.func152 (by kernel_rfl) (fun x=>by kernel_rfl))
def Gz (g:Int->qBs->Option ((qBs×Unit)×Unit)):Callee:=⟨[.val (.int .i64),.val .str],[.val .str],fun x=>g x.1 x.2.1⟩
def O6:Callee:=Gz (Fr BV)
theorem SD (U5:Int->qBs->Option ((qBs×Unit)×Unit)) (r0:Good V 116 (Gz U5)):Good V 116 (Gz (Lc U5)):=
 have h:=Kb h0
 gz (Fs.cons (s:=none) h r0) Ag Tryz.func116 (by kernel_rfl) (fun x=>by kernel_rfl)
theorem QC (n:Nat):Good V 116 (Gz (Fr n)):=by
 induction n with
 |zero=>exact Fc ⟨_,h0.prog ▸ Tryz.func116,by decide,rfl⟩ (fun _=>rfl)
 |succ n ih=>exact SD h0 (Fr n) ih
def JC:FL:=(116,none,O6)::MK
theorem LL:Fs Tryz.prog V JC:=(Fs.cons (s:=none) (Kb h0) (QC h0 BV))
def FW (g:Option AL->(Unit×List Int)->Int->Option ((Unit)×((Unit×List Int)×Unit))):Callee:=⟨[.val (.ptr BL),.box (.pair .slf (.own (.int .u8))),.val (.int .i64)],[],fun x=>g x.1 x.2.1 x.2.2.1⟩
def Qt:Callee:=FW (Fk BV)
theorem NO (U9:Option AL->(Unit×List Int)->Int->Option ((Unit)×((Unit×List Int)×Unit))) (r0:Good V 74 (FW U9)):Good V 74 (FW (KD U9)):=
 have h:=LL h0
 gd [.lp 4 ⟨71,[0,1,6,25,26,27],[.val (.ptr BL),.box (.pair .slf (.own (.int .u8))),.box (.dat Ak),.val (.sl (.int .i64)),.val (.int .i64),.val (.int .i64)],[0],[]⟩ [.exit 1] (I6 U9)] [] [] (Fs.cons (s:=none) h r0) Ag AB Tryz.func74 (by kernel_rfl) (fun _=>(Au (fun x=>by kernel_rfl) AC)) (fun x=>by kernel_rfl)
theorem Qx (n:Nat):Good V 74 (FW (Fk n)):=by
 induction n with
 |zero=>exact Fc ⟨_,h0.prog ▸ Tryz.func74,by decide,rfl⟩ (fun _=>rfl)
 |succ n ih=>exact NO h0 (Fk n) ih
def Lh:FL:=(74,none,Qt)::JC
theorem SZ:Fs Tryz.prog V Lh:=(Fs.cons (s:=none) (LL h0) (Qx h0 BV))
def PF:Callee:=⟨[.val (.sl Ak)],[.val .str],fun x=>LA x.1⟩
def J6:FL:=(26,none,PF)::Lh
theorem Rk:Fs Tryz.prog V J6:=
 have h:=SZ h0
 h.cons (gz h Ag Tryz.func26 (by kernel_rfl) (fun x=>by kernel_rfl))
def S8:Callee:=⟨[],[.val .bool],fun _=>FB⟩
def MV:FL:=(9,none,S8)::J6
theorem SA:Fs Tryz.prog V MV:=
 have h:=Rk h0
 h.cons (gz h Ag Tryz.func9 (by kernel_rfl) (fun x=>by kernel_rfl))
def RI:Callee:=⟨[],[.val (.sl .str)],fun _=>GX⟩
def MB:FL:=(30,none,RI)::MV
theorem R9:Fs Tryz.prog V MB:=
 have h:=SA h0
 h.cons (gz h Ag Tryz.func30 (by kernel_rfl) (fun x=>by kernel_rfl))
def PV:Callee:=⟨[.val (.sl .str),.val .str],[.val .bool],fun x=>Gd x.1 x.2.1⟩
def JR:FL:=(29,none,PV)::MB
theorem R3:Fs Tryz.prog V JR:=
 have h:=R9 h0
 h.cons (gd [.lp 2 ⟨18,[0,1,4,5],[.val (.sl .str),.val .str,.val .bool,.val (.int .i64)],[],[]⟩ [.exit 0,.ret] EZ] [] [] h Ag AB Tryz.func29 (by kernel_rfl) (fun _=>(Au (fun x=>by kernel_rfl) AC)) (fun x=>by kernel_rfl))
def Ta:Callee:=⟨[.val (.int .u8)],[.val .bool],fun x=>FU x.1⟩
def Nw:FL:=(31,none,Ta)::JR
theorem N9:Fs Tryz.prog V Nw:=
 have h:=R3 h0
 h.cons (gz h Ag Tryz.func31 (by kernel_rfl) (fun x=>by kernel_rfl))
def OY:Callee:=⟨[.val .str],[.val .bool],fun x=>CF x.1⟩
def M9:FL:=(11,none,OY)::Nw
theorem RS:Fs Tryz.prog V M9:=
 have h:=N9 h0
 h.cons (gd [.lp 4 ⟨63,[0,2,3],[.val .str,.val .bool,.val (.int .i64)],[],[]⟩ [.exit 0,.ret] E7] [] [] h Ag AB Tryz.func11 (by kernel_rfl) (fun _=>(Au (fun x=>by kernel_rfl) AC)) (fun x=>by kernel_rfl))
def JZ:Callee:=⟨[.val .str,.val (.int .i64)],[.val .bool],fun x=>Gn x.1 x.2.1⟩
def TS:FL:=(3,none,JZ)::M9
theorem Rz:Fs Tryz.prog V TS:=
 have h:=RS h0
 h.cons (gd [.lp 3 ⟨61,[0,1,5,6],[.val .str,.val (.int .i64),.val .str,.val (.int .i64)],[],[]⟩ [.exit 0] Fi] [] [] h Ag AB Tryz.func3 (by kernel_rfl) (fun _=>(Au (fun x=>by kernel_rfl) AC)) (fun x=>by kernel_rfl))
end
end Go.AM.Num
end
