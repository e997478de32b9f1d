/- Law ValueShape of the values: a machine of plain values, what the program's functions compute in it, and what that is. No condition beyond what the statement says. -/
import Derived.Test.YtcpdjngcofhljaaGreatDoorValueShape3
import Derived.Test.YtcpdjngcofhljaaGreatDoorProg
import Derived.TacticsInMore
import Derived.LoopNIn
import Derived.LoopIn
import Derived.RangeFuncLeaves
import Derived.RangeFuncBox
import Derived.RangeFuncWrites
import Derived.RangeFuncNested
import Derived.OwnWalkIn
import Derived.Shelf.Abstract
import Derived.WalkKit
import Derived.Lib.Walk
import Derived.BigCall
import Derived.BigGuard
set_option linter.unusedSimpArgs false
set_option linter.unusedVariables false
section
namespace Go.AM.Num
set_option maxRecDepth 100000
set_option linter.unusedVariables false
noncomputable section
def big:Nat:=2 ^ 64
@[reducible] def gVr : GT := (.pair .str (.int .i64))
abbrev Vr:=qBs×Int
abbrev zVr:Vr:=(([]:qBs),(0:Int))
@[reducible] def qOt : GT := (.pair (.int .i64) (.int .i64))
abbrev Sml:=Int×Int
@[reducible] def qJC : GT := (.pair (.sl (.int .i64)) (.int .i64))
abbrev qJA:=(List Int)×Int
@[reducible] def qCi : GT := (.pair .bool (.pair .str .str))
abbrev qOq:=Bool×qBs×qBs
@[reducible] def gRt : GT := (.pair .bool (.pair (.sl (.int .u32)) (.sl (.int .u32))))
abbrev Rt:=Bool×(List Int)×List Int
@[reducible] def qNI : GT := (.pair (.int .i64) (.pair (.int .i64) (.pair .str gVr)))
abbrev Nod:=Int×Int×qBs×Vr
abbrev qPC:Nod:=((0:Int),(0:Int),([]:qBs),([]:qBs),(0:Int))
@[reducible] def qFE : GT := (.pair (.int .i64) (.pair .bool (.pair .str (.pair (.sl .str) (.sl .str)))))
abbrev Val:=Int×Bool×qBs×(List qBs)×List qBs
abbrev qVO:Val:=((0:Int),false,([]:qBs),([]:List qBs),([]:List qBs))
@[reducible] def qKaa : GT := (.pair .str qFE)
abbrev qXu:=qBs×Val
abbrev qVah:qXu:=(([]:qBs),(0:Int),false,([]:qBs),([]:List qBs),([]:List qBs))
@[reducible] def qVW : GT := (.pair (.sl qNI) (.sl (.pair (.int .i64) qOt)))
abbrev qWP:=(List Nod)×List (Int×Sml)
abbrev qWL:qWP:=(([]:List Nod),([]:List (Int×Sml)))
@[reducible] def qRP : GT := (.pair .str (.pair (.sl (.sl qFE)) (.pair (.sl qFE) qFE)))
abbrev Interp:=qBs×(List (List Val))×(List Val)×Val
abbrev qVK:Interp:=(([]:qBs),([]:List (List Val)),([]:List Val),(0:Int),false,([]:qBs),([]:List qBs),([]:List qBs))
@[reducible] def gEvl : GT := (.pair (.sl qNI) (.pair (.int .i64) (.pair (.map qFE) (.map qRP))))
abbrev Evl:=(List Nod)×Int×(List (qBs×Val))×List (qBs×Interp)
def qQQ (x:Val×Bool×Int×Unit):Option (Ex×(Val×Bool×Int×Unit)):=
 let v1:=x.1
 let t2:=x.2.1
 let i3:=x.2.2.1
 cond (decide (i3 < (v1.2.2.2.1.length:Int)))
 (grd (decide (0<=i3)&&decide (i3 < v1.2.2.2.1.length)) (
 cond (decide (((v1.2.2.2.1.getD i3.toNat ([]:qBs)).length:Int) > (50:Int)))
 (some (Ex.ret,(v1,false,i3,())))
 (some (Ex.normal,(v1,t2,qI (i3+1),())))))
 (some (Ex.exit 0,(v1,t2,i3,())))
def qCQ (x:Val×Bool×Int×Unit):Option (Ex×(Val×Bool×Int×Unit)):=
 let v1:=x.1
 let t2:=x.2.1
 let i4:=x.2.2.1
 cond (decide (i4 < (v1.2.2.2.2.length:Int)))
 (grd (decide (0<=i4)&&decide (i4 < v1.2.2.2.2.length)) (
 cond (decide (((v1.2.2.2.2.getD i4.toNat ([]:qBs)).length:Int) > (50:Int)))
 (some (Ex.ret,(v1,false,i4,())))
 (some (Ex.normal,(v1,t2,qI (i4+1),())))))
 (some (Ex.exit 2,(v1,t2,i4,())))
def qJd (v0:Val):Option ((Bool×Unit)×Unit):=
 cond (decide ((v0.2.2.1.length:Int) > (50:Int)))
 (some ((false,()),()))
 (cond (decide ((v0.2.2.2.1.length:Int) > (12:Int)))
 (some ((false,()),()))
 (cond (decide ((v0.2.2.2.2.length:Int) > (12:Int)))
 (some ((false,()),()))
 ((qLA qQQ (v0,false,0,())).bind fun y1=>
 cond (Ex.same y1.1 (Ex.exit 0))
 ((qLA qCQ (y1.2.1,y1.2.2.1,0,())).bind fun y2=>
 cond (Ex.same y2.1 (Ex.exit 2))
 (some ((true,()),()))
 (cond (Ex.same y2.1 Ex.ret)
 (some ((y2.2.2.1,()),()))
 (none)))
 (cond (Ex.same y1.1 Ex.ret)
 (some ((y1.2.2.1,()),()))
 (none)))))
def qPaj (sort0:Int):Option ((Val×Int×Unit)×Unit):=
 cond (sort0==1)
 (some (((sort0,false,([]:qBs),([]:List qBs),([]:List qBs)),0,()),()))
 (cond (sort0==2)
 (some (((sort0,false,([48]:qBs),([]:List qBs),([]:List qBs)),0,()),()))
 (cond (sort0==3)
 (some (((sort0,false,([48]:qBs),([]:List qBs),([]:List qBs)),0,()),()))
 (cond (sort0==4)
 (some (((sort0,false,([48]:qBs),([]:List qBs),([]:List qBs)),0,()),()))
 (some ((((0:Int),false,([]:qBs),([]:List qBs),([]:List qBs)),1,()),())))))
def qJU (v0:Val):Option ((Bool×Unit)×Unit):=
 cond ((v0.2.2.2.1.length:Int)==0)
 (some (((v0.2.2.2.2.length:Int)==0,()),()))
 (some ((false,()),()))
def qFF (x:qBs×Bool×(List Int)×Int×Int×Unit):Option (Ex×(qBs×Bool×(List Int)×Int×Int×Unit)):=
 let s0:=x.1
 let t2:=x.2.1
 let t6:=x.2.2.1
 let t7:=x.2.2.2.1
 let t8:=x.2.2.2.2.1
 cond (decide (t8 < t7))
 (grd (decide (0<=t8)&&decide (t8 < t6.length)) (
 cond (decide ((t6.getD t8.toNat (0:Int)) < (48:Int)))
 (some (Ex.ret,(s0,false,t6,t7,t8,())))
 (cond (decide ((t6.getD t8.toNat (0:Int)) > (57:Int)))
 (some (Ex.ret,(s0,false,t6,t7,t8,())))
 (some (Ex.normal,(s0,t2,t6,t7,qI (t8+1),()))))))
 (some (Ex.exit 0,(s0,t2,t6,t7,t8,())))
def qBJ (s0:qBs):Option ((Bool×Unit)×Unit):=
 (qLA qFF (s0,false,s0.map fun b=>(b.toNat:Int),((s0.map fun b=>(b.toNat:Int)).length:Int),0,())).bind fun y1=>
 cond (Ex.same y1.1 (Ex.exit 0))
 (cond (y1.2.1==([48]:qBs))
 (some ((true,()),()))
 (cond (!(y1.2.1==([]:qBs)))
 (grd (decide (0<=(0:Int))&&decide ((0:Int) < y1.2.1.length)) (some ((((y1.2.1.getD (0:Int).toNat 0).toNat:Int) !=(48:Int),()),())))
 (some ((false,()),()))))
 (cond (Ex.same y1.1 Ex.ret)
 (some ((y1.2.2.1,()),()))
 (none))
def qEH (a0:qBs):Option ((Bool×Unit)×Unit):=
 (strings_CutPrefix a0 ([45]:qBs)).bind fun r1=>
 (qBJ r1.1.1).bind fun r2=>
 cond (r2.1.1)
 (cond (r1.1.2.1)
 (some ((!(r1.1.1==([48]:qBs)),()),()))
 (some ((true,()),())))
 (some ((false,()),()))
def qEM (x:Int×Int×Unit):Option (Ex×(Int×Int×Unit)):=
 let a0:=x.1
 let b1:=x.2.1
 cond (b1 !=(0:Int))
 (grd (b1 !=0) (some (Ex.normal,(b1,a0.tmod b1,()))))
 (some (Ex.exit 0,(a0,b1,())))
def qJO (a0:Int) (b1:Int):Option ((Int×Unit)×Unit):=
 (qLA qEM (a0,b1,())).bind fun y1=>
 cond (Ex.same y1.1 (Ex.exit 0))
 (some ((y1.2.1,()),()))
 (none)
def qLB (a0:qBs):Option ((Sml×Bool×Unit)×Unit):=
 (strings_CutPrefix a0 ([45]:qBs)).bind fun r1=>
 (strings_Cut r1.1.1 ([47]:qBs)).bind fun r2=>
 cond (decide ((r2.1.1.length:Int) > (9:Int)))
 (some ((((0:Int),(0:Int)),false,()),()))
 (cond (decide ((r2.1.2.1.length:Int) > (9:Int)))
 (some ((((0:Int),(0:Int)),false,()),()))
 ((qBJ r2.1.1).bind fun r3=>
 cond (!r3.1.1)
 (some ((((0:Int),(0:Int)),false,()),()))
 (cond (r2.1.1==([48]:qBs))
 (cond (r1.1.2.1)
 (some ((((0:Int),(0:Int)),false,()),()))
 (cond (r2.1.2.2.1)
 (some ((((0:Int),(0:Int)),false,()),()))
 ((qGD r2.1.1 10 64).bind fun r4=>
 cond (r2.1.2.2.1)
 ((qBJ r2.1.2.1).bind fun r5=>
 cond (!r5.1.1)
 (some ((((0:Int),(0:Int)),false,()),()))
 ((qGD r2.1.2.1 10 64).bind fun r6=>
 cond (decide (r6.1.1 < (2:Int)))
 (some ((((0:Int),(0:Int)),false,()),()))
 ((qJO r4.1.1 r6.1.1).bind fun r7=>
 cond (r7.1.1 !=(1:Int))
 (some ((((0:Int),(0:Int)),false,()),()))
 (cond (r1.1.2.1)
 (some (((qI (0 - r4.1.1),r6.1.1),true,()),()))
 (some (((r4.1.1,r6.1.1),true,()),()))))))
 (cond (r1.1.2.1)
 (some (((qI (0 - r4.1.1),1),true,()),()))
 (some (((r4.1.1,1),true,()),()))))))
 ((qGD r2.1.1 10 64).bind fun r8=>
 cond (r2.1.2.2.1)
 ((qBJ r2.1.2.1).bind fun r9=>
 cond (!r9.1.1)
 (some ((((0:Int),(0:Int)),false,()),()))
 ((qGD r2.1.2.1 10 64).bind fun r10=>
 cond (decide (r10.1.1 < (2:Int)))
 (some ((((0:Int),(0:Int)),false,()),()))
 ((qJO r8.1.1 r10.1.1).bind fun r11=>
 cond (r11.1.1 !=(1:Int))
 (some ((((0:Int),(0:Int)),false,()),()))
 (cond (r1.1.2.1)
 (some (((qI (0 - r8.1.1),r10.1.1),true,()),()))
 (some (((r8.1.1,r10.1.1),true,()),()))))))
 (cond (r1.1.2.1)
 (some (((qI (0 - r8.1.1),1),true,()),()))
 (some (((r8.1.1,1),true,()),())))))))
def qQC (x:(List Int)×Int×Unit):Option (Ex×((List Int)×Int×Unit)):=
 let a0:=x.1
 let n3:=x.2.1
 cond (decide (n3 > (0:Int)))
 (grd (decide (0<=qI (n3 - (1:Int)))&&decide (qI (n3 - (1:Int)) < a0.length)) (
 cond ((a0.getD (qI (n3 - (1:Int))).toNat (0:Int))==0)
 (some (Ex.normal,(a0,qI (n3 - (1:Int)),())))
 (some (Ex.exit 0,(a0,n3,())))))
 (some (Ex.exit 0,(a0,n3,())))
def qWE (a0:List Int):Option (((List Int)×Unit)×Unit):=
 (qLA qQC (a0,(a0.length:Int),())).bind fun y1=>
 cond (Ex.same y1.1 (Ex.exit 0))
 (grd (decide (0<=y1.2.2.1)&&decide (y1.2.2.1<=y1.2.1.length)) (some ((y1.2.1.take y1.2.2.1.toNat,()),())))
 (none)
def qMN (x:qBs×(List Int)×Int×Int×(List Int)×Int×Int×Unit):Option (Ex×(qBs×(List Int)×Int×Int×(List Int)×Int×Int×Unit)):=
 let s0:=x.1
 let out3:=x.2.1
 let end4:=x.2.2.1
 let v5:=x.2.2.2.1
 let t20:=x.2.2.2.2.1
 let t21:=x.2.2.2.2.2.1
 let t22:=x.2.2.2.2.2.2.1
 cond (decide (t22 < t21))
 (grd (decide (0<=t22)&&decide (t22 < t20.length)) (some (Ex.normal,(s0,out3,end4,IntKind.u32.wrap ((IntKind.u32.wrap (v5 * (10:Int)))+(IntKind.u32.wrap (IntKind.u8.wrap ((t20.getD t22.toNat (0:Int)) - (48:Int))))),t20,t21,qI (t22+1),()))))
 (some (Ex.exit 2,(s0,out3,end4,v5,t20,t21,t22,())))
def qVQ (x:qBs×(List Int)×Int×Unit):Option (Ex×(qBs×(List Int)×Int×Unit)):=
 let s0:=x.1
 let out3:=x.2.1
 let end4:=x.2.2.1
 cond (decide (end4 > (0:Int)))
 (grd (decide (0<=qFZ (qI (end4 - (9:Int))) (0:Int))&&decide (qFZ (qI (end4 - (9:Int))) (0:Int)<=end4)&&decide (end4<=s0.length)) (
 (qLA qMN (s0,out3,end4,0,((s0.take end4.toNat).drop (qFZ (qI (end4 - (9:Int))) (0:Int)).toNat).map fun b=>(b.toNat:Int),((((s0.take end4.toNat).drop (qFZ (qI (end4 - (9:Int))) (0:Int)).toNat).map fun b=>(b.toNat:Int)).length:Int),0,())).bind fun y1=>
 cond (Ex.same y1.1 (Ex.exit 2))
 (grd (decide (y1.2.2.1.length+([y1.2.2.2.2.1]:List Int).length<=qSE)) (some (Ex.normal,(y1.2.1,y1.2.2.1++([y1.2.2.2.2.1]:List Int),qI (y1.2.2.2.1 - (9:Int)),()))))
 (none)))
 (some (Ex.exit 0,(s0,out3,end4,())))
def qUV (s0:qBs):Option (((List Int)×Unit)×Unit):=
 (qLA qVQ (s0,([]:List Int),(s0.length:Int),())).bind fun y1=>
 cond (Ex.same y1.1 (Ex.exit 0))
 ((qWE y1.2.2.1).bind fun r2=>
 some ((r2.1.1,()),()))
 (none)
def qCK (x:(List Int)×(List Int)×Int×Int×Unit):Option (Ex×((List Int)×(List Int)×Int×Int×Unit)):=
 let a0:=x.1
 let b1:=x.2.1
 let t4:=x.2.2.1
 let i5:=x.2.2.2.1
 cond (decide (i5>=0))
 (grd (decide (0<=i5)&&decide (i5 < a0.length)) (
 grd (decide (0<=i5)&&decide (i5 < b1.length)) (
 cond ((a0.getD i5.toNat (0:Int)) !=(b1.getD i5.toNat (0:Int)))
 (grd (decide (0<=i5)&&decide (i5 < a0.length)) (grd (decide (0<=i5)&&decide (i5 < b1.length)) (some (Ex.ret,(a0,b1,qI ((qI (a0.getD i5.toNat (0:Int))) - (qI (b1.getD i5.toNat (0:Int)))),i5,())))))
 (some (Ex.normal,(a0,b1,t4,qI (i5 - (1:Int)),()))))))
 (some (Ex.exit 0,(a0,b1,t4,i5,())))
def qWN (a0:List Int) (b1:List Int):Option ((Int×Unit)×Unit):=
 cond ((a0.length:Int) !=(b1.length:Int))
 (some ((qI ((a0.length:Int) - (b1.length:Int)),()),()))
 ((qLA qCK (a0,b1,0,qI ((a0.length:Int) - (1:Int)),())).bind fun y1=>
 cond (Ex.same y1.1 (Ex.exit 0))
 (some ((0,()),()))
 (cond (Ex.same y1.1 Ex.ret)
 (some ((y1.2.2.2.1,()),()))
 (none)))
def qOG (x:(List Int)×Int×(List Int)×Int×Int×Unit):Option (Ex×((List Int)×Int×(List Int)×Int×Int×Unit)):=
 let a0:=x.1
 let b1:=x.2.1
 let q6:=x.2.2.1
 let rest7:=x.2.2.2.1
 let i8:=x.2.2.2.2.1
 cond (decide (i8>=0))
 (grd (decide (0<=i8)&&decide (i8 < a0.length)) (grd ((qU (b1)) !=0) (grd ((qU (b1)) !=0) (grd (decide (0<=i8)&&decide (i8 < q6.length)) (grd (decide (i8.toNat < q6.length)) (some (Ex.normal,(a0,b1,q6.set i8.toNat (IntKind.u32.wrap (qU ((qU ((qU (rest7 * (1000000000:Int)))+(qU (a0.getD i8.toNat (0:Int))))).tdiv (qU (b1))))),(qU ((qU (rest7 * (1000000000:Int)))+(qU (a0.getD i8.toNat (0:Int))))).tmod (qU (b1)),qI (i8 - (1:Int)),()))))))))
 (some (Ex.exit 0,(a0,b1,q6,rest7,i8,())))
def qFI (a0:List Int) (b1:Int):Option (((List Int)×(List Int)×Unit)×Unit):=
 grd (decide (0<=(a0.length:Int))&&decide ((a0.length:Int)<=(a0.length:Int))&&decide ((a0.length:Int)<=qSE)) (
 (qLA qOG (a0,b1,List.replicate (a0.length:Int).toNat (0:Int),0,qI ((a0.length:Int) - (1:Int)),())).bind fun y1=>
 cond (Ex.same y1.1 (Ex.exit 0))
 ((qWE y1.2.2.2.1).bind fun r2=>
 (qWE ([IntKind.u32.wrap (y1.2.2.2.2.1)]:List Int)).bind fun r3=>
 some ((r2.1.1,r3.1.1,()),()))
 (none))
def qHK (x:(List Int)×Int×Unit):Option (Ex×((List Int)×Int×Unit)):=
 let a0:=x.1
 let n3:=x.2.1
 cond (decide (n3 > (0:Int)))
 (grd (decide (0<=qI (n3 - (1:Int)))&&decide (qI (n3 - (1:Int)) < a0.length)) (
 grd (decide ((qI (n3 - (1:Int))).toNat < a0.length)) (
 cond ((a0.getD ((qI (n3 - (1:Int))).toNat) (0:Int))==0)
 (some (Ex.normal,(a0,qI (n3 - (1:Int)),())))
 (some (Ex.exit 0,(a0,n3,()))))))
 (some (Ex.exit 0,(a0,n3,())))
def qCP (a0:List Int):Option ((Nat×Unit)×((List Int)×Unit)):=
 (qLA qHK (a0,(a0.length:Int),())).bind fun y1=>
 cond (Ex.same y1.1 (Ex.exit 0))
 (grd (decide (0<=y1.2.2.1)&&decide (y1.2.2.1<=y1.2.1.length)) (some ((y1.2.2.1.toNat,()),y1.2.1,())))
 (none)
def qBV (x:(List Int)×(List Int)×Int×Int×Int×(List Int)×Int×Int×(List Int)×Int×Int×Unit):Option (Ex×((List Int)×(List Int)×Int×Int×Int×(List Int)×Int×Int×(List Int)×Int×Int×Unit)):=
 let b1:=x.1
 let out5:=x.2.1
 let i6:=x.2.2.1
 let x7:=x.2.2.2.1
 let carry8:=x.2.2.2.2.1
 let t18:=x.2.2.2.2.2.1
 let t19:=x.2.2.2.2.2.2.1
 let t20:=x.2.2.2.2.2.2.2.1
 let t25:=x.2.2.2.2.2.2.2.2.1
 let t26:=x.2.2.2.2.2.2.2.2.2.1
 let t27:=x.2.2.2.2.2.2.2.2.2.2.1
 cond (decide (t27 < t26))
 (grd (decide (0<=t27)&&decide (t27 < t25.length)) (grd (decide (0<=qI (i6+t27))&&decide (qI (i6+t27) < out5.length)) (grd (decide ((qI (i6+t27)).toNat < out5.length)) (grd ((1000000000:Int) !=0) (grd ((1000000000:Int) !=0) (grd (decide (0<=qI (i6+t27))&&decide (qI (i6+t27) < out5.length)) (grd (decide ((qI (i6+t27)).toNat < out5.length)) (some (Ex.normal,(b1,out5.set ((qI (i6+t27)).toNat) (IntKind.u32.wrap ((qU ((qU ((qU (out5.getD ((qI (i6+t27)).toNat) (0:Int)))+(qU ((qU (x7)) * (qU (t25.getD t27.toNat (0:Int)))))))+carry8)).tmod 1000000000)),i6,x7,qU ((qU ((qU ((qU (out5.getD ((qI (i6+t27)).toNat) (0:Int)))+(qU ((qU (x7)) * (qU (t25.getD t27.toNat (0:Int)))))))+carry8)).tdiv 1000000000),t18,t19,t20,t25,t26,qI (t27+1),()))))))))))
 (some (Ex.exit 2,(b1,out5,i6,x7,carry8,t18,t19,t20,t25,t26,t27,())))
def qUP (x:(List Int)×(List Int)×(List Int)×Int×Int×Unit):Option (Ex×((List Int)×(List Int)×(List Int)×Int×Int×Unit)):=
 let b1:=x.1
 let out5:=x.2.1
 let t18:=x.2.2.1
 let t19:=x.2.2.2.1
 let t20:=x.2.2.2.2.1
 cond (decide (t20 < t19))
 (grd (decide (0<=t20)&&decide (t20 < t18.length)) (
 (qLA qBV (b1,out5,t20,t18.getD t20.toNat (0:Int),0,t18,t19,t20,b1,(b1.length:Int),0,())).bind fun y1=>
 cond (Ex.same y1.1 (Ex.exit 2))
 (grd (decide (0<=qI (y1.2.2.2.1+(y1.2.1.length:Int)))&&decide (qI (y1.2.2.2.1+(y1.2.1.length:Int)) < y1.2.2.1.length)) (grd (decide ((qI (y1.2.2.2.1+(y1.2.1.length:Int))).toNat < y1.2.2.1.length)) (some (Ex.normal,(y1.2.1,y1.2.2.1.set ((qI (y1.2.2.2.1+(y1.2.1.length:Int))).toNat) (IntKind.u32.wrap (y1.2.2.2.2.2.1)),y1.2.2.2.2.2.2.1,y1.2.2.2.2.2.2.2.1,qI (y1.2.2.2.2.2.2.2.2.1+1),())))))
 (none)))
 (some (Ex.exit 0,(b1,out5,t18,t19,t20,())))
def qEO (a0:List Int) (b1:List Int):Option (((List Int)×Unit)×Unit):=
 grd (decide (0<=qI ((a0.length:Int)+(b1.length:Int)))&&decide (qI ((a0.length:Int)+(b1.length:Int))<=qI ((a0.length:Int)+(b1.length:Int)))&&decide (qI ((a0.length:Int)+(b1.length:Int))<=qSE)) (
 (qLA qUP (b1,List.replicate (qI ((a0.length:Int)+(b1.length:Int))).toNat (0:Int),a0,(a0.length:Int),0,())).bind fun y1=>
 cond (Ex.same y1.1 (Ex.exit 0))
 ((qCP y1.2.2.1).bind fun r2=>
 some ((r2.2.1.take r2.1.1,()),()))
 (none))
def qSD (x:(List Int)×(List Int)×Int×Int×Int×Int×Int×Unit):Option (Ex×((List Int)×(List Int)×Int×Int×Int×Int×Int×Unit)):=
 let u0:=x.1
 let v1:=x.2.1
 let times2:=x.2.2.1
 let carry7:=x.2.2.2.1
 let borrow8:=x.2.2.2.2.1
 let t12:=x.2.2.2.2.2.1
 let t13:=x.2.2.2.2.2.2.1
 cond (decide (t13 < t12))
 (cond (decide (t13 < (v1.length:Int)))
 (grd (decide (0<=t13)&&decide (t13 < v1.length)) (
 grd (decide (0<=t13)&&decide (t13 < u0.length)) (
 grd (decide (t13.toNat < u0.length)) (
 grd ((1000000000:Int) !=0) (
 grd ((1000000000:Int) !=0) (
 cond (decide ((qI ((qI ((qI (u0.getD t13.toNat (0:Int))) - borrow8)) - (qI ((qU (carry7+(qU (times2 * (qU (v1.getD t13.toNat (0:Int))))))).tmod 1000000000)))) < (0:Int)))
 (grd (decide (0<=t13)&&decide (t13 < u0.length)) (grd (decide (t13.toNat < u0.length)) (some (Ex.normal,(u0.set t13.toNat (IntKind.u32.wrap (qI ((qI ((qI ((qI (u0.getD t13.toNat (0:Int))) - borrow8)) - (qI ((qU (carry7+(qU (times2 * (qU (v1.getD t13.toNat (0:Int))))))).tmod 1000000000))))+1000000000))),v1,times2,qU ((qU (carry7+(qU (times2 * (qU (v1.getD t13.toNat (0:Int))))))).tdiv 1000000000),1,t12,qI (t13+1),())))))
 (grd (decide (0<=t13)&&decide (t13 < u0.length)) (grd (decide (t13.toNat < u0.length)) (some (Ex.normal,(u0.set t13.toNat (IntKind.u32.wrap (qI ((qI ((qI (u0.getD t13.toNat (0:Int))) - borrow8)) - (qI ((qU (carry7+(qU (times2 * (qU (v1.getD t13.toNat (0:Int))))))).tmod 1000000000))))),v1,times2,qU ((qU (carry7+(qU (times2 * (qU (v1.getD t13.toNat (0:Int))))))).tdiv 1000000000),0,t12,qI (t13+1),())))))))))))
 (grd (decide (0<=t13)&&decide (t13 < u0.length)) (
 grd (decide (t13.toNat < u0.length)) (
 grd ((1000000000:Int) !=0) (
 grd ((1000000000:Int) !=0) (
 cond (decide ((qI ((qI ((qI (u0.getD t13.toNat (0:Int))) - borrow8)) - (qI (carry7.tmod 1000000000)))) < (0:Int)))
 (grd (decide (0<=t13)&&decide (t13 < u0.length)) (grd (decide (t13.toNat < u0.length)) (some (Ex.normal,(u0.set t13.toNat (IntKind.u32.wrap (qI ((qI ((qI ((qI (u0.getD t13.toNat (0:Int))) - borrow8)) - (qI (carry7.tmod 1000000000))))+1000000000))),v1,times2,qU (carry7.tdiv 1000000000),1,t12,qI (t13+1),())))))
 (grd (decide (0<=t13)&&decide (t13 < u0.length)) (grd (decide (t13.toNat < u0.length)) (some (Ex.normal,(u0.set t13.toNat (IntKind.u32.wrap (qI ((qI ((qI (u0.getD t13.toNat (0:Int))) - borrow8)) - (qI (carry7.tmod 1000000000))))),v1,times2,qU (carry7.tdiv 1000000000),0,t12,qI (t13+1),())))))))))))
 (some (Ex.exit 0,(u0,v1,times2,carry7,borrow8,t12,t13,())))
def qPQ (u0:List Int) (v1:List Int) (times2:Int):Option ((Bool×Unit)×((List Int)×Unit)):=
 (qLA qSD (u0,v1,times2,0,0,(u0.length:Int),0,())).bind fun y1=>
 cond (Ex.same y1.1 (Ex.exit 0))
 (some ((decide (y1.2.2.2.2.2.1 > (0:Int)),()),y1.2.1,()))
 (none)
def qRR (a0:List Int) (i1:Int):Option ((Int×Unit)×Unit):=
 cond (decide (i1>=(a0.length:Int)))
 (some ((0,()),()))
 (grd (decide (0<=i1)&&decide (i1 < a0.length)) (some ((a0.getD i1.toNat (0:Int),()),())))
def qRL (x:(List Int)×(List Int)×Int×Int×Int×Unit):Option (Ex×((List Int)×(List Int)×Int×Int×Int×Unit)):=
 let u0:=x.1
 let v1:=x.2.1
 let carry4:=x.2.2.1
 let t8:=x.2.2.2.1
 let t9:=x.2.2.2.2.1
 cond (decide (t9 < t8))
 (grd (decide (0<=t9)&&decide (t9 < u0.length)) (
 grd (decide (t9.toNat < u0.length)) (
 (qRR v1 t9).bind fun r1=>
 grd ((1000000000:Int) !=0) (grd ((1000000000:Int) !=0) (grd (decide (0<=t9)&&decide (t9 < u0.length)) (grd (decide (t9.toNat < u0.length)) (some (Ex.normal,(u0.set t9.toNat ((IntKind.u32.wrap ((IntKind.u32.wrap ((u0.getD t9.toNat (0:Int))+r1.1.1))+carry4)).tmod 1000000000),v1,IntKind.u32.wrap ((IntKind.u32.wrap ((IntKind.u32.wrap ((u0.getD t9.toNat (0:Int))+r1.1.1))+carry4)).tdiv 1000000000),t8,qI (t9+1),())))))))))
 (some (Ex.exit 0,(u0,v1,carry4,t8,t9,())))
def qFT (u0:List Int) (v1:List Int):Option ((Unit)×((List Int)×Unit)):=
 (qLA qRL (u0,v1,0,(u0.length:Int),0,())).bind fun y1=>
 cond (Ex.same y1.1 (Ex.exit 0))
 (some ((),y1.2.1,()))
 (none)
def qQE (x:(List Int)×(List Int)×Int×Int×Int×Int×Unit):Option (Ex×((List Int)×(List Int)×Int×Int×Int×Int×Unit)):=
 let u0:=x.1
 let v1:=x.2.1
 let n5:=x.2.2.1
 let first7:=x.2.2.2.1
 let guess8:=x.2.2.2.2.1
 let rest9:=x.2.2.2.2.2.1
 cond (decide (guess8>=1000000000))
 (cond (decide ((qU (rest9+first7))>=1000000000))
 (some (Ex.exit 0,(u0,v1,n5,first7,qU (guess8 - (1:Int)),qU (rest9+first7),())))
 (some (Ex.normal,(u0,v1,n5,first7,qU (guess8 - (1:Int)),qU (rest9+first7),()))))
 (grd (decide (0<=qI (n5 - (2:Int)))&&decide (qI (n5 - (2:Int)) < v1.length)) (
 grd (decide (0<=qI (n5 - (2:Int)))&&decide (qI (n5 - (2:Int)) < u0.length)) (
 grd (decide ((qI (n5 - (2:Int))).toNat < u0.length)) (
 cond (decide ((qU (guess8 * (qU (v1.getD (qI (n5 - (2:Int))).toNat (0:Int))))) > (qU ((qU (rest9 * (1000000000:Int)))+(qU (u0.getD ((qI (n5 - (2:Int))).toNat) (0:Int)))))))
 (cond (decide ((qU (rest9+first7))>=1000000000))
 (some (Ex.exit 0,(u0,v1,n5,first7,qU (guess8 - (1:Int)),qU (rest9+first7),())))
 (some (Ex.normal,(u0,v1,n5,first7,qU (guess8 - (1:Int)),qU (rest9+first7),()))))
 (some (Ex.exit 0,(u0,v1,n5,first7,guess8,rest9,())))))))
def qWX (u0:List Int) (v1:List Int):Option ((Int×Unit)×((List Int)×Unit)):=
 grd (decide (0<=(v1.length:Int))&&decide ((v1.length:Int) < u0.length)) (
 grd (decide ((v1.length:Int).toNat < u0.length)) (
 grd (decide (0<=qI ((v1.length:Int) - (1:Int)))&&decide (qI ((v1.length:Int) - (1:Int)) < u0.length)) (
 grd (decide ((qI ((v1.length:Int) - (1:Int))).toNat < u0.length)) (
 grd (decide (0<=qI ((v1.length:Int) - (1:Int)))&&decide (qI ((v1.length:Int) - (1:Int)) < v1.length)) (
 grd ((qU (v1.getD (qI ((v1.length:Int) - (1:Int))).toNat (0:Int))) !=0) (
 grd ((qU (v1.getD (qI ((v1.length:Int) - (1:Int))).toNat (0:Int))) !=0) (
 (qLA qQE (u0,v1,(v1.length:Int),qU (v1.getD (qI ((v1.length:Int) - (1:Int))).toNat (0:Int)),qU ((qU ((qU ((qU (u0.getD ((v1.length:Int).toNat) (0:Int))) * (1000000000:Int)))+(qU (u0.getD ((qI ((v1.length:Int) - (1:Int))).toNat) (0:Int))))).tdiv (qU (v1.getD (qI ((v1.length:Int) - (1:Int))).toNat (0:Int)))),(qU ((qU ((qU (u0.getD ((v1.length:Int).toNat) (0:Int))) * (1000000000:Int)))+(qU (u0.getD ((qI ((v1.length:Int) - (1:Int))).toNat) (0:Int))))).tmod (qU (v1.getD (qI ((v1.length:Int) - (1:Int))).toNat (0:Int))),())).bind fun y1=>
 cond (Ex.same y1.1 (Ex.exit 0))
 ((qPQ y1.2.1 y1.2.2.1 y1.2.2.2.2.2.1).bind fun r2=>
 cond (r2.1.1)
 ((qFT r2.2.1 y1.2.2.1).bind fun r3=>
 some ((IntKind.u32.wrap (qU (y1.2.2.2.2.2.1 - (1:Int))),()),r3.2.1,()))
 (some ((IntKind.u32.wrap (y1.2.2.2.2.2.1),()),r2.2.1,())))
 (none))))))))
def qVF (x:(List Int)×(List Int)×(List Int)×(List Int)×Unit):Option (Ex×((List Int)×(List Int)×(List Int)×(List Int)×Unit)):=
 let a0:=x.1
 let scale6:=x.2.1
 let u7:=x.2.2.1
 let v8:=x.2.2.2.1
 cond (decide ((u7.length:Int)<=(a0.length:Int)))
 (grd (decide (u7.length+([0]:List Int).length<=qSE)) (some (Ex.normal,(a0,scale6,u7++([0]:List Int),v8,()))))
 (some (Ex.exit 1,(a0,scale6,u7,v8,())))
def qAF (x:(List Int)×(List Int)×(List Int)×(List Int)×Int×Unit):Option (Ex×((List Int)×(List Int)×(List Int)×(List Int)×Int×Unit)):=
 let scale6:=x.1
 let u7:=x.2.1
 let v8:=x.2.2.1
 let q9:=x.2.2.2.1
 let j10:=x.2.2.2.2.1
 cond (decide (j10>=0))
 (grd (decide (0<=j10)&&decide (j10<=qI ((qI (j10+(v8.length:Int)))+1))&&decide (qI ((qI (j10+(v8.length:Int)))+1)<=u7.length)) (
 (qWX ((u7.drop j10.toNat).take ((qI ((qI (j10+(v8.length:Int)))+1)).toNat - j10.toNat)) v8).bind fun r1=>
 grd (decide (0<=j10)&&decide (j10 < q9.length)) (grd (decide (j10.toNat < q9.length)) (some (Ex.normal,(scale6,u7.take j10.toNat++r1.2.1++u7.drop (j10.toNat+((qI ((qI (j10+(v8.length:Int)))+1)).toNat - j10.toNat)),v8,q9.set j10.toNat r1.1.1,qI (j10 - (1:Int)),()))))))
 (some (Ex.exit 3,(scale6,u7,v8,q9,j10,())))
def qWH (a0:List Int) (b1:List Int):Option (((List Int)×(List Int)×Unit)×Unit):=
 (qWN a0 b1).bind fun r1=>
 cond (decide (r1.1.1 < (0:Int)))
 (some ((([]:List Int),a0,()),()))
 (cond ((b1.length:Int)==1)
 (grd (decide (0<=(0:Int))&&decide ((0:Int) < b1.length)) (
 (qFI a0 (b1.getD (0:Int).toNat (0:Int))).bind fun r2=>
 some ((r2.1.1,r2.1.2.1,()),())))
 (grd (decide (0<=qI ((b1.length:Int) - (1:Int)))&&decide (qI ((b1.length:Int) - (1:Int)) < b1.length)) (
 grd ((qU ((qU (b1.getD (qI ((b1.length:Int) - (1:Int))).toNat (0:Int)))+1)) !=0) (
 (qEO a0 ([IntKind.u32.wrap (qU ((1000000000:Int).tdiv (qU ((qU (b1.getD (qI ((b1.length:Int) - (1:Int))).toNat (0:Int)))+1))))]:List Int)).bind fun r3=>
 (qEO b1 ([IntKind.u32.wrap (qU ((1000000000:Int).tdiv (qU ((qU (b1.getD (qI ((b1.length:Int) - (1:Int))).toNat (0:Int)))+1))))]:List Int)).bind fun r4=>
 (qLA qVF (a0,([IntKind.u32.wrap (qU ((1000000000:Int).tdiv (qU ((qU (b1.getD (qI ((b1.length:Int) - (1:Int))).toNat (0:Int)))+1))))]:List Int),r3.1.1,r4.1.1,())).bind fun y5=>
 cond (Ex.same y5.1 (Ex.exit 1))
 (grd (decide (0<=qI ((y5.2.2.2.1.length:Int) - (y5.2.2.2.2.1.length:Int)))&&decide (qI ((y5.2.2.2.1.length:Int) - (y5.2.2.2.2.1.length:Int))<=qI ((y5.2.2.2.1.length:Int) - (y5.2.2.2.2.1.length:Int)))&&decide (qI ((y5.2.2.2.1.length:Int) - (y5.2.2.2.2.1.length:Int))<=qSE)) (
 (qLA qAF (y5.2.2.1,y5.2.2.2.1,y5.2.2.2.2.1,List.replicate (qI ((y5.2.2.2.1.length:Int) - (y5.2.2.2.2.1.length:Int))).toNat (0:Int),qI (((List.replicate (qI ((y5.2.2.2.1.length:Int) - (y5.2.2.2.2.1.length:Int))).toNat (0:Int)).length:Int) - (1:Int)),())).bind fun y6=>
 cond (Ex.same y6.1 (Ex.exit 3))
 ((qWE y6.2.2.1).bind fun r7=>
 grd (decide (0<=(0:Int))&&decide ((0:Int) < y6.2.1.length)) (
 (qFI r7.1.1 (y6.2.1.getD (0:Int).toNat (0:Int))).bind fun r8=>
 (qWE y6.2.2.2.2.1).bind fun r9=>
 some ((r9.1.1,r8.1.1,()),())))
 (none)))
 (none)))))
def qJX (x:(List Int)×(List Int)×Unit):Option (Ex×((List Int)×(List Int)×Unit)):=
 let a0:=x.1
 let b1:=x.2.1
 cond (decide ((b1.length:Int) > (0:Int)))
 ((qWH a0 b1).bind fun r1=>
 some (Ex.normal,(b1,r1.1.2.1,())))
 (some (Ex.exit 0,(a0,b1,())))
def qGy (a0:List Int) (b1:List Int):Option (((List Int)×Unit)×Unit):=
 (qLA qJX (a0,b1,())).bind fun y1=>
 cond (Ex.same y1.1 (Ex.exit 0))
 (some ((y1.2.1,()),()))
 (none)
def qDJ (a0:List Int):Option ((Bool×Unit)×Unit):=
 cond ((a0.length:Int)==1)
 (grd (decide (0<=(0:Int))&&decide ((0:Int) < a0.length)) (some (((a0.getD (0:Int).toNat (0:Int))==1,()),())))
 (some ((false,()),()))
def qQG (a0:qBs):Option ((Rt×Bool×Unit)×Unit):=
 (strings_CutPrefix a0 ([45]:qBs)).bind fun r1=>
 (strings_Cut r1.1.1 ([47]:qBs)).bind fun r2=>
 (qBJ r2.1.1).bind fun r3=>
 cond (!r3.1.1)
 (some (((false,([]:List Int),([]:List Int)),false,()),()))
 (cond (r2.1.1==([48]:qBs))
 (cond (r1.1.2.1)
 (some (((false,([]:List Int),([]:List Int)),false,()),()))
 (cond (r2.1.2.2.1)
 (some (((false,([]:List Int),([]:List Int)),false,()),()))
 ((qUV r2.1.1).bind fun r4=>
 cond (!r2.1.2.2.1)
 (some (((r1.1.2.1,r4.1.1,([1]:List Int)),true,()),()))
 ((qBJ r2.1.2.1).bind fun r5=>
 cond (!r5.1.1)
 (some (((false,([]:List Int),([]:List Int)),false,()),()))
 (cond (r2.1.2.1==([48]:qBs))
 (some (((false,([]:List Int),([]:List Int)),false,()),()))
 (cond (r2.1.2.1==([49]:qBs))
 (some (((false,([]:List Int),([]:List Int)),false,()),()))
 ((qUV r2.1.2.1).bind fun r6=>
 (qGy r4.1.1 r6.1.1).bind fun r7=>
 (qDJ r7.1.1).bind fun r8=>
 some (((r1.1.2.1,r4.1.1,r6.1.1),r8.1.1,()),()))))))))
 ((qUV r2.1.1).bind fun r9=>
 cond (!r2.1.2.2.1)
 (some (((r1.1.2.1,r9.1.1,([1]:List Int)),true,()),()))
 ((qBJ r2.1.2.1).bind fun r10=>
 cond (!r10.1.1)
 (some (((false,([]:List Int),([]:List Int)),false,()),()))
 (cond (r2.1.2.1==([48]:qBs))
 (some (((false,([]:List Int),([]:List Int)),false,()),()))
 (cond (r2.1.2.1==([49]:qBs))
 (some (((false,([]:List Int),([]:List Int)),false,()),()))
 ((qUV r2.1.2.1).bind fun r11=>
 (qGy r9.1.1 r11.1.1).bind fun r12=>
 (qDJ r12.1.1).bind fun r13=>
 some (((r1.1.2.1,r9.1.1,r11.1.1),r13.1.1,()),())))))))
def qVP (a0:qBs):Option ((Bool×Unit)×Unit):=
 (qLB a0).bind fun r1=>
 cond (r1.1.2.1)
 (some ((true,()),()))
 ((qQG a0).bind fun r2=>
 some ((r2.1.2.1,()),()))
def qHY (a0:qBs):Option ((Int×Unit)×Unit):=
 (qVP a0).bind fun r1=>
 cond (!r1.1.1)
 (some ((0,()),()))
 (cond (a0==([48]:qBs))
 (some ((0,()),()))
 (grd (decide (0<=(0:Int))&&decide ((0:Int) < a0.length)) (
 cond (((a0.getD (0:Int).toNat 0).toNat:Int)==45)
 (some ((-1,()),()))
 (some ((1,()),())))))
def qRad (a0:qBs):Option ((qBs×Unit)×Unit):=
 (qHY a0).bind fun r1=>
 cond (decide (r1.1.1 < (0:Int)))
 (grd (decide (0<=(1:Int))&&decide ((1:Int)<=a0.length)) (some ((a0.drop (1:Int).toNat,()),())))
 ((qHY a0).bind fun r2=>
 cond (decide (r2.1.1 > (0:Int)))
 (grd (decide (([45]:qBs).length+a0.length<=qXF)) (some ((([45]:qBs)++a0,()),())))
 (cond (a0==([48]:qBs))
 (some ((a0,()),()))
 (some ((([]:qBs),()),()))))
def qIL (n0:Int) (d1:Int):Option ((qBs×Unit)×Unit):=
 cond (decide (d1 < (0:Int)))
 ((qJO (qFZ (qI (0 - n0)) (qI (0 - (qI (0 - n0))))) (qI (0 - d1))).bind fun r1=>
 grd (r1.1.1 !=0) (
 grd (r1.1.1 !=0) (
 (qEC (qI ((qI (0 - n0)).tdiv r1.1.1)) 10).bind fun r2=>
 cond (decide ((qI ((qI (0 - d1)).tdiv r1.1.1)) > (1:Int)))
 ((qEC (qI ((qI (0 - d1)).tdiv r1.1.1)) 10).bind fun r3=>
 grd (decide (([47]:qBs).length+r3.1.1.length<=qXF)) (grd (decide (r2.1.1.length+(([47]:qBs)++r3.1.1).length<=qXF)) (some ((r2.1.1++(([47]:qBs)++r3.1.1),()),()))))
 (some ((r2.1.1,()),())))))
 ((qJO (qFZ n0 (qI (0 - n0))) d1).bind fun r4=>
 grd (r4.1.1 !=0) (
 grd (r4.1.1 !=0) (
 (qEC (qI (n0.tdiv r4.1.1)) 10).bind fun r5=>
 cond (decide ((qI (d1.tdiv r4.1.1)) > (1:Int)))
 ((qEC (qI (d1.tdiv r4.1.1)) 10).bind fun r6=>
 grd (decide (([47]:qBs).length+r6.1.1.length<=qXF)) (grd (decide (r5.1.1.length+(([47]:qBs)++r6.1.1).length<=qXF)) (some ((r5.1.1++(([47]:qBs)++r6.1.1),()),()))))
 (some ((r5.1.1,()),())))))
def qLd (x0:Sml) (y1:Sml):Option ((qBs×Unit)×Unit):=
 (qIL (qI ((qI (x0.1 * y1.2))+(qI (y1.1 * x0.2)))) (qI (x0.2 * y1.2))).bind fun r1=>
 some ((r1.1.1,()),())
def qAK (x:(List Int)×(List Int)×Int×Int×Int×(List Int)×Int×Int×(List Int)×Int×Int×Unit):Option (Ex×((List Int)×(List Int)×Int×Int×Int×(List Int)×Int×Int×(List Int)×Int×Int×Unit)):=
 let b1:=x.1
 let out5:=x.2.1
 let i6:=x.2.2.1
 let x7:=x.2.2.2.1
 let carry8:=x.2.2.2.2.1
 let t18:=x.2.2.2.2.2.1
 let t19:=x.2.2.2.2.2.2.1
 let t20:=x.2.2.2.2.2.2.2.1
 let t25:=x.2.2.2.2.2.2.2.2.1
 let t26:=x.2.2.2.2.2.2.2.2.2.1
 let t27:=x.2.2.2.2.2.2.2.2.2.2.1
 cond (decide (t27 < t26))
 (grd (decide (0<=t27)&&decide (t27 < t25.length)) (grd (decide (0<=qI (i6+t27))&&decide (qI (i6+t27) < out5.length)) (grd (decide ((qI (i6+t27)).toNat < out5.length)) (grd ((1000000000:Int) !=0) (grd ((1000000000:Int) !=0) (grd (decide (0<=qI (i6+t27))&&decide (qI (i6+t27) < out5.length)) (grd (decide ((qI (i6+t27)).toNat < out5.length)) (some (Ex.normal,(b1,out5.set ((qI (i6+t27)).toNat) (IntKind.u32.wrap ((qU ((qU ((qU (out5.getD ((qI (i6+t27)).toNat) (0:Int)))+(qU ((qU (x7)) * (qU (t25.getD t27.toNat (0:Int)))))))+carry8)).tmod 1000000000)),i6,x7,qU ((qU ((qU ((qU (out5.getD ((qI (i6+t27)).toNat) (0:Int)))+(qU ((qU (x7)) * (qU (t25.getD t27.toNat (0:Int)))))))+carry8)).tdiv 1000000000),t18,t19,t20,t25,t26,qI (t27+1),()))))))))))
 (some (Ex.exit 2,(b1,out5,i6,x7,carry8,t18,t19,t20,t25,t26,t27,())))
def qXH (x:(List Int)×(List Int)×(List Int)×Int×Int×Unit):Option (Ex×((List Int)×(List Int)×(List Int)×Int×Int×Unit)):=
 let b1:=x.1
 let out5:=x.2.1
 let t18:=x.2.2.1
 let t19:=x.2.2.2.1
 let t20:=x.2.2.2.2.1
 cond (decide (t20 < t19))
 (grd (decide (0<=t20)&&decide (t20 < t18.length)) (
 (qLA qAK (b1,out5,t20,t18.getD t20.toNat (0:Int),0,t18,t19,t20,b1,(b1.length:Int),0,())).bind fun y1=>
 cond (Ex.same y1.1 (Ex.exit 2))
 (grd (decide (0<=qI (y1.2.2.2.1+(y1.2.1.length:Int)))&&decide (qI (y1.2.2.2.1+(y1.2.1.length:Int)) < y1.2.2.1.length)) (grd (decide ((qI (y1.2.2.2.1+(y1.2.1.length:Int))).toNat < y1.2.2.1.length)) (some (Ex.normal,(y1.2.1,y1.2.2.1.set ((qI (y1.2.2.2.1+(y1.2.1.length:Int))).toNat) (IntKind.u32.wrap (y1.2.2.2.2.2.1)),y1.2.2.2.2.2.2.1,y1.2.2.2.2.2.2.2.1,qI (y1.2.2.2.2.2.2.2.2.1+1),())))))
 (none)))
 (some (Ex.exit 0,(b1,out5,t18,t19,t20,())))
def qKK (a0:List Int) (b1:List Int):Option (((List Int)×Unit)×Unit):=
 grd (decide (0<=qI ((a0.length:Int)+(b1.length:Int)))&&decide (qI ((a0.length:Int)+(b1.length:Int))<=qI ((a0.length:Int)+(b1.length:Int)))&&decide (qI ((a0.length:Int)+(b1.length:Int))<=qSE)) (
 (qLA qXH (b1,List.replicate (qI ((a0.length:Int)+(b1.length:Int))).toNat (0:Int),a0,(a0.length:Int),0,())).bind fun y1=>
 cond (Ex.same y1.1 (Ex.exit 0))
 ((qWE y1.2.2.1).bind fun r2=>
 some ((r2.1.1,()),()))
 (none))
def qMM (x:(List Int)×(List Int)×(List Int)×Int×Int×Int×Unit):Option (Ex×((List Int)×(List Int)×(List Int)×Int×Int×Int×Unit)):=
 let a0:=x.1
 let b1:=x.2.1
 let out5:=x.2.2.1
 let carry6:=x.2.2.2.1
 let t20:=x.2.2.2.2.1
 let t21:=x.2.2.2.2.2.1
 cond (decide (t21 < t20))
 ((qRR a0 t21).bind fun r1=>
 (qRR b1 t21).bind fun r2=>
 grd ((1000000000:Int) !=0) (grd (decide (out5.length+([(IntKind.u32.wrap ((IntKind.u32.wrap (r1.1.1+r2.1.1))+carry6)).tmod 1000000000]:List Int).length<=qSE)) (grd ((1000000000:Int) !=0) (some (Ex.normal,(a0,b1,out5++([(IntKind.u32.wrap ((IntKind.u32.wrap (r1.1.1+r2.1.1))+carry6)).tmod 1000000000]:List Int),IntKind.u32.wrap ((IntKind.u32.wrap ((IntKind.u32.wrap (r1.1.1+r2.1.1))+carry6)).tdiv 1000000000),t20,qI (t21+1),()))))))
 (some (Ex.exit 0,(a0,b1,out5,carry6,t20,t21,())))
def qSQ (a0:List Int) (b1:List Int):Option (((List Int)×Unit)×Unit):=
 grd (decide (0<=(0:Int))&&decide ((0:Int)<=qI ((qFZ (a0.length:Int) (b1.length:Int))+1))&&decide (qI ((qFZ (a0.length:Int) (b1.length:Int))+1)<=qSE)) (
 (qLA qMM (a0,b1,List.replicate (0:Int).toNat (0:Int),0,qFZ (a0.length:Int) (b1.length:Int),0,())).bind fun y1=>
 cond (Ex.same y1.1 (Ex.exit 0))
 (grd (decide (y1.2.2.2.1.length+([y1.2.2.2.2.1]:List Int).length<=qSE)) (
 (qWE (y1.2.2.2.1++([y1.2.2.2.2.1]:List Int))).bind fun r2=>
 some ((r2.1.1,()),())))
 (none))
def qMP (neg0:Bool) (num1:List Int) (den2:List Int):Option ((Rt×Unit)×Unit):=
 (qGy num1 den2).bind fun r1=>
 (qDJ r1.1.1).bind fun r2=>
 cond (!r2.1.1)
 ((qWH num1 r1.1.1).bind fun r3=>
 (qWH den2 r1.1.1).bind fun r4=>
 some (((neg0,r3.1.1,r4.1.1),()),()))
 (some (((neg0,num1,den2),()),()))
def qVJ (x:(List Int)×(List Int)×(List Int)×Int×Int×Int×Unit):Option (Ex×((List Int)×(List Int)×(List Int)×Int×Int×Int×Unit)):=
 let a0:=x.1
 let b1:=x.2.1
 let out5:=x.2.2.1
 let borrow6:=x.2.2.2.1
 let t13:=x.2.2.2.2.1
 let t14:=x.2.2.2.2.2.1
 cond (decide (t14 < t13))
 (grd (decide (0<=t14)&&decide (t14 < a0.length)) (
 (qRR b1 t14).bind fun r1=>
 cond (decide ((qI ((qI ((qI (a0.getD t14.toNat (0:Int))) - (qI (r1.1.1)))) - borrow6)) < (0:Int)))
 (grd (decide (out5.length+([IntKind.u32.wrap (qI ((qI ((qI ((qI (a0.getD t14.toNat (0:Int))) - (qI (r1.1.1)))) - borrow6))+1000000000))]:List Int).length<=qSE)) (some (Ex.normal,(a0,b1,out5++([IntKind.u32.wrap (qI ((qI ((qI ((qI (a0.getD t14.toNat (0:Int))) - (qI (r1.1.1)))) - borrow6))+1000000000))]:List Int),1,t13,qI (t14+1),()))))
 (grd (decide (out5.length+([IntKind.u32.wrap (qI ((qI ((qI (a0.getD t14.toNat (0:Int))) - (qI (r1.1.1)))) - borrow6))]:List Int).length<=qSE)) (some (Ex.normal,(a0,b1,out5++([IntKind.u32.wrap (qI ((qI ((qI (a0.getD t14.toNat (0:Int))) - (qI (r1.1.1)))) - borrow6))]:List Int),0,t13,qI (t14+1),()))))))
 (some (Ex.exit 0,(a0,b1,out5,borrow6,t13,t14,())))
def qPO (a0:List Int) (b1:List Int):Option (((List Int)×Unit)×Unit):=
 grd (decide (0<=(0:Int))&&decide ((0:Int)<=(a0.length:Int))&&decide ((a0.length:Int)<=qSE)) (
 (qLA qVJ (a0,b1,List.replicate (0:Int).toNat (0:Int),0,(a0.length:Int),0,())).bind fun y1=>
 cond (Ex.same y1.1 (Ex.exit 0))
 ((qWE y1.2.2.2.1).bind fun r2=>
 some ((r2.1.1,()),()))
 (none))
def qQX (x0:Rt) (y1:Rt):Option ((Rt×Unit)×Unit):=
 (qKK x0.2.1 y1.2.2).bind fun r1=>
 (qKK y1.2.1 x0.2.2).bind fun r2=>
 (qKK x0.2.2 y1.2.2).bind fun r3=>
 cond (x0.1==y1.1)
 ((qSQ r1.1.1 r2.1.1).bind fun r4=>
 (qMP x0.1 r4.1.1 r3.1.1).bind fun r5=>
 some (((r5.1.1.1,r5.1.1.2.1,r5.1.1.2.2),()),()))
 ((qWN r1.1.1 r2.1.1).bind fun r6=>
 cond (decide (r6.1.1>=0))
 ((qPO r1.1.1 r2.1.1).bind fun r7=>
 (qMP x0.1 r7.1.1 r3.1.1).bind fun r8=>
 some (((r8.1.1.1,r8.1.1.2.1,r8.1.1.2.2),()),()))
 ((qPO r2.1.1 r1.1.1).bind fun r9=>
 (qMP y1.1 r9.1.1 r3.1.1).bind fun r10=>
 some (((r10.1.1.1,r10.1.1.2.1,r10.1.1.2.2),()),())))
def qNA (b0:Unit×List Int) (s1:qBs):Option ((Int×Bool×Unit)×((Unit×List Int)×Unit)):=
 (qRD ((),b0.2)).bind fun r1=>
 grd (decide (r1.2.1.2.length+(s1.map fun c=>((c.toNat:Nat):Int)).length<=qSE)) (some (((s1.length:Int),false,()),((),r1.2.1.2++(s1.map fun c=>((c.toNat:Nat):Int))),()))
def qCI (v:Int) (i:Nat) (x:(Unit×List Int)×Unit):Option ((Unit×List Int)×Unit):=
 let b3:=x.1
 (qVD (qU (v)) 10).bind fun r1=>
 grd (decide (0<=(r1.1.1.length:Int))&&decide ((r1.1.1.length:Int)<=([48,48,48,48,48,48,48,48,48]:qBs).length)) (
 (qNA ((),b3.2) (([48,48,48,48,48,48,48,48,48]:qBs).drop (r1.1.1.length:Int).toNat)).bind fun r2=>
 (qNA ((),r2.2.1.2) r1.1.1).bind fun r3=>
 some (((),r3.2.1.2),()))
def qQK (y:(Unit×List Int)×Unit) (o:(Unit×List Int)×Unit):(Unit×List Int)×Unit:=(o.1,())
def qSK (y:(Unit×List Int)×Unit):(Unit×List Int)×Unit:=(y.1,())
def qLL (a0:List Int):Option ((qBs×Unit)×Unit):=
 cond ((a0.length:Int)==0)
 (some ((([48]:qBs),()),()))
 (grd (decide (0<=qI ((a0.length:Int) - (1:Int)))&&decide (qI ((a0.length:Int) - (1:Int)) < a0.length)) (
 (qVD (qU (a0.getD (qI ((a0.length:Int) - (1:Int))).toNat (0:Int))) 10).bind fun r1=>
 (qNA ((),([]:List Int)) r1.1.1).bind fun r2=>
 grd (decide (0<=qI ((a0.length:Int) - (1:Int)))&&decide (qI ((a0.length:Int) - (1:Int))<=a0.length)) (
 grd (decide ((a0.take (qI ((a0.length:Int) - (1:Int))).toNat).length<=qSE)) (((foldO (fun p y=>(qCI p.1 p.2 y).bind fun o=>some (qQK y o)) (a0.take (qI ((a0.length:Int) - (1:Int))).toNat).zipIdx.reverse (((),r2.2.1.2),())).bind fun y=>some ((),qSK y)).bind fun y3=>
 (qND ((),y3.2.1.2)).bind fun r4=>
 some ((r4.1.1,()),())))))
def qSJ (x0:Rt):Option ((qBs×Unit)×Unit):=
 (qLL x0.2.1).bind fun r1=>
 cond (x0.1)
 (cond (decide ((x0.2.1.length:Int) > (0:Int)))
 (grd (decide (([45]:qBs).length+r1.1.1.length<=qXF)) (
 (qDJ x0.2.2).bind fun r2=>
 cond (!r2.1.1)
 ((qLL x0.2.2).bind fun r3=>
 grd (decide (([47]:qBs).length+r3.1.1.length<=qXF)) (grd (decide ((([45]:qBs)++r1.1.1).length+(([47]:qBs)++r3.1.1).length<=qXF)) (some (((([45]:qBs)++r1.1.1)++(([47]:qBs)++r3.1.1),()),()))))
 (some ((([45]:qBs)++r1.1.1,()),()))))
 ((qDJ x0.2.2).bind fun r4=>
 cond (!r4.1.1)
 ((qLL x0.2.2).bind fun r5=>
 grd (decide (([47]:qBs).length+r5.1.1.length<=qXF)) (grd (decide (r1.1.1.length+(([47]:qBs)++r5.1.1).length<=qXF)) (some ((r1.1.1++(([47]:qBs)++r5.1.1),()),()))))
 (some ((r1.1.1,()),()))))
 ((qDJ x0.2.2).bind fun r6=>
 cond (!r6.1.1)
 ((qLL x0.2.2).bind fun r7=>
 grd (decide (([47]:qBs).length+r7.1.1.length<=qXF)) (grd (decide (r1.1.1.length+(([47]:qBs)++r7.1.1).length<=qXF)) (some ((r1.1.1++(([47]:qBs)++r7.1.1),()),()))))
 (some ((r1.1.1,()),())))
def qEf (x0:Rt) (y1:Rt):Option ((qBs×Unit)×Unit):=
 (qQX (x0.1,x0.2.1,x0.2.2) (y1.1,y1.2.1,y1.2.2)).bind fun r1=>
 (qSJ (r1.1.1.1,r1.1.1.2.1,r1.1.1.2.2)).bind fun r2=>
 some ((r2.1.1,()),())
def qUC (a0:qBs) (b1:qBs) (small2:Unit) (all3:Unit):Option ((qBs×Unit)×Unit):=
 (qLB a0).bind fun r1=>
 (qLB b1).bind fun r2=>
 cond (r1.1.2.1)
 (cond (r2.1.2.1)
 ((qLd (r1.1.1.1,r1.1.1.2) (r2.1.1.1,r2.1.1.2)).bind fun r3=>
 some ((r3.1.1,()),()))
 ((qQG a0).bind fun r4=>
 (qQG b1).bind fun r5=>
 cond (!r4.1.2.1)
 (some ((([]:qBs),()),()))
 (cond (!r5.1.2.1)
 (some ((([]:qBs),()),()))
 ((qEf (r4.1.1.1,r4.1.1.2.1,r4.1.1.2.2) (r5.1.1.1,r5.1.1.2.1,r5.1.1.2.2)).bind fun r6=>
 some ((r6.1.1,()),())))))
 ((qQG a0).bind fun r7=>
 (qQG b1).bind fun r8=>
 cond (!r7.1.2.1)
 (some ((([]:qBs),()),()))
 (cond (!r8.1.2.1)
 (some ((([]:qBs),()),()))
 ((qEf (r7.1.1.1,r7.1.1.2.1,r7.1.1.2.2) (r8.1.1.1,r8.1.1.2.1,r8.1.1.2.2)).bind fun r9=>
 some ((r9.1.1,()),()))))
def qPae (a0:qBs) (b1:qBs):Option ((qBs×Unit)×Unit):=
 (qUC a0 b1 () ()).bind fun r1=>
 some ((r1.1.1,()),())
def qKaf (a0:qBs) (b1:qBs):Option ((qBs×Unit)×Unit):=
 (qRad b1).bind fun r1=>
 (qPae a0 r1.1.1).bind fun r2=>
 some ((r2.1.1,()),())
def qSf (a0:qBs) (b1:qBs):Option ((Int×Unit)×Unit):=
 (qKaf a0 b1).bind fun r1=>
 (qHY r1.1.1).bind fun r2=>
 some ((r2.1.1,()),())
def qOK (x:Val×Bool×(List qBs)×Int×Int×Unit):Option (Ex×(Val×Bool×(List qBs)×Int×Int×Unit)):=
 let v1:=x.1
 let t2:=x.2.1
 let t13:=x.2.2.1
 let t14:=x.2.2.2.1
 let t15:=x.2.2.2.2.1
 cond (decide (t15 < t14))
 (grd (decide (0<=t15)&&decide (t15 < t13.length)) (
 (qEH (t13.getD t15.toNat ([]:qBs))).bind fun r1=>
 cond (!r1.1.1)
 (some (Ex.ret,(v1,false,t13,t14,t15,())))
 (grd (decide (0<=t15)&&decide (t15 < v1.2.2.2.2.length)) (
 (qEH (v1.2.2.2.2.getD t15.toNat ([]:qBs))).bind fun r2=>
 cond (!r2.1.1)
 (some (Ex.ret,(v1,false,t13,t14,t15,())))
 (grd (decide (0<=t15)&&decide (t15 < v1.2.2.2.2.length)) (
 cond ((v1.2.2.2.2.getD t15.toNat ([]:qBs))==v1.2.2.1)
 (some (Ex.ret,(v1,false,t13,t14,t15,())))
 (cond (decide (t15 > (0:Int)))
 (grd (decide (0<=qI (t15 - (1:Int)))&&decide (qI (t15 - (1:Int)) < v1.2.2.2.1.length)) (
 (qSf (v1.2.2.2.1.getD (qI (t15 - (1:Int))).toNat ([]:qBs)) (t13.getD t15.toNat ([]:qBs))).bind fun r3=>
 cond (decide (r3.1.1>=0))
 (some (Ex.ret,(v1,false,t13,t14,t15,())))
 (some (Ex.normal,(v1,t2,t13,t14,qI (t15+1),())))))
 (some (Ex.normal,(v1,t2,t13,t14,qI (t15+1),()))))))))))
 (some (Ex.exit 0,(v1,t2,t13,t14,t15,())))
def qVT (v0:Val):Option ((Bool×Unit)×Unit):=
 cond ((v0.2.2.2.1.length:Int) !=(v0.2.2.2.2.length:Int))
 (some ((false,()),()))
 ((qLA qOK (v0,false,v0.2.2.2.1,(v0.2.2.2.1.length:Int),0,())).bind fun y1=>
 cond (Ex.same y1.1 (Ex.exit 0))
 (some ((true,()),()))
 (cond (Ex.same y1.1 Ex.ret)
 (some ((y1.2.2.1,()),()))
 (none)))
def qPR (v0:Val):Option ((Bool×Unit)×Unit):=
 cond (v0.1==1)
 (cond (v0.2.2.1==([]:qBs))
 ((qJU v0).bind fun r1=>
 some ((r1.1.1,()),()))
 (some ((false,()),())))
 (cond (v0.1==2)
 (cond (!v0.2.1)
 ((qEH v0.2.2.1).bind fun r2=>
 cond (r2.1.1)
 ((qJU v0).bind fun r3=>
 some ((r3.1.1,()),()))
 (some ((false,()),())))
 (some ((false,()),())))
 (cond (v0.1==3)
 (cond (!v0.2.1)
 ((qVP v0.2.2.1).bind fun r4=>
 cond (r4.1.1)
 ((qJU v0).bind fun r5=>
 some ((r5.1.1,()),()))
 (some ((false,()),())))
 (some ((false,()),())))
 (cond (v0.1==4)
 (cond (!v0.2.1)
 ((qEH v0.2.2.1).bind fun r6=>
 cond (r6.1.1)
 ((qVT v0).bind fun r7=>
 some ((r7.1.1,()),()))
 (some ((false,()),())))
 (some ((false,()),())))
 (some ((false,()),())))))
def qZaa (v0:Val):Option ((Bool×Unit)×Unit):=
 cond (v0.1==4)
 ((qPR v0).bind fun r1=>
 some ((r1.1.1,()),()))
 (some ((false,()),()))
def qNp (v0:Val):Option (((Int×Bool×qBs×(List qBs)×List qBs)×Unit)×Unit):=
 (qUE v0.2.2.2.1).bind fun r1=>
 (qUE v0.2.2.2.2).bind fun r2=>
 some (((v0.1,v0.2.1,v0.2.2.1,r1.1.1,r2.1.1),()),())
def qRB (x:(List qBs)×qBs×Unit×Int×Int×Int×Unit):Option (Ex×((List qBs)×qBs×Unit×Int×Int×Int×Unit)):=
 let x0:=x.1
 let target1:=x.2.1
 let cmp2:=x.2.2.1
 let n8:=x.2.2.2.1
 let i9:=x.2.2.2.2.1
 let j10:=x.2.2.2.2.2.1
 cond (decide (i9 < j10))
 (grd (decide (0<=(1:Int))) (
 grd (decide (0<=qI ((qU (qI (i9+j10))).fdiv (2 ^ min (1:Int).toNat IntKind.u64.bits)))&&decide (qI ((qU (qI (i9+j10))).fdiv (2 ^ min (1:Int).toNat IntKind.u64.bits)) < x0.length)) (
 (qSf (x0.getD (qI ((qU (qI (i9+j10))).fdiv (2 ^ min (1:Int).toNat IntKind.u64.bits))).toNat ([]:qBs)) target1).bind fun r1=>
 cond (decide (r1.1.1 < (0:Int)))
 (some (Ex.normal,(x0,target1,(),n8,qI ((qI ((qU (qI (i9+j10))).fdiv (2 ^ min (1:Int).toNat IntKind.u64.bits)))+1),j10,())))
 (some (Ex.normal,(x0,target1,(),n8,i9,qI ((qU (qI (i9+j10))).fdiv (2 ^ min (1:Int).toNat IntKind.u64.bits)),()))))))
 (some (Ex.exit 0,(x0,target1,(),n8,i9,j10,())))
def qDC (x0:List qBs) (target1:qBs) (cmp2:Unit):Option ((Int×Bool×Unit)×Unit):=
 (qLA qRB (x0,target1,(),(x0.length:Int),0,(x0.length:Int),())).bind fun y1=>
 cond (Ex.same y1.1 (Ex.exit 0))
 (cond (decide (y1.2.2.2.2.2.1 < y1.2.2.2.2.1))
 (grd (decide (0<=y1.2.2.2.2.2.1)&&decide (y1.2.2.2.2.2.1 < y1.2.1.length)) (
 (qSf (y1.2.1.getD y1.2.2.2.2.2.1.toNat ([]:qBs)) y1.2.2.1).bind fun r2=>
 some ((y1.2.2.2.2.2.1,r2.1.1==0,()),())))
 (some ((y1.2.2.2.2.2.1,false,()),())))
 (none)
def qUr (a0:Val) (index1:qBs):Option ((Int×Bool×Unit)×Unit):=
 (qDC a0.2.2.2.1 index1 ()).bind fun r1=>
 some ((r1.1.1,r1.1.2.1,()),())
def qNs (a0:Val) (index1:qBs) (num2:qBs):Option ((Val×Unit)×Unit):=
 (qNp a0).bind fun r1=>
 (qUr r1.1.1 index1).bind fun r2=>
 cond (r2.1.2.1)
 (cond (num2==r1.1.1.2.2.1)
 ((qOE r1.1.1.2.2.2.1 r2.1.1 (qI (r2.1.1+1))).bind fun r3=>
 (qOE r1.1.1.2.2.2.2 r2.1.1 (qI (r2.1.1+1))).bind fun r4=>
 some (((r1.1.1.1,r1.1.1.2.1,r1.1.1.2.2.1,r3.2.1.take r3.1.1,r4.2.1.take r4.1.1),()),()))
 (cond (r2.1.2.1)
 (grd (decide (0<=r2.1.1)&&decide (r2.1.1 < r1.1.1.2.2.2.2.length)) (grd (decide (r2.1.1.toNat < r1.1.1.2.2.2.2.length)) (some (((r1.1.1.1,r1.1.1.2.1,r1.1.1.2.2.1,r1.1.1.2.2.2.1,r1.1.1.2.2.2.2.set r2.1.1.toNat num2),()),()))))
 (cond (!(num2==r1.1.1.2.2.1))
 ((qVB r1.1.1.2.2.2.1 r2.1.1 ([index1]:List qBs)).bind fun r5=>
 (qVB r1.1.1.2.2.2.2 r2.1.1 ([num2]:List qBs)).bind fun r6=>
 some (((r1.1.1.1,r1.1.1.2.1,r1.1.1.2.2.1,r5.1.1,r6.1.1),()),()))
 (some ((r1.1.1,()),())))))
 (cond (r2.1.2.1)
 (grd (decide (0<=r2.1.1)&&decide (r2.1.1 < r1.1.1.2.2.2.2.length)) (grd (decide (r2.1.1.toNat < r1.1.1.2.2.2.2.length)) (some (((r1.1.1.1,r1.1.1.2.1,r1.1.1.2.2.1,r1.1.1.2.2.2.1,r1.1.1.2.2.2.2.set r2.1.1.toNat num2),()),()))))
 (cond (!(num2==r1.1.1.2.2.1))
 ((qVB r1.1.1.2.2.2.1 r2.1.1 ([index1]:List qBs)).bind fun r7=>
 (qVB r1.1.1.2.2.2.2 r2.1.1 ([num2]:List qBs)).bind fun r8=>
 some (((r1.1.1.1,r1.1.1.2.1,r1.1.1.2.2.1,r7.1.1,r8.1.1),()),()))
 (some ((r1.1.1,()),()))))
def qQq (a0:Val) (index1:qBs) (num2:qBs):Option ((Val×Int×Unit)×Unit):=
 (qZaa a0).bind fun r1=>
 cond (!r1.1.1)
 (some ((((0:Int),false,([]:qBs),([]:List qBs),([]:List qBs)),1,()),()))
 ((qEH index1).bind fun r2=>
 cond (!r2.1.1)
 (some ((((0:Int),false,([]:qBs),([]:List qBs),([]:List qBs)),1,()),()))
 ((qEH num2).bind fun r3=>
 cond (!r3.1.1)
 (some ((((0:Int),false,([]:qBs),([]:List qBs),([]:List qBs)),1,()),()))
 ((qNs a0 index1 num2).bind fun r4=>
 some ((r4.1.1,0,()),()))))
def qGT (sort0:Int) (num1:qBs):Option (((List Nod)×Unit)×Unit):=
 some ((([(3,sort0,([]:qBs),num1,(0:Int))]:List Nod),()),())
def qTS (x:(List (List Nod))×(List Nod)×Int×Unit):Option (Ex×((List (List Nod))×(List Nod)×Int×Unit)):=
 let kids1:=x.1
 let t5:=x.2.1
 let i6:=x.2.2.1
 cond (decide (i6 < (kids1.length:Int)))
 (grd (decide (0<=i6)&&decide (i6 < kids1.length)) (grd (decide (t5.length+(kids1.getD i6.toNat ([]:List Nod)).length<=qSE)) (some (Ex.normal,(kids1,t5++(kids1.getD i6.toNat ([]:List Nod)),qI (i6+1),())))))
 (some (Ex.exit 0,(kids1,t5,i6,())))
def qWh (n0:Nod) (kids1:List (List Nod)):Option (((List Nod)×Unit)×Unit):=
 (qLA qTS (kids1,([(n0.1,n0.2.1,n0.2.2.1,n0.2.2.2.1,(kids1.length:Int))]:List Nod),0,())).bind fun y1=>
 cond (Ex.same y1.1 (Ex.exit 0))
 (some ((y1.2.2.1,()),()))
 (none)
def qPW (x:(List (qBs×Val))×Bool×(List (qBs×Val))×(List qXu)×Int×Int×Unit):Option (Ex×((List (qBs×Val))×Bool×(List (qBs×Val))×(List qXu)×Int×Int×Unit)):=
 let t2:=x.1
 let t3:=x.2.1
 let out4:=x.2.2.1
 let t10:=x.2.2.2.1
 let t11:=x.2.2.2.2.1
 let t12:=x.2.2.2.2.2.1
 cond (decide (t12 < t11))
 (grd (decide (0<=t12)&&decide (t12 < t10.length)) (
 (qPR ((t10.getD t12.toNat qVah).2)).bind fun r1=>
 cond (!r1.1.1)
 (some (Ex.ret,(([]:List (qBs×Val)),false,out4,t10,t11,t12,())))
 (cond (!((qFD ((t10.getD t12.toNat qVah).1) out4).isSome))
 (some (Ex.normal,(t2,t3,qCZ ((t10.getD t12.toNat qVah).1) ((t10.getD t12.toNat qVah).2) out4,t10,t11,qI (t12+1),())))
 (some (Ex.normal,(t2,t3,out4,t10,t11,qI (t12+1),()))))))
 (some (Ex.exit 0,(t2,t3,out4,t10,t11,t12,())))
def qNh (env0:List qXu):Option (((List (qBs×Val))×Bool×Unit)×Unit):=
 (qLA qPW (([]:List (qBs×Val)),false,([]:List (qBs×Val)),env0,(env0.length:Int),0,())).bind fun y1=>
 cond (Ex.same y1.1 (Ex.exit 0))
 (some ((y1.2.2.2.1,true,()),()))
 (cond (Ex.same y1.1 Ex.ret)
 (some ((y1.2.1,y1.2.2.1,()),()))
 (none))
def qAb (v0:Val):Option ((Bool×Unit)×Unit):=
 (qPR v0).bind fun r1=>
 some ((!r1.1.1,()),())
def qAD (x:(List Val)×Unit×Int×Int×Int×Unit):Option (Ex×((List Val)×Unit×Int×Int×Int×Unit)):=
 let s0:=x.1
 let f1:=x.2.1
 let t4:=x.2.2.1
 let t7:=x.2.2.2.1
 let t8:=x.2.2.2.2.1
 cond (decide (t8 < t7))
 (grd (decide (0<=t8)&&decide (t8 < s0.length)) (
 (qAb (s0.getD t8.toNat qVO)).bind fun r1=>
 cond (r1.1.1)
 (some (Ex.ret,(s0,(),t8,t7,t8,())))
 (some (Ex.normal,(s0,(),t4,t7,qI (t8+1),())))))
 (some (Ex.exit 0,(s0,(),t4,t7,t8,())))
def qLD (s0:List Val) (f1:Unit):Option ((Int×Unit)×Unit):=
 (qLA qAD (s0,(),0,(s0.length:Int),0,())).bind fun y1=>
 cond (Ex.same y1.1 (Ex.exit 0))
 (some ((-1,()),()))
 (cond (Ex.same y1.1 Ex.ret)
 (some ((y1.2.2.2.1,()),()))
 (none))
def qCD (s0:List Val) (f1:Unit):Option ((Bool×Unit)×Unit):=
 (qLD s0 ()).bind fun r1=>
 some ((decide (r1.1.1>=0),()),())
def qJZ (l0:List Val):Option ((Bool×Unit)×Unit):=
 (qCD l0 ()).bind fun r1=>
 some ((!r1.1.1,()),())
def qCb (l0:List Val):Option ((Bool×Unit)×Unit):=
 (qJZ l0).bind fun r1=>
 some ((!r1.1.1,()),())
def qBD (x:(List (List Val))×Unit×Int×Int×Int×Unit):Option (Ex×((List (List Val))×Unit×Int×Int×Int×Unit)):=
 let s0:=x.1
 let f1:=x.2.1
 let t4:=x.2.2.1
 let t7:=x.2.2.2.1
 let t8:=x.2.2.2.2.1
 cond (decide (t8 < t7))
 (grd (decide (0<=t8)&&decide (t8 < s0.length)) (
 (qCb (s0.getD t8.toNat ([]:List Val))).bind fun r1=>
 cond (r1.1.1)
 (some (Ex.ret,(s0,(),t8,t7,t8,())))
 (some (Ex.normal,(s0,(),t4,t7,qI (t8+1),())))))
 (some (Ex.exit 0,(s0,(),t4,t7,t8,())))
def qOD (s0:List (List Val)) (f1:Unit):Option ((Int×Unit)×Unit):=
 (qLA qBD (s0,(),0,(s0.length:Int),0,())).bind fun y1=>
 cond (Ex.same y1.1 (Ex.exit 0))
 (some ((-1,()),()))
 (cond (Ex.same y1.1 Ex.ret)
 (some ((y1.2.2.2.1,()),()))
 (none))
def qXC (s0:List (List Val)) (f1:Unit):Option ((Bool×Unit)×Unit):=
 (qOD s0 ()).bind fun r1=>
 some ((decide (r1.1.1>=0),()),())
def qTW (x:(List (qBs×Interp))×Bool×(List (qBs×Interp))×(List Interp)×Int×Int×Unit):Option (Ex×((List (qBs×Interp))×Bool×(List (qBs×Interp))×(List Interp)×Int×Int×Unit)):=
 let t2:=x.1
 let t3:=x.2.1
 let out4:=x.2.2.1
 let t10:=x.2.2.2.1
 let t11:=x.2.2.2.2.1
 let t12:=x.2.2.2.2.2.1
 cond (decide (t12 < t11))
 (grd (decide (0<=t12)&&decide (t12 < t10.length)) (
 cond (((((t10.getD t12.toNat qVK).2).1).length:Int) !=(((((t10.getD t12.toNat qVK).2).2).1).length:Int))
 (some (Ex.ret,(([]:List (qBs×Interp)),false,out4,t10,t11,t12,())))
 ((qJZ ((((t10.getD t12.toNat qVK).2).2).1)).bind fun r1=>
 cond (!r1.1.1)
 (some (Ex.ret,(([]:List (qBs×Interp)),false,out4,t10,t11,t12,())))
 ((qPR ((((t10.getD t12.toNat qVK).2).2).2)).bind fun r2=>
 cond (!r2.1.1)
 (some (Ex.ret,(([]:List (qBs×Interp)),false,out4,t10,t11,t12,())))
 ((qXC (((t10.getD t12.toNat qVK).2).1) ()).bind fun r3=>
 cond (r3.1.1)
 (some (Ex.ret,(([]:List (qBs×Interp)),false,out4,t10,t11,t12,())))
 (cond (!((qFD ((t10.getD t12.toNat qVK).1) out4).isSome))
 (some (Ex.normal,(t2,t3,qCZ ((t10.getD t12.toNat qVK).1) (t10.getD t12.toNat qVK) out4,t10,t11,qI (t12+1),())))
 (some (Ex.normal,(t2,t3,out4,t10,t11,qI (t12+1),())))))))))
 (some (Ex.exit 0,(t2,t3,out4,t10,t11,t12,())))
def qGh (fns0:List Interp):Option (((List (qBs×Interp))×Bool×Unit)×Unit):=
 (qLA qTW (([]:List (qBs×Interp)),false,([]:List (qBs×Interp)),fns0,(fns0.length:Int),0,())).bind fun y1=>
 cond (Ex.same y1.1 (Ex.exit 0))
 (some ((y1.2.2.2.1,true,()),()))
 (cond (Ex.same y1.1 Ex.ret)
 (some ((y1.2.1,y1.2.2.1,()),()))
 (none))
def qDU (sort0:Int) (a1:qBs):Option ((Bool×Unit)×Unit):=
 cond (sort0==2)
 ((qEH a1).bind fun r1=>
 cond (r1.1.1)
 (some ((true,()),()))
 (cond (sort0==3)
 ((qVP a1).bind fun r2=>
 some ((r2.1.1,()),()))
 (some ((false,()),()))))
 (cond (sort0==3)
 ((qVP a1).bind fun r3=>
 some ((r3.1.1,()),()))
 (some ((false,()),())))
def qRY (s0:Int):Option ((Bool×Unit)×Unit):=
 cond (decide (s0>=1))
 (some ((decide (s0<=4),()),()))
 (some ((false,()),()))
def qEX (c0:Int):Option ((Bool×Unit)×Unit):=
 cond (decide (c0>=97))
 (cond (decide (c0<=122))
 (some ((true,()),()))
 (cond (decide (c0>=65))
 (cond (decide (c0<=90))
 (some ((true,()),()))
 (cond (c0==95)
 (some ((true,()),()))
 (cond (c0==36)
 (some ((true,()),()))
 (some ((c0==33,()),())))))
 (cond (c0==95)
 (some ((true,()),()))
 (cond (c0==36)
 (some ((true,()),()))
 (some ((c0==33,()),()))))))
 (cond (decide (c0>=65))
 (cond (decide (c0<=90))
 (some ((true,()),()))
 (cond (c0==95)
 (some ((true,()),()))
 (cond (c0==36)
 (some ((true,()),()))
 (some ((c0==33,()),())))))
 (cond (c0==95)
 (some ((true,()),()))
 (cond (c0==36)
 (some ((true,()),()))
 (some ((c0==33,()),())))))
def qAaf (s0:qBs):Option ((Bool×Unit)×Unit):=
 cond (s0==([97,110,100]:qBs))
 (some ((true,()),()))
 (cond (s0==([111,114]:qBs))
 (some ((true,()),()))
 (cond (s0==([110,111,116]:qBs))
 (some ((true,()),()))
 (cond (s0==([105,116,101]:qBs))
 (some ((true,()),()))
 (cond (s0==([116,114,117,101]:qBs))
 (some ((true,()),()))
 (cond (s0==([102,97,108,115,101]:qBs))
 (some ((true,()),()))
 (cond (s0==([108,101,116]:qBs))
 (some ((true,()),()))
 (cond (s0==([102,111,114,97,108,108]:qBs))
 (some ((true,()),()))
 (cond (s0==([101,120,105,115,116,115]:qBs))
 (some ((true,()),()))
 (cond (s0==([100,105,115,116,105,110,99,116]:qBs))
 (some ((true,()),()))
 (cond (s0==([100,105,118]:qBs))
 (some ((true,()),()))
 (cond (s0==([109,111,100]:qBs))
 (some ((true,()),()))
 (cond (s0==([115,101,108,101,99,116]:qBs))
 (some ((true,()),()))
 (cond (s0==([115,116,111,114,101]:qBs))
 (some ((true,()),()))
 (cond (s0==([99,111,110,115,116]:qBs))
 (some ((true,()),()))
 (cond (s0==([66,111,111,108]:qBs))
 (some ((true,()),()))
 (cond (s0==([73,110,116]:qBs))
 (some ((true,()),()))
 (cond (s0==([82,101,97,108]:qBs))
 (some ((true,()),()))
 (cond (s0==([65,114,114,97,121]:qBs))
 (some ((true,()),()))
 (some ((false,()),()))))))))))))))))))))
def qDO (x:qBs×Bool×Int×Int×Unit):Option (Ex×(qBs×Bool×Int×Int×Unit)):=
 let s0:=x.1
 let t2:=x.2.1
 let t23:=x.2.2.1
 let t24:=x.2.2.2.1
 cond (decide (t24 < t23))
 (grd (decide (0<=t24)&&decide (t24 < s0.length)) (
 (qEX ((s0.getD t24.toNat 0).toNat:Int)).bind fun r1=>
 cond (!r1.1.1)
 (cond (decide (((s0.getD t24.toNat 0).toNat:Int)>=48))
 (cond (!(decide (((s0.getD t24.toNat 0).toNat:Int)<=57)))
 (cond (((s0.getD t24.toNat 0).toNat:Int) !=(46:Int))
 (cond (((s0.getD t24.toNat 0).toNat:Int) !=(64:Int))
 (some (Ex.ret,(s0,false,t23,t24,())))
 (some (Ex.normal,(s0,t2,t23,qI (t24+1),()))))
 (some (Ex.normal,(s0,t2,t23,qI (t24+1),()))))
 (some (Ex.normal,(s0,t2,t23,qI (t24+1),()))))
 (cond (((s0.getD t24.toNat 0).toNat:Int) !=(46:Int))
 (cond (((s0.getD t24.toNat 0).toNat:Int) !=(64:Int))
 (some (Ex.ret,(s0,false,t23,t24,())))
 (some (Ex.normal,(s0,t2,t23,qI (t24+1),()))))
 (some (Ex.normal,(s0,t2,t23,qI (t24+1),())))))
 (some (Ex.normal,(s0,t2,t23,qI (t24+1),())))))
 (some (Ex.exit 0,(s0,t2,t23,t24,())))
def qMX (s0:qBs):Option ((Bool×Unit)×Unit):=
 cond (s0==([]:qBs))
 (some ((false,()),()))
 (cond (decide ((s0.length:Int) > (40:Int)))
 (some ((false,()),()))
 (grd (decide (0<=(0:Int))&&decide ((0:Int) < s0.length)) (
 (qEX ((s0.getD (0:Int).toNat 0).toNat:Int)).bind fun r1=>
 cond (!r1.1.1)
 (some ((false,()),()))
 ((qAaf s0).bind fun r2=>
 cond (r2.1.1)
 (some ((false,()),()))
 ((qLA qDO (s0,false,(s0.length:Int),0,())).bind fun y3=>
 cond (Ex.same y3.1 (Ex.exit 0))
 (some ((true,()),()))
 (cond (Ex.same y3.1 Ex.ret)
 (some ((y3.2.2.1,()),()))
 (none)))))))
def qHc (n0:Nod):Option ((Bool×Unit)×Unit):=
 cond (n0.1==3)
 (cond (n0.2.2.1==([]:qBs))
 ((qDU n0.2.1 n0.2.2.2.1).bind fun r1=>
 some ((r1.1.1,()),()))
 (some ((false,()),())))
 (cond (n0.1==4)
 ((qRY n0.2.1).bind fun r2=>
 cond (r2.1.1)
 ((qMX n0.2.2.1).bind fun r3=>
 cond (r3.1.1)
 (some ((n0.2.2.2.1==([]:qBs),()),()))
 (some ((false,()),())))
 (some ((false,()),())))
 (cond (n0.1==5)
 ((qRY n0.2.1).bind fun r4=>
 cond (r4.1.1)
 ((qMX n0.2.2.1).bind fun r5=>
 cond (r5.1.1)
 (some ((n0.2.2.2.1==([]:qBs),()),()))
 (some ((false,()),())))
 (some ((false,()),())))
 (cond (n0.1==16)
 (cond (n0.2.1==0)
 (cond (n0.2.2.1==([]:qBs))
 ((qEH n0.2.2.2.1).bind fun r6=>
 cond (r6.1.1)
 ((qHY n0.2.2.2.1).bind fun r7=>
 some ((decide (r7.1.1 > (0:Int)),()),()))
 (some ((false,()),())))
 (some ((false,()),())))
 (some ((false,()),())))
 (cond (n0.1==17)
 (cond (n0.2.1==0)
 (cond (n0.2.2.1==([]:qBs))
 ((qEH n0.2.2.2.1).bind fun r8=>
 cond (r8.1.1)
 ((qHY n0.2.2.2.1).bind fun r9=>
 some ((decide (r9.1.1 > (0:Int)),()),()))
 (some ((false,()),())))
 (some ((false,()),())))
 (some ((false,()),())))
 (cond (decide (n0.1>=1))
 (cond (decide (n0.1<=20))
 (cond (n0.2.1==0)
 (cond (n0.2.2.1==([]:qBs))
 (some ((n0.2.2.2.1==([]:qBs),()),()))
 (some ((false,()),())))
 (some ((false,()),())))
 (some ((false,()),())))
 (some ((false,()),())))))))
def qQd (op0:Int) (n1:Int):Option ((Bool×Unit)×Unit):=
 cond (op0==1)
 (some ((n1==0,()),()))
 (cond (op0==2)
 (some ((n1==0,()),()))
 (cond (op0==3)
 (some ((n1==0,()),()))
 (cond (op0==4)
 (some ((n1==0,()),()))
 (cond (op0==5)
 (cond (decide (n1>=1))
 (some ((decide (n1<=40),()),()))
 (some ((false,()),())))
 (cond (op0==6)
 (some ((n1==1,()),()))
 (cond (op0==16)
 (some ((n1==1,()),()))
 (cond (op0==17)
 (some ((n1==1,()),()))
 (cond (op0==20)
 (some ((n1==1,()),()))
 (cond (op0==7)
 (some ((true,()),()))
 (cond (op0==8)
 (some ((true,()),()))
 (cond (op0==14)
 (some ((decide (n1>=1),()),()))
 (cond (op0==10)
 (some ((n1==3,()),()))
 (cond (op0==19)
 (some ((n1==3,()),()))
 (some ((n1==2,()),())))))))))))))))
def qPq (x0:Int) (a1:Option Int):Option ((Bool×Unit)×Unit):=
 grd (a1.isSome) (some ((x0 !=(a1.getD (0:Int)),()),()))
def qWA (x:(List Int)×(Option Int)×Int×Int×Int×Unit):Option (Ex×((List Int)×(Option Int)×Int×Int×Int×Unit)):=
 let s0:=x.1
 let f1:=x.2.1
 let t4:=x.2.2.1
 let t7:=x.2.2.2.1
 let t8:=x.2.2.2.2.1
 cond (decide (t8 < t7))
 (grd (decide (0<=t8)&&decide (t8 < s0.length)) (
 (qPq (s0.getD t8.toNat (0:Int)) f1).bind fun r1=>
 cond (r1.1.1)
 (some (Ex.ret,(s0,f1,t8,t7,t8,())))
 (some (Ex.normal,(s0,f1,t4,t7,qI (t8+1),())))))
 (some (Ex.exit 0,(s0,f1,t4,t7,t8,())))
def qJD (s0:List Int) (f1:Option Int):Option ((Int×Unit)×Unit):=
 (qLA qWA (s0,f1,0,(s0.length:Int),0,())).bind fun y1=>
 cond (Ex.same y1.1 (Ex.exit 0))
 (some ((-1,()),()))
 (cond (Ex.same y1.1 Ex.ret)
 (some ((y1.2.2.2.1,()),()))
 (none))
def qTC (s0:List Int) (f1:Option Int):Option ((Bool×Unit)×Unit):=
 (qJD s0 f1).bind fun r1=>
 some ((decide (r1.1.1>=0),()),())
def qVX (sorts0:List Int) (s1:Int):Option ((Bool×Unit)×Unit):=
 (qTC sorts0 (some s1)).bind fun r1=>
 some ((!r1.1.1,()),())
def qBG (is0:Bool) (sort1:Int):Option ((Int×Unit)×Unit):=
 cond (is0)
 (some ((sort1,()),()))
 (some ((0,()),()))
def qRO (s0:Int):Option ((Bool×Unit)×Unit):=
 cond (s0==2)
 (some ((true,()),()))
 (some ((s0==3,()),()))
def qGc (n0:Nod) (sorts1:List Int):Option ((Int×Unit)×Unit):=
 cond (n0.1==3)
 (some ((n0.2.1,()),()))
 (cond (n0.1==4)
 (some ((n0.2.1,()),()))
 (cond (n0.1==5)
 (some ((n0.2.1,()),()))
 (cond (n0.1==1)
 ((qVX sorts1 1).bind fun r1=>
 (qBG r1.1.1 1).bind fun r2=>
 some ((r2.1.1,()),()))
 (cond (n0.1==2)
 ((qVX sorts1 1).bind fun r3=>
 (qBG r3.1.1 1).bind fun r4=>
 some ((r4.1.1,()),()))
 (cond (n0.1==6)
 ((qVX sorts1 1).bind fun r5=>
 (qBG r5.1.1 1).bind fun r6=>
 some ((r6.1.1,()),()))
 (cond (n0.1==7)
 ((qVX sorts1 1).bind fun r7=>
 (qBG r7.1.1 1).bind fun r8=>
 some ((r8.1.1,()),()))
 (cond (n0.1==8)
 ((qVX sorts1 1).bind fun r9=>
 (qBG r9.1.1 1).bind fun r10=>
 some ((r10.1.1,()),()))
 (cond (n0.1==9)
 ((qVX sorts1 1).bind fun r11=>
 (qBG r11.1.1 1).bind fun r12=>
 some ((r12.1.1,()),()))
 (cond (n0.1==10)
 (grd (decide (0<=(0:Int))&&decide ((0:Int) < sorts1.length)) (
 cond ((sorts1.getD (0:Int).toNat (0:Int))==1)
 (grd (decide (0<=(1:Int))&&decide ((1:Int) < sorts1.length)) (
 grd (decide (0<=(2:Int))&&decide ((2:Int) < sorts1.length)) (
 grd (decide (0<=(1:Int))&&decide ((1:Int) < sorts1.length)) (
 (qBG ((sorts1.getD (1:Int).toNat (0:Int))==(sorts1.getD (2:Int).toNat (0:Int))) (sorts1.getD (1:Int).toNat (0:Int))).bind fun r13=>
 some ((r13.1.1,()),())))))
 (grd (decide (0<=(1:Int))&&decide ((1:Int) < sorts1.length)) (
 (qBG false (sorts1.getD (1:Int).toNat (0:Int))).bind fun r14=>
 some ((r14.1.1,()),())))))
 (cond (n0.1==11)
 (grd (decide (0<=(0:Int))&&decide ((0:Int) < sorts1.length)) (
 grd (decide (0<=(1:Int))&&decide ((1:Int) < sorts1.length)) (
 (qBG ((sorts1.getD (0:Int).toNat (0:Int))==(sorts1.getD (1:Int).toNat (0:Int))) 1).bind fun r15=>
 some ((r15.1.1,()),()))))
 (cond (n0.1==12)
 (grd (decide (0<=(0:Int))&&decide ((0:Int) < sorts1.length)) (
 (qRO (sorts1.getD (0:Int).toNat (0:Int))).bind fun r16=>
 cond (r16.1.1)
 (grd (decide (0<=(0:Int))&&decide ((0:Int) < sorts1.length)) (
 (qVX sorts1 (sorts1.getD (0:Int).toNat (0:Int))).bind fun r17=>
 (qBG r17.1.1 1).bind fun r18=>
 some ((r18.1.1,()),())))
 ((qBG false 1).bind fun r19=>
 some ((r19.1.1,()),()))))
 (cond (n0.1==13)
 (grd (decide (0<=(0:Int))&&decide ((0:Int) < sorts1.length)) (
 (qRO (sorts1.getD (0:Int).toNat (0:Int))).bind fun r20=>
 cond (r20.1.1)
 (grd (decide (0<=(0:Int))&&decide ((0:Int) < sorts1.length)) (
 (qVX sorts1 (sorts1.getD (0:Int).toNat (0:Int))).bind fun r21=>
 (qBG r21.1.1 1).bind fun r22=>
 some ((r22.1.1,()),())))
 ((qBG false 1).bind fun r23=>
 some ((r23.1.1,()),()))))
 (cond (n0.1==14)
 (grd (decide (0<=(0:Int))&&decide ((0:Int) < sorts1.length)) (
 (qRO (sorts1.getD (0:Int).toNat (0:Int))).bind fun r24=>
 cond (r24.1.1)
 (grd (decide (0<=(0:Int))&&decide ((0:Int) < sorts1.length)) (
 (qVX sorts1 (sorts1.getD (0:Int).toNat (0:Int))).bind fun r25=>
 grd (decide (0<=(0:Int))&&decide ((0:Int) < sorts1.length)) (
 (qBG r25.1.1 (sorts1.getD (0:Int).toNat (0:Int))).bind fun r26=>
 some ((r26.1.1,()),()))))
 (grd (decide (0<=(0:Int))&&decide ((0:Int) < sorts1.length)) (
 (qBG false (sorts1.getD (0:Int).toNat (0:Int))).bind fun r27=>
 some ((r27.1.1,()),())))))
 (cond (n0.1==15)
 (grd (decide (0<=(0:Int))&&decide ((0:Int) < sorts1.length)) (
 (qRO (sorts1.getD (0:Int).toNat (0:Int))).bind fun r28=>
 cond (r28.1.1)
 (grd (decide (0<=(0:Int))&&decide ((0:Int) < sorts1.length)) (
 (qVX sorts1 (sorts1.getD (0:Int).toNat (0:Int))).bind fun r29=>
 grd (decide (0<=(0:Int))&&decide ((0:Int) < sorts1.length)) (
 (qBG r29.1.1 (sorts1.getD (0:Int).toNat (0:Int))).bind fun r30=>
 some ((r30.1.1,()),()))))
 (grd (decide (0<=(0:Int))&&decide ((0:Int) < sorts1.length)) (
 (qBG false (sorts1.getD (0:Int).toNat (0:Int))).bind fun r31=>
 some ((r31.1.1,()),())))))
 (cond (n0.1==16)
 (grd (decide (0<=(0:Int))&&decide ((0:Int) < sorts1.length)) (
 (qBG ((sorts1.getD (0:Int).toNat (0:Int))==2) 2).bind fun r32=>
 some ((r32.1.1,()),())))
 (cond (n0.1==17)
 (grd (decide (0<=(0:Int))&&decide ((0:Int) < sorts1.length)) (
 (qBG ((sorts1.getD (0:Int).toNat (0:Int))==2) 2).bind fun r33=>
 some ((r33.1.1,()),())))
 (cond (n0.1==18)
 (grd (decide (0<=(0:Int))&&decide ((0:Int) < sorts1.length)) (
 cond ((sorts1.getD (0:Int).toNat (0:Int))==4)
 (grd (decide (0<=(1:Int))&&decide ((1:Int) < sorts1.length)) (
 (qBG ((sorts1.getD (1:Int).toNat (0:Int))==2) 2).bind fun r34=>
 some ((r34.1.1,()),())))
 ((qBG false 2).bind fun r35=>
 some ((r35.1.1,()),()))))
 (cond (n0.1==19)
 (grd (decide (0<=(0:Int))&&decide ((0:Int) < sorts1.length)) (
 cond ((sorts1.getD (0:Int).toNat (0:Int))==4)
 (grd (decide (0<=(1:Int))&&decide ((1:Int)<=sorts1.length)) (
 (qVX (sorts1.drop (1:Int).toNat) 2).bind fun r36=>
 (qBG r36.1.1 4).bind fun r37=>
 some ((r37.1.1,()),())))
 ((qBG false 4).bind fun r38=>
 some ((r38.1.1,()),()))))
 (grd (decide (0<=(0:Int))&&decide ((0:Int) < sorts1.length)) (
 (qBG ((sorts1.getD (0:Int).toNat (0:Int))==2) 4).bind fun r39=>
 some ((r39.1.1,()),())))))))))))))))))))))
def qKN (v:Int) (i:Nat) (x:((List Nod)×List (Int×Sml))×(Int×Sml)×(List Int)×Unit):Option (((List Nod)×List (Int×Sml))×(Int×Sml)×(List Int)×Unit):=
 let v4:=x.1
 let p9:=x.2.1
 let sorts10:=x.2.2.1
 grd (decide (0<=v)&&decide (v < v4.2.length)) (grd (decide (v.toNat < v4.2.length)) (grd (decide (sorts10.length+([(v4.2.getD v.toNat ((0:Int),(0:Int),(0:Int))).1]:List Int).length<=qSE)) (grd (decide (0<=v)&&decide (v < v4.2.length)) (grd (decide (v.toNat < v4.2.length)) (grd (decide (0<=v)&&decide (v < v4.2.length)) (grd (decide (v.toNat < v4.2.length)) (some (v4,(p9.1,qFZ p9.2.1 (qI ((((v4.2.getD v.toNat ((0:Int),(0:Int),(0:Int))).2).1)+1)),((v4.2.getD v.toNat ((0:Int),(0:Int),(0:Int))).2).2),sorts10++([(v4.2.getD v.toNat ((0:Int),(0:Int),(0:Int))).1]:List Int),()))))))))
def qUJ (y:((List Nod)×List (Int×Sml))×(Int×Sml)×(List Int)×Unit) (o:((List Nod)×List (Int×Sml))×(Int×Sml)×(List Int)×Unit):((List Nod)×List (Int×Sml))×(Int×Sml)×(List Int)×Unit:=(o.1,o.2.1,o.2.2.1,())
def qDP (y:((List Nod)×List (Int×Sml))×(Int×Sml)×(List Int)×Unit):((List Nod)×List (Int×Sml))×(Int×Sml)×(List Int)×Unit:=(y.1,y.2.1,y.2.2.1,())
def qHM (x:(List Nod)×(Option qWP)×Bool×((List Nod)×List (Int×Sml))×(List Int)×Int×Unit):Option (Ex×((List Nod)×(Option qWP)×Bool×((List Nod)×List (Int×Sml))×(List Int)×Int×Unit)):=
 let t0:=x.1
 let t2:=x.2.1
 let t3:=x.2.2.1
 let v4:=x.2.2.2.1
 let roots5:=x.2.2.2.2.1
 let i6:=x.2.2.2.2.2.1
 cond (decide (i6>=0))
 (grd (decide (0<=i6)&&decide (i6 < t0.length)) (
 cond (decide ((((((t0.getD i6.toNat qPC).2).2).2).2) < (0:Int)))
 (some (Ex.ret,(t0,(none:Option qWP),false,v4,roots5,i6,())))
 (cond (decide ((((((t0.getD i6.toNat qPC).2).2).2).2) > (roots5.length:Int)))
 (some (Ex.ret,(t0,(none:Option qWP),false,v4,roots5,i6,())))
 ((qHc (t0.getD i6.toNat qPC)).bind fun r1=>
 cond (!r1.1.1)
 (some (Ex.ret,(t0,(none:Option qWP),false,v4,roots5,i6,())))
 ((qQd ((t0.getD i6.toNat qPC).1) (((((t0.getD i6.toNat qPC).2).2).2).2)).bind fun r2=>
 cond (!r2.1.1)
 (some (Ex.ret,(t0,(none:Option qWP),false,v4,roots5,i6,())))
 (grd (decide (0<=qI ((roots5.length:Int) - (((((t0.getD i6.toNat qPC).2).2).2).2)))&&decide (qI ((roots5.length:Int) - (((((t0.getD i6.toNat qPC).2).2).2).2))<=roots5.length)) (
 grd (decide (((roots5.drop ((qI ((roots5.length:Int) - (((((t0.getD i6.toNat qPC).2).2).2).2))).toNat)).take (roots5.length - (qI ((roots5.length:Int) - (((((t0.getD i6.toNat qPC).2).2).2).2))).toNat)).length<=qSE)) (((foldO (fun p y=>(qKN p.1 p.2 y).bind fun o=>some (qUJ y o)) ((roots5.drop ((qI ((roots5.length:Int) - (((((t0.getD i6.toNat qPC).2).2).2).2))).toNat)).take (roots5.length - (qI ((roots5.length:Int) - (((((t0.getD i6.toNat qPC).2).2).2).2))).toNat)).zipIdx.reverse (v4,((0:Int),1,qI (i6+1)),([]:List Int),())).bind fun y=>some ((),qDP y)).bind fun y3=>
 (qGc (t0.getD i6.toNat qPC) y3.2.2.2.1).bind fun r4=>
 cond (r4.1.1==0)
 (some (Ex.ret,(t0,(none:Option qWP),false,y3.2.1,roots5,i6,())))
 (cond (((t0.getD i6.toNat qPC).1)==15)
 (grd (decide (0<=qI (i6+1))&&decide (qI (i6+1) < t0.length)) (
 cond (((t0.getD (qI (i6+1)).toNat qPC).1) !=(3:Int))
 (some (Ex.ret,(t0,(none:Option qWP),false,y3.2.1,roots5,i6,())))
 (grd (decide (0<=i6)&&decide (i6 < y3.2.1.2.length)) (grd (decide (i6.toNat < y3.2.1.2.length)) (grd (decide (0<=qI ((roots5.length:Int) - (((((t0.getD i6.toNat qPC).2).2).2).2)))&&decide (qI ((roots5.length:Int) - (((((t0.getD i6.toNat qPC).2).2).2).2))<=roots5.length)) (grd (decide (((qI ((roots5.length:Int) - (((((t0.getD i6.toNat qPC).2).2).2).2))).toNat)+([i6]:List Int).length<=qSE)) (some (Ex.normal,(t0,t2,t3,(y3.2.1.1,y3.2.1.2.set i6.toNat (r4.1.1,y3.2.2.1.2)),roots5.take ((qI ((roots5.length:Int) - (((((t0.getD i6.toNat qPC).2).2).2).2))).toNat)++([i6]:List Int),qI (i6 - (1:Int)),())))))))))
 (grd (decide (0<=i6)&&decide (i6 < y3.2.1.2.length)) (grd (decide (i6.toNat < y3.2.1.2.length)) (grd (decide (0<=qI ((roots5.length:Int) - (((((t0.getD i6.toNat qPC).2).2).2).2)))&&decide (qI ((roots5.length:Int) - (((((t0.getD i6.toNat qPC).2).2).2).2))<=roots5.length)) (grd (decide (((qI ((roots5.length:Int) - (((((t0.getD i6.toNat qPC).2).2).2).2))).toNat)+([i6]:List Int).length<=qSE)) (some (Ex.normal,(t0,t2,t3,(y3.2.1.1,y3.2.1.2.set i6.toNat (r4.1.1,y3.2.2.1.2)),roots5.take ((qI ((roots5.length:Int) - (((((t0.getD i6.toNat qPC).2).2).2).2))).toNat)++([i6]:List Int),qI (i6 - (1:Int)),()))))))))))))))))
 (some (Ex.exit 0,(t0,t2,t3,v4,roots5,i6,())))
def qMu (t0:List Nod):Option (((Option qWP)×Bool×Unit)×Unit):=
 grd (decide (0<=(t0.length:Int))&&decide ((t0.length:Int)<=(t0.length:Int))&&decide ((t0.length:Int)<=qSE)) (
 (qLA qHM (t0,(none:Option qWP),false,(t0,List.replicate (t0.length:Int).toNat ((0:Int),(0:Int),(0:Int))),([]:List Int),qI ((t0.length:Int) - (1:Int)),())).bind fun y1=>
 cond (Ex.same y1.1 (Ex.exit 0))
 (some ((some y1.2.2.2.2.1,(y1.2.2.2.2.2.1.length:Int)==1,()),()))
 (cond (Ex.same y1.1 Ex.ret)
 (some ((y1.2.2.1,y1.2.2.2.1,()),()))
 (none)))
def qQP (v0:Option qWP):Option ((Bool×Unit)×Unit):=
 grd (v0.isSome) (
 cond (decide ((((v0.getD qWL).1).length:Int) > (20000:Int)))
 (some ((true,()),()))
 (grd (v0.isSome) (grd (decide (0<=(0:Int))&&decide ((0:Int) < ((v0.getD qWL).2).length)) (some ((decide ((((((v0.getD qWL).2).getD (0:Int).toNat ((0:Int),(0:Int),(0:Int))).2).1) > (257:Int)),()),())))))
def qWI (x:(Option qWP)×(List Int)×Int×Int×Int×Unit):Option (Ex×((Option qWP)×(List Int)×Int×Int×Int×Unit)):=
 let v0:=x.1
 let out5:=x.2.1
 let at6:=x.2.2.1
 let t16:=x.2.2.2.1
 let t17:=x.2.2.2.2.1
 cond (decide (t17 < t16))
 (grd (decide (out5.length+([at6]:List Int).length<=qSE)) (grd (v0.isSome) (grd (decide (0<=at6)&&decide (at6 < ((v0.getD qWL).2).length)) (some (Ex.normal,(v0,out5++([at6]:List Int),((((v0.getD qWL).2).getD at6.toNat ((0:Int),(0:Int),(0:Int))).2).2,t16,qI (t17+1),()))))))
 (some (Ex.exit 0,(v0,out5,at6,t16,t17,())))
def qGO (v0:Option qWP) (i1:Int):Option (((List Int)×Unit)×Unit):=
 grd (v0.isSome) (
 grd (decide (0<=i1)&&decide (i1 < ((v0.getD qWL).1).length)) (
 (qLA qWI (v0,([]:List Int),qI (i1+1),((((((v0.getD qWL).1).getD i1.toNat qPC).2).2).2).2,0,())).bind fun y1=>
 cond (Ex.same y1.1 (Ex.exit 0))
 (some ((y1.2.2.1,()),()))
 (none)))
def t_view_signature_s3 (x:(Option qWP)×(qBs×qJA)×(qBs×(List Int)×Int)×(List Int)×Int×Int×Unit):Option (Ex×((Option qWP)×(qBs×qJA)×(qBs×(List Int)×Int)×(List Int)×Int×Int×Unit)):=
 let v0:=x.1
 let t4:=x.2.1
 let f5:=x.2.2.1
 let t27:=x.2.2.2.1
 let t28:=x.2.2.2.2.1
 let t29:=x.2.2.2.2.2.1
 cond (decide (t29 < t28))
 (grd (decide (0<=t29)&&decide (t29 < t27.length)) (grd (v0.isSome) (grd (decide (0<=t27.getD t29.toNat (0:Int))&&decide (t27.getD t29.toNat (0:Int) < ((v0.getD qWL).2).length)) (grd (decide (f5.2.1.length+([(((v0.getD qWL).2).getD (t27.getD t29.toNat (0:Int)).toNat ((0:Int),(0:Int),(0:Int))).1]:List Int).length<=qSE)) (some (Ex.normal,(v0,t4,(f5.1,f5.2.1++([(((v0.getD qWL).2).getD (t27.getD t29.toNat (0:Int)).toNat ((0:Int),(0:Int),(0:Int))).1]:List Int),f5.2.2),t27,t28,qI (t29+1),())))))))
 (some (Ex.exit 0,(v0,t4,f5,t27,t28,t29,())))
def qHJ (v0:Option qWP) (i1:Int):Option (((qBs×qJA)×Unit)×Unit):=
 grd (v0.isSome) (
 grd (decide (0<=i1)&&decide (i1 < ((v0.getD qWL).1).length)) (
 grd (v0.isSome) (
 grd (decide (0<=i1)&&decide (i1 < ((v0.getD qWL).1).length)) (
 (qGO v0 i1).bind fun r1=>
 (qLA t_view_signature_s3 (v0,(([]:qBs),([]:List Int),(0:Int)),((((((v0.getD qWL).1).getD i1.toNat qPC).2).2).1,([]:List Int),((((v0.getD qWL).1).getD i1.toNat qPC).2).1),r1.1.1,(r1.1.1.length:Int),0,())).bind fun y2=>
 cond (Ex.same y2.1 (Ex.exit 0))
 (some ((y2.2.2.2.1,()),()))
 (none)))))
def qDD (x:(List Int)×(List Int)×Bool×Int×Int×Unit):Option (Ex×((List Int)×(List Int)×Bool×Int×Int×Unit)):=
 let s10:=x.1
 let s21:=x.2.1
 let t4:=x.2.2.1
 let t12:=x.2.2.2.1
 let t13:=x.2.2.2.2.1
 cond (decide (t13 < t12))
 (grd (decide (0<=t13)&&decide (t13 < s10.length)) (
 grd (decide (0<=t13)&&decide (t13 < s21.length)) (
 cond ((s10.getD t13.toNat (0:Int)) !=(s21.getD t13.toNat (0:Int)))
 (some (Ex.ret,(s10,s21,false,t12,t13,())))
 (some (Ex.normal,(s10,s21,t4,t12,qI (t13+1),()))))))
 (some (Ex.exit 0,(s10,s21,t4,t12,t13,())))
def qNF (s10:List Int) (s21:List Int):Option ((Bool×Unit)×Unit):=
 cond ((s10.length:Int) !=(s21.length:Int))
 (some ((false,()),()))
 ((qLA qDD (s10,s21,false,(s10.length:Int),0,())).bind fun y1=>
 cond (Ex.same y1.1 (Ex.exit 0))
 (some ((true,()),()))
 (cond (Ex.same y1.1 Ex.ret)
 (some ((y1.2.2.2.1,()),()))
 (none)))
def qQl (f0:qBs×qJA) (g1:qBs×qJA):Option ((Bool×Unit)×Unit):=
 cond (f0.1==g1.1)
 (cond (f0.2.2==g1.2.2)
 ((qNF f0.2.1 g1.2.1).bind fun r1=>
 some ((r1.1.1,()),()))
 (some ((false,()),())))
 (some ((false,()),()))
def qTD (x:(Option qWP)×(List Vr)×(List (qBs×qJA))×Bool×(List (qBs×Vr))×(List (qBs×qBs×qJA))×(List Vr)×(List (qBs×qJA))×(List Nod)×Int×Int×Unit):Option (Ex×((Option qWP)×(List Vr)×(List (qBs×qJA))×Bool×(List (qBs×Vr))×(List (qBs×qBs×qJA))×(List Vr)×(List (qBs×qJA))×(List Nod)×Int×Int×Unit)):=
 let v0:=x.1
 let t2:=x.2.1
 let t3:=x.2.2.1
 let t4:=x.2.2.2.1
 let vars5:=x.2.2.2.2.1
 let funcs6:=x.2.2.2.2.2.1
 let l7:=x.2.2.2.2.2.2.1
 let m8:=x.2.2.2.2.2.2.2.1
 let t25:=x.2.2.2.2.2.2.2.2.1
 let t26:=x.2.2.2.2.2.2.2.2.2.1
 let t27:=x.2.2.2.2.2.2.2.2.2.2.1
 cond (decide (t27 < t26))
 (grd (decide (0<=t27)&&decide (t27 < t25.length)) (
 cond (((t25.getD t27.toNat qPC).1)==4)
 (cond (!((qFD ((((t25.getD t27.toNat qPC).2).2).1) vars5).isSome))
 (grd (decide (l7.length+([((((t25.getD t27.toNat qPC).2).2).1,((t25.getD t27.toNat qPC).2).1)]:List Vr).length<=qSE)) (
 cond ((qFD ((((t25.getD t27.toNat qPC).2).2).1) funcs6).isSome)
 (some (Ex.ret,(v0,([]:List Vr),([]:List (qBs×qJA)),false,qCZ ((((t25.getD t27.toNat qPC).2).2).1) ((((t25.getD t27.toNat qPC).2).2).1,((t25.getD t27.toNat qPC).2).1) vars5,funcs6,l7++([((((t25.getD t27.toNat qPC).2).2).1,((t25.getD t27.toNat qPC).2).1)]:List Vr),m8,t25,t26,t27,())))
 (cond ((((t25.getD t27.toNat qPC).2).1) !=(((t25.getD t27.toNat qPC).2).1))
 (some (Ex.ret,(v0,([]:List Vr),([]:List (qBs×qJA)),false,qCZ ((((t25.getD t27.toNat qPC).2).2).1) ((((t25.getD t27.toNat qPC).2).2).1,((t25.getD t27.toNat qPC).2).1) vars5,funcs6,l7++([((((t25.getD t27.toNat qPC).2).2).1,((t25.getD t27.toNat qPC).2).1)]:List Vr),m8,t25,t26,t27,())))
 (some (Ex.normal,(v0,t2,t3,t4,qCZ ((((t25.getD t27.toNat qPC).2).2).1) ((((t25.getD t27.toNat qPC).2).2).1,((t25.getD t27.toNat qPC).2).1) vars5,funcs6,l7++([((((t25.getD t27.toNat qPC).2).2).1,((t25.getD t27.toNat qPC).2).1)]:List Vr),m8,t25,t26,qI (t27+1),()))))))
 (cond ((qFD ((((t25.getD t27.toNat qPC).2).2).1) funcs6).isSome)
 (some (Ex.ret,(v0,([]:List Vr),([]:List (qBs×qJA)),false,vars5,funcs6,l7,m8,t25,t26,t27,())))
 (cond ((((qFD ((((t25.getD t27.toNat qPC).2).2).1) vars5).getD zVr).2) !=(((t25.getD t27.toNat qPC).2).1))
 (some (Ex.ret,(v0,([]:List Vr),([]:List (qBs×qJA)),false,vars5,funcs6,l7,m8,t25,t26,t27,())))
 (some (Ex.normal,(v0,t2,t3,t4,vars5,funcs6,l7,m8,t25,t26,qI (t27+1),()))))))
 (cond (((t25.getD t27.toNat qPC).1)==5)
 ((qHJ v0 t27).bind fun r1=>
 cond (!((qFD ((((t25.getD t27.toNat qPC).2).2).1) funcs6).isSome))
 (grd (decide (m8.length+([r1.1.1]:List (qBs×qJA)).length<=qSE)) (
 cond ((qFD ((((t25.getD t27.toNat qPC).2).2).1) vars5).isSome)
 (some (Ex.ret,(v0,([]:List Vr),([]:List (qBs×qJA)),false,vars5,qCZ ((((t25.getD t27.toNat qPC).2).2).1) r1.1.1 funcs6,l7,m8++([r1.1.1]:List (qBs×qJA)),t25,t26,t27,())))
 ((qQl r1.1.1 r1.1.1).bind fun r2=>
 cond (!r2.1.1)
 (some (Ex.ret,(v0,([]:List Vr),([]:List (qBs×qJA)),false,vars5,qCZ ((((t25.getD t27.toNat qPC).2).2).1) r1.1.1 funcs6,l7,m8++([r1.1.1]:List (qBs×qJA)),t25,t26,t27,())))
 (some (Ex.normal,(v0,t2,t3,t4,vars5,qCZ ((((t25.getD t27.toNat qPC).2).2).1) r1.1.1 funcs6,l7,m8++([r1.1.1]:List (qBs×qJA)),t25,t26,qI (t27+1),()))))))
 (cond ((qFD ((((t25.getD t27.toNat qPC).2).2).1) vars5).isSome)
 (some (Ex.ret,(v0,([]:List Vr),([]:List (qBs×qJA)),false,vars5,funcs6,l7,m8,t25,t26,t27,())))
 ((qQl ((qFD ((((t25.getD t27.toNat qPC).2).2).1) funcs6).getD (([]:qBs),([]:List Int),(0:Int))) r1.1.1).bind fun r3=>
 cond (!r3.1.1)
 (some (Ex.ret,(v0,([]:List Vr),([]:List (qBs×qJA)),false,vars5,funcs6,l7,m8,t25,t26,t27,())))
 (some (Ex.normal,(v0,t2,t3,t4,vars5,funcs6,l7,m8,t25,t26,qI (t27+1),()))))))
 (some (Ex.normal,(v0,t2,t3,t4,vars5,funcs6,l7,m8,t25,t26,qI (t27+1),()))))))
 (some (Ex.exit 0,(v0,t2,t3,t4,vars5,funcs6,l7,m8,t25,t26,t27,())))
def qCM (v0:Option qWP):Option (((List Vr)×(List (qBs×qJA))×Bool×Unit)×Unit):=
 grd (v0.isSome) (
 (qLA qTD (v0,([]:List Vr),([]:List (qBs×qJA)),false,([]:List (qBs×Vr)),([]:List (qBs×qBs×qJA)),([]:List Vr),([]:List (qBs×qJA)),(v0.getD qWL).1,(((v0.getD qWL).1).length:Int),0,())).bind fun y1=>
 cond (Ex.same y1.1 (Ex.exit 0))
 (some ((y1.2.2.2.2.2.2.2.1,y1.2.2.2.2.2.2.2.2.1,true,()),()))
 (cond (Ex.same y1.1 Ex.ret)
 (some ((y1.2.2.1,y1.2.2.2.1,y1.2.2.2.2.1,()),()))
 (none)))
def qMZ (t0:List Nod):Option (((Option qWP)×Bool×Unit)×Unit):=
 cond ((t0.length:Int)==0)
 (some (((none:Option qWP),false,()),()))
 (cond (decide ((t0.length:Int) > (20000:Int)))
 (some (((none:Option qWP),false,()),()))
 ((qMu t0).bind fun r1=>
 cond (!r1.1.2.1)
 (some (((none:Option qWP),false,()),()))
 ((qQP r1.1.1).bind fun r2=>
 cond (r2.1.1)
 (some (((none:Option qWP),false,()),()))
 ((qCM r1.1.1).bind fun r3=>
 cond (!r3.1.2.2.1)
 (some (((none:Option qWP),false,()),()))
 (some ((r1.1.1,true,()),()))))))
def qVc (t0:List Nod):Option ((Bool×Unit)×Unit):=
 (qMZ t0).bind fun r1=>
 some ((r1.1.2.1,()),())
def qAN (e0:Evl) (n1:Nod):Option ((Val×Int×Unit)×(Evl×Unit)):=
 cond (!((qFD n1.2.2.1 e0.2.2.1).isSome))
 (some ((((0:Int),false,([]:qBs),([]:List qBs),([]:List qBs)),7,()),e0,()))
 (cond ((((qFD n1.2.2.1 e0.2.2.1).getD qVO).1) !=n1.2.1)
 (some ((((0:Int),false,([]:qBs),([]:List qBs),([]:List qBs)),3,()),e0,()))
 (some (((qFD n1.2.2.1 e0.2.2.1).getD qVO,0,()),e0,())))
def qNB (x:(List qBs)×(List qBs)×Bool×Int×Int×Unit):Option (Ex×((List qBs)×(List qBs)×Bool×Int×Int×Unit)):=
 let s10:=x.1
 let s21:=x.2.1
 let t4:=x.2.2.1
 let t12:=x.2.2.2.1
 let t13:=x.2.2.2.2.1
 cond (decide (t13 < t12))
 (grd (decide (0<=t13)&&decide (t13 < s10.length)) (
 grd (decide (0<=t13)&&decide (t13 < s21.length)) (
 cond (!((s10.getD t13.toNat ([]:qBs))==(s21.getD t13.toNat ([]:qBs))))
 (some (Ex.ret,(s10,s21,false,t12,t13,())))
 (some (Ex.normal,(s10,s21,t4,t12,qI (t13+1),()))))))
 (some (Ex.exit 0,(s10,s21,t4,t12,t13,())))
def qFC (s10:List qBs) (s21:List qBs):Option ((Bool×Unit)×Unit):=
 cond ((s10.length:Int) !=(s21.length:Int))
 (some ((false,()),()))
 ((qLA qNB (s10,s21,false,(s10.length:Int),0,())).bind fun y1=>
 cond (Ex.same y1.1 (Ex.exit 0))
 (some ((true,()),()))
 (cond (Ex.same y1.1 Ex.ret)
 (some ((y1.2.2.2.1,()),()))
 (none)))
def qHE (a0:Val) (b1:Val):Option ((Bool×Unit)×Unit):=
 cond (a0.1==b1.1)
 (cond (a0.2.1==b1.2.1)
 (cond (a0.2.2.1==b1.2.2.1)
 ((qFC a0.2.2.2.1 b1.2.2.2.1).bind fun r1=>
 cond (r1.1.1)
 ((qFC a0.2.2.2.2 b1.2.2.2.2).bind fun r2=>
 some ((r2.1.1,()),()))
 (some ((false,()),())))
 (some ((false,()),())))
 (some ((false,()),())))
 (some ((false,()),()))
def qWB (x:(List Val)×Unit×Bool×(List Val)×Int×Int×Unit):Option (Ex×((List Val)×Unit×Bool×(List Val)×Int×Int×Unit)):=
 let s21:=x.1
 let eq2:=x.2.1
 let t6:=x.2.2.1
 let t15:=x.2.2.2.1
 let t16:=x.2.2.2.2.1
 let t17:=x.2.2.2.2.2.1
 cond (decide (t17 < t16))
 (grd (decide (0<=t17)&&decide (t17 < t15.length)) (
 grd (decide (0<=t17)&&decide (t17 < s21.length)) (
 (qHE (t15.getD t17.toNat qVO) (s21.getD t17.toNat qVO)).bind fun r1=>
 cond (!r1.1.1)
 (some (Ex.ret,(s21,(),false,t15,t16,t17,())))
 (some (Ex.normal,(s21,(),t6,t15,t16,qI (t17+1),()))))))
 (some (Ex.exit 0,(s21,(),t6,t15,t16,t17,())))
def qIC (s10:List Val) (s21:List Val) (eq2:Unit):Option ((Bool×Unit)×Unit):=
 cond ((s10.length:Int) !=(s21.length:Int))
 (some ((false,()),()))
 ((qLA qWB (s21,(),false,s10,(s10.length:Int),0,())).bind fun y1=>
 cond (Ex.same y1.1 (Ex.exit 0))
 (some ((true,()),()))
 (cond (Ex.same y1.1 Ex.ret)
 (some ((y1.2.2.2.1,()),()))
 (none)))
def qNP (l0:List Val) (a1:Option (List Val)):Option ((Bool×Unit)×Unit):=
 grd (a1.isSome) (
 (qIC l0 (a1.getD ([]:List Val)) ()).bind fun r1=>
 some ((r1.1.1,()),()))
def qCC (x:(List (List Val))×(Option (List Val))×Int×Int×Int×Unit):Option (Ex×((List (List Val))×(Option (List Val))×Int×Int×Int×Unit)):=
 let s0:=x.1
 let f1:=x.2.1
 let t4:=x.2.2.1
 let t7:=x.2.2.2.1
 let t8:=x.2.2.2.2.1
 cond (decide (t8 < t7))
 (grd (decide (0<=t8)&&decide (t8 < s0.length)) (
 (qNP (s0.getD t8.toNat ([]:List Val)) f1).bind fun r1=>
 cond (r1.1.1)
 (some (Ex.ret,(s0,f1,t8,t7,t8,())))
 (some (Ex.normal,(s0,f1,t4,t7,qI (t8+1),())))))
 (some (Ex.exit 0,(s0,f1,t4,t7,t8,())))
def qOC (s0:List (List Val)) (f1:Option (List Val)):Option ((Int×Unit)×Unit):=
 (qLA qCC (s0,f1,0,(s0.length:Int),0,())).bind fun y1=>
 cond (Ex.same y1.1 (Ex.exit 0))
 (some ((-1,()),()))
 (cond (Ex.same y1.1 Ex.ret)
 (some ((y1.2.2.2.1,()),()))
 (none))
def qTM (e0:Evl) (n1:Nod) (kids2:List Val):Option ((Val×Int×Unit)×(Evl×Unit)):=
 cond (!((qFD n1.2.2.1 e0.2.2.2).isSome))
 (some ((((0:Int),false,([]:qBs),([]:List qBs),([]:List qBs)),4,()),e0,()))
 ((qOC ((((qFD n1.2.2.1 e0.2.2.2).getD qVK).2).1) (some kids2)).bind fun r1=>
 cond (decide (r1.1.1>=0))
 (grd (decide (0<=r1.1.1)&&decide (r1.1.1 < (((((qFD n1.2.2.1 e0.2.2.2).getD qVK).2).2).1).length)) (
 cond ((((((((qFD n1.2.2.1 e0.2.2.2).getD qVK).2).2).1).getD r1.1.1.toNat qVO).1) !=n1.2.1)
 (some ((((0:Int),false,([]:qBs),([]:List qBs),([]:List qBs)),3,()),e0,()))
 (some (((((((qFD n1.2.2.1 e0.2.2.2).getD qVK).2).2).1).getD r1.1.1.toNat qVO,0,()),e0,()))))
 (cond (((((((qFD n1.2.2.1 e0.2.2.2).getD qVK).2).2).2).1) !=n1.2.1)
 (some ((((0:Int),false,([]:qBs),([]:List qBs),([]:List qBs)),3,()),e0,()))
 (some ((((((qFD n1.2.2.1 e0.2.2.2).getD qVK).2).2).2,0,()),e0,()))))
def qGaj (v0:Val):Option ((Bool×Unit)×Unit):=
 some ((!v0.2.1,()),())
def qCE (x:(List Val)×Unit×Int×Int×Int×Unit):Option (Ex×((List Val)×Unit×Int×Int×Int×Unit)):=
 let s0:=x.1
 let f1:=x.2.1
 let t4:=x.2.2.1
 let t7:=x.2.2.2.1
 let t8:=x.2.2.2.2.1
 cond (decide (t8 < t7))
 (grd (decide (0<=t8)&&decide (t8 < s0.length)) (
 (qGaj (s0.getD t8.toNat qVO)).bind fun r1=>
 cond (r1.1.1)
 (some (Ex.ret,(s0,(),t8,t7,t8,())))
 (some (Ex.normal,(s0,(),t4,t7,qI (t8+1),())))))
 (some (Ex.exit 0,(s0,(),t4,t7,t8,())))
def qTE (s0:List Val) (f1:Unit):Option ((Int×Unit)×Unit):=
 (qLA qCE (s0,(),0,(s0.length:Int),0,())).bind fun y1=>
 cond (Ex.same y1.1 (Ex.exit 0))
 (some ((-1,()),()))
 (cond (Ex.same y1.1 Ex.ret)
 (some ((y1.2.2.2.1,()),()))
 (none))
def qGC (s0:List Val) (f1:Unit):Option ((Bool×Unit)×Unit):=
 (qTE s0 ()).bind fun r1=>
 some ((decide (r1.1.1>=0),()),())
def qIO (is0:Bool):Option ((Val×Unit)×Unit):=
 some (((1,is0,([]:qBs),([]:List qBs),([]:List qBs)),()),())
def v_is (v0:Val):Option ((Bool×Unit)×Unit):=
 some ((v0.2.1,()),())
def qJE (x:(List Val)×Unit×Int×Int×Int×Unit):Option (Ex×((List Val)×Unit×Int×Int×Int×Unit)):=
 let s0:=x.1
 let f1:=x.2.1
 let t4:=x.2.2.1
 let t7:=x.2.2.2.1
 let t8:=x.2.2.2.2.1
 cond (decide (t8 < t7))
 (grd (decide (0<=t8)&&decide (t8 < s0.length)) (
 (v_is (s0.getD t8.toNat qVO)).bind fun r1=>
 cond (r1.1.1)
 (some (Ex.ret,(s0,(),t8,t7,t8,())))
 (some (Ex.normal,(s0,(),t4,t7,qI (t8+1),())))))
 (some (Ex.exit 0,(s0,(),t4,t7,t8,())))
def qBF (s0:List Val) (f1:Unit):Option ((Int×Unit)×Unit):=
 (qLA qJE (s0,(),0,(s0.length:Int),0,())).bind fun y1=>
 cond (Ex.same y1.1 (Ex.exit 0))
 (some ((-1,()),()))
 (cond (Ex.same y1.1 Ex.ret)
 (some ((y1.2.2.2.1,()),()))
 (none))
def qMC (s0:List Val) (f1:Unit):Option ((Bool×Unit)×Unit):=
 (qBF s0 ()).bind fun r1=>
 some ((decide (r1.1.1>=0),()),())
def qGL (sort0:Int) (a1:qBs):Option ((Val×Unit)×Unit):=
 some (((sort0,false,a1,([]:List qBs),([]:List qBs)),()),())
def qGac (x0:Sml) (y1:Sml):Option ((qBs×Unit)×Unit):=
 (qIL (qI (x0.1 * y1.1)) (qI (x0.2 * y1.2))).bind fun r1=>
 some ((r1.1.1,()),())
def qXl (x0:Rt) (y1:Rt):Option ((Rt×Unit)×Unit):=
 (qKK x0.2.1 y1.2.1).bind fun r1=>
 (qKK x0.2.2 y1.2.2).bind fun r2=>
 (qMP (!(x0.1==y1.1)) r1.1.1 r2.1.1).bind fun r3=>
 some (((r3.1.1.1,r3.1.1.2.1,r3.1.1.2.2),()),())
def qSr (x0:Rt) (y1:Rt):Option ((qBs×Unit)×Unit):=
 (qXl (x0.1,x0.2.1,x0.2.2) (y1.1,y1.2.1,y1.2.2)).bind fun r1=>
 (qSJ (r1.1.1.1,r1.1.1.2.1,r1.1.1.2.2)).bind fun r2=>
 some ((r2.1.1,()),())
def qBM (a0:qBs) (b1:qBs) (small2:Unit) (all3:Unit):Option ((qBs×Unit)×Unit):=
 (qLB a0).bind fun r1=>
 (qLB b1).bind fun r2=>
 cond (r1.1.2.1)
 (cond (r2.1.2.1)
 ((qGac (r1.1.1.1,r1.1.1.2) (r2.1.1.1,r2.1.1.2)).bind fun r3=>
 some ((r3.1.1,()),()))
 ((qQG a0).bind fun r4=>
 (qQG b1).bind fun r5=>
 cond (!r4.1.2.1)
 (some ((([]:qBs),()),()))
 (cond (!r5.1.2.1)
 (some ((([]:qBs),()),()))
 ((qSr (r4.1.1.1,r4.1.1.2.1,r4.1.1.2.2) (r5.1.1.1,r5.1.1.2.1,r5.1.1.2.2)).bind fun r6=>
 some ((r6.1.1,()),())))))
 ((qQG a0).bind fun r7=>
 (qQG b1).bind fun r8=>
 cond (!r7.1.2.1)
 (some ((([]:qBs),()),()))
 (cond (!r8.1.2.1)
 (some ((([]:qBs),()),()))
 ((qSr (r7.1.1.1,r7.1.1.2.1,r7.1.1.2.2) (r8.1.1.1,r8.1.1.2.1,r8.1.1.2.2)).bind fun r9=>
 some ((r9.1.1,()),()))))
def qSap (a0:qBs) (b1:qBs):Option ((qBs×Unit)×Unit):=
 (qBM a0 b1 () ()).bind fun r1=>
 some ((r1.1.1,()),())
def qUa (x0:Rt) (y1:Rt):Option ((Rt×Rt×Unit)×Unit):=
 (qWH x0.2.1 y1.2.1).bind fun r1=>
 cond (x0.1)
 (cond (decide ((r1.1.2.1.length:Int) > (0:Int)))
 ((qSQ r1.1.1 ([1]:List Int)).bind fun r2=>
 (qPO y1.2.1 r1.1.2.1).bind fun r3=>
 some (((!(x0.1==y1.1),r2.1.1,([1]:List Int)),(false,r3.1.1,([1]:List Int)),()),()))
 (some (((!(x0.1==y1.1),r1.1.1,([1]:List Int)),(false,r1.1.2.1,([1]:List Int)),()),())))
 (some (((!(x0.1==y1.1),r1.1.1,([1]:List Int)),(false,r1.1.2.1,([1]:List Int)),()),()))
def qCk (a0:qBs) (b1:qBs):Option ((qBs×qBs×Unit)×Unit):=
 (qEH a0).bind fun r1=>
 cond (!r1.1.1)
 (some ((([]:qBs),([]:qBs),()),()))
 ((qEH b1).bind fun r2=>
 cond (!r2.1.1)
 (some ((([]:qBs),([]:qBs),()),()))
 (cond (b1==([48]:qBs))
 (some ((([]:qBs),([]:qBs),()),()))
 ((qQG a0).bind fun r3=>
 (qQG b1).bind fun r4=>
 (qUa (r3.1.1.1,r3.1.1.2.1,r3.1.1.2.2) (r4.1.1.1,r4.1.1.2.1,r4.1.1.2.2)).bind fun r5=>
 (qSJ (r5.1.1.1,r5.1.1.2.1,r5.1.1.2.2)).bind fun r6=>
 (qSJ (r5.1.2.1.1,r5.1.2.1.2.1,r5.1.2.1.2.2)).bind fun r7=>
 some ((r6.1.1,r7.1.1,()),()))))
def qKap (a0:qBs) (b1:qBs):Option ((qBs×Unit)×Unit):=
 (qCk a0 b1).bind fun r1=>
 some ((r1.1.1,()),())
def qIap (a0:qBs) (b1:qBs):Option ((qBs×Unit)×Unit):=
 (qCk a0 b1).bind fun r1=>
 some ((r1.1.2.1,()),())
def v_at (a0:Val) (index1:qBs):Option ((qBs×Unit)×Unit):=
 (qUr a0 index1).bind fun r1=>
 cond (r1.1.2.1)
 (grd (decide (0<=r1.1.1)&&decide (r1.1.1 < a0.2.2.2.2.length)) (some ((a0.2.2.2.2.getD r1.1.1.toNat ([]:qBs),()),())))
 (some ((a0.2.2.1,()),()))
def qPa (x:(List Val)×Val×qBs×(List Val)×Int×Int×Unit):Option (Ex×((List Val)×Val×qBs×(List Val)×Int×Int×Unit)):=
 let l1:=x.1
 let t4:=x.2.1
 let sum5:=x.2.2.1
 let t19:=x.2.2.2.1
 let t20:=x.2.2.2.2.1
 let t21:=x.2.2.2.2.2.1
 cond (decide (t21 < t20))
 (grd (decide (0<=t21)&&decide (t21 < t19.length)) (
 (qPae sum5 ((((t19.getD t21.toNat qVO).2).2).1)).bind fun r1=>
 some (Ex.normal,(l1,t4,r1.1.1,t19,t20,qI (t21+1),()))))
 (some (Ex.exit 1,(l1,t4,sum5,t19,t20,t21,())))
def qNm (n0:Nod) (l1:List Val):Option ((Val×Unit)×Unit):=
 cond (n0.1==3)
 ((qGL n0.2.1 n0.2.2.2.1).bind fun r1=>
 some ((r1.1.1,()),()))
 (cond (n0.1==14)
 ((qLA qPa (l1,((0:Int),false,([]:qBs),([]:List qBs),([]:List qBs)),([48]:qBs),l1,(l1.length:Int),0,())).bind fun y2=>
 cond (Ex.same y2.1 (Ex.exit 1))
 (grd (decide (0<=(0:Int))&&decide ((0:Int) < y2.2.1.length)) (
 (qGL ((y2.2.1.getD (0:Int).toNat qVO).1) y2.2.2.2.1).bind fun r3=>
 some ((r3.1.1,()),())))
 (none))
 (cond (n0.1==15)
 (grd (decide (0<=(0:Int))&&decide ((0:Int) < l1.length)) (
 grd (decide (0<=(0:Int))&&decide ((0:Int) < l1.length)) (
 grd (decide (0<=(1:Int))&&decide ((1:Int) < l1.length)) (
 (qSap ((((l1.getD (0:Int).toNat qVO).2).2).1) ((((l1.getD (1:Int).toNat qVO).2).2).1)).bind fun r4=>
 (qGL ((l1.getD (0:Int).toNat qVO).1) r4.1.1).bind fun r5=>
 some ((r5.1.1,()),())))))
 (cond (n0.1==16)
 (grd (decide (0<=(0:Int))&&decide ((0:Int) < l1.length)) (
 (qKap ((((l1.getD (0:Int).toNat qVO).2).2).1) n0.2.2.2.1).bind fun r6=>
 (qGL 2 r6.1.1).bind fun r7=>
 some ((r7.1.1,()),())))
 (cond (n0.1==17)
 (grd (decide (0<=(0:Int))&&decide ((0:Int) < l1.length)) (
 (qIap ((((l1.getD (0:Int).toNat qVO).2).2).1) n0.2.2.2.1).bind fun r8=>
 (qGL 2 r8.1.1).bind fun r9=>
 some ((r9.1.1,()),())))
 (cond (n0.1==18)
 (grd (decide (0<=(0:Int))&&decide ((0:Int) < l1.length)) (
 grd (decide (0<=(1:Int))&&decide ((1:Int) < l1.length)) (
 (v_at (l1.getD (0:Int).toNat qVO) ((((l1.getD (1:Int).toNat qVO).2).2).1)).bind fun r10=>
 (qGL 2 r10.1.1).bind fun r11=>
 some ((r11.1.1,()),()))))
 (cond (n0.1==19)
 (grd (decide (0<=(0:Int))&&decide ((0:Int) < l1.length)) (
 grd (decide (0<=(1:Int))&&decide ((1:Int) < l1.length)) (
 grd (decide (0<=(2:Int))&&decide ((2:Int) < l1.length)) (
 (qNs (l1.getD (0:Int).toNat qVO) ((((l1.getD (1:Int).toNat qVO).2).2).1) ((((l1.getD (2:Int).toNat qVO).2).2).1)).bind fun r12=>
 some ((r12.1.1,()),())))))
 (grd (decide (0<=(0:Int))&&decide ((0:Int) < l1.length)) (some (((4,false,(((l1.getD (0:Int).toNat qVO).2).2).1,([]:List qBs),([]:List qBs)),()),())))))))))
def qRl (n0:Nod) (l1:List Val):Option ((Val×Unit)×Unit):=
 cond (n0.1==1)
 ((qGC l1 ()).bind fun r1=>
 (qIO !r1.1.1).bind fun r2=>
 some ((r2.1.1,()),()))
 (cond (n0.1==7)
 ((qGC l1 ()).bind fun r3=>
 (qIO !r3.1.1).bind fun r4=>
 some ((r4.1.1,()),()))
 (cond (n0.1==2)
 ((qMC l1 ()).bind fun r5=>
 (qIO r5.1.1).bind fun r6=>
 some ((r6.1.1,()),()))
 (cond (n0.1==8)
 ((qMC l1 ()).bind fun r7=>
 (qIO r7.1.1).bind fun r8=>
 some ((r8.1.1,()),()))
 (cond (n0.1==6)
 (grd (decide (0<=(0:Int))&&decide ((0:Int) < l1.length)) (
 (qGaj (l1.getD (0:Int).toNat qVO)).bind fun r9=>
 (qIO r9.1.1).bind fun r10=>
 some ((r10.1.1,()),())))
 (cond (n0.1==9)
 (grd (decide (0<=(0:Int))&&decide ((0:Int) < l1.length)) (
 (qGaj (l1.getD (0:Int).toNat qVO)).bind fun r11=>
 cond (r11.1.1)
 ((qIO true).bind fun r12=>
 some ((r12.1.1,()),()))
 (grd (decide (0<=(1:Int))&&decide ((1:Int) < l1.length)) (
 (v_is (l1.getD (1:Int).toNat qVO)).bind fun r13=>
 (qIO r13.1.1).bind fun r14=>
 some ((r14.1.1,()),())))))
 (cond (n0.1==10)
 (grd (decide (0<=(0:Int))&&decide ((0:Int) < l1.length)) (
 (v_is (l1.getD (0:Int).toNat qVO)).bind fun r15=>
 cond (r15.1.1)
 (grd (decide (0<=(1:Int))&&decide ((1:Int) < l1.length)) (some ((l1.getD (1:Int).toNat qVO,()),())))
 (grd (decide (0<=(2:Int))&&decide ((2:Int) < l1.length)) (some ((l1.getD (2:Int).toNat qVO,()),())))))
 (cond (n0.1==11)
 (grd (decide (0<=(0:Int))&&decide ((0:Int) < l1.length)) (
 grd (decide (0<=(1:Int))&&decide ((1:Int) < l1.length)) (
 (qHE (l1.getD (0:Int).toNat qVO) (l1.getD (1:Int).toNat qVO)).bind fun r16=>
 (qIO r16.1.1).bind fun r17=>
 some ((r17.1.1,()),()))))
 (cond (n0.1==12)
 (grd (decide (0<=(0:Int))&&decide ((0:Int) < l1.length)) (
 grd (decide (0<=(1:Int))&&decide ((1:Int) < l1.length)) (
 (qSf ((((l1.getD (0:Int).toNat qVO).2).2).1) ((((l1.getD (1:Int).toNat qVO).2).2).1)).bind fun r18=>
 (qIO (decide (r18.1.1<=0))).bind fun r19=>
 some ((r19.1.1,()),()))))
 (cond (n0.1==13)
 (grd (decide (0<=(0:Int))&&decide ((0:Int) < l1.length)) (
 grd (decide (0<=(1:Int))&&decide ((1:Int) < l1.length)) (
 (qSf ((((l1.getD (0:Int).toNat qVO).2).2).1) ((((l1.getD (1:Int).toNat qVO).2).2).1)).bind fun r20=>
 (qIO (decide (r20.1.1 < (0:Int)))).bind fun r21=>
 some ((r21.1.1,()),()))))
 ((qNm n0 l1).bind fun r22=>
 some ((r22.1.1,()),())))))))))))
def qQO (qXaz:Evl->Option ((Val×Int×Unit)×(Evl×Unit))) (x:Evl×Val×Int×Nod×(List Val)×Int×Int×Unit):Option (Ex×(Evl×Val×Int×Nod×(List Val)×Int×Int×Unit)):=
 let e0:=x.1
 let t2:=x.2.1
 let t3:=x.2.2.1
 let n4:=x.2.2.2.1
 let kids5:=x.2.2.2.2.1
 let t26:=x.2.2.2.2.2.1
 let t27:=x.2.2.2.2.2.2.1
 cond (decide (t27 < t26))
 ((qXaz e0).bind fun r1=>
 cond (r1.1.2.1 !=(0:Int))
 (some (Ex.ret,(r1.2.1,((0:Int),false,([]:qBs),([]:List qBs),([]:List qBs)),r1.1.2.1,n4,kids5,t26,t27,())))
 (grd (decide (kids5.length+([r1.1.1]:List Val).length<=qSE)) (some (Ex.normal,(r1.2.1,t2,t3,n4,kids5++([r1.1.1]:List Val),t26,qI (t27+1),())))))
 (some (Ex.exit 0,(e0,t2,t3,n4,kids5,t26,t27,())))
def qAP (qXaz:Evl->Option ((Val×Int×Unit)×(Evl×Unit))) (e0:Evl):Option ((Val×Int×Unit)×(Evl×Unit)):=
 grd (decide (0<=e0.2.1)&&decide (e0.2.1 < e0.1.length)) (
 (qLA (qQO qXaz) ((e0.1,qI (e0.2.1+1),e0.2.2),((0:Int),false,([]:qBs),([]:List qBs),([]:List qBs)),0,e0.1.getD e0.2.1.toNat qPC,([]:List Val),((((e0.1.getD e0.2.1.toNat qPC).2).2).2).2,0,())).bind fun y1=>
 cond (Ex.same y1.1 (Ex.exit 0))
 (cond (y1.2.2.2.2.1.1==4)
 ((qAN y1.2.1 y1.2.2.2.2.1).bind fun r2=>
 some ((r2.1.1,r2.1.2.1,()),r2.2.1,()))
 (cond (y1.2.2.2.2.1.1==5)
 ((qTM y1.2.1 y1.2.2.2.2.1 y1.2.2.2.2.2.1).bind fun r3=>
 some ((r3.1.1,r3.1.2.1,()),r3.2.1,()))
 ((qRl y1.2.2.2.2.1 y1.2.2.2.2.2.1).bind fun r4=>
 some ((r4.1.1,0,()),y1.2.1,()))))
 (cond (Ex.same y1.1 Ex.ret)
 (some ((y1.2.2.1,y1.2.2.2.1,()),y1.2.1,()))
 (none)))
def qPG:Nat->Evl->Option ((Val×Int×Unit)×(Evl×Unit))
 |0=>fun _=>none
 |n+1=>qAP (qPG n)
def qJak (t0:List Nod) (env1:List qXu) (fns2:List Interp):Option ((Val×Int×Unit)×Unit):=
 (qNh env1).bind fun r1=>
 (qGh fns2).bind fun r2=>
 cond (!r1.1.2.1)
 (some ((((0:Int),false,([]:qBs),([]:List qBs),([]:List qBs)),1,()),()))
 (cond (!r2.1.2.1)
 (some ((((0:Int),false,([]:qBs),([]:List qBs),([]:List qBs)),1,()),()))
 ((qVc t0).bind fun r3=>
 cond (!r3.1.1)
 (some ((((0:Int),false,([]:qBs),([]:List qBs),([]:List qBs)),1,()),()))
 ((qPG big (t0,0,r1.1.1,r2.1.1)).bind fun r4=>
 cond (r4.1.2.1 !=(0:Int))
 (some ((((0:Int),false,([]:qBs),([]:List qBs),([]:List qBs)),r4.1.2.1,()),()))
 ((qNp r4.1.1).bind fun r5=>
 some ((r5.1.1,0,()),())))))
def qKQ (a0:qBs):Option ((Nod×Unit)×Unit):=
 some (((3,2,([]:qBs),a0,(0:Int)),()),())
def qNQ (x:Val×(List Nod)×Int×Int×Unit):Option (Ex×(Val×(List Nod)×Int×Int×Unit)):=
 let v1:=x.1
 let t4:=x.2.1
 let t31:=x.2.2.1
 let t32:=x.2.2.2.1
 cond (decide (t32 < t31))
 (grd (decide (t4.length+([(19,(0:Int),([]:qBs),([]:qBs),3)]:List Nod).length<=qSE)) (some (Ex.normal,(v1,t4++([(19,(0:Int),([]:qBs),([]:qBs),3)]:List Nod),t31,qI (t32+1),()))))
 (some (Ex.exit 1,(v1,t4,t31,t32,())))
def qJQ (x:Val×(List Nod)×(List qBs)×Int×Int×Unit):Option (Ex×(Val×(List Nod)×(List qBs)×Int×Int×Unit)):=
 let v1:=x.1
 let t4:=x.2.1
 let t47:=x.2.2.1
 let t48:=x.2.2.2.1
 let t49:=x.2.2.2.2.1
 cond (decide (t49 < t48))
 (grd (decide (0<=t49)&&decide (t49 < t47.length)) (
 (qKQ (t47.getD t49.toNat ([]:qBs))).bind fun r1=>
 grd (decide (0<=t49)&&decide (t49 < v1.2.2.2.2.length)) (
 (qKQ (v1.2.2.2.2.getD t49.toNat ([]:qBs))).bind fun r2=>
 grd (decide (t4.length+([r1.1.1,r2.1.1]:List Nod).length<=qSE)) (some (Ex.normal,(v1,t4++([r1.1.1,r2.1.1]:List Nod),t47,t48,qI (t49+1),()))))))
 (some (Ex.exit 3,(v1,t4,t47,t48,t49,())))
def qOa (v0:Val):Option (((List Nod)×Int×Unit)×Unit):=
 (qPR v0).bind fun r1=>
 cond (!r1.1.1)
 (some ((([]:List Nod),1,()),()))
 (cond (v0.1==1)
 (cond (v0.2.1)
 (some ((([(1,(0:Int),([]:qBs),([]:qBs),(0:Int))]:List Nod),0,()),()))
 (some ((([(2,(0:Int),([]:qBs),([]:qBs),(0:Int))]:List Nod),0,()),())))
 (cond (v0.1==2)
 (some ((([(3,v0.1,([]:qBs),v0.2.2.1,(0:Int))]:List Nod),0,()),()))
 (cond (v0.1==3)
 (some ((([(3,v0.1,([]:qBs),v0.2.2.1,(0:Int))]:List Nod),0,()),()))
 ((qLA qNQ (v0,([]:List Nod),(v0.2.2.2.1.length:Int),0,())).bind fun y2=>
 cond (Ex.same y2.1 (Ex.exit 1))
 ((qKQ y2.2.1.2.2.1).bind fun r3=>
 grd (decide (y2.2.2.1.length+([(20,(0:Int),([]:qBs),([]:qBs),1),r3.1.1]:List Nod).length<=qSE)) (
 (qLA qJQ (y2.2.1,y2.2.2.1++([(20,(0:Int),([]:qBs),([]:qBs),1),r3.1.1]:List Nod),y2.2.1.2.2.2.1,(y2.2.1.2.2.2.1.length:Int),0,())).bind fun y4=>
 cond (Ex.same y4.1 (Ex.exit 3))
 ((qVc y4.2.2.1).bind fun r5=>
 cond (!r5.1.1)
 (some ((([]:List Nod),6,()),()))
 (some ((y4.2.2.1,0,()),())))
 (none)))
 (none)))))
def qKai (a0:qBs):Option ((qBs×Unit)×Unit):=
 (qVP a0).bind fun r1=>
 cond (!r1.1.1)
 (some ((([]:qBs),()),()))
 ((strings_Cut a0 ([47]:qBs)).bind fun r2=>
 some ((r2.1.1,()),()))
def qRaf (a0:qBs):Option ((qBs×Unit)×Unit):=
 (qVP a0).bind fun r1=>
 cond (!r1.1.1)
 (some ((([]:qBs),()),()))
 ((strings_Cut a0 ([47]:qBs)).bind fun r2=>
 cond (r2.1.2.2.1)
 (some ((r2.1.2.1,()),()))
 (some ((([49]:qBs),()),())))
def qJI (qVaz:Int->qBs->Option ((qBs×Unit)×Unit)) (sort0:Int) (a1:qBs):Option ((qBs×Unit)×Unit):=
 (qHY a1).bind fun r1=>
 cond (decide (r1.1.1 < (0:Int)))
 ((qRad a1).bind fun r2=>
 (qVaz sort0 r2.1.1).bind fun r3=>
 grd (decide (([40,45,32]:qBs).length+r3.1.1.length<=qXF)) (grd (decide ((([40,45,32]:qBs)++r3.1.1).length+([41]:qBs).length<=qXF)) (some (((([40,45,32]:qBs)++r3.1.1)++([41]:qBs),()),()))))
 (cond (sort0==2)
 (some ((a1,()),()))
 ((qEH a1).bind fun r4=>
 cond (r4.1.1)
 (grd (decide (a1.length+([46,48]:qBs).length<=qXF)) (some ((a1++([46,48]:qBs),()),())))
 ((qKai a1).bind fun r5=>
 grd (decide (([40,47,32]:qBs).length+r5.1.1.length<=qXF)) (
 grd (decide ((([40,47,32]:qBs)++r5.1.1).length+([46,48,32]:qBs).length<=qXF)) (
 (qRaf a1).bind fun r6=>
 grd (decide (((([40,47,32]:qBs)++r5.1.1)++([46,48,32]:qBs)).length+r6.1.1.length<=qXF)) (grd (decide ((((([40,47,32]:qBs)++r5.1.1)++([46,48,32]:qBs))++r6.1.1).length+([46,48,41]:qBs).length<=qXF)) (some (((((([40,47,32]:qBs)++r5.1.1)++([46,48,32]:qBs))++r6.1.1)++([46,48,41]:qBs),()),()))))))))
def qJG:Nat->Int->qBs->Option ((qBs×Unit)×Unit)
 |0=>fun _ _=>none
 |n+1=>qJI (qJG n)
def qGk (n0:Nod):Option ((qBs×Unit)×Unit):=
 cond (n0.1==6)
 (some ((([110,111,116]:qBs),()),()))
 (cond (n0.1==7)
 (some ((([97,110,100]:qBs),()),()))
 (cond (n0.1==8)
 (some ((([111,114]:qBs),()),()))
 (cond (n0.1==9)
 (some ((([61,62]:qBs),()),()))
 (cond (n0.1==10)
 (some ((([105,116,101]:qBs),()),()))
 (cond (n0.1==11)
 (some ((([61]:qBs),()),()))
 (cond (n0.1==12)
 (some ((([60,61]:qBs),()),()))
 (cond (n0.1==13)
 (some ((([60]:qBs),()),()))
 (cond (n0.1==14)
 (some ((([43]:qBs),()),()))
 (cond (n0.1==15)
 (some ((([42]:qBs),()),()))
 (cond (n0.1==16)
 (some ((([100,105,118]:qBs),()),()))
 (cond (n0.1==17)
 (some ((([109,111,100]:qBs),()),()))
 (cond (n0.1==18)
 (some ((([115,101,108,101,99,116]:qBs),()),()))
 (cond (n0.1==19)
 (some ((([115,116,111,114,101]:qBs),()),()))
 (cond (n0.1==20)
 (some ((([99,111,110,115,116]:qBs),()),()))
 (some ((n0.2.2.1,()),()))))))))))))))))
def qQB (b0:Unit×List Int) (c1:Int):Option ((Bool×Unit)×((Unit×List Int)×Unit)):=
 (qRD ((),b0.2)).bind fun r1=>
 grd (decide (r1.2.1.2.length+([c1]:List Int).length<=qSE)) (some ((false,()),((),r1.2.1.2++([c1]:List Int)),()))
def t_view_write_s4 (qWaz:Option qWP->(Unit×List Int)->Int->Option ((Unit)×((Unit×List Int)×Unit))) (x:(Option qWP)×(Unit×List Int)×Nod×(List Int)×Int×Int×Unit):Option (Ex×((Option qWP)×(Unit×List Int)×Nod×(List Int)×Int×Int×Unit)):=
 let v0:=x.1
 let b1:=x.2.1
 let n6:=x.2.2.1
 let t25:=x.2.2.2.1
 let t26:=x.2.2.2.2.1
 let t27:=x.2.2.2.2.2.1
 cond (decide (t27 < t26))
 (grd (decide (0<=t27)&&decide (t27 < t25.length)) (
 (qQB ((),b1.2) 32).bind fun r1=>
 (qWaz v0 ((),r1.2.1.2) (t25.getD t27.toNat (0:Int))).bind fun r2=>
 some (Ex.normal,(v0,((),r2.2.1.2),n6,t25,t26,qI (t27+1),()))))
 (some (Ex.exit 1,(v0,((),b1.2),n6,t25,t26,t27,())))
def qQL (qWaz:Option qWP->(Unit×List Int)->Int->Option ((Unit)×((Unit×List Int)×Unit))) (v0:Option qWP) (b1:Unit×List Int) (i2:Int):Option ((Unit)×((Unit×List Int)×Unit)):=
 grd (v0.isSome) (
 grd (decide (0<=i2)&&decide (i2 < ((v0.getD qWL).1).length)) (
 cond (((((v0.getD qWL).1).getD i2.toNat qPC).1)==1)
 ((qNA ((),b1.2) ([116,114,117,101]:qBs)).bind fun r1=>
 some ((),((),r1.2.1.2),()))
 (cond (((((v0.getD qWL).1).getD i2.toNat qPC).1)==2)
 ((qNA ((),b1.2) ([102,97,108,115,101]:qBs)).bind fun r2=>
 some ((),((),r2.2.1.2),()))
 (cond (((((v0.getD qWL).1).getD i2.toNat qPC).1)==3)
 ((qJG big (((((v0.getD qWL).1).getD i2.toNat qPC).2).1) (((((((v0.getD qWL).1).getD i2.toNat qPC).2).2).2).1)).bind fun r3=>
 (qNA ((),b1.2) r3.1.1).bind fun r4=>
 some ((),((),r4.2.1.2),()))
 (cond (((((v0.getD qWL).1).getD i2.toNat qPC).1)==4)
 ((qNA ((),b1.2) ((((((v0.getD qWL).1).getD i2.toNat qPC).2).2).1)).bind fun r5=>
 some ((),((),r5.2.1.2),()))
 ((qGk (((v0.getD qWL).1).getD i2.toNat qPC)).bind fun r6=>
 grd (decide (([40]:qBs).length+r6.1.1.length<=qXF)) (
 (qNA ((),b1.2) (([40]:qBs)++r6.1.1)).bind fun r7=>
 (qGO v0 i2).bind fun r8=>
 (qLA (t_view_write_s4 qWaz) (v0,((),r7.2.1.2),((v0.getD qWL).1).getD i2.toNat qPC,r8.1.1,(r8.1.1.length:Int),0,())).bind fun y9=>
 cond (Ex.same y9.1 (Ex.exit 1))
 (cond (!(y9.2.2.2.1.2.2.2.1==([]:qBs)))
 (grd (decide (([32]:qBs).length+y9.2.2.2.1.2.2.2.1.length<=qXF)) (
 (qNA ((),y9.2.2.1.2) (([32]:qBs)++y9.2.2.2.1.2.2.2.1)).bind fun r10=>
 (qQB ((),r10.2.1.2) 41).bind fun r11=>
 some ((),((),r11.2.1.2),())))
 ((qQB ((),y9.2.2.1.2) 41).bind fun r12=>
 some ((),((),r12.2.1.2),())))
 (none))))))))
def qEF:Nat->Option qWP->(Unit×List Int)->Int->Option ((Unit)×((Unit×List Int)×Unit))
 |0=>fun _ _ _=>none
 |n+1=>qQL (qEF n)
def qSb (t0:List Nod):Option ((qBs×Unit)×Unit):=
 (qMZ t0).bind fun r1=>
 cond (!r1.1.2.1)
 (some ((([]:qBs),()),()))
 ((qEF big r1.1.1 ((),([]:List Int)) 0).bind fun r2=>
 (qND ((),r2.2.1.2)).bind fun r3=>
 some ((r3.1.1,()),()))
def qBU (v0:Val):Option ((qBs×Unit)×Unit):=
 (qOa v0).bind fun r1=>
 cond (r1.1.2.1 !=(0:Int))
 (some ((([]:qBs),()),()))
 ((qSb r1.1.1).bind fun r2=>
 some ((r2.1.1,()),()))
def qQR:Option ((Bool×Unit)×Unit):=
 (qPaj 4).bind fun r1=>
 (qQq r1.1.1 ([51]:qBs) ([55]:qBs)).bind fun r2=>
 (qQq r2.1.1 ([51]:qBs) ([48]:qBs)).bind fun r3=>
 (qGT 2 ([45,55]:qBs)).bind fun r4=>
 (qWh (16,(0:Int),([]:qBs),([50]:qBs),(0:Int)) ([r4.1.1]:List (List Nod))).bind fun r5=>
 (qJak r5.1.1 ([]:List qXu) ([]:List Interp)).bind fun r6=>
 cond (r1.1.2.1==0)
 (cond (r2.1.2.1==0)
 (cond (r3.1.2.1==0)
 (cond (r6.1.2.1==0)
 (cond ((r2.1.1.2.2.2.1.length:Int)==1)
 (grd (decide (0<=(0:Int))&&decide ((0:Int) < r2.1.1.2.2.2.2.length)) (
 cond ((r2.1.1.2.2.2.2.getD (0:Int).toNat ([]:qBs))==([55]:qBs))
 ((qHE r3.1.1 r1.1.1).bind fun r7=>
 cond (r7.1.1)
 (cond (r6.1.1.2.2.1==([45,52]:qBs))
 ((qBU (4,false,([49]:qBs),([([45,50]:qBs)]:List qBs),([([53]:qBs)]:List qBs))).bind fun r8=>
 some ((r8.1.1==([40,115,116,111,114,101,32,40,99,111,110,115,116,32,49,41,32,40,45,32,50,41,32,53,41]:qBs),()),()))
 (some ((false,()),())))
 (some ((false,()),())))
 (some ((false,()),()))))
 (some ((false,()),())))
 (some ((false,()),())))
 (some ((false,()),())))
 (some ((false,()),())))
 (some ((false,()),()))
def qNai (l0:List Int):Option ((qJA×Unit)×Unit):=
 grd (decide (0<=minA (l0.length:Int) (400:Int))&&decide (minA (l0.length:Int) (400:Int)<=l0.length)) (some (((l0.take (minA (l0.length:Int) (400:Int)).toNat,(0:Int)),()),()))
def qTv (v0:Int) (n1:Int):Option ((Int×Unit)×Unit):=
 grd ((qU (n1)) !=0) (some ((qI ((qU (v0)).tmod (qU (n1))),()),()))
def qTA (c0:qJA) (n1:Int):Option ((Int×Unit)×(qJA×Unit)):=
 cond (decide (c0.2>=(c0.1.length:Int)))
 (some ((0,()),(c0.1,c0.2),()))
 (grd (decide (0<=qI ((qI (c0.2+1)) - (1:Int)))&&decide (qI ((qI (c0.2+1)) - (1:Int)) < c0.1.length)) (
 (qTv (c0.1.getD (qI ((qI (c0.2+1)) - (1:Int))).toNat (0:Int)) n1).bind fun r1=>
 some ((r1.1.1,()),(c0.1,qI (c0.2+1)),())))
def qRJ (x:Int×qBs×Int×Unit):Option (Ex×(Int×qBs×Int×Unit)):=
 let n0:=x.1
 let s3:=x.2.1
 let v4:=x.2.2.1
 cond (v4 !=(0:Int))
 (grd ((10:Int) !=0) (
 cond (decide ((v4.tmod 10) < (0:Int)))
 (grd (decide ((([IntKind.u8.wrap (qI ((48:Int)+(qI (0 - (v4.tmod 10)))))]:List Int).map fun n=>UInt8.ofNat n.toNat).length+s3.length<=qXF)) (grd ((10:Int) !=0) (some (Ex.normal,(n0,(([IntKind.u8.wrap (qI ((48:Int)+(qI (0 - (v4.tmod 10)))))]:List Int).map fun n=>UInt8.ofNat n.toNat)++s3,qI (v4.tdiv 10),())))))
 (grd (decide ((([IntKind.u8.wrap (qI ((48:Int)+(v4.tmod 10)))]:List Int).map fun n=>UInt8.ofNat n.toNat).length+s3.length<=qXF)) (grd ((10:Int) !=0) (some (Ex.normal,(n0,(([IntKind.u8.wrap (qI ((48:Int)+(v4.tmod 10)))]:List Int).map fun n=>UInt8.ofNat n.toNat)++s3,qI (v4.tdiv 10),())))))))
 (cond (s3==([]:qBs))
 (grd ((10:Int) !=0) (
 cond (decide ((v4.tmod 10) < (0:Int)))
 (grd (decide ((([IntKind.u8.wrap (qI ((48:Int)+(qI (0 - (v4.tmod 10)))))]:List Int).map fun n=>UInt8.ofNat n.toNat).length+s3.length<=qXF)) (grd ((10:Int) !=0) (some (Ex.normal,(n0,(([IntKind.u8.wrap (qI ((48:Int)+(qI (0 - (v4.tmod 10)))))]:List Int).map fun n=>UInt8.ofNat n.toNat)++s3,qI (v4.tdiv 10),())))))
 (grd (decide ((([IntKind.u8.wrap (qI ((48:Int)+(v4.tmod 10)))]:List Int).map fun n=>UInt8.ofNat n.toNat).length+s3.length<=qXF)) (grd ((10:Int) !=0) (some (Ex.normal,(n0,(([IntKind.u8.wrap (qI ((48:Int)+(v4.tmod 10)))]:List Int).map fun n=>UInt8.ofNat n.toNat)++s3,qI (v4.tdiv 10),())))))))
 (some (Ex.exit 0,(n0,s3,v4,()))))
def qGM (n0:Int):Option ((qBs×Unit)×Unit):=
 (qLA qRJ (n0,([]:qBs),n0,())).bind fun y1=>
 cond (Ex.same y1.1 (Ex.exit 0))
 (cond (decide (y1.2.1 < (0:Int)))
 (grd (decide (([45]:qBs).length+y1.2.2.1.length<=qXF)) (some ((([45]:qBs)++y1.2.2.1,()),())))
 (some ((y1.2.2.1,()),())))
 (none)
def qNJ (x:qBs×Bool×Int×Unit):Option (Ex×(qBs×Bool×Int×Unit)):=
 let s0:=x.1
 let t2:=x.2.1
 let i3:=x.2.2.1
 cond (decide (i3 < (s0.length:Int)))
 (grd (decide (0<=i3)&&decide (i3 < s0.length)) (
 cond (decide (((s0.getD i3.toNat 0).toNat:Int) < (48:Int)))
 (some (Ex.ret,(s0,false,i3,())))
 (grd (decide (0<=i3)&&decide (i3 < s0.length)) (
 cond (decide (((s0.getD i3.toNat 0).toNat:Int) > (57:Int)))
 (some (Ex.ret,(s0,false,i3,())))
 (some (Ex.normal,(s0,t2,qI (i3+1),())))))))
 (some (Ex.exit 0,(s0,t2,i3,())))
def qPK (s0:qBs):Option ((Bool×Unit)×Unit):=
 (qLA qNJ (s0,false,0,())).bind fun y1=>
 cond (Ex.same y1.1 (Ex.exit 0))
 (some ((!(y1.2.1==([]:qBs)),()),()))
 (cond (Ex.same y1.1 Ex.ret)
 (some ((y1.2.2.1,()),()))
 (none))
def qUQ (x:qBs×Unit):Option (Ex×(qBs×Unit)):=
 let s0:=x.1
 cond (decide ((s0.length:Int) > (1:Int)))
 (grd (decide (0<=(0:Int))&&decide ((0:Int) < s0.length)) (
 cond (((s0.getD (0:Int).toNat 0).toNat:Int)==48)
 (grd (decide (0<=(1:Int))&&decide ((1:Int)<=s0.length)) (some (Ex.normal,(s0.drop (1:Int).toNat,()))))
 (some (Ex.exit 0,(s0,())))))
 (some (Ex.exit 0,(s0,())))
def qXM (s0:qBs):Option ((qBs×Unit)×Unit):=
 (qLA qUQ (s0,())).bind fun y1=>
 cond (Ex.same y1.1 (Ex.exit 0))
 (some ((y1.2.1,()),()))
 (none)
def qPX (a0:qBs) (b1:qBs):Option ((Int×Unit)×Unit):=
 cond (decide ((a0.length:Int) < (b1.length:Int)))
 (some ((-1,()),()))
 (cond ((a0.length:Int)==(b1.length:Int))
 (cond (qTV a0 b1)
 (some ((-1,()),()))
 (cond (a0==b1)
 (some ((0,()),()))
 (some ((1,()),()))))
 (cond (a0==b1)
 (some ((0,()),()))
 (some ((1,()),()))))
def qGF (x:qBs×qBs×(List Int)×Int×Int×Unit):Option (Ex×(qBs×qBs×(List Int)×Int×Int×Unit)):=
 let a0:=x.1
 let b1:=x.2.1
 let out5:=x.2.2.1
 let borrow6:=x.2.2.2.1
 let i7:=x.2.2.2.2.1
 cond (decide (i7 < (a0.length:Int)))
 (grd (decide (0<=qI ((qI ((a0.length:Int) - (1:Int))) - i7))&&decide (qI ((qI ((a0.length:Int) - (1:Int))) - i7) < a0.length)) (
 cond (decide (i7 < (b1.length:Int)))
 (grd (decide (0<=qI ((qI ((b1.length:Int) - (1:Int))) - i7))&&decide (qI ((qI ((b1.length:Int) - (1:Int))) - i7) < b1.length)) (
 cond (decide ((qI ((qI ((qI (IntKind.u8.wrap (((a0.getD (qI ((qI ((a0.length:Int) - (1:Int))) - i7)).toNat 0).toNat:Int) - (48:Int)))) - borrow6)) - (qI (IntKind.u8.wrap (((b1.getD (qI ((qI ((b1.length:Int) - (1:Int))) - i7)).toNat 0).toNat:Int) - (48:Int)))))) < (0:Int)))
 (grd (decide (0<=qI ((qI ((a0.length:Int) - (1:Int))) - i7))&&decide (qI ((qI ((a0.length:Int) - (1:Int))) - i7) < out5.length)) (grd (decide ((qI ((qI ((a0.length:Int) - (1:Int))) - i7)).toNat < out5.length)) (some (Ex.normal,(a0,b1,out5.set ((qI ((qI ((a0.length:Int) - (1:Int))) - i7)).toNat) (IntKind.u8.wrap (qI ((48:Int)+(qI ((qI ((qI ((qI (IntKind.u8.wrap (((a0.getD (qI ((qI ((a0.length:Int) - (1:Int))) - i7)).toNat 0).toNat:Int) - (48:Int)))) - borrow6)) - (qI (IntKind.u8.wrap (((b1.getD (qI ((qI ((b1.length:Int) - (1:Int))) - i7)).toNat 0).toNat:Int) - (48:Int))))))+10))))),1,qI (i7+1),())))))
 (grd (decide (0<=qI ((qI ((a0.length:Int) - (1:Int))) - i7))&&decide (qI ((qI ((a0.length:Int) - (1:Int))) - i7) < out5.length)) (grd (decide ((qI ((qI ((a0.length:Int) - (1:Int))) - i7)).toNat < out5.length)) (some (Ex.normal,(a0,b1,out5.set ((qI ((qI ((a0.length:Int) - (1:Int))) - i7)).toNat) (IntKind.u8.wrap (qI ((48:Int)+(qI ((qI ((qI (IntKind.u8.wrap (((a0.getD (qI ((qI ((a0.length:Int) - (1:Int))) - i7)).toNat 0).toNat:Int) - (48:Int)))) - borrow6)) - (qI (IntKind.u8.wrap (((b1.getD (qI ((qI ((b1.length:Int) - (1:Int))) - i7)).toNat 0).toNat:Int) - (48:Int))))))))),0,qI (i7+1),())))))))
 (cond (decide ((qI ((qI (IntKind.u8.wrap (((a0.getD (qI ((qI ((a0.length:Int) - (1:Int))) - i7)).toNat 0).toNat:Int) - (48:Int)))) - borrow6)) < (0:Int)))
 (grd (decide (0<=qI ((qI ((a0.length:Int) - (1:Int))) - i7))&&decide (qI ((qI ((a0.length:Int) - (1:Int))) - i7) < out5.length)) (grd (decide ((qI ((qI ((a0.length:Int) - (1:Int))) - i7)).toNat < out5.length)) (some (Ex.normal,(a0,b1,out5.set ((qI ((qI ((a0.length:Int) - (1:Int))) - i7)).toNat) (IntKind.u8.wrap (qI ((48:Int)+(qI ((qI ((qI (IntKind.u8.wrap (((a0.getD (qI ((qI ((a0.length:Int) - (1:Int))) - i7)).toNat 0).toNat:Int) - (48:Int)))) - borrow6))+10))))),1,qI (i7+1),())))))
 (grd (decide (0<=qI ((qI ((a0.length:Int) - (1:Int))) - i7))&&decide (qI ((qI ((a0.length:Int) - (1:Int))) - i7) < out5.length)) (grd (decide ((qI ((qI ((a0.length:Int) - (1:Int))) - i7)).toNat < out5.length)) (some (Ex.normal,(a0,b1,out5.set ((qI ((qI ((a0.length:Int) - (1:Int))) - i7)).toNat) (IntKind.u8.wrap (qI ((48:Int)+(qI ((qI (IntKind.u8.wrap (((a0.getD (qI ((qI ((a0.length:Int) - (1:Int))) - i7)).toNat 0).toNat:Int) - (48:Int)))) - borrow6))))),0,qI (i7+1),()))))))))
 (some (Ex.exit 0,(a0,b1,out5,borrow6,i7,())))
def qTT (a0:qBs) (b1:qBs):Option ((qBs×Unit)×Unit):=
 grd (decide (0<=(a0.length:Int))&&decide ((a0.length:Int)<=(a0.length:Int))&&decide ((a0.length:Int)<=qSE)) (
 (qLA qGF (a0,b1,List.replicate (a0.length:Int).toNat (0:Int),0,0,())).bind fun y1=>
 cond (Ex.same y1.1 (Ex.exit 0))
 ((qXM (y1.2.2.2.1.map fun n=>UInt8.ofNat n.toNat)).bind fun r2=>
 some ((r2.1.1,()),()))
 (none))
def qJL (x:qBs×qBs×(List Int)×qBs×Int×Int×Unit):Option (Ex×(qBs×qBs×(List Int)×qBs×Int×Int×Unit)):=
 let a0:=x.1
 let b1:=x.2.1
 let q6:=x.2.2.1
 let r7:=x.2.2.2.1
 let i8:=x.2.2.2.2.1
 let d9:=x.2.2.2.2.2.1
 (qPX r7 b1).bind fun r1=>
 cond (decide (r1.1.1>=0))
 ((qTT r7 b1).bind fun r2=>
 some (Ex.normal,(a0,b1,q6,r2.1.1,i8,IntKind.u8.wrap (d9+1),())))
 (some (Ex.exit 2,(a0,b1,q6,r7,i8,d9,())))
def qLO (x:qBs×qBs×(List Int)×qBs×Int×Unit):Option (Ex×(qBs×qBs×(List Int)×qBs×Int×Unit)):=
 let a0:=x.1
 let b1:=x.2.1
 let q6:=x.2.2.1
 let r7:=x.2.2.2.1
 let i8:=x.2.2.2.2.1
 cond (decide (i8 < (a0.length:Int)))
 (grd (decide (0<=i8)&&decide (i8<=qI (i8+1))&&decide (qI (i8+1)<=a0.length)) (
 grd (decide (r7.length+((a0.take (qI (i8+1)).toNat).drop i8.toNat).length<=qXF)) (
 (qXM (r7++((a0.take (qI (i8+1)).toNat).drop i8.toNat))).bind fun r1=>
 (qLA qJL (a0,b1,q6,r1.1.1,i8,48,())).bind fun y2=>
 cond (Ex.same y2.1 (Ex.exit 2))
 (grd (decide (0<=y2.2.2.2.2.2.1)&&decide (y2.2.2.2.2.2.1 < y2.2.2.2.1.length)) (grd (decide (y2.2.2.2.2.2.1.toNat < y2.2.2.2.1.length)) (some (Ex.normal,(y2.2.1,y2.2.2.1,y2.2.2.2.1.set y2.2.2.2.2.2.1.toNat y2.2.2.2.2.2.2.1,y2.2.2.2.2.1,qI (y2.2.2.2.2.2.1+1),())))))
 (none))))
 (some (Ex.exit 0,(a0,b1,q6,r7,i8,())))
def qST (a0:qBs) (b1:qBs):Option ((qBs×qBs×Unit)×Unit):=
 grd (decide (0<=(a0.length:Int))&&decide ((a0.length:Int)<=(a0.length:Int))&&decide ((a0.length:Int)<=qSE)) (
 (qLA qLO (a0,b1,List.replicate (a0.length:Int).toNat (0:Int),([48]:qBs),0,())).bind fun y1=>
 cond (Ex.same y1.1 (Ex.exit 0))
 ((qXM (y1.2.2.2.1.map fun n=>UInt8.ofNat n.toNat)).bind fun r2=>
 some ((r2.1.1,y1.2.2.2.2.1,()),()))
 (none))
def qVN (x:qBs×qBs×Unit):Option (Ex×(qBs×qBs×Unit)):=
 let a0:=x.1
 let b1:=x.2.1
 cond (!(b1==([48]:qBs)))
 ((qST a0 b1).bind fun r1=>
 some (Ex.normal,(b1,r1.1.2.1,())))
 (some (Ex.exit 0,(a0,b1,())))
def qPb (a0:qBs) (b1:qBs):Option ((qBs×Unit)×Unit):=
 (qLA qVN (a0,b1,())).bind fun y1=>
 cond (Ex.same y1.1 (Ex.exit 0))
 (some ((y1.2.1,()),()))
 (none)
def qGH (neg0:Bool) (num1:qBs) (den2:qBs):Option ((qOq×Unit)×Unit):=
 (qPb num1 den2).bind fun r1=>
 (qST num1 r1.1.1).bind fun r2=>
 (qST den2 r1.1.1).bind fun r3=>
 cond (neg0)
 (some (((!(r2.1.1==([48]:qBs)),r2.1.1,r3.1.1),()),()))
 (some (((false,r2.1.1,r3.1.1),()),()))
def qDB (x0:qOq):Option ((qBs×Unit)×Unit):=
 cond (x0.1)
 (grd (decide (([45]:qBs).length+x0.2.1.length<=qXF)) (
 cond (!(x0.2.2==([49]:qBs)))
 (grd (decide (([47]:qBs).length+x0.2.2.length<=qXF)) (grd (decide ((([45]:qBs)++x0.2.1).length+(([47]:qBs)++x0.2.2).length<=qXF)) (some (((([45]:qBs)++x0.2.1)++(([47]:qBs)++x0.2.2),()),()))))
 (some ((([45]:qBs)++x0.2.1,()),()))))
 (cond (!(x0.2.2==([49]:qBs)))
 (grd (decide (([47]:qBs).length+x0.2.2.length<=qXF)) (grd (decide (x0.2.1.length+(([47]:qBs)++x0.2.2).length<=qXF)) (some ((x0.2.1++(([47]:qBs)++x0.2.2),()),()))))
 (some ((x0.2.1,()),())))
def qEI (x:qBs×qOq×qOq×qBs×Int×Unit):Option (Ex×(qBs×qOq×qOq×qBs×Int×Unit)):=
 let a0:=x.1
 let t2:=x.2.1
 let x4:=x.2.2.1
 let s5:=x.2.2.2.1
 let i6:=x.2.2.2.2.1
 cond (decide (i6 < (s5.length:Int)))
 (grd (decide (0<=i6)&&decide (i6 < s5.length)) (
 cond (((s5.getD i6.toNat 0).toNat:Int)==47)
 (grd (decide (0<=qI (i6+1))&&decide (qI (i6+1)<=s5.length)) (grd (decide (0<=i6)&&decide (i6<=s5.length)) (some (Ex.exit 0,(a0,(t2.1,t2.2.1,t2.2.2),(x4.1,x4.2.1,s5.drop (qI (i6+1)).toNat),s5.take i6.toNat,i6,())))))
 (some (Ex.normal,(a0,(t2.1,t2.2.1,t2.2.2),(x4.1,x4.2.1,x4.2.2),s5,qI (i6+1),())))))
 (some (Ex.exit 0,(a0,(t2.1,t2.2.1,t2.2.2),(x4.1,x4.2.1,x4.2.2),s5,i6,())))
def qIF (a0:qBs):Option ((qOq×Bool×Unit)×Unit):=
 cond (!(a0==([]:qBs)))
 (grd (decide (0<=(0:Int))&&decide ((0:Int) < a0.length)) (
 cond (((a0.getD (0:Int).toNat 0).toNat:Int)==45)
 (grd (decide (0<=(1:Int))&&decide ((1:Int)<=a0.length)) (
 (qLA qEI (a0,(false,([]:qBs),([]:qBs)),(true,([]:qBs),([49]:qBs)),a0.drop (1:Int).toNat,0,())).bind fun y1=>
 cond (Ex.same y1.1 (Ex.exit 0))
 ((qPK y1.2.2.2.2.1).bind fun r2=>
 cond (!r2.1.1)
 (some (((false,([]:qBs),([]:qBs)),false,()),()))
 ((qPK y1.2.2.2.1.2.2).bind fun r3=>
 cond (!r3.1.1)
 (some (((false,([]:qBs),([]:qBs)),false,()),()))
 (cond (y1.2.2.2.1.2.2==([48]:qBs))
 (some (((false,([]:qBs),([]:qBs)),false,()),()))
 ((qXM y1.2.2.2.2.1).bind fun r4=>
 cond (!(r4.1.1==y1.2.2.2.2.1))
 (some (((false,([]:qBs),([]:qBs)),false,()),()))
 ((qXM y1.2.2.2.1.2.2).bind fun r5=>
 cond (!(r5.1.1==y1.2.2.2.1.2.2))
 (some (((false,([]:qBs),([]:qBs)),false,()),()))
 ((qGH y1.2.2.2.1.1 y1.2.2.2.2.1 y1.2.2.2.1.2.2).bind fun r6=>
 (qDB (r6.1.1.1,r6.1.1.2.1,r6.1.1.2.2)).bind fun r7=>
 cond (!(r7.1.1==y1.2.1))
 (some (((false,([]:qBs),([]:qBs)),false,()),()))
 (some (((y1.2.2.2.1.1,y1.2.2.2.2.1,y1.2.2.2.1.2.2),true,()),()))))))))
 (none)))
 ((qLA qEI (a0,(false,([]:qBs),([]:qBs)),(false,([]:qBs),([49]:qBs)),a0,0,())).bind fun y8=>
 cond (Ex.same y8.1 (Ex.exit 0))
 ((qPK y8.2.2.2.2.1).bind fun r9=>
 cond (!r9.1.1)
 (some (((false,([]:qBs),([]:qBs)),false,()),()))
 ((qPK y8.2.2.2.1.2.2).bind fun r10=>
 cond (!r10.1.1)
 (some (((false,([]:qBs),([]:qBs)),false,()),()))
 (cond (y8.2.2.2.1.2.2==([48]:qBs))
 (some (((false,([]:qBs),([]:qBs)),false,()),()))
 ((qXM y8.2.2.2.2.1).bind fun r11=>
 cond (!(r11.1.1==y8.2.2.2.2.1))
 (some (((false,([]:qBs),([]:qBs)),false,()),()))
 ((qXM y8.2.2.2.1.2.2).bind fun r12=>
 cond (!(r12.1.1==y8.2.2.2.1.2.2))
 (some (((false,([]:qBs),([]:qBs)),false,()),()))
 ((qGH y8.2.2.2.1.1 y8.2.2.2.2.1 y8.2.2.2.1.2.2).bind fun r13=>
 (qDB (r13.1.1.1,r13.1.1.2.1,r13.1.1.2.2)).bind fun r14=>
 cond (!(r14.1.1==y8.2.1))
 (some (((false,([]:qBs),([]:qBs)),false,()),()))
 (some (((y8.2.2.2.1.1,y8.2.2.2.2.1,y8.2.2.2.1.2.2),true,()),()))))))))
 (none))))
 ((qLA qEI (a0,(false,([]:qBs),([]:qBs)),(false,([]:qBs),([49]:qBs)),a0,0,())).bind fun y15=>
 cond (Ex.same y15.1 (Ex.exit 0))
 ((qPK y15.2.2.2.2.1).bind fun r16=>
 cond (!r16.1.1)
 (some (((false,([]:qBs),([]:qBs)),false,()),()))
 ((qPK y15.2.2.2.1.2.2).bind fun r17=>
 cond (!r17.1.1)
 (some (((false,([]:qBs),([]:qBs)),false,()),()))
 (cond (y15.2.2.2.1.2.2==([48]:qBs))
 (some (((false,([]:qBs),([]:qBs)),false,()),()))
 ((qXM y15.2.2.2.2.1).bind fun r18=>
 cond (!(r18.1.1==y15.2.2.2.2.1))
 (some (((false,([]:qBs),([]:qBs)),false,()),()))
 ((qXM y15.2.2.2.1.2.2).bind fun r19=>
 cond (!(r19.1.1==y15.2.2.2.1.2.2))
 (some (((false,([]:qBs),([]:qBs)),false,()),()))
 ((qGH y15.2.2.2.1.1 y15.2.2.2.2.1 y15.2.2.2.1.2.2).bind fun r20=>
 (qDB (r20.1.1.1,r20.1.1.2.1,r20.1.1.2.2)).bind fun r21=>
 cond (!(r21.1.1==y15.2.1))
 (some (((false,([]:qBs),([]:qBs)),false,()),()))
 (some (((y15.2.2.2.1.1,y15.2.2.2.2.1,y15.2.2.2.1.2.2),true,()),()))))))))
 (none))
def qEL (x:qBs×qBs×(List Int)×Int×Int×Unit):Option (Ex×(qBs×qBs×(List Int)×Int×Int×Unit)):=
 let a0:=x.1
 let b1:=x.2.1
 let out5:=x.2.2.1
 let i6:=x.2.2.2.1
 let j7:=x.2.2.2.2.1
 cond (decide (j7 < (b1.length:Int)))
 (grd (decide (0<=qI ((qI (i6+j7))+1))&&decide (qI ((qI (i6+j7))+1) < out5.length)) (grd (decide ((qI ((qI (i6+j7))+1)).toNat < out5.length)) (grd (decide (0<=i6)&&decide (i6 < a0.length)) (grd (decide (0<=j7)&&decide (j7 < b1.length)) (grd (decide (0<=qI ((qI (i6+j7))+1))&&decide (qI ((qI (i6+j7))+1) < out5.length)) (grd (decide ((qI ((qI (i6+j7))+1)).toNat < out5.length)) (some (Ex.normal,(a0,b1,out5.set ((qI ((qI (i6+j7))+1)).toNat) (qI ((out5.getD ((qI ((qI (i6+j7))+1)).toNat) (0:Int))+(qI ((qI (IntKind.u8.wrap (((a0.getD i6.toNat 0).toNat:Int) - (48:Int)))) * (qI (IntKind.u8.wrap (((b1.getD j7.toNat 0).toNat:Int) - (48:Int)))))))),i6,qI (j7+1),())))))))))
 (some (Ex.exit 2,(a0,b1,out5,i6,j7,())))
def qMO (x:qBs×qBs×(List Int)×Int×Unit):Option (Ex×(qBs×qBs×(List Int)×Int×Unit)):=
 let a0:=x.1
 let b1:=x.2.1
 let out5:=x.2.2.1
 let i6:=x.2.2.2.1
 cond (decide (i6 < (a0.length:Int)))
 ((qLA qEL (a0,b1,out5,i6,0,())).bind fun y1=>
 cond (Ex.same y1.1 (Ex.exit 2))
 (some (Ex.normal,(y1.2.1,y1.2.2.1,y1.2.2.2.1,qI (y1.2.2.2.2.1+1),())))
 (none))
 (some (Ex.exit 0,(a0,b1,out5,i6,())))
def qFM (x:(List Int)×(List Int)×Int×Int×Unit):Option (Ex×((List Int)×(List Int)×Int×Int×Unit)):=
 let out5:=x.1
 let s8:=x.2.1
 let carry9:=x.2.2.1
 let k10:=x.2.2.2.1
 cond (decide (k10>=0))
 (grd (decide (0<=k10)&&decide (k10 < out5.length)) (grd (decide (k10.toNat < out5.length)) (grd ((10:Int) !=0) (grd (decide (0<=k10)&&decide (k10 < s8.length)) (grd (decide (k10.toNat < s8.length)) (grd ((10:Int) !=0) (some (Ex.normal,(out5,s8.set k10.toNat (IntKind.u8.wrap (qI ((48:Int)+((qI ((out5.getD k10.toNat (0:Int))+carry9)).tmod 10)))),qI ((qI ((out5.getD k10.toNat (0:Int))+carry9)).tdiv 10),qI (k10 - (1:Int)),())))))))))
 (some (Ex.exit 4,(out5,s8,carry9,k10,())))
def qPL (a0:qBs) (b1:qBs):Option ((qBs×Unit)×Unit):=
 grd (decide (0<=qI ((a0.length:Int)+(b1.length:Int)))&&decide (qI ((a0.length:Int)+(b1.length:Int))<=qI ((a0.length:Int)+(b1.length:Int)))&&decide (qI ((a0.length:Int)+(b1.length:Int))<=qSE)) (
 (qLA qMO (a0,b1,List.replicate (qI ((a0.length:Int)+(b1.length:Int))).toNat (0:Int),0,())).bind fun y1=>
 cond (Ex.same y1.1 (Ex.exit 0))
 (grd (decide (0<=(y1.2.2.2.1.length:Int))&&decide ((y1.2.2.2.1.length:Int)<=(y1.2.2.2.1.length:Int))&&decide ((y1.2.2.2.1.length:Int)<=qSE)) (
 (qLA qFM (y1.2.2.2.1,List.replicate (y1.2.2.2.1.length:Int).toNat (0:Int),0,qI ((y1.2.2.2.1.length:Int) - (1:Int)),())).bind fun y2=>
 cond (Ex.same y2.1 (Ex.exit 4))
 ((qXM (y2.2.2.1.map fun n=>UInt8.ofNat n.toNat)).bind fun r3=>
 some ((r3.1.1,()),()))
 (none)))
 (none))
def qWaf (a0:qBs) (b1:qBs):Option ((qBs×Unit)×Unit):=
 (qIF a0).bind fun r1=>
 (qIF b1).bind fun r2=>
 cond (!r1.1.2.1)
 (some ((([]:qBs),()),()))
 (cond (!r2.1.2.1)
 (some ((([]:qBs),()),()))
 ((qPL r1.1.1.2.1 r2.1.1.2.1).bind fun r3=>
 (qPL r1.1.1.2.2 r2.1.1.2.2).bind fun r4=>
 (qGH (!(r1.1.1.1==r2.1.1.1)) r3.1.1 r4.1.1).bind fun r5=>
 (qDB (r5.1.1.1,r5.1.1.2.1,r5.1.1.2.2)).bind fun r6=>
 some ((r6.1.1,()),())))
def qPB (c0:qJA):Option ((qBs×Unit)×(qJA×Unit)):=
 (qTA (c0.1,c0.2) 8).bind fun r1=>
 cond (r1.1.1==6)
 ((qTA (r1.2.1.1,r1.2.1.2) 2001).bind fun r2=>
 (qGM (qI (r2.1.1 - (1000:Int)))).bind fun r3=>
 some ((r3.1.1,()),(r2.2.1.1,r2.2.1.2),()))
 (cond (r1.1.1==7)
 ((qTA (r1.2.1.1,r1.2.1.2) 1099511627776).bind fun r4=>
 (qGM (qI (r4.1.1 - (549755813888:Int)))).bind fun r5=>
 (qTA (r4.2.1.1,r4.2.1.2) 1099511627776).bind fun r6=>
 (qGM r6.1.1).bind fun r7=>
 (qWaf r5.1.1 r7.1.1).bind fun r8=>
 some ((r8.1.1,()),(r6.2.1.1,r6.2.1.2),()))
 ((qTA (r1.2.1.1,r1.2.1.2) 9).bind fun r9=>
 (qGM (qI (r9.1.1 - (4:Int)))).bind fun r10=>
 some ((r10.1.1,()),(r9.2.1.1,r9.2.1.2),())))
def qKF (a0:qBs):Option ((Bool×Unit)×Unit):=
 (qIF a0).bind fun r1=>
 cond (r1.1.2.1)
 (some ((r1.1.1.2.2==([49]:qBs),()),()))
 (some ((false,()),()))
def qRM (a0:qBs):Option ((Bool×Unit)×Unit):=
 (qIF a0).bind fun r1=>
 some ((r1.1.2.1,()),())
def qLae (a0:qBs):Option ((qBs×Unit)×Unit):=
 (qIF a0).bind fun r1=>
 cond (!r1.1.2.1)
 (some ((([]:qBs),()),()))
 (cond (!r1.1.1.1)
 ((qDB (!(r1.1.1.2.1==([48]:qBs)),r1.1.1.2.1,r1.1.1.2.2)).bind fun r2=>
 some ((r2.1.1,()),()))
 ((qDB (false,r1.1.1.2.1,r1.1.1.2.2)).bind fun r3=>
 some ((r3.1.1,()),())))
def qHF (x:qBs×qBs×Int×(List Int)×Int×Int×Unit):Option (Ex×(qBs×qBs×Int×(List Int)×Int×Int×Unit)):=
 let a0:=x.1
 let b1:=x.2.1
 let n5:=x.2.2.1
 let out6:=x.2.2.2.1
 let carry7:=x.2.2.2.2.1
 let i8:=x.2.2.2.2.2.1
 cond (decide (i8 < n5))
 (cond (decide (i8 < (a0.length:Int)))
 (grd (decide (0<=qI ((qI ((a0.length:Int) - (1:Int))) - i8))&&decide (qI ((qI ((a0.length:Int) - (1:Int))) - i8) < a0.length)) (
 cond (decide (i8 < (b1.length:Int)))
 (grd (decide (0<=qI ((qI ((b1.length:Int) - (1:Int))) - i8))&&decide (qI ((qI ((b1.length:Int) - (1:Int))) - i8) < b1.length)) (grd ((10:Int) !=0) (grd (decide (0<=qI ((qI (n5 - (1:Int))) - i8))&&decide (qI ((qI (n5 - (1:Int))) - i8) < out6.length)) (grd (decide ((qI ((qI (n5 - (1:Int))) - i8)).toNat < out6.length)) (grd ((10:Int) !=0) (some (Ex.normal,(a0,b1,n5,out6.set ((qI ((qI (n5 - (1:Int))) - i8)).toNat) (IntKind.u8.wrap (qI ((48:Int)+((qI ((qI (carry7+(qI (IntKind.u8.wrap (((a0.getD (qI ((qI ((a0.length:Int) - (1:Int))) - i8)).toNat 0).toNat:Int) - (48:Int))))))+(qI (IntKind.u8.wrap (((b1.getD (qI ((qI ((b1.length:Int) - (1:Int))) - i8)).toNat 0).toNat:Int) - (48:Int)))))).tmod 10)))),qI ((qI ((qI (carry7+(qI (IntKind.u8.wrap (((a0.getD (qI ((qI ((a0.length:Int) - (1:Int))) - i8)).toNat 0).toNat:Int) - (48:Int))))))+(qI (IntKind.u8.wrap (((b1.getD (qI ((qI ((b1.length:Int) - (1:Int))) - i8)).toNat 0).toNat:Int) - (48:Int)))))).tdiv 10),qI (i8+1),()))))))))
 (grd ((10:Int) !=0) (grd (decide (0<=qI ((qI (n5 - (1:Int))) - i8))&&decide (qI ((qI (n5 - (1:Int))) - i8) < out6.length)) (grd (decide ((qI ((qI (n5 - (1:Int))) - i8)).toNat < out6.length)) (grd ((10:Int) !=0) (some (Ex.normal,(a0,b1,n5,out6.set ((qI ((qI (n5 - (1:Int))) - i8)).toNat) (IntKind.u8.wrap (qI ((48:Int)+((qI (carry7+(qI (IntKind.u8.wrap (((a0.getD (qI ((qI ((a0.length:Int) - (1:Int))) - i8)).toNat 0).toNat:Int) - (48:Int)))))).tmod 10)))),qI ((qI (carry7+(qI (IntKind.u8.wrap (((a0.getD (qI ((qI ((a0.length:Int) - (1:Int))) - i8)).toNat 0).toNat:Int) - (48:Int)))))).tdiv 10),qI (i8+1),())))))))))
 (cond (decide (i8 < (b1.length:Int)))
 (grd (decide (0<=qI ((qI ((b1.length:Int) - (1:Int))) - i8))&&decide (qI ((qI ((b1.length:Int) - (1:Int))) - i8) < b1.length)) (grd ((10:Int) !=0) (grd (decide (0<=qI ((qI (n5 - (1:Int))) - i8))&&decide (qI ((qI (n5 - (1:Int))) - i8) < out6.length)) (grd (decide ((qI ((qI (n5 - (1:Int))) - i8)).toNat < out6.length)) (grd ((10:Int) !=0) (some (Ex.normal,(a0,b1,n5,out6.set ((qI ((qI (n5 - (1:Int))) - i8)).toNat) (IntKind.u8.wrap (qI ((48:Int)+((qI (carry7+(qI (IntKind.u8.wrap (((b1.getD (qI ((qI ((b1.length:Int) - (1:Int))) - i8)).toNat 0).toNat:Int) - (48:Int)))))).tmod 10)))),qI ((qI (carry7+(qI (IntKind.u8.wrap (((b1.getD (qI ((qI ((b1.length:Int) - (1:Int))) - i8)).toNat 0).toNat:Int) - (48:Int)))))).tdiv 10),qI (i8+1),()))))))))
 (grd ((10:Int) !=0) (grd (decide (0<=qI ((qI (n5 - (1:Int))) - i8))&&decide (qI ((qI (n5 - (1:Int))) - i8) < out6.length)) (grd (decide ((qI ((qI (n5 - (1:Int))) - i8)).toNat < out6.length)) (grd ((10:Int) !=0) (some (Ex.normal,(a0,b1,n5,out6.set ((qI ((qI (n5 - (1:Int))) - i8)).toNat) (IntKind.u8.wrap (qI ((48:Int)+(carry7.tmod 10)))),qI (carry7.tdiv 10),qI (i8+1),())))))))))
 (some (Ex.exit 0,(a0,b1,n5,out6,carry7,i8,())))
def qRb (a0:qBs) (b1:qBs):Option ((qBs×Unit)×Unit):=
 grd (decide (0<=qI ((qFZ (a0.length:Int) (b1.length:Int))+1))&&decide (qI ((qFZ (a0.length:Int) (b1.length:Int))+1)<=qI ((qFZ (a0.length:Int) (b1.length:Int))+1))&&decide (qI ((qFZ (a0.length:Int) (b1.length:Int))+1)<=qSE)) (
 (qLA qHF (a0,b1,qI ((qFZ (a0.length:Int) (b1.length:Int))+1),List.replicate (qI ((qFZ (a0.length:Int) (b1.length:Int))+1)).toNat (0:Int),0,0,())).bind fun y1=>
 cond (Ex.same y1.1 (Ex.exit 0))
 ((qXM (y1.2.2.2.2.1.map fun n=>UInt8.ofNat n.toNat)).bind fun r2=>
 some ((r2.1.1,()),()))
 (none))
def qBai (a0:qBs) (b1:qBs):Option ((qBs×Unit)×Unit):=
 (qIF a0).bind fun r1=>
 (qIF b1).bind fun r2=>
 cond (!r1.1.2.1)
 (some ((([]:qBs),()),()))
 (cond (!r2.1.2.1)
 (some ((([]:qBs),()),()))
 ((qPL r1.1.1.2.1 r2.1.1.2.2).bind fun r3=>
 (qPL r2.1.1.2.1 r1.1.1.2.2).bind fun r4=>
 (qPL r1.1.1.2.2 r2.1.1.2.2).bind fun r5=>
 cond (r1.1.1.1==r2.1.1.1)
 ((qRb r3.1.1 r4.1.1).bind fun r6=>
 (qGH r1.1.1.1 r6.1.1 r5.1.1).bind fun r7=>
 (qDB (r7.1.1.1,r7.1.1.2.1,r7.1.1.2.2)).bind fun r8=>
 some ((r8.1.1,()),()))
 ((qPX r3.1.1 r4.1.1).bind fun r9=>
 cond (decide (r9.1.1>=0))
 ((qTT r3.1.1 r4.1.1).bind fun r10=>
 (qGH r1.1.1.1 r10.1.1 r5.1.1).bind fun r11=>
 (qDB (r11.1.1.1,r11.1.1.2.1,r11.1.1.2.2)).bind fun r12=>
 some ((r12.1.1,()),()))
 ((qTT r4.1.1 r3.1.1).bind fun r13=>
 (qGH r2.1.1.1 r13.1.1 r5.1.1).bind fun r14=>
 (qDB (r14.1.1.1,r14.1.1.2.1,r14.1.1.2.2)).bind fun r15=>
 some ((r15.1.1,()),())))))
def qMai (a0:qBs) (b1:qBs):Option ((qBs×Unit)×Unit):=
 (qLae b1).bind fun r1=>
 (qBai a0 r1.1.1).bind fun r2=>
 some ((r2.1.1,()),())
def qRf (a0:qBs):Option ((Int×Unit)×Unit):=
 (qIF a0).bind fun r1=>
 cond (!r1.1.2.1)
 (some ((0,()),()))
 (cond (r1.1.1.2.1==([48]:qBs))
 (some ((0,()),()))
 (cond (r1.1.1.1)
 (some ((-1,()),()))
 (some ((1,()),()))))
def qLg (a0:qBs) (b1:qBs):Option ((Int×Unit)×Unit):=
 (qRM a0).bind fun r1=>
 cond (!r1.1.1)
 (some ((0,()),()))
 ((qRM b1).bind fun r2=>
 cond (!r2.1.1)
 (some ((0,()),()))
 ((qMai a0 b1).bind fun r3=>
 (qRf r3.1.1).bind fun r4=>
 some ((r4.1.1,()),())))
def qBC (x:Val×Bool×Int×Unit):Option (Ex×(Val×Bool×Int×Unit)):=
 let v1:=x.1
 let t2:=x.2.1
 let i3:=x.2.2.1
 cond (decide (i3 < (v1.2.2.2.1.length:Int)))
 (grd (decide (0<=i3)&&decide (i3 < v1.2.2.2.1.length)) (
 (qKF (v1.2.2.2.1.getD i3.toNat ([]:qBs))).bind fun r1=>
 cond (!r1.1.1)
 (some (Ex.ret,(v1,false,i3,())))
 (grd (decide (0<=i3)&&decide (i3 < v1.2.2.2.2.length)) (
 (qKF (v1.2.2.2.2.getD i3.toNat ([]:qBs))).bind fun r2=>
 cond (!r2.1.1)
 (some (Ex.ret,(v1,false,i3,())))
 (grd (decide (0<=i3)&&decide (i3 < v1.2.2.2.2.length)) (
 cond ((v1.2.2.2.2.getD i3.toNat ([]:qBs))==v1.2.2.1)
 (some (Ex.ret,(v1,false,i3,())))
 (cond (decide (i3 > (0:Int)))
 (grd (decide (0<=qI (i3 - (1:Int)))&&decide (qI (i3 - (1:Int)) < v1.2.2.2.1.length)) (
 grd (decide (0<=i3)&&decide (i3 < v1.2.2.2.1.length)) (
 (qLg (v1.2.2.2.1.getD (qI (i3 - (1:Int))).toNat ([]:qBs)) (v1.2.2.2.1.getD i3.toNat ([]:qBs))).bind fun r3=>
 cond (decide (r3.1.1>=0))
 (some (Ex.ret,(v1,false,i3,())))
 (some (Ex.normal,(v1,t2,qI (i3+1),()))))))
 (some (Ex.normal,(v1,t2,qI (i3+1),()))))))))))
 (some (Ex.exit 1,(v1,t2,i3,())))
def qBK (v0:Val):Option ((Bool×Unit)×Unit):=
 cond (v0.1 !=(4:Int))
 (cond (decide ((v0.2.2.2.1.length:Int) > (0:Int)))
 (some ((false,()),()))
 (cond (decide ((v0.2.2.2.2.length:Int) > (0:Int)))
 (some ((false,()),()))
 (cond (v0.1 !=(1:Int))
 (cond (v0.2.1)
 (some ((false,()),()))
 (cond (v0.1==1)
 (some ((v0.2.2.1==([]:qBs),()),()))
 (cond (v0.1==2)
 ((qKF v0.2.2.1).bind fun r1=>
 some ((r1.1.1,()),()))
 (cond (v0.1==3)
 ((qRM v0.2.2.1).bind fun r2=>
 some ((r2.1.1,()),()))
 (cond (v0.1==4)
 ((qKF v0.2.2.1).bind fun r3=>
 cond (!r3.1.1)
 (some ((false,()),()))
 (cond ((v0.2.2.2.1.length:Int) !=(v0.2.2.2.2.length:Int))
 (some ((false,()),()))
 ((qLA qBC (v0,false,0,())).bind fun y4=>
 cond (Ex.same y4.1 (Ex.exit 1))
 (some ((true,()),()))
 (cond (Ex.same y4.1 Ex.ret)
 (some ((y4.2.2.1,()),()))
 (none)))))
 (some ((false,()),())))))))
 (cond (v0.1==1)
 (some ((v0.2.2.1==([]:qBs),()),()))
 (cond (v0.1==2)
 ((qKF v0.2.2.1).bind fun r5=>
 some ((r5.1.1,()),()))
 (cond (v0.1==3)
 ((qRM v0.2.2.1).bind fun r6=>
 some ((r6.1.1,()),()))
 (cond (v0.1==4)
 ((qKF v0.2.2.1).bind fun r7=>
 cond (!r7.1.1)
 (some ((false,()),()))
 (cond ((v0.2.2.2.1.length:Int) !=(v0.2.2.2.2.length:Int))
 (some ((false,()),()))
 ((qLA qBC (v0,false,0,())).bind fun y8=>
 cond (Ex.same y8.1 (Ex.exit 1))
 (some ((true,()),()))
 (cond (Ex.same y8.1 Ex.ret)
 (some ((y8.2.2.1,()),()))
 (none)))))
 (some ((false,()),())))))))))
 (cond (v0.1 !=(1:Int))
 (cond (v0.2.1)
 (some ((false,()),()))
 (cond (v0.1==1)
 (some ((v0.2.2.1==([]:qBs),()),()))
 (cond (v0.1==2)
 ((qKF v0.2.2.1).bind fun r9=>
 some ((r9.1.1,()),()))
 (cond (v0.1==3)
 ((qRM v0.2.2.1).bind fun r10=>
 some ((r10.1.1,()),()))
 (cond (v0.1==4)
 ((qKF v0.2.2.1).bind fun r11=>
 cond (!r11.1.1)
 (some ((false,()),()))
 (cond ((v0.2.2.2.1.length:Int) !=(v0.2.2.2.2.length:Int))
 (some ((false,()),()))
 ((qLA qBC (v0,false,0,())).bind fun y12=>
 cond (Ex.same y12.1 (Ex.exit 1))
 (some ((true,()),()))
 (cond (Ex.same y12.1 Ex.ret)
 (some ((y12.2.2.1,()),()))
 (none)))))
 (some ((false,()),())))))))
 (cond (v0.1==1)
 (some ((v0.2.2.1==([]:qBs),()),()))
 (cond (v0.1==2)
 ((qKF v0.2.2.1).bind fun r13=>
 some ((r13.1.1,()),()))
 (cond (v0.1==3)
 ((qRM v0.2.2.1).bind fun r14=>
 some ((r14.1.1,()),()))
 (cond (v0.1==4)
 ((qKF v0.2.2.1).bind fun r15=>
 cond (!r15.1.1)
 (some ((false,()),()))
 (cond ((v0.2.2.2.1.length:Int) !=(v0.2.2.2.2.length:Int))
 (some ((false,()),()))
 ((qLA qBC (v0,false,0,())).bind fun y16=>
 cond (Ex.same y16.1 (Ex.exit 1))
 (some ((true,()),()))
 (cond (Ex.same y16.1 Ex.ret)
 (some ((y16.2.2.1,()),()))
 (none)))))
 (some ((false,()),())))))))
def qTB (x:qBs×qBs×Val×Val×(Int×Bool×qBs×(List qBs)×List qBs)×Bool×Int×Unit):Option (Ex×(qBs×qBs×Val×Val×(Int×Bool×qBs×(List qBs)×List qBs)×Bool×Int×Unit)):=
 let index1:=x.1
 let num2:=x.2.1
 let a3:=x.2.2.1
 let t6:=x.2.2.2.1
 let out8:=x.2.2.2.2.1
 let put9:=x.2.2.2.2.2.1
 let i10:=x.2.2.2.2.2.2.1
 cond (decide (i10<=(a3.2.2.2.1.length:Int)))
 (cond (!put9)
 (cond (i10==(a3.2.2.2.1.length:Int))
 (cond (!(num2==a3.2.2.1))
 (grd (decide (out8.2.2.2.1.length+([index1]:List qBs).length<=qSE)) (
 grd (decide (out8.2.2.2.2.length+([num2]:List qBs).length<=qSE)) (
 cond (decide (i10 < (a3.2.2.2.1.length:Int)))
 (grd (decide (0<=i10)&&decide (i10 < a3.2.2.2.1.length)) (
 cond (!((a3.2.2.2.1.getD i10.toNat ([]:qBs))==index1))
 (grd (decide (0<=i10)&&decide (i10 < a3.2.2.2.1.length)) (grd (decide ((out8.2.2.2.1++([index1]:List qBs)).length+([a3.2.2.2.1.getD i10.toNat ([]:qBs)]:List qBs).length<=qSE)) (grd (decide (0<=i10)&&decide (i10 < a3.2.2.2.2.length)) (grd (decide ((out8.2.2.2.2++([num2]:List qBs)).length+([a3.2.2.2.2.getD i10.toNat ([]:qBs)]:List qBs).length<=qSE)) (some (Ex.normal,(index1,num2,a3,t6,(out8.1,out8.2.1,out8.2.2.1,(out8.2.2.2.1++([index1]:List qBs))++([a3.2.2.2.1.getD i10.toNat ([]:qBs)]:List qBs),(out8.2.2.2.2++([num2]:List qBs))++([a3.2.2.2.2.getD i10.toNat ([]:qBs)]:List qBs)),true,qI (i10+1),())))))))
 (some (Ex.normal,(index1,num2,a3,t6,(out8.1,out8.2.1,out8.2.2.1,out8.2.2.2.1++([index1]:List qBs),out8.2.2.2.2++([num2]:List qBs)),true,qI (i10+1),())))))
 (some (Ex.normal,(index1,num2,a3,t6,(out8.1,out8.2.1,out8.2.2.1,out8.2.2.2.1++([index1]:List qBs),out8.2.2.2.2++([num2]:List qBs)),true,qI (i10+1),()))))))
 (cond (decide (i10 < (a3.2.2.2.1.length:Int)))
 (grd (decide (0<=i10)&&decide (i10 < a3.2.2.2.1.length)) (
 cond (!((a3.2.2.2.1.getD i10.toNat ([]:qBs))==index1))
 (grd (decide (0<=i10)&&decide (i10 < a3.2.2.2.1.length)) (grd (decide (out8.2.2.2.1.length+([a3.2.2.2.1.getD i10.toNat ([]:qBs)]:List qBs).length<=qSE)) (grd (decide (0<=i10)&&decide (i10 < a3.2.2.2.2.length)) (grd (decide (out8.2.2.2.2.length+([a3.2.2.2.2.getD i10.toNat ([]:qBs)]:List qBs).length<=qSE)) (some (Ex.normal,(index1,num2,a3,t6,(out8.1,out8.2.1,out8.2.2.1,out8.2.2.2.1++([a3.2.2.2.1.getD i10.toNat ([]:qBs)]:List qBs),out8.2.2.2.2++([a3.2.2.2.2.getD i10.toNat ([]:qBs)]:List qBs)),true,qI (i10+1),())))))))
 (some (Ex.normal,(index1,num2,a3,t6,out8,true,qI (i10+1),())))))
 (some (Ex.normal,(index1,num2,a3,t6,out8,true,qI (i10+1),())))))
 (grd (decide (0<=i10)&&decide (i10 < a3.2.2.2.1.length)) (
 (qLg (a3.2.2.2.1.getD i10.toNat ([]:qBs)) index1).bind fun r1=>
 cond (decide (r1.1.1>=0))
 (cond (!(num2==a3.2.2.1))
 (grd (decide (out8.2.2.2.1.length+([index1]:List qBs).length<=qSE)) (
 grd (decide (out8.2.2.2.2.length+([num2]:List qBs).length<=qSE)) (
 cond (decide (i10 < (a3.2.2.2.1.length:Int)))
 (grd (decide (0<=i10)&&decide (i10 < a3.2.2.2.1.length)) (
 cond (!((a3.2.2.2.1.getD i10.toNat ([]:qBs))==index1))
 (grd (decide (0<=i10)&&decide (i10 < a3.2.2.2.1.length)) (grd (decide ((out8.2.2.2.1++([index1]:List qBs)).length+([a3.2.2.2.1.getD i10.toNat ([]:qBs)]:List qBs).length<=qSE)) (grd (decide (0<=i10)&&decide (i10 < a3.2.2.2.2.length)) (grd (decide ((out8.2.2.2.2++([num2]:List qBs)).length+([a3.2.2.2.2.getD i10.toNat ([]:qBs)]:List qBs).length<=qSE)) (some (Ex.normal,(index1,num2,a3,t6,(out8.1,out8.2.1,out8.2.2.1,(out8.2.2.2.1++([index1]:List qBs))++([a3.2.2.2.1.getD i10.toNat ([]:qBs)]:List qBs),(out8.2.2.2.2++([num2]:List qBs))++([a3.2.2.2.2.getD i10.toNat ([]:qBs)]:List qBs)),true,qI (i10+1),())))))))
 (some (Ex.normal,(index1,num2,a3,t6,(out8.1,out8.2.1,out8.2.2.1,out8.2.2.2.1++([index1]:List qBs),out8.2.2.2.2++([num2]:List qBs)),true,qI (i10+1),())))))
 (some (Ex.normal,(index1,num2,a3,t6,(out8.1,out8.2.1,out8.2.2.1,out8.2.2.2.1++([index1]:List qBs),out8.2.2.2.2++([num2]:List qBs)),true,qI (i10+1),()))))))
 (cond (decide (i10 < (a3.2.2.2.1.length:Int)))
 (grd (decide (0<=i10)&&decide (i10 < a3.2.2.2.1.length)) (
 cond (!((a3.2.2.2.1.getD i10.toNat ([]:qBs))==index1))
 (grd (decide (0<=i10)&&decide (i10 < a3.2.2.2.1.length)) (grd (decide (out8.2.2.2.1.length+([a3.2.2.2.1.getD i10.toNat ([]:qBs)]:List qBs).length<=qSE)) (grd (decide (0<=i10)&&decide (i10 < a3.2.2.2.2.length)) (grd (decide (out8.2.2.2.2.length+([a3.2.2.2.2.getD i10.toNat ([]:qBs)]:List qBs).length<=qSE)) (some (Ex.normal,(index1,num2,a3,t6,(out8.1,out8.2.1,out8.2.2.1,out8.2.2.2.1++([a3.2.2.2.1.getD i10.toNat ([]:qBs)]:List qBs),out8.2.2.2.2++([a3.2.2.2.2.getD i10.toNat ([]:qBs)]:List qBs)),true,qI (i10+1),())))))))
 (some (Ex.normal,(index1,num2,a3,t6,out8,true,qI (i10+1),())))))
 (some (Ex.normal,(index1,num2,a3,t6,out8,true,qI (i10+1),())))))
 (cond (decide (i10 < (a3.2.2.2.1.length:Int)))
 (grd (decide (0<=i10)&&decide (i10 < a3.2.2.2.1.length)) (
 cond (!((a3.2.2.2.1.getD i10.toNat ([]:qBs))==index1))
 (grd (decide (0<=i10)&&decide (i10 < a3.2.2.2.1.length)) (grd (decide (out8.2.2.2.1.length+([a3.2.2.2.1.getD i10.toNat ([]:qBs)]:List qBs).length<=qSE)) (grd (decide (0<=i10)&&decide (i10 < a3.2.2.2.2.length)) (grd (decide (out8.2.2.2.2.length+([a3.2.2.2.2.getD i10.toNat ([]:qBs)]:List qBs).length<=qSE)) (some (Ex.normal,(index1,num2,a3,t6,(out8.1,out8.2.1,out8.2.2.1,out8.2.2.2.1++([a3.2.2.2.1.getD i10.toNat ([]:qBs)]:List qBs),out8.2.2.2.2++([a3.2.2.2.2.getD i10.toNat ([]:qBs)]:List qBs)),put9,qI (i10+1),())))))))
 (some (Ex.normal,(index1,num2,a3,t6,out8,put9,qI (i10+1),())))))
 (some (Ex.normal,(index1,num2,a3,t6,out8,put9,qI (i10+1),())))))))
 (cond (decide (i10 < (a3.2.2.2.1.length:Int)))
 (grd (decide (0<=i10)&&decide (i10 < a3.2.2.2.1.length)) (
 cond (!((a3.2.2.2.1.getD i10.toNat ([]:qBs))==index1))
 (grd (decide (0<=i10)&&decide (i10 < a3.2.2.2.1.length)) (grd (decide (out8.2.2.2.1.length+([a3.2.2.2.1.getD i10.toNat ([]:qBs)]:List qBs).length<=qSE)) (grd (decide (0<=i10)&&decide (i10 < a3.2.2.2.2.length)) (grd (decide (out8.2.2.2.2.length+([a3.2.2.2.2.getD i10.toNat ([]:qBs)]:List qBs).length<=qSE)) (some (Ex.normal,(index1,num2,a3,t6,(out8.1,out8.2.1,out8.2.2.1,out8.2.2.2.1++([a3.2.2.2.1.getD i10.toNat ([]:qBs)]:List qBs),out8.2.2.2.2++([a3.2.2.2.2.getD i10.toNat ([]:qBs)]:List qBs)),put9,qI (i10+1),())))))))
 (some (Ex.normal,(index1,num2,a3,t6,out8,put9,qI (i10+1),())))))
 (some (Ex.normal,(index1,num2,a3,t6,out8,put9,qI (i10+1),())))))
 (some (Ex.exit 0,(index1,num2,a3,t6,out8,put9,i10,())))
def qUj (a0:Val) (index1:qBs) (num2:qBs):Option ((Val×Int×Unit)×Unit):=
 cond (a0.1 !=(4:Int))
 (some ((((0:Int),false,([]:qBs),([]:List qBs),([]:List qBs)),1,()),()))
 ((qBK a0).bind fun r1=>
 cond (!r1.1.1)
 (some ((((0:Int),false,([]:qBs),([]:List qBs),([]:List qBs)),1,()),()))
 ((qKF index1).bind fun r2=>
 cond (!r2.1.1)
 (some ((((0:Int),false,([]:qBs),([]:List qBs),([]:List qBs)),1,()),()))
 ((qKF num2).bind fun r3=>
 cond (!r3.1.1)
 (some ((((0:Int),false,([]:qBs),([]:List qBs),([]:List qBs)),1,()),()))
 ((qLA qTB (index1,num2,a0,((0:Int),false,([]:qBs),([]:List qBs),([]:List qBs)),(a0.1,false,a0.2.2.1,([]:List qBs),([]:List qBs)),false,0,())).bind fun y4=>
 cond (Ex.same y4.1 (Ex.exit 0))
 (some ((y4.2.2.2.2.2.1,0,()),()))
 (none)))))
def qIaj (a0:qBs) (b1:qBs):Option ((qBs×Unit)×Unit):=
 (qIF a0).bind fun r1=>
 (qIF b1).bind fun r2=>
 cond (!r1.1.2.1)
 (some ((([]:qBs),()),()))
 (cond (!r2.1.2.1)
 (some ((([]:qBs),()),()))
 (cond (r2.1.1.2.1==([48]:qBs))
 (some ((([]:qBs),()),()))
 ((qPL r1.1.1.2.1 r2.1.1.2.2).bind fun r3=>
 (qPL r1.1.1.2.2 r2.1.1.2.1).bind fun r4=>
 (qGH (!(r1.1.1.1==r2.1.1.1)) r3.1.1 r4.1.1).bind fun r5=>
 (qDB (r5.1.1.1,r5.1.1.2.1,r5.1.1.2.2)).bind fun r6=>
 some ((r6.1.1,()),()))))
def qGJ (c0:qJA):Option ((qBs×Unit)×(qJA×Unit)):=
 (qPB (c0.1,c0.2)).bind fun r1=>
 (qTA (r1.2.1.1,r1.2.1.2) 4).bind fun r2=>
 (qGM (qI ((1:Int)+r2.1.1))).bind fun r3=>
 (qIaj r1.1.1 r3.1.1).bind fun r4=>
 some ((r4.1.1,()),(r2.2.1.1,r2.2.1.2),())
def qWQ (c0:qJA) (sort1:Int):Option ((qBs×Unit)×(qJA×Unit)):=
 cond (sort1==2)
 ((qPB c0).bind fun r1=>
 some ((r1.1.1,()),r1.2.1,()))
 ((qGJ c0).bind fun r2=>
 some ((r2.1.1,()),r2.2.1,()))
def qDF (x:qJA×Val×Val×Int×Unit):Option (Ex×(qJA×Val×Val×Int×Unit)):=
 let c0:=x.1
 let t4:=x.2.1
 let v5:=x.2.2.1
 let n6:=x.2.2.2.1
 cond (decide (n6 > (0:Int)))
 ((qPB c0).bind fun r1=>
 (qPB r1.2.1).bind fun r2=>
 (qUj v5 r1.1.1 r2.1.1).bind fun r3=>
 some (Ex.normal,(r2.2.1,t4,r3.1.1,qI (n6 - (1:Int)),())))
 (some (Ex.exit 1,(c0,t4,v5,n6,())))
def qQF (c0:qJA) (sort1:Int):Option ((Val×Unit)×(qJA×Unit)):=
 cond (sort1==1)
 ((qTA c0 2).bind fun r1=>
 some (((sort1,r1.1.1==1,([]:qBs),([]:List qBs),([]:List qBs)),()),r1.2.1,()))
 (cond (sort1==4)
 ((qPB c0).bind fun r2=>
 (qTA r2.2.1 4).bind fun r3=>
 (qLA qDF (r3.2.1,((0:Int),false,([]:qBs),([]:List qBs),([]:List qBs)),(sort1,false,r2.1.1,([]:List qBs),([]:List qBs)),r3.1.1,())).bind fun y4=>
 cond (Ex.same y4.1 (Ex.exit 1))
 (some ((y4.2.2.2.1,()),y4.2.1,()))
 (none))
 ((qWQ c0 sort1).bind fun r5=>
 some (((sort1,false,r5.1.1,([]:List qBs),([]:List qBs)),()),r5.2.1,())))
def qDan (l0:List Int):Option ((Val×Unit)×Unit):=
 (qNai l0).bind fun r1=>
 (qTA r1.1.1 4).bind fun r2=>
 (qQF r2.2.1 (qI ((1:Int)+r2.1.1))).bind fun r3=>
 some ((r3.1.1,()),())
def qVaa (b0:Bool):Option (((List Nod)×Unit)×Unit):=
 cond (b0)
 (some ((([(1,(0:Int),([]:qBs),([]:qBs),(0:Int))]:List Nod),()),()))
 (some ((([(2,(0:Int),([]:qBs),([]:qBs),(0:Int))]:List Nod),()),()))
def qTZ:Option (((List qBs)×Unit)×Unit):=
 some ((([([97,110,100]:qBs),([111,114]:qBs),([110,111,116]:qBs),([105,116,101]:qBs),([116,114,117,101]:qBs),([102,97,108,115,101]:qBs),([108,101,116]:qBs),([102,111,114,97,108,108]:qBs),([101,120,105,115,116,115]:qBs),([100,105,115,116,105,110,99,116]:qBs),([100,105,118]:qBs),([109,111,100]:qBs),([115,101,108,101,99,116]:qBs),([115,116,111,114,101]:qBs),([99,111,110,115,116]:qBs),([66,111,111,108]:qBs),([73,110,116]:qBs),([82,101,97,108]:qBs),([65,114,114,97,121]:qBs)]:List qBs),()),())
def qNf (x:(List qBs)×qBs×Bool×Int×Unit):Option (Ex×((List qBs)×qBs×Bool×Int×Unit)):=
 let l0:=x.1
 let s1:=x.2.1
 let t4:=x.2.2.1
 let i5:=x.2.2.2.1
 cond (decide (i5 < (l0.length:Int)))
 (grd (decide (0<=i5)&&decide (i5 < l0.length)) (
 cond ((l0.getD i5.toNat ([]:qBs))==s1)
 (some (Ex.ret,(l0,s1,true,i5,())))
 (some (Ex.normal,(l0,s1,t4,qI (i5+1),())))))
 (some (Ex.exit 0,(l0,s1,t4,i5,())))
def r_in (l0:List qBs) (s1:qBs):Option ((Bool×Unit)×Unit):=
 (qLA qNf (l0,s1,false,0,())).bind fun y1=>
 cond (Ex.same y1.1 (Ex.exit 0))
 (some ((false,()),()))
 (cond (Ex.same y1.1 Ex.ret)
 (some ((y1.2.2.2.1,()),()))
 (none))
def qLc (c0:Int):Option ((Bool×Unit)×Unit):=
 cond (decide (c0>=97))
 (cond (decide (c0<=122))
 (some ((true,()),()))
 (cond (decide (c0>=65))
 (some ((decide (c0<=90),()),()))
 (some ((false,()),()))))
 (cond (decide (c0>=65))
 (some ((decide (c0<=90),()),()))
 (some ((false,()),())))
def qSS (x:qBs×Bool×Int×Unit):Option (Ex×(qBs×Bool×Int×Unit)):=
 let s0:=x.1
 let t2:=x.2.1
 let i3:=x.2.2.1
 cond (decide (i3 < (s0.length:Int)))
 (grd (decide (0<=i3)&&decide (i3 < s0.length)) (
 (qLc ((s0.getD i3.toNat 0).toNat:Int)).bind fun r1=>
 cond (r1.1.1)
 (some (Ex.normal,(s0,t2,qI (i3+1),())))
 (cond (((s0.getD i3.toNat 0).toNat:Int)==95)
 (some (Ex.normal,(s0,t2,qI (i3+1),())))
 (cond (((s0.getD i3.toNat 0).toNat:Int)==36)
 (some (Ex.normal,(s0,t2,qI (i3+1),())))
 (cond (!(((s0.getD i3.toNat 0).toNat:Int)==33))
 (cond (i3==0)
 (some (Ex.ret,(s0,false,i3,())))
 (cond (decide (((s0.getD i3.toNat 0).toNat:Int) < (48:Int)))
 (cond (((s0.getD i3.toNat 0).toNat:Int) !=(46:Int))
 (cond (((s0.getD i3.toNat 0).toNat:Int) !=(64:Int))
 (some (Ex.ret,(s0,false,i3,())))
 (some (Ex.normal,(s0,t2,qI (i3+1),()))))
 (some (Ex.normal,(s0,t2,qI (i3+1),()))))
 (cond (decide (((s0.getD i3.toNat 0).toNat:Int) > (57:Int)))
 (cond (((s0.getD i3.toNat 0).toNat:Int) !=(46:Int))
 (cond (((s0.getD i3.toNat 0).toNat:Int) !=(64:Int))
 (some (Ex.ret,(s0,false,i3,())))
 (some (Ex.normal,(s0,t2,qI (i3+1),()))))
 (some (Ex.normal,(s0,t2,qI (i3+1),()))))
 (some (Ex.normal,(s0,t2,qI (i3+1),()))))))
 (some (Ex.normal,(s0,t2,qI (i3+1),()))))))))
 (some (Ex.exit 0,(s0,t2,i3,())))
def qMl (s0:qBs):Option ((Bool×Unit)×Unit):=
 cond (s0==([]:qBs))
 (some ((false,()),()))
 (cond (decide ((s0.length:Int) > (40:Int)))
 (some ((false,()),()))
 (qTZ.bind fun r1=>
 (r_in r1.1.1 s0).bind fun r2=>
 cond (r2.1.1)
 (some ((false,()),()))
 ((qLA qSS (s0,false,0,())).bind fun y3=>
 cond (Ex.same y3.1 (Ex.exit 0))
 (some ((true,()),()))
 (cond (Ex.same y3.1 Ex.ret)
 (some ((y3.2.2.1,()),()))
 (none)))))
def qPc (s0:Int):Option ((Bool×Unit)×Unit):=
 cond (decide (s0>=1))
 (some ((decide (s0<=4),()),()))
 (some ((false,()),()))
def qVb (x0:Nod):Option ((Bool×Unit)×Unit):=
 cond (x0.1==3)
 (cond (x0.2.2.1==([]:qBs))
 (cond (x0.2.1==2)
 ((qKF x0.2.2.2.1).bind fun r1=>
 cond (r1.1.1)
 (some ((true,()),()))
 (cond (x0.2.1==3)
 ((qRM x0.2.2.2.1).bind fun r2=>
 some ((r2.1.1,()),()))
 (some ((false,()),()))))
 (cond (x0.2.1==3)
 ((qRM x0.2.2.2.1).bind fun r3=>
 some ((r3.1.1,()),()))
 (some ((false,()),()))))
 (some ((false,()),())))
 (cond (x0.1==4)
 (cond (x0.2.2.2.1==([]:qBs))
 ((qMl x0.2.2.1).bind fun r4=>
 cond (r4.1.1)
 ((qPc x0.2.1).bind fun r5=>
 some ((r5.1.1,()),()))
 (some ((false,()),())))
 (some ((false,()),())))
 (cond (x0.1==5)
 (cond (x0.2.2.2.1==([]:qBs))
 ((qMl x0.2.2.1).bind fun r6=>
 cond (r6.1.1)
 ((qPc x0.2.1).bind fun r7=>
 some ((r7.1.1,()),()))
 (some ((false,()),())))
 (some ((false,()),())))
 (cond (x0.1==16)
 (cond (x0.2.1==0)
 (cond (x0.2.2.1==([]:qBs))
 ((qKF x0.2.2.2.1).bind fun r8=>
 cond (r8.1.1)
 ((qRf x0.2.2.2.1).bind fun r9=>
 some ((decide (r9.1.1 > (0:Int)),()),()))
 (some ((false,()),())))
 (some ((false,()),())))
 (some ((false,()),())))
 (cond (x0.1==17)
 (cond (x0.2.1==0)
 (cond (x0.2.2.1==([]:qBs))
 ((qKF x0.2.2.2.1).bind fun r10=>
 cond (r10.1.1)
 ((qRf x0.2.2.2.1).bind fun r11=>
 some ((decide (r11.1.1 > (0:Int)),()),()))
 (some ((false,()),())))
 (some ((false,()),())))
 (some ((false,()),())))
 (cond (decide (x0.1>=1))
 (cond (decide (x0.1<=20))
 (cond (x0.2.1==0)
 (cond (x0.2.2.1==([]:qBs))
 (some ((x0.2.2.2.1==([]:qBs),()),()))
 (some ((false,()),())))
 (some ((false,()),())))
 (some ((false,()),())))
 (some ((false,()),())))))))
def qRc (op0:Int) (n1:Int):Option ((Bool×Unit)×Unit):=
 cond (op0==1)
 (some ((n1==0,()),()))
 (cond (op0==2)
 (some ((n1==0,()),()))
 (cond (op0==3)
 (some ((n1==0,()),()))
 (cond (op0==4)
 (some ((n1==0,()),()))
 (cond (op0==5)
 (cond (decide (n1>=1))
 (some ((decide (n1<=40),()),()))
 (some ((false,()),())))
 (cond (op0==6)
 (some ((n1==1,()),()))
 (cond (op0==16)
 (some ((n1==1,()),()))
 (cond (op0==17)
 (some ((n1==1,()),()))
 (cond (op0==20)
 (some ((n1==1,()),()))
 (cond (op0==7)
 (some ((decide (n1>=0),()),()))
 (cond (op0==8)
 (some ((decide (n1>=0),()),()))
 (cond (op0==10)
 (some ((n1==3,()),()))
 (cond (op0==19)
 (some ((n1==3,()),()))
 (cond (op0==14)
 (some ((decide (n1>=1),()),()))
 (some ((n1==2,()),())))))))))))))))
def qCT (x:(List Int)×Int×Int×Int×Int×Unit):Option (Ex×((List Int)×Int×Int×Int×Int×Unit)):=
 let s0:=x.1
 let sort1:=x.2.1
 let out2:=x.2.2.1
 let t6:=x.2.2.2.1
 let i7:=x.2.2.2.2.1
 cond (decide (i7 < (s0.length:Int)))
 (grd (decide (0<=i7)&&decide (i7 < s0.length)) (
 cond ((s0.getD i7.toNat (0:Int)) !=sort1)
 (some (Ex.ret,(s0,sort1,out2,0,i7,())))
 (some (Ex.normal,(s0,sort1,out2,t6,qI (i7+1),())))))
 (some (Ex.exit 0,(s0,sort1,out2,t6,i7,())))
def qTN (s0:List Int) (sort1:Int) (out2:Int):Option ((Int×Unit)×Unit):=
 (qLA qCT (s0,sort1,out2,0,0,())).bind fun y1=>
 cond (Ex.same y1.1 (Ex.exit 0))
 (some ((y1.2.2.2.1,()),()))
 (cond (Ex.same y1.1 Ex.ret)
 (some ((y1.2.2.2.2.1,()),()))
 (none))
def qKS (s0:Int):Option ((Bool×Unit)×Unit):=
 cond (s0==2)
 (some ((true,()),()))
 (some ((s0==3,()),()))
def qOX (x0:Nod) (first1:Int) (s2:List Int):Option ((Int×Unit)×Unit):=
 cond (x0.1==1)
 (some ((1,()),()))
 (cond (x0.1==2)
 (some ((1,()),()))
 (cond (x0.1==3)
 (some ((x0.2.1,()),()))
 (cond (x0.1==4)
 (some ((x0.2.1,()),()))
 (cond (x0.1==5)
 (some ((x0.2.1,()),()))
 (cond (x0.1==6)
 ((qTN s2 1 1).bind fun r1=>
 some ((r1.1.1,()),()))
 (cond (x0.1==7)
 ((qTN s2 1 1).bind fun r2=>
 some ((r2.1.1,()),()))
 (cond (x0.1==8)
 ((qTN s2 1 1).bind fun r3=>
 some ((r3.1.1,()),()))
 (cond (x0.1==9)
 ((qTN s2 1 1).bind fun r4=>
 some ((r4.1.1,()),()))
 (cond (x0.1==10)
 (grd (decide (0<=(0:Int))&&decide ((0:Int) < s2.length)) (
 cond ((s2.getD (0:Int).toNat (0:Int))==1)
 (grd (decide (0<=(1:Int))&&decide ((1:Int) < s2.length)) (
 grd (decide (0<=(2:Int))&&decide ((2:Int) < s2.length)) (
 cond ((s2.getD (1:Int).toNat (0:Int))==(s2.getD (2:Int).toNat (0:Int)))
 (grd (decide (0<=(1:Int))&&decide ((1:Int) < s2.length)) (some ((s2.getD (1:Int).toNat (0:Int),()),())))
 (some ((0,()),())))))
 (some ((0,()),()))))
 (cond (x0.1==11)
 (grd (decide (0<=(0:Int))&&decide ((0:Int) < s2.length)) (
 (qTN s2 (s2.getD (0:Int).toNat (0:Int)) 1).bind fun r5=>
 some ((r5.1.1,()),())))
 (cond (x0.1==12)
 (grd (decide (0<=(0:Int))&&decide ((0:Int) < s2.length)) (
 (qKS (s2.getD (0:Int).toNat (0:Int))).bind fun r6=>
 cond (r6.1.1)
 (grd (decide (0<=(0:Int))&&decide ((0:Int) < s2.length)) (
 (qTN s2 (s2.getD (0:Int).toNat (0:Int)) 1).bind fun r7=>
 some ((r7.1.1,()),())))
 (some ((0,()),()))))
 (cond (x0.1==13)
 (grd (decide (0<=(0:Int))&&decide ((0:Int) < s2.length)) (
 (qKS (s2.getD (0:Int).toNat (0:Int))).bind fun r8=>
 cond (r8.1.1)
 (grd (decide (0<=(0:Int))&&decide ((0:Int) < s2.length)) (
 (qTN s2 (s2.getD (0:Int).toNat (0:Int)) 1).bind fun r9=>
 some ((r9.1.1,()),())))
 (some ((0,()),()))))
 (cond (x0.1==14)
 (grd (decide (0<=(0:Int))&&decide ((0:Int) < s2.length)) (
 (qKS (s2.getD (0:Int).toNat (0:Int))).bind fun r10=>
 cond (r10.1.1)
 (grd (decide (0<=(0:Int))&&decide ((0:Int) < s2.length)) (
 grd (decide (0<=(0:Int))&&decide ((0:Int) < s2.length)) (
 (qTN s2 (s2.getD (0:Int).toNat (0:Int)) (s2.getD (0:Int).toNat (0:Int))).bind fun r11=>
 some ((r11.1.1,()),()))))
 (some ((0,()),()))))
 (cond (x0.1==15)
 (cond (first1==3)
 (grd (decide (0<=(0:Int))&&decide ((0:Int) < s2.length)) (
 grd (decide (0<=(0:Int))&&decide ((0:Int) < s2.length)) (
 (qTN s2 (s2.getD (0:Int).toNat (0:Int)) (s2.getD (0:Int).toNat (0:Int))).bind fun r12=>
 some ((r12.1.1,()),()))))
 (some ((0,()),())))
 (cond (x0.1==16)
 ((qTN s2 2 2).bind fun r13=>
 some ((r13.1.1,()),()))
 (cond (x0.1==17)
 ((qTN s2 2 2).bind fun r14=>
 some ((r14.1.1,()),()))
 (cond (x0.1==20)
 ((qTN s2 2 4).bind fun r15=>
 some ((r15.1.1,()),()))
 (cond (x0.1==18)
 (grd (decide (0<=(0:Int))&&decide ((0:Int) < s2.length)) (
 cond ((s2.getD (0:Int).toNat (0:Int))==4)
 (grd (decide (0<=(1:Int))&&decide ((1:Int) < s2.length)) (
 cond ((s2.getD (1:Int).toNat (0:Int))==2)
 (some ((2,()),()))
 (some ((0,()),()))))
 (some ((0,()),()))))
 (cond (x0.1==19)
 (grd (decide (0<=(0:Int))&&decide ((0:Int) < s2.length)) (
 cond ((s2.getD (0:Int).toNat (0:Int))==4)
 (grd (decide (0<=(1:Int))&&decide ((1:Int) < s2.length)) (
 cond ((s2.getD (1:Int).toNat (0:Int))==2)
 (grd (decide (0<=(2:Int))&&decide ((2:Int) < s2.length)) (
 cond ((s2.getD (2:Int).toNat (0:Int))==2)
 (some ((4,()),()))
 (some ((0,()),()))))
 (some ((0,()),()))))
 (some ((0,()),()))))
 (some ((0,()),())))))))))))))))))))))
def qDM (qUaz:List Nod->Int->Int->Option ((Int×Int×Unit)×Unit)) (x:(List Nod)×Int×Int×Int×Int×(List Int)×Int×Bool×Int×Unit):Option (Ex×((List Nod)×Int×Int×Int×Int×(List Int)×Int×Bool×Int×Unit)):=
 let t0:=x.1
 let i1:=x.2.1
 let depth2:=x.2.2.1
 let t6:=x.2.2.2.1
 let t7:=x.2.2.2.2.1
 let s8:=x.2.2.2.2.2.1
 let end9:=x.2.2.2.2.2.2.1
 let good10:=x.2.2.2.2.2.2.2.1
 let k11:=x.2.2.2.2.2.2.2.2.1
 grd (decide (0<=i1)&&decide (i1 < t0.length)) (
 cond (decide (k11 < (((((t0.getD i1.toNat qPC).2).2).2).2)))
 ((qUaz t0 end9 (qI (depth2+1))).bind fun r1=>
 cond (decide (r1.1.1 < (0:Int)))
 (some (Ex.ret,(t0,i1,depth2,-1,0,s8,r1.1.1,good10,k11,())))
 (cond (good10)
 (grd (decide (s8.length+([r1.1.2.1]:List Int).length<=qSE)) (some (Ex.normal,(t0,i1,depth2,t6,t7,s8++([r1.1.2.1]:List Int),r1.1.1,decide (r1.1.2.1 > (0:Int)),qI (k11+1),()))))
 (grd (decide (s8.length+([r1.1.2.1]:List Int).length<=qSE)) (some (Ex.normal,(t0,i1,depth2,t6,t7,s8++([r1.1.2.1]:List Int),r1.1.1,false,qI (k11+1),()))))))
 (some (Ex.exit 0,(t0,i1,depth2,t6,t7,s8,end9,good10,k11,()))))
def qDc (qUaz:List Nod->Int->Int->Option ((Int×Int×Unit)×Unit)) (t0:List Nod) (i1:Int) (depth2:Int):Option ((Int×Int×Unit)×Unit):=
 cond (decide (i1>=(t0.length:Int)))
 (some ((-1,0,()),()))
 (cond (decide (depth2 > (256:Int)))
 (some ((-1,0,()),()))
 (grd (decide (0<=i1)&&decide (i1 < t0.length)) (
 (qVb (t0.getD i1.toNat qPC)).bind fun r1=>
 cond (!r1.1.1)
 (some ((-1,0,()),()))
 (grd (decide (0<=i1)&&decide (i1 < t0.length)) (
 grd (decide (0<=i1)&&decide (i1 < t0.length)) (
 (qRc ((t0.getD i1.toNat qPC).1) (((((t0.getD i1.toNat qPC).2).2).2).2)).bind fun r2=>
 cond (!r2.1.1)
 (some ((-1,0,()),()))
 (grd (decide (0<=i1)&&decide (i1 < t0.length)) (
 cond (decide ((((((t0.getD i1.toNat qPC).2).2).2).2) > (t0.length:Int)))
 (some ((-1,0,()),()))
 ((qLA (qDM qUaz) (t0,i1,depth2,0,0,([]:List Int),qI (i1+1),true,0,())).bind fun y3=>
 cond (Ex.same y3.1 (Ex.exit 0))
 (cond (!y3.2.2.2.2.2.2.2.2.1)
 (some ((y3.2.2.2.2.2.2.2.1,0,()),()))
 (cond (decide ((y3.2.2.2.2.2.2.1.length:Int) > (0:Int)))
 (grd (decide (0<=qI (y3.2.2.1+1))&&decide (qI (y3.2.2.1+1) < y3.2.1.length)) (
 grd (decide (0<=y3.2.2.1)&&decide (y3.2.2.1 < y3.2.1.length)) (
 (qOX (y3.2.1.getD y3.2.2.1.toNat qPC) ((y3.2.1.getD (qI (y3.2.2.1+1)).toNat qPC).1) y3.2.2.2.2.2.2.1).bind fun r4=>
 some ((y3.2.2.2.2.2.2.2.1,r4.1.1,()),()))))
 (grd (decide (0<=y3.2.2.1)&&decide (y3.2.2.1 < y3.2.1.length)) (
 (qOX (y3.2.1.getD y3.2.2.1.toNat qPC) 0 y3.2.2.2.2.2.2.1).bind fun r5=>
 some ((y3.2.2.2.2.2.2.2.1,r5.1.1,()),())))))
 (cond (Ex.same y3.1 Ex.ret)
 (some ((y3.2.2.2.2.1,y3.2.2.2.2.2.1,()),()))
 (none)))))))))))
def qSY:Nat->List Nod->Int->Int->Option ((Int×Int×Unit)×Unit)
 |0=>fun _ _ _=>none
 |n+1=>qDc (qSY n)
def qRF (x:(List Nod)×Int×(List Int)×Int×Int×Unit):Option (Ex×((List Nod)×Int×(List Int)×Int×Int×Unit)):=
 let t0:=x.1
 let i1:=x.2.1
 let out5:=x.2.2.1
 let at6:=x.2.2.2.1
 let k7:=x.2.2.2.2.1
 grd (decide (0<=i1)&&decide (i1 < t0.length)) (
 cond (decide (k7 < (((((t0.getD i1.toNat qPC).2).2).2).2)))
 ((qSY big t0 at6 0).bind fun r1=>
 grd (decide (out5.length+([r1.1.2.1]:List Int).length<=qSE)) (some (Ex.normal,(t0,i1,out5++([r1.1.2.1]:List Int),r1.1.1,qI (k7+1),()))))
 (some (Ex.exit 0,(t0,i1,out5,at6,k7,()))))
def qOP (t0:List Nod) (i1:Int):Option (((List Int)×Unit)×Unit):=
 (qLA qRF (t0,i1,([]:List Int),qI (i1+1),0,())).bind fun y1=>
 cond (Ex.same y1.1 (Ex.exit 0))
 (some ((y1.2.2.2.1,()),()))
 (none)
def qWb (t0:List Nod) (i1:Int):Option (((qBs×qJA)×Unit)×Unit):=
 grd (decide (0<=i1)&&decide (i1 < t0.length)) (
 (qOP t0 i1).bind fun r1=>
 grd (decide (0<=i1)&&decide (i1 < t0.length)) (some ((((((t0.getD i1.toNat qPC).2).2).1,r1.1.1,((t0.getD i1.toNat qPC).2).1),()),())))
def qVI (x:(List Int)×(List Int)×Bool×Int×Unit):Option (Ex×((List Int)×(List Int)×Bool×Int×Unit)):=
 let a0:=x.1
 let b1:=x.2.1
 let t4:=x.2.2.1
 let i5:=x.2.2.2.1
 cond (decide (i5 < (a0.length:Int)))
 (grd (decide (0<=i5)&&decide (i5 < a0.length)) (
 grd (decide (0<=i5)&&decide (i5 < b1.length)) (
 cond ((a0.getD i5.toNat (0:Int)) !=(b1.getD i5.toNat (0:Int)))
 (some (Ex.ret,(a0,b1,false,i5,())))
 (some (Ex.normal,(a0,b1,t4,qI (i5+1),()))))))
 (some (Ex.exit 0,(a0,b1,t4,i5,())))
def qAR (a0:List Int) (b1:List Int):Option ((Bool×Unit)×Unit):=
 cond ((a0.length:Int) !=(b1.length:Int))
 (some ((false,()),()))
 ((qLA qVI (a0,b1,false,0,())).bind fun y1=>
 cond (Ex.same y1.1 (Ex.exit 0))
 (some ((true,()),()))
 (cond (Ex.same y1.1 Ex.ret)
 (some ((y1.2.2.2.1,()),()))
 (none)))
def qHG (x:(List Nod)×Bool×(List Vr)×(List (qBs×qJA))×Int×Bool×Int×Unit):Option (Ex×((List Nod)×Bool×(List Vr)×(List (qBs×qJA))×Int×Bool×Int×Unit)):=
 let t0:=x.1
 let t2:=x.2.1
 let vars3:=x.2.2.1
 let funcs4:=x.2.2.2.1
 let i5:=x.2.2.2.2.1
 let known6:=x.2.2.2.2.2.1
 let k7:=x.2.2.2.2.2.2.1
 cond (decide (k7 < (vars3.length:Int)))
 (grd (decide (0<=k7)&&decide (k7 < vars3.length)) (
 grd (decide (k7.toNat < vars3.length)) (
 grd (decide (0<=i5)&&decide (i5 < t0.length)) (
 cond (((vars3.getD k7.toNat zVr).1)==((((t0.getD i5.toNat qPC).2).2).1))
 (grd (decide (0<=k7)&&decide (k7 < vars3.length)) (
 grd (decide (k7.toNat < vars3.length)) (
 grd (decide (0<=i5)&&decide (i5 < t0.length)) (
 cond (((vars3.getD k7.toNat zVr).2) !=(((t0.getD i5.toNat qPC).2).1))
 (some (Ex.ret,(t0,false,vars3,funcs4,i5,true,k7,())))
 (some (Ex.normal,(t0,t2,vars3,funcs4,i5,true,qI (k7+1),())))))))
 (some (Ex.normal,(t0,t2,vars3,funcs4,i5,known6,qI (k7+1),())))))))
 (some (Ex.exit 3,(t0,t2,vars3,funcs4,i5,known6,k7,())))
def qIG (x:(List Nod)×Bool×(List Vr)×(List (qBs×qJA))×Int×(qBs×qJA)×Bool×Int×Unit):Option (Ex×((List Nod)×Bool×(List Vr)×(List (qBs×qJA))×Int×(qBs×qJA)×Bool×Int×Unit)):=
 let t0:=x.1
 let t2:=x.2.1
 let vars3:=x.2.2.1
 let funcs4:=x.2.2.2.1
 let i5:=x.2.2.2.2.1
 let f8:=x.2.2.2.2.2.1
 let known9:=x.2.2.2.2.2.2.1
 let k10:=x.2.2.2.2.2.2.2.1
 cond (decide (k10 < (funcs4.length:Int)))
 (grd (decide (0<=k10)&&decide (k10 < funcs4.length)) (
 grd (decide (k10.toNat < funcs4.length)) (
 cond (((funcs4.getD k10.toNat (([]:qBs),([]:List Int),(0:Int))).1)==f8.1)
 (grd (decide (0<=k10)&&decide (k10 < funcs4.length)) (
 grd (decide (k10.toNat < funcs4.length)) (
 cond ((((funcs4.getD k10.toNat (([]:qBs),([]:List Int),(0:Int))).2).2) !=f8.2.2)
 (some (Ex.ret,(t0,false,vars3,funcs4,i5,f8,true,k10,())))
 (grd (decide (0<=k10)&&decide (k10 < funcs4.length)) (
 grd (decide (k10.toNat < funcs4.length)) (
 (qAR (((funcs4.getD k10.toNat (([]:qBs),([]:List Int),(0:Int))).2).1) f8.2.1).bind fun r1=>
 cond (!r1.1.1)
 (some (Ex.ret,(t0,false,vars3,funcs4,i5,f8,true,k10,())))
 (some (Ex.normal,(t0,t2,vars3,funcs4,i5,f8,true,qI (k10+1),())))))))))
 (some (Ex.normal,(t0,t2,vars3,funcs4,i5,f8,known9,qI (k10+1),()))))))
 (some (Ex.exit 5,(t0,t2,vars3,funcs4,i5,f8,known9,k10,())))
def qAG (x:(List Nod)×Bool×(List Vr)×(List (qBs×qJA))×Int×Unit):Option (Ex×((List Nod)×Bool×(List Vr)×(List (qBs×qJA))×Int×Unit)):=
 let t0:=x.1
 let t2:=x.2.1
 let vars3:=x.2.2.1
 let funcs4:=x.2.2.2.1
 let i5:=x.2.2.2.2.1
 cond (decide (i5 < (t0.length:Int)))
 (grd (decide (0<=i5)&&decide (i5 < t0.length)) (
 cond (((t0.getD i5.toNat qPC).1)==4)
 ((qLA qHG (t0,t2,vars3,funcs4,i5,false,0,())).bind fun y1=>
 cond (Ex.same y1.1 (Ex.exit 3))
 (cond (!y1.2.2.2.2.2.2.1)
 (grd (decide (0<=y1.2.2.2.2.2.1)&&decide (y1.2.2.2.2.2.1 < y1.2.1.length)) (grd (decide (0<=y1.2.2.2.2.2.1)&&decide (y1.2.2.2.2.2.1 < y1.2.1.length)) (grd (decide (y1.2.2.2.1.length+([((((y1.2.1.getD y1.2.2.2.2.2.1.toNat qPC).2).2).1,((y1.2.1.getD y1.2.2.2.2.2.1.toNat qPC).2).1)]:List Vr).length<=qSE)) (some (Ex.normal,(y1.2.1,y1.2.2.1,y1.2.2.2.1++([((((y1.2.1.getD y1.2.2.2.2.2.1.toNat qPC).2).2).1,((y1.2.1.getD y1.2.2.2.2.2.1.toNat qPC).2).1)]:List Vr),y1.2.2.2.2.1,qI (y1.2.2.2.2.2.1+1),()))))))
 (some (Ex.normal,(y1.2.1,y1.2.2.1,y1.2.2.2.1,y1.2.2.2.2.1,qI (y1.2.2.2.2.2.1+1),()))))
 (cond (Ex.same y1.1 Ex.ret)
 (some (Ex.ret,(y1.2.1,y1.2.2.1,y1.2.2.2.1,y1.2.2.2.2.1,y1.2.2.2.2.2.1,())))
 (none)))
 (cond (((t0.getD i5.toNat qPC).1)==5)
 ((qWb t0 i5).bind fun r2=>
 (qLA qIG (t0,t2,vars3,funcs4,i5,r2.1.1,false,0,())).bind fun y3=>
 cond (Ex.same y3.1 (Ex.exit 5))
 (cond (!y3.2.2.2.2.2.2.2.1)
 (grd (decide (y3.2.2.2.2.1.length+([y3.2.2.2.2.2.2.1]:List (qBs×qJA)).length<=qSE)) (some (Ex.normal,(y3.2.1,y3.2.2.1,y3.2.2.2.1,y3.2.2.2.2.1++([y3.2.2.2.2.2.2.1]:List (qBs×qJA)),qI (y3.2.2.2.2.2.1+1),()))))
 (some (Ex.normal,(y3.2.1,y3.2.2.1,y3.2.2.2.1,y3.2.2.2.2.1,qI (y3.2.2.2.2.2.1+1),()))))
 (cond (Ex.same y3.1 Ex.ret)
 (some (Ex.ret,(y3.2.1,y3.2.2.1,y3.2.2.2.1,y3.2.2.2.2.1,y3.2.2.2.2.2.1,())))
 (none)))
 (some (Ex.normal,(t0,t2,vars3,funcs4,qI (i5+1),()))))))
 (some (Ex.exit 0,(t0,t2,vars3,funcs4,i5,())))
def qDG (x:Bool×(List Vr)×(List (qBs×qJA))×Int×Int×Unit):Option (Ex×(Bool×(List Vr)×(List (qBs×qJA))×Int×Int×Unit)):=
 let t2:=x.1
 let vars3:=x.2.1
 let funcs4:=x.2.2.1
 let i11:=x.2.2.2.1
 let k12:=x.2.2.2.2.1
 cond (decide (k12 < (funcs4.length:Int)))
 (grd (decide (0<=i11)&&decide (i11 < vars3.length)) (
 grd (decide (i11.toNat < vars3.length)) (
 grd (decide (0<=k12)&&decide (k12 < funcs4.length)) (
 grd (decide (k12.toNat < funcs4.length)) (
 cond (((vars3.getD i11.toNat zVr).1)==((funcs4.getD k12.toNat (([]:qBs),([]:List Int),(0:Int))).1))
 (some (Ex.ret,(false,vars3,funcs4,i11,k12,())))
 (some (Ex.normal,(t2,vars3,funcs4,i11,qI (k12+1),()))))))))
 (some (Ex.exit 9,(t2,vars3,funcs4,i11,k12,())))
def qCF (x:Bool×(List Vr)×(List (qBs×qJA))×Int×Unit):Option (Ex×(Bool×(List Vr)×(List (qBs×qJA))×Int×Unit)):=
 let t2:=x.1
 let vars3:=x.2.1
 let funcs4:=x.2.2.1
 let i11:=x.2.2.2.1
 cond (decide (i11 < (vars3.length:Int)))
 ((qLA qDG (t2,vars3,funcs4,i11,0,())).bind fun y1=>
 cond (Ex.same y1.1 (Ex.exit 9))
 (some (Ex.normal,(y1.2.1,y1.2.2.1,y1.2.2.2.1,qI (y1.2.2.2.2.1+1),())))
 (cond (Ex.same y1.1 Ex.ret)
 (some (Ex.ret,(y1.2.1,y1.2.2.1,y1.2.2.2.1,y1.2.2.2.2.1,())))
 (none)))
 (some (Ex.exit 7,(t2,vars3,funcs4,i11,())))
def qGX (t0:List Nod):Option ((Bool×Unit)×Unit):=
 (qLA qAG (t0,false,([]:List Vr),([]:List (qBs×qJA)),0,())).bind fun y1=>
 cond (Ex.same y1.1 (Ex.exit 0))
 ((qLA qCF (y1.2.2.1,y1.2.2.2.1,y1.2.2.2.2.1,0,())).bind fun y2=>
 cond (Ex.same y2.1 (Ex.exit 7))
 (some ((true,()),()))
 (cond (Ex.same y2.1 Ex.ret)
 (some ((y2.2.1,()),()))
 (none)))
 (cond (Ex.same y1.1 Ex.ret)
 (some ((y1.2.2.1,()),()))
 (none))
def qLX (t0:List Nod):Option ((Int×Unit)×Unit):=
 cond (decide ((t0.length:Int) > (20000:Int)))
 (some ((0,()),()))
 ((qSY big t0 0 0).bind fun r1=>
 cond (r1.1.1 !=(t0.length:Int))
 (some ((0,()),()))
 (cond (r1.1.2.1==0)
 (some ((0,()),()))
 ((qGX t0).bind fun r2=>
 cond (!r2.1.1)
 (some ((0,()),()))
 (some ((r1.1.2.1,()),())))))
def qHL (t0:List Nod):Option ((Bool×Unit)×Unit):=
 (qLX t0).bind fun r1=>
 some ((decide (r1.1.1 > (0:Int)),()),())
def qLC (x:Val×(List Nod)×Int×(List Nod)×Int×Unit):Option (Ex×(Val×(List Nod)×Int×(List Nod)×Int×Unit)):=
 let v1:=x.1
 let t2:=x.2.1
 let t3:=x.2.2.1
 let t4:=x.2.2.2.1
 let i5:=x.2.2.2.2.1
 cond (decide (i5 < (v1.2.2.2.1.length:Int)))
 (cond (decide ((t4.length:Int) > (20000:Int)))
 (some (Ex.ret,(v1,([]:List Nod),6,t4,i5,())))
 (grd (decide (0<=i5)&&decide (i5 < v1.2.2.2.1.length)) (
 (qGT 2 (v1.2.2.2.1.getD i5.toNat ([]:qBs))).bind fun r1=>
 grd (decide (0<=i5)&&decide (i5 < v1.2.2.2.2.length)) (
 (qGT 2 (v1.2.2.2.2.getD i5.toNat ([]:qBs))).bind fun r2=>
 (qWh (19,(0:Int),([]:qBs),([]:qBs),(0:Int)) ([t4,r1.1.1,r2.1.1]:List (List Nod))).bind fun r3=>
 some (Ex.normal,(v1,t2,t3,r3.1.1,qI (i5+1),()))))))
 (some (Ex.exit 1,(v1,t2,t3,t4,i5,())))
def qJF (v0:Val):Option (((List Nod)×Int×Unit)×Unit):=
 (qBK v0).bind fun r1=>
 cond (!r1.1.1)
 (some ((([]:List Nod),1,()),()))
 (cond (v0.1==1)
 ((qVaa v0.2.1).bind fun r2=>
 some ((r2.1.1,0,()),()))
 (cond (v0.1==2)
 ((qGT v0.1 v0.2.2.1).bind fun r3=>
 some ((r3.1.1,0,()),()))
 (cond (v0.1==3)
 ((qGT v0.1 v0.2.2.1).bind fun r4=>
 some ((r4.1.1,0,()),()))
 ((qGT 2 v0.2.2.1).bind fun r5=>
 (qWh (20,(0:Int),([]:qBs),([]:qBs),(0:Int)) ([r5.1.1]:List (List Nod))).bind fun r6=>
 (qLA qLC (v0,([]:List Nod),0,r6.1.1,0,())).bind fun y7=>
 cond (Ex.same y7.1 (Ex.exit 1))
 ((qHL y7.2.2.2.2.1).bind fun r8=>
 cond (!r8.1.1)
 (some ((([]:List Nod),6,()),()))
 (some ((y7.2.2.2.2.1,0,()),())))
 (cond (Ex.same y7.1 Ex.ret)
 (some ((y7.2.2.1,y7.2.2.2.1,()),()))
 (none))))))
def qLr (a0:Int) (b1:Int):Option ((Int×Unit)×Unit):=
 cond (decide (a0 < b1))
 (some ((-1,()),()))
 (cond (decide (a0 > b1))
 (some ((1,()),()))
 (some ((0,()),())))
def qHT (a0:qBs) (b1:qBs):Option ((Int×Unit)×Unit):=
 cond (qTV a0 b1)
 (some ((-1,()),()))
 (cond (!(qTV a0 b1||a0==b1))
 (some ((1,()),()))
 (some ((0,()),())))
def qVS (x:(List Nod)×(List Nod)×Int×Int×Unit):Option ((List Nod)×(List Nod)×Int×Int×Nod×Nod×Unit):=
 let a0:=x.1
 let b1:=x.2.1
 let t4:=x.2.2.1
 let i5:=x.2.2.2.1
 grd (decide (0<=i5)&&decide (i5 < a0.length)) (grd (decide (0<=i5)&&decide (i5 < b1.length)) (some (a0,b1,t4,i5,a0.getD i5.toNat qPC,b1.getD i5.toNat qPC,())))
def qHD (x:(List Nod)×(List Nod)×Int×Int×(Option (Int×Int×Int×Sml))×Int×Unit):Option (Ex×((List Nod)×(List Nod)×Int×Int×(Option (Int×Int×Int×Sml))×Int×Unit)):=
 let a0:=x.1
 let b1:=x.2.1
 let t4:=x.2.2.1
 let i5:=x.2.2.2.1
 let c8:=x.2.2.2.2.1
 let k9:=x.2.2.2.2.2.1
 cond (decide (k9 < (5:Int)))
 (grd (c8.isSome) (
 grd (decide (0<=k9)&&decide (k9 < (5:Nat))) (
 cond ((([(c8.getD ((0:Int),(0:Int),(0:Int),(0:Int),(0:Int))).1,((c8.getD ((0:Int),(0:Int),(0:Int),(0:Int),(0:Int))).2).1,(((c8.getD ((0:Int),(0:Int),(0:Int),(0:Int),(0:Int))).2).2).1,((((c8.getD ((0:Int),(0:Int),(0:Int),(0:Int),(0:Int))).2).2).2).1,((((c8.getD ((0:Int),(0:Int),(0:Int),(0:Int),(0:Int))).2).2).2).2]:List Int).getD k9.toNat (0:Int)) !=(0:Int))
 (grd (c8.isSome) (grd (decide (0<=k9)&&decide (k9 < (5:Nat))) (some (Ex.ret,(a0,b1,([(c8.getD ((0:Int),(0:Int),(0:Int),(0:Int),(0:Int))).1,((c8.getD ((0:Int),(0:Int),(0:Int),(0:Int),(0:Int))).2).1,(((c8.getD ((0:Int),(0:Int),(0:Int),(0:Int),(0:Int))).2).2).1,((((c8.getD ((0:Int),(0:Int),(0:Int),(0:Int),(0:Int))).2).2).2).1,((((c8.getD ((0:Int),(0:Int),(0:Int),(0:Int),(0:Int))).2).2).2).2]:List Int).getD k9.toNat (0:Int),i5,c8,k9,())))))
 (some (Ex.normal,(a0,b1,t4,i5,c8,qI (k9+1),()))))))
 (some (Ex.exit 2,(a0,b1,t4,i5,c8,k9,())))
def qSH (x:(List Nod)×(List Nod)×Int×Int×Unit):Option (Ex×((List Nod)×(List Nod)×Int×Int×Unit)):=
 let a0:=x.1
 let b1:=x.2.1
 let t4:=x.2.2.1
 let i5:=x.2.2.2.1
 cond (decide (i5 < (a0.length:Int)))
 (cond (decide (i5 < (b1.length:Int)))
 ((qVS (a0,b1,t4,i5,())).bind fun y1=>
 (qLr y1.2.2.2.2.1.1 y1.2.2.2.2.2.1.1).bind fun r2=>
 (qLr y1.2.2.2.2.1.2.1 y1.2.2.2.2.2.1.2.1).bind fun r3=>
 (qHT y1.2.2.2.2.1.2.2.1 y1.2.2.2.2.2.1.2.2.1).bind fun r4=>
 (qHT y1.2.2.2.2.1.2.2.2.1 y1.2.2.2.2.2.1.2.2.2.1).bind fun r5=>
 (qLr y1.2.2.2.2.1.2.2.2.2 y1.2.2.2.2.2.1.2.2.2.2).bind fun r6=>
 (qLA qHD (y1.1,y1.2.1,y1.2.2.1,y1.2.2.2.1,some (r2.1.1,r3.1.1,r4.1.1,r5.1.1,r6.1.1),0,())).bind fun y7=>
 cond (Ex.same y7.1 (Ex.exit 2))
 (some (Ex.normal,(y7.2.1,y7.2.2.1,y7.2.2.2.1,qI (y7.2.2.2.2.1+1),())))
 (cond (Ex.same y7.1 Ex.ret)
 (some (Ex.ret,(y7.2.1,y7.2.2.1,y7.2.2.2.1,y7.2.2.2.2.1,())))
 (none)))
 (some (Ex.exit 0,(a0,b1,t4,i5,()))))
 (some (Ex.exit 0,(a0,b1,t4,i5,())))
def qOW (a0:List Nod) (b1:List Nod):Option ((Int×Unit)×Unit):=
 (qLA qSH (a0,b1,0,0,())).bind fun y1=>
 cond (Ex.same y1.1 (Ex.exit 0))
 ((qLr (y1.2.1.length:Int) (y1.2.2.1.length:Int)).bind fun r2=>
 some ((r2.1.1,()),()))
 (cond (Ex.same y1.1 Ex.ret)
 (some ((y1.2.2.2.1,()),()))
 (none))
def qPj (a0:List Nod) (b1:List Nod):Option ((Bool×Unit)×Unit):=
 (qOW a0 b1).bind fun r1=>
 some ((r1.1.1==0,()),())
def qRU (op0:Int):Option ((qBs×Unit)×Unit):=
 grd (decide (0<=op0)&&decide (op0 < (21:Nat))) (some ((([([]:qBs),([116,114,117,101]:qBs),([102,97,108,115,101]:qBs),([]:qBs),([]:qBs),([]:qBs),([110,111,116]:qBs),([97,110,100]:qBs),([111,114]:qBs),([61,62]:qBs),([105,116,101]:qBs),([61]:qBs),([60,61]:qBs),([60]:qBs),([43]:qBs),([42]:qBs),([100,105,118]:qBs),([109,111,100]:qBs),([115,101,108,101,99,116]:qBs),([115,116,111,114,101]:qBs),([99,111,110,115,116]:qBs)]:List qBs).getD op0.toNat ([]:qBs),()),()))
def qPab (a0:qBs):Option ((qBs×Unit)×Unit):=
 (qIF a0).bind fun r1=>
 cond (!r1.1.2.1)
 (some ((([]:qBs),()),()))
 (some ((r1.1.1.2.2,()),()))
def qSag (a0:qBs):Option ((qBs×Unit)×Unit):=
 (qIF a0).bind fun r1=>
 cond (!r1.1.2.1)
 (some ((([]:qBs),()),()))
 ((qDB (r1.1.1.1,r1.1.1.2.1,([49]:qBs))).bind fun r2=>
 some ((r2.1.1,()),()))
def qII (qTaz:qBs->Int->Option ((qBs×Unit)×Unit)) (num0:qBs) (sort1:Int):Option ((qBs×Unit)×Unit):=
 (qRf num0).bind fun r1=>
 cond (decide (r1.1.1 < (0:Int)))
 ((qLae num0).bind fun r2=>
 (qTaz r2.1.1 sort1).bind fun r3=>
 grd (decide (([40,45,32]:qBs).length+r3.1.1.length<=qXF)) (grd (decide ((([40,45,32]:qBs)++r3.1.1).length+([41]:qBs).length<=qXF)) (some (((([40,45,32]:qBs)++r3.1.1)++([41]:qBs),()),()))))
 (cond (sort1==2)
 (some ((num0,()),()))
 ((qPab num0).bind fun r4=>
 cond (r4.1.1==([49]:qBs))
 (grd (decide (num0.length+([46,48]:qBs).length<=qXF)) (some ((num0++([46,48]:qBs),()),())))
 ((qSag num0).bind fun r5=>
 grd (decide (([40,47,32]:qBs).length+r5.1.1.length<=qXF)) (
 grd (decide ((([40,47,32]:qBs)++r5.1.1).length+([46,48,32]:qBs).length<=qXF)) (
 (qPab num0).bind fun r6=>
 grd (decide (((([40,47,32]:qBs)++r5.1.1)++([46,48,32]:qBs)).length+r6.1.1.length<=qXF)) (grd (decide ((((([40,47,32]:qBs)++r5.1.1)++([46,48,32]:qBs))++r6.1.1).length+([46,48,41]:qBs).length<=qXF)) (some (((((([40,47,32]:qBs)++r5.1.1)++([46,48,32]:qBs))++r6.1.1)++([46,48,41]:qBs),()),()))))))))
def qLG:Nat->qBs->Int->Option ((qBs×Unit)×Unit)
 |0=>fun _ _=>none
 |n+1=>qII (qLG n)
def qIE (qSaz:List Nod->Int->Option ((qBs×Int×Unit)×Unit)) (x:(List Nod)×Int×Nod×qBs×Int×Unit):Option (Ex×((List Nod)×Int×Nod×qBs×Int×Unit)):=
 let t0:=x.1
 let i1:=x.2.1
 let x6:=x.2.2.1
 let s7:=x.2.2.2.1
 let k8:=x.2.2.2.2.1
 cond (decide (k8 < x6.2.2.2.2))
 ((qSaz t0 i1).bind fun r1=>
 grd (decide (([32]:qBs).length+r1.1.1.length<=qXF)) (grd (decide (s7.length+(([32]:qBs)++r1.1.1).length<=qXF)) (some (Ex.normal,(t0,r1.1.2.1,x6,s7++(([32]:qBs)++r1.1.1),qI (k8+1),())))))
 (some (Ex.exit 1,(t0,i1,x6,s7,k8,())))
def qBP (qSaz:List Nod->Int->Option ((qBs×Int×Unit)×Unit)) (t0:List Nod) (i1:Int):Option ((qBs×Int×Unit)×Unit):=
 grd (decide (0<=i1)&&decide (i1 < t0.length)) (
 cond (((t0.getD i1.toNat qPC).1)==1)
 ((qRU ((t0.getD i1.toNat qPC).1)).bind fun r1=>
 some ((r1.1.1,qI (i1+1),()),()))
 (cond (((t0.getD i1.toNat qPC).1)==2)
 ((qRU ((t0.getD i1.toNat qPC).1)).bind fun r2=>
 some ((r2.1.1,qI (i1+1),()),()))
 (cond (((t0.getD i1.toNat qPC).1)==3)
 ((qLG big (((((t0.getD i1.toNat qPC).2).2).2).1) (((t0.getD i1.toNat qPC).2).1)).bind fun r3=>
 some ((r3.1.1,qI (i1+1),()),()))
 (cond (((t0.getD i1.toNat qPC).1)==4)
 (some (((((t0.getD i1.toNat qPC).2).2).1,qI (i1+1),()),()))
 ((qRU ((t0.getD i1.toNat qPC).1)).bind fun r4=>
 grd (decide (([40]:qBs).length+r4.1.1.length<=qXF)) (
 cond (((t0.getD i1.toNat qPC).1)==5)
 (grd (decide (([40]:qBs).length+((((t0.getD i1.toNat qPC).2).2).1).length<=qXF)) (
 (qLA (qIE qSaz) (t0,qI (i1+1),t0.getD i1.toNat qPC,([40]:qBs)++((((t0.getD i1.toNat qPC).2).2).1),0,())).bind fun y5=>
 cond (Ex.same y5.1 (Ex.exit 1))
 (cond (y5.2.2.2.1.1==16)
 (grd (decide (([32]:qBs).length+y5.2.2.2.1.2.2.2.1.length<=qXF)) (grd (decide (y5.2.2.2.2.1.length+(([32]:qBs)++y5.2.2.2.1.2.2.2.1).length<=qXF)) (grd (decide ((y5.2.2.2.2.1++(([32]:qBs)++y5.2.2.2.1.2.2.2.1)).length+([41]:qBs).length<=qXF)) (some (((y5.2.2.2.2.1++(([32]:qBs)++y5.2.2.2.1.2.2.2.1))++([41]:qBs),y5.2.2.1,()),())))))
 (cond (y5.2.2.2.1.1==17)
 (grd (decide (([32]:qBs).length+y5.2.2.2.1.2.2.2.1.length<=qXF)) (grd (decide (y5.2.2.2.2.1.length+(([32]:qBs)++y5.2.2.2.1.2.2.2.1).length<=qXF)) (grd (decide ((y5.2.2.2.2.1++(([32]:qBs)++y5.2.2.2.1.2.2.2.1)).length+([41]:qBs).length<=qXF)) (some (((y5.2.2.2.2.1++(([32]:qBs)++y5.2.2.2.1.2.2.2.1))++([41]:qBs),y5.2.2.1,()),())))))
 (grd (decide (y5.2.2.2.2.1.length+([41]:qBs).length<=qXF)) (some ((y5.2.2.2.2.1++([41]:qBs),y5.2.2.1,()),())))))
 (none)))
 ((qLA (qIE qSaz) (t0,qI (i1+1),t0.getD i1.toNat qPC,([40]:qBs)++r4.1.1,0,())).bind fun y6=>
 cond (Ex.same y6.1 (Ex.exit 1))
 (cond (y6.2.2.2.1.1==16)
 (grd (decide (([32]:qBs).length+y6.2.2.2.1.2.2.2.1.length<=qXF)) (grd (decide (y6.2.2.2.2.1.length+(([32]:qBs)++y6.2.2.2.1.2.2.2.1).length<=qXF)) (grd (decide ((y6.2.2.2.2.1++(([32]:qBs)++y6.2.2.2.1.2.2.2.1)).length+([41]:qBs).length<=qXF)) (some (((y6.2.2.2.2.1++(([32]:qBs)++y6.2.2.2.1.2.2.2.1))++([41]:qBs),y6.2.2.1,()),())))))
 (cond (y6.2.2.2.1.1==17)
 (grd (decide (([32]:qBs).length+y6.2.2.2.1.2.2.2.1.length<=qXF)) (grd (decide (y6.2.2.2.2.1.length+(([32]:qBs)++y6.2.2.2.1.2.2.2.1).length<=qXF)) (grd (decide ((y6.2.2.2.2.1++(([32]:qBs)++y6.2.2.2.1.2.2.2.1)).length+([41]:qBs).length<=qXF)) (some (((y6.2.2.2.2.1++(([32]:qBs)++y6.2.2.2.1.2.2.2.1))++([41]:qBs),y6.2.2.1,()),())))))
 (grd (decide (y6.2.2.2.2.1.length+([41]:qBs).length<=qXF)) (some ((y6.2.2.2.2.1++([41]:qBs),y6.2.2.1,()),())))))
 (none))))))))
def qWG:Nat->List Nod->Int->Option ((qBs×Int×Unit)×Unit)
 |0=>fun _ _=>none
 |n+1=>qBP (qWG n)
def qQc (t0:List Nod):Option ((qBs×Unit)×Unit):=
 (qHL t0).bind fun r1=>
 cond (!r1.1.1)
 (some ((([]:qBs),()),()))
 ((qWG big t0 0).bind fun r2=>
 some ((r2.1.1,()),()))
def qJK (v0:Val):Option ((qBs×Unit)×Unit):=
 (qJF v0).bind fun r1=>
 cond (r1.1.2.1 !=(0:Int))
 (some ((([]:qBs),()),()))
 ((qQc r1.1.1).bind fun r2=>
 some ((r2.1.1,()),()))
def qVH (x:(List qBs)×(List qBs)×Bool×Int×Unit):Option (Ex×((List qBs)×(List qBs)×Bool×Int×Unit)):=
 let a0:=x.1
 let b1:=x.2.1
 let t4:=x.2.2.1
 let i5:=x.2.2.2.1
 cond (decide (i5 < (a0.length:Int)))
 (grd (decide (0<=i5)&&decide (i5 < a0.length)) (
 grd (decide (0<=i5)&&decide (i5 < b1.length)) (
 cond (!((a0.getD i5.toNat ([]:qBs))==(b1.getD i5.toNat ([]:qBs))))
 (some (Ex.ret,(a0,b1,false,i5,())))
 (some (Ex.normal,(a0,b1,t4,qI (i5+1),()))))))
 (some (Ex.exit 0,(a0,b1,t4,i5,())))
def qKM (a0:List qBs) (b1:List qBs):Option ((Bool×Unit)×Unit):=
 cond ((a0.length:Int) !=(b1.length:Int))
 (some ((false,()),()))
 ((qLA qVH (a0,b1,false,0,())).bind fun y1=>
 cond (Ex.same y1.1 (Ex.exit 0))
 (some ((true,()),()))
 (cond (Ex.same y1.1 Ex.ret)
 (some ((y1.2.2.2.1,()),()))
 (none)))
def qXB (a0:Val) (b1:Val):Option ((Bool×Unit)×Unit):=
 cond (a0.1==b1.1)
 (cond (a0.2.1==b1.2.1)
 (cond (a0.2.2.1==b1.2.2.1)
 ((qKM a0.2.2.2.1 b1.2.2.2.1).bind fun r1=>
 cond (r1.1.1)
 ((qKM a0.2.2.2.2 b1.2.2.2.2).bind fun r2=>
 some ((r2.1.1,()),()))
 (some ((false,()),())))
 (some ((false,()),())))
 (some ((false,()),())))
 (some ((false,()),()))
def l_ValueShape_s17 (x:Val×Bool×Val×Val×(List Val)×Int×Unit):Option (Ex×(Val×Bool×Val×Val×(List Val)×Int×Unit)):=
 let v3:=x.1
 let t6:=x.2.1
 let w7:=x.2.2.1
 let x8:=x.2.2.2.1
 let all9:=x.2.2.2.2.1
 let i10:=x.2.2.2.2.2.1
 cond (decide (i10 < (all9.length:Int)))
 (grd (decide (0<=i10)&&decide (i10 < all9.length)) (
 (qOa (all9.getD i10.toNat qVO)).bind fun r1=>
 grd (decide (0<=i10)&&decide (i10 < all9.length)) (
 (qJF (all9.getD i10.toNat qVO)).bind fun r2=>
 grd (decide (0<=i10)&&decide (i10 < all9.length)) (
 (qPR (all9.getD i10.toNat qVO)).bind fun r3=>
 grd (decide (0<=i10)&&decide (i10 < all9.length)) (
 (qBK (all9.getD i10.toNat qVO)).bind fun r4=>
 cond (!(r3.1.1==r4.1.1))
 (some (Ex.ret,(v3,false,w7,x8,all9,i10,())))
 (cond (r1.1.2.1 !=r2.1.2.1)
 (some (Ex.ret,(v3,false,w7,x8,all9,i10,())))
 ((qPj r1.1.1 r2.1.1).bind fun r5=>
 cond (!r5.1.1)
 (some (Ex.ret,(v3,false,w7,x8,all9,i10,())))
 (grd (decide (0<=i10)&&decide (i10 < all9.length)) (
 (qBU (all9.getD i10.toNat qVO)).bind fun r6=>
 grd (decide (0<=i10)&&decide (i10 < all9.length)) (
 (qJK (all9.getD i10.toNat qVO)).bind fun r7=>
 cond (!(r6.1.1==r7.1.1))
 (some (Ex.ret,(v3,false,w7,x8,all9,i10,())))
 (some (Ex.normal,(v3,t6,w7,x8,all9,qI (i10+1),())))))))))))))
 (some (Ex.exit 1,(v3,t6,w7,x8,all9,i10,())))
def qAT (v0:Val) (l1:List Int) (how2:Int):Option ((Bool×Unit)×Unit):=
 (qJd v0).bind fun r1=>
 cond (!r1.1.1)
 (qQR.bind fun r2=>
 some ((r2.1.1,()),()))
 ((qDan l1).bind fun r3=>
 (qTv how2 5).bind fun r4=>
 cond (r4.1.1==0)
 ((qTv v0.1 6).bind fun r5=>
 (qLA l_ValueShape_s17 (v0,false,r3.1.1,(r5.1.1,r3.1.1.2),([v0,r3.1.1,(r5.1.1,r3.1.1.2)]:List Val),0,())).bind fun y6=>
 cond (Ex.same y6.1 (Ex.exit 1))
 ((qHE y6.2.1 y6.2.2.2.1).bind fun r7=>
 (qXB y6.2.1 y6.2.2.2.1).bind fun r8=>
 cond (r7.1.1==r8.1.1)
 ((qHE y6.2.2.2.1 y6.2.2.2.2.1).bind fun r9=>
 (qXB y6.2.2.2.1 y6.2.2.2.2.1).bind fun r10=>
 cond (r9.1.1==r10.1.1)
 ((qHE y6.2.1 y6.2.1).bind fun r11=>
 cond (r11.1.1)
 (qQR.bind fun r12=>
 some ((r12.1.1,()),()))
 (some ((false,()),())))
 (some ((false,()),())))
 (some ((false,()),())))
 (cond (Ex.same y6.1 Ex.ret)
 (some ((y6.2.2.1,()),()))
 (none)))
 (cond (r4.1.1==1)
 ((qLA l_ValueShape_s17 (v0,false,r3.1.1,(r3.1.1.1,r3.1.1.2.1,v0.2.2.1,r3.1.1.2.2.2),([v0,r3.1.1,(r3.1.1.1,r3.1.1.2.1,v0.2.2.1,r3.1.1.2.2.2)]:List Val),0,())).bind fun y13=>
 cond (Ex.same y13.1 (Ex.exit 1))
 ((qHE y13.2.1 y13.2.2.2.1).bind fun r14=>
 (qXB y13.2.1 y13.2.2.2.1).bind fun r15=>
 cond (r14.1.1==r15.1.1)
 ((qHE y13.2.2.2.1 y13.2.2.2.2.1).bind fun r16=>
 (qXB y13.2.2.2.1 y13.2.2.2.2.1).bind fun r17=>
 cond (r16.1.1==r17.1.1)
 ((qHE y13.2.1 y13.2.1).bind fun r18=>
 cond (r18.1.1)
 (qQR.bind fun r19=>
 some ((r19.1.1,()),()))
 (some ((false,()),())))
 (some ((false,()),())))
 (some ((false,()),())))
 (cond (Ex.same y13.1 Ex.ret)
 (some ((y13.2.2.1,()),()))
 (none)))
 (cond (r4.1.1==2)
 ((qLA l_ValueShape_s17 (v0,false,r3.1.1,(r3.1.1.1,r3.1.1.2.1,r3.1.1.2.2.1,v0.2.2.2.1,r3.1.1.2.2.2.2),([v0,r3.1.1,(r3.1.1.1,r3.1.1.2.1,r3.1.1.2.2.1,v0.2.2.2.1,r3.1.1.2.2.2.2)]:List Val),0,())).bind fun y20=>
 cond (Ex.same y20.1 (Ex.exit 1))
 ((qHE y20.2.1 y20.2.2.2.1).bind fun r21=>
 (qXB y20.2.1 y20.2.2.2.1).bind fun r22=>
 cond (r21.1.1==r22.1.1)
 ((qHE y20.2.2.2.1 y20.2.2.2.2.1).bind fun r23=>
 (qXB y20.2.2.2.1 y20.2.2.2.2.1).bind fun r24=>
 cond (r23.1.1==r24.1.1)
 ((qHE y20.2.1 y20.2.1).bind fun r25=>
 cond (r25.1.1)
 (qQR.bind fun r26=>
 some ((r26.1.1,()),()))
 (some ((false,()),())))
 (some ((false,()),())))
 (some ((false,()),())))
 (cond (Ex.same y20.1 Ex.ret)
 (some ((y20.2.2.1,()),()))
 (none)))
 (cond (r4.1.1==3)
 ((qLA l_ValueShape_s17 (v0,false,r3.1.1,(r3.1.1.1,r3.1.1.2.1,r3.1.1.2.2.1,r3.1.1.2.2.2.1,v0.2.2.2.2),([v0,r3.1.1,(r3.1.1.1,r3.1.1.2.1,r3.1.1.2.2.1,r3.1.1.2.2.2.1,v0.2.2.2.2)]:List Val),0,())).bind fun y27=>
 cond (Ex.same y27.1 (Ex.exit 1))
 ((qHE y27.2.1 y27.2.2.2.1).bind fun r28=>
 (qXB y27.2.1 y27.2.2.2.1).bind fun r29=>
 cond (r28.1.1==r29.1.1)
 ((qHE y27.2.2.2.1 y27.2.2.2.2.1).bind fun r30=>
 (qXB y27.2.2.2.1 y27.2.2.2.2.1).bind fun r31=>
 cond (r30.1.1==r31.1.1)
 ((qHE y27.2.1 y27.2.1).bind fun r32=>
 cond (r32.1.1)
 (qQR.bind fun r33=>
 some ((r33.1.1,()),()))
 (some ((false,()),())))
 (some ((false,()),())))
 (some ((false,()),())))
 (cond (Ex.same y27.1 Ex.ret)
 (some ((y27.2.2.1,()),()))
 (none)))
 ((qLA l_ValueShape_s17 (v0,false,r3.1.1,(r3.1.1.1,!r3.1.1.2.1,r3.1.1.2.2),([v0,r3.1.1,(r3.1.1.1,!r3.1.1.2.1,r3.1.1.2.2)]:List Val),0,())).bind fun y34=>
 cond (Ex.same y34.1 (Ex.exit 1))
 ((qHE y34.2.1 y34.2.2.2.1).bind fun r35=>
 (qXB y34.2.1 y34.2.2.2.1).bind fun r36=>
 cond (r35.1.1==r36.1.1)
 ((qHE y34.2.2.2.1 y34.2.2.2.2.1).bind fun r37=>
 (qXB y34.2.2.2.1 y34.2.2.2.2.1).bind fun r38=>
 cond (r37.1.1==r38.1.1)
 ((qHE y34.2.1 y34.2.1).bind fun r39=>
 cond (r39.1.1)
 (qQR.bind fun r40=>
 some ((r40.1.1,()),()))
 (some ((false,()),())))
 (some ((false,()),())))
 (some ((false,()),())))
 (cond (Ex.same y34.1 Ex.ret)
 (some ((y34.2.2.1,()),()))
 (none)))))))
end
end Go.AM.Num
end
section
namespace Go.AM
open Go.Proofs Go.RowKit
attribute [local go_sem] Oper.semAt_some
theorem qCab {xs:List Int} {k:Nat} (h:k < xs.length):xs.zipIdx.reverse[k]?=some (xs[xs.length - 1 - k],xs.length - 1 - k):=by
 rw[List.getElem?_reverse (by simpa using h)]
 simp only[List.length_zipIdx,List.getElem?_zipIdx,Nat.zero_add]
 rw[qZ5 (by omega)]
 rfl
set_option maxHeartbeats 1000000 in
theorem qHp (F:Fence) (n:Nat) (h:F.fn 175) (hro:F.round=none) (v:Value) (w:World) (hv:v.oneCell'=true) :
 CallsIn F n Tryz.prog 175 #[v] w fun e w'=>e=.returned (.func (.func 237) #[] #[.pointer (some ⟨w.heap.size,0,none⟩)])/\∃ ty,w'=w.alloc (.cells #[v] ty):=by
 cases v<;>(try (simp[Value.oneCell'] at hv;done))
 all_goals refine callsIn_of_wp Tryz.func175 rfl h ?_ hro
 all_goals simp only[Tryz.ntmps175,List.size_toArray,qY11,List.length_nil,Nat.reduceAdd,Nat.reduceSub,Array.replicate_succ,Array.replicate_zero,List.push_toArray,List.append_toArray,qY15,qY5]
 all_goals gi_wp2
 all_goals go_ret
 all_goals exact ⟨rfl,_,rfl⟩
theorem qBn:qWT Tryz.prog 175 237:=by
 refine ⟨⟨_,Tryz.func175,by decide,rfl⟩,fun v w hv=>(callsIn_wide (n:=0)).1 (CallsIn.mono (qHp Fence.wide 0 trivial rfl v w hv) ?_)⟩
 rintro e w' ⟨rfl,ty,rfl⟩
 exact ⟨ty,rfl,Ext.alloc _ _,by simp,World.alloc_heap_new _ _⟩
set_option maxRecDepth 100000 in
set_option maxHeartbeats 2000000 in
theorem qOl (F:Fence) (n:Nat) (h8:F.fn 237) (hro:F.round=none) (hn:1<=n) (Bs ob:Nat) (ad:Option Addr) (cap:Nat) (xs:List Int) (W:World) (l:Nat) (J:Nat->World->Prop) (hlen:xs.length<=2 ^ 40) (hBs:W.cell? ⟨Bs,ob,none⟩=some (.slice ad xs.length cap))
 (hcs:xs≠[]->∃ b off,ad=some ⟨b,off,none⟩/\∀ (k:Nat) x,xs[k]?=some x->W.cell? ⟨b,off+k,none⟩=some (.int .i64 x))
 (hY:∀ (k:Nat) x W1,xs.zipIdx.reverse[k]?=some x->J k W1->YieldAt F (n - 1) Tryz.prog l (encI .i64 x) W1 fun e W'=>e=.returned (.bool true)/\J (k+1) W'/\qXW Bs (ad.map (·.block)) W1 W') (h0:J 0 W) :
 CallsIn F n Tryz.prog 237 #[.func (.yield l) #[] #[],.pointer (some ⟨Bs,ob,none⟩)] W fun e W'=>(∃ v,e=.returned v)/\J xs.length W':=by
 refine callsIn_of_wp Tryz.func237 rfl h8 ?_ hro
 simp only[Tryz.ntmps237,List.size_toArray,qY11,List.length_nil,Nat.reduceAdd,Nat.reduceSub,Array.replicate_succ,Array.replicate_zero,List.push_toArray,List.append_toArray,qY15,qY5]
 gi_wp2
 gi_loopw [3] (fun i wr=>∃ k:Nat,k<=xs.length/\i=.int .i64 ((xs.length:Int) - 1 - k)/\J k wr/\qXW Bs (ad.map (·.block)) W wr)
  (fun i _=>((RowKit.intOf i)+1).toNat)
 case atStart=>exact ⟨0,Nat.zero_le _,by simp,h0,⟨Nat.le_refl _,rfl,fun _ _=>rfl⟩⟩
 case round=>
  obtain ⟨k,hk,rfl,hJk,hnx⟩:=hrel
  by_cases hlt:k < xs.length
  ·have hz:=qCab hlt
   obtain ⟨fn,tmps,assign,body,hy,hR⟩:=hY k _ wr hz hJk
   dsimp only[encI] at hy
   have hix:((xs.length - 1 - k:Nat):Int)=(xs.length:Int) - 1 - k:=by omega
   rw[hix] at hy
   have hBx:wr.cell? ⟨Bs,ob,none⟩=some (.slice ad xs.length cap):=by rw[<-hBs];simp only[World.cell?,hnx.2.1]
   obtain ⟨b,off,rfl,hcell⟩:=hcs (by intro e;rw[e] at hlt;simp at hlt)
   have hcx:wr.cell? ⟨b,off+(xs.length - 1 - k),none⟩=some (.int .i64 (xs[xs.length - 1 - k]'(by omega))):=by
    rw[<-hcell (xs.length - 1 - k) _ (qZ5 (by omega))]
    simp only[World.cell?,hnx.2.2 b rfl]
   gi_wp2
   refine hR.mono ?_
   rintro e W3 ⟨rfl,hJ3,hk3⟩
   gi_wp2
   go_roundw
   case rel=>exact ⟨k+1,by omega,by simp;omega,hJ3,⟨Nat.le_trans hnx.1 hk3.1,hk3.2.1.trans hnx.2.1,fun j hj=>(hk3.2.2 j hj).trans (hnx.2.2 j hj)⟩⟩
   case measure=>simp[RowKit.intOf];omega
  ·obtain rfl:k=xs.length:=by omega
   gi_wp2
   go_end0
   exact ⟨⟨_,rfl⟩,hJk⟩
theorem qTy:qQs Tryz.prog 237 .i64:=
 ⟨⟨_,Tryz.func237,by decide,rfl⟩,fun Bs ob ad cap xs W l J hlen hBs hcs hY h0=>(callsIn_wide (n:=0)).2 ((callsIn_wide (n:=1)).1 (qOl Fence.wide 1 trivial rfl (Nat.le_refl _) Bs ob ad cap xs W l J hlen hBs hcs hY h0))⟩
set_option maxHeartbeats 1000000 in
theorem qSq (F:Fence) (n:Nat) (h:F.fn 336) (hro:F.round=none) (v:Value) (w:World) (hv:v.oneCell'=true) :
 CallsIn F n Tryz.prog 336 #[v] w fun e w'=>e=.returned (.func (.func 353) #[] #[.pointer (some ⟨w.heap.size,0,none⟩)])/\∃ ty,w'=w.alloc (.cells #[v] ty):=by
 cases v<;>(try (simp[Value.oneCell'] at hv;done))
 all_goals refine callsIn_of_wp Tryz.func336 rfl h ?_ hro
 all_goals simp only[Tryz.ntmps336,List.size_toArray,qY11,List.length_nil,Nat.reduceAdd,Nat.reduceSub,Array.replicate_succ,Array.replicate_zero,List.push_toArray,List.append_toArray,qY15,qY5]
 all_goals gi_wp2
 all_goals go_ret
 all_goals exact ⟨rfl,_,rfl⟩
theorem qQm:qWT Tryz.prog 336 353:=by
 refine ⟨⟨_,Tryz.func336,by decide,rfl⟩,fun v w hv=>(callsIn_wide (n:=0)).1 (CallsIn.mono (qSq Fence.wide 0 trivial rfl v w hv) ?_)⟩
 rintro e w' ⟨rfl,ty,rfl⟩
 exact ⟨ty,rfl,Ext.alloc _ _,by simp,World.alloc_heap_new _ _⟩
set_option maxRecDepth 100000 in
set_option maxHeartbeats 2000000 in
theorem qCn (F:Fence) (n:Nat) (h8:F.fn 353) (hro:F.round=none) (hn:1<=n) (Bs ob:Nat) (ad:Option Addr) (cap:Nat) (xs:List Int) (W:World) (l:Nat) (J:Nat->World->Prop) (hlen:xs.length<=2 ^ 40) (hBs:W.cell? ⟨Bs,ob,none⟩=some (.slice ad xs.length cap))
 (hcs:xs≠[]->∃ b off,ad=some ⟨b,off,none⟩/\∀ (k:Nat) x,xs[k]?=some x->W.cell? ⟨b,off+k,none⟩=some (.int .u32 x))
 (hY:∀ (k:Nat) x W1,xs.zipIdx.reverse[k]?=some x->J k W1->YieldAt F (n - 1) Tryz.prog l (encI .u32 x) W1 fun e W'=>e=.returned (.bool true)/\J (k+1) W'/\qXW Bs (ad.map (·.block)) W1 W') (h0:J 0 W) :
 CallsIn F n Tryz.prog 353 #[.func (.yield l) #[] #[],.pointer (some ⟨Bs,ob,none⟩)] W fun e W'=>(∃ v,e=.returned v)/\J xs.length W':=by
 refine callsIn_of_wp Tryz.func353 rfl h8 ?_ hro
 simp only[Tryz.ntmps353,List.size_toArray,qY11,List.length_nil,Nat.reduceAdd,Nat.reduceSub,Array.replicate_succ,Array.replicate_zero,List.push_toArray,List.append_toArray,qY15,qY5]
 gi_wp2
 gi_loopw [3] (fun i wr=>∃ k:Nat,k<=xs.length/\i=.int .i64 ((xs.length:Int) - 1 - k)/\J k wr/\qXW Bs (ad.map (·.block)) W wr)
  (fun i _=>((RowKit.intOf i)+1).toNat)
 case atStart=>exact ⟨0,Nat.zero_le _,by simp,h0,⟨Nat.le_refl _,rfl,fun _ _=>rfl⟩⟩
 case round=>
  obtain ⟨k,hk,rfl,hJk,hnx⟩:=hrel
  by_cases hlt:k < xs.length
  ·have hz:=qCab hlt
   obtain ⟨fn,tmps,assign,body,hy,hR⟩:=hY k _ wr hz hJk
   dsimp only[encI] at hy
   have hix:((xs.length - 1 - k:Nat):Int)=(xs.length:Int) - 1 - k:=by omega
   rw[hix] at hy
   have hBx:wr.cell? ⟨Bs,ob,none⟩=some (.slice ad xs.length cap):=by rw[<-hBs];simp only[World.cell?,hnx.2.1]
   obtain ⟨b,off,rfl,hcell⟩:=hcs (by intro e;rw[e] at hlt;simp at hlt)
   have hcx:wr.cell? ⟨b,off+(xs.length - 1 - k),none⟩=some (.int .u32 (xs[xs.length - 1 - k]'(by omega))):=by
    rw[<-hcell (xs.length - 1 - k) _ (qZ5 (by omega))]
    simp only[World.cell?,hnx.2.2 b rfl]
   gi_wp2
   refine hR.mono ?_
   rintro e W3 ⟨rfl,hJ3,hk3⟩
   gi_wp2
   go_roundw
   case rel=>exact ⟨k+1,by omega,by simp;omega,hJ3,⟨Nat.le_trans hnx.1 hk3.1,hk3.2.1.trans hnx.2.1,fun j hj=>(hk3.2.2 j hj).trans (hnx.2.2 j hj)⟩⟩
   case measure=>simp[RowKit.intOf];omega
  ·obtain rfl:k=xs.length:=by omega
   gi_wp2
   go_end0
   exact ⟨⟨_,rfl⟩,hJk⟩
theorem qTw:qQs Tryz.prog 353 .u32:=
 ⟨⟨_,Tryz.func353,by decide,rfl⟩,fun Bs ob ad cap xs W l J hlen hBs hcs hY h0=>(callsIn_wide (n:=0)).2 ((callsIn_wide (n:=1)).1 (qCn Fence.wide 1 trivial rfl (Nat.le_refl _) Bs ob ad cap xs W l J hlen hBs hcs hY h0))⟩
end Go.AM
end
