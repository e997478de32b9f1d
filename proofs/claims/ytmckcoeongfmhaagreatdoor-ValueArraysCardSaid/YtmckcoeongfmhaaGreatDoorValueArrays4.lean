/- Law ValueArrays of the values: a machine of plain values, what the program's functions compute in it, and what that is. No condition beyond what the statement says. -/
import Derived.Test.YtmckcoeongfmhaaGreatDoorValueArrays3
import Derived.Test.YtmckcoeongfmhaaGreatDoorProg
import Derived.TacticsInMore
import Derived.LoopNIn
import Derived.LoopIn
import Derived.RangeFuncLeaves
import Derived.RangeFuncBox
import Derived.RangeFuncWrites
import Derived.RangeFuncNested
import Derived.OwnWalkIn
import Derived.Shelf.Abstract
import Derived.WalkKit
import Derived.Lib.Walk
import Derived.BigCall
import Derived.BigGuard
set_option linter.unusedSimpArgs false
set_option linter.unusedVariables false
section
namespace Go.AM.Num
set_option maxRecDepth 100000
set_option linter.unusedVariables false
noncomputable section
def big:Nat:=2 ^ 64
@[reducible] def gVr : GT := (.pair .str (.int .i64))
abbrev Vr:=qBs×Int
abbrev zVr:Vr:=(([]:qBs),(0:Int))
@[reducible] def qLp : GT := (.pair (.int .i64) (.int .i64))
abbrev Sml:=Int×Int
@[reducible] def qDD : GT := (.pair (.sl (.int .i64)) (.int .i64))
abbrev qNA:=(List Int)×Int
@[reducible] def qBc : GT := (.pair .bool (.pair .str .str))
abbrev qEj:=Bool×qBs×qBs
@[reducible] def gRt : GT := (.pair .bool (.pair (.sl (.int .u32)) (.sl (.int .u32))))
abbrev Rt:=Bool×(List Int)×List Int
@[reducible] def qDR : GT := (.pair (.int .i64) (.pair (.int .i64) (.pair .str gVr)))
abbrev Nod:=Int×Int×qBs×Vr
abbrev qTF:Nod:=((0:Int),(0:Int),([]:qBs),([]:qBs),(0:Int))
@[reducible] def qPD : GT := (.pair (.int .i64) (.pair .bool (.pair .str (.pair (.sl .str) (.sl .str)))))
abbrev Val:=Int×Bool×qBs×(List qBs)×List qBs
abbrev qRP:Val:=((0:Int),false,([]:qBs),([]:List qBs),([]:List qBs))
@[reducible] def qAv : GT := (.pair .str qPD)
abbrev qKm:=qBs×Val
abbrev qJx:qKm:=(([]:qBs),(0:Int),false,([]:qBs),([]:List qBs),([]:List qBs))
@[reducible] def qMU : GT := (.pair (.sl qDR) (.sl (.pair (.int .i64) qLp)))
abbrev qHP:=(List Nod)×List (Int×Sml)
abbrev qRJ:qHP:=(([]:List Nod),([]:List (Int×Sml)))
@[reducible] def qQM : GT := (.pair .str (.pair (.sl (.sl qPD)) (.pair (.sl qPD) qPD)))
abbrev Interp:=qBs×(List (List Val))×(List Val)×Val
abbrev qHI:Interp:=(([]:qBs),([]:List (List Val)),([]:List Val),(0:Int),false,([]:qBs),([]:List qBs),([]:List qBs))
@[reducible] def gEvl : GT := (.pair (.sl qDR) (.pair (.int .i64) (.pair (.map qPD) (.map qQM))))
abbrev Evl:=(List Nod)×Int×(List (qBs×Val))×List (qBs×Interp)
def qNN (x:Val×Bool×Int×Unit):Option (Ex×(Val×Bool×Int×Unit)):=
 let v1:=x.1
 let t2:=x.2.1
 let i3:=x.2.2.1
 cond (decide (i3 < (v1.2.2.2.1.length:Int)))
 (grd (decide (0<=i3)&&decide (i3 < v1.2.2.2.1.length)) (
 cond (decide (((v1.2.2.2.1.getD i3.toNat ([]:qBs)).length:Int) > (50:Int)))
 (some (Ex.ret,(v1,false,i3,())))
 (some (Ex.normal,(v1,t2,qI (i3+1),())))))
 (some (Ex.exit 0,(v1,t2,i3,())))
def qEN (x:Val×Bool×Int×Unit):Option (Ex×(Val×Bool×Int×Unit)):=
 let v1:=x.1
 let t2:=x.2.1
 let i4:=x.2.2.1
 cond (decide (i4 < (v1.2.2.2.2.length:Int)))
 (grd (decide (0<=i4)&&decide (i4 < v1.2.2.2.2.length)) (
 cond (decide (((v1.2.2.2.2.getD i4.toNat ([]:qBs)).length:Int) > (50:Int)))
 (some (Ex.ret,(v1,false,i4,())))
 (some (Ex.normal,(v1,t2,qI (i4+1),())))))
 (some (Ex.exit 2,(v1,t2,i4,())))
def qJY (v0:Val):Option ((Bool×Unit)×Unit):=
 cond (decide ((v0.2.2.1.length:Int) > (50:Int)))
 (some ((false,()),()))
 (cond (decide ((v0.2.2.2.1.length:Int) > (12:Int)))
 (some ((false,()),()))
 (cond (decide ((v0.2.2.2.2.length:Int) > (12:Int)))
 (some ((false,()),()))
 ((qMA qNN (v0,false,0,())).bind fun y1=>
 cond (Ex.same y1.1 (Ex.exit 0))
 ((qMA qEN (y1.2.1,y1.2.2.1,0,())).bind fun y2=>
 cond (Ex.same y2.1 (Ex.exit 2))
 (some ((true,()),()))
 (cond (Ex.same y2.1 Ex.ret)
 (some ((y2.2.2.1,()),()))
 (none)))
 (cond (Ex.same y1.1 Ex.ret)
 (some ((y1.2.2.1,()),()))
 (none)))))
def qDz (sort0:Int):Option ((Val×Int×Unit)×Unit):=
 cond (sort0==1)
 (some (((sort0,false,([]:qBs),([]:List qBs),([]:List qBs)),0,()),()))
 (cond (sort0==2)
 (some (((sort0,false,([48]:qBs),([]:List qBs),([]:List qBs)),0,()),()))
 (cond (sort0==3)
 (some (((sort0,false,([48]:qBs),([]:List qBs),([]:List qBs)),0,()),()))
 (cond (sort0==4)
 (some (((sort0,false,([48]:qBs),([]:List qBs),([]:List qBs)),0,()),()))
 (some ((((0:Int),false,([]:qBs),([]:List qBs),([]:List qBs)),1,()),())))))
def qVQ (v0:Val):Option ((Bool×Unit)×Unit):=
 cond ((v0.2.2.2.1.length:Int)==0)
 (some (((v0.2.2.2.2.length:Int)==0,()),()))
 (some ((false,()),()))
def qAE (x:qBs×Bool×(List Int)×Int×Int×Unit):Option (Ex×(qBs×Bool×(List Int)×Int×Int×Unit)):=
 let s0:=x.1
 let t2:=x.2.1
 let t6:=x.2.2.1
 let t7:=x.2.2.2.1
 let t8:=x.2.2.2.2.1
 cond (decide (t8 < t7))
 (grd (decide (0<=t8)&&decide (t8 < t6.length)) (
 cond (decide ((t6.getD t8.toNat (0:Int)) < (48:Int)))
 (some (Ex.ret,(s0,false,t6,t7,t8,())))
 (cond (decide ((t6.getD t8.toNat (0:Int)) > (57:Int)))
 (some (Ex.ret,(s0,false,t6,t7,t8,())))
 (some (Ex.normal,(s0,t2,t6,t7,qI (t8+1),()))))))
 (some (Ex.exit 0,(s0,t2,t6,t7,t8,())))
def qFH (s0:qBs):Option ((Bool×Unit)×Unit):=
 (qMA qAE (s0,false,s0.map fun b=>(b.toNat:Int),((s0.map fun b=>(b.toNat:Int)).length:Int),0,())).bind fun y1=>
 cond (Ex.same y1.1 (Ex.exit 0))
 (cond (y1.2.1==([48]:qBs))
 (some ((true,()),()))
 (cond (!(y1.2.1==([]:qBs)))
 (grd (decide (0<=(0:Int))&&decide ((0:Int) < y1.2.1.length)) (some ((((y1.2.1.getD (0:Int).toNat 0).toNat:Int) !=(48:Int),()),())))
 (some ((false,()),()))))
 (cond (Ex.same y1.1 Ex.ret)
 (some ((y1.2.2.1,()),()))
 (none))
def qOE (a0:qBs):Option ((Bool×Unit)×Unit):=
 (strings_CutPrefix a0 ([45]:qBs)).bind fun r1=>
 (qFH r1.1.1).bind fun r2=>
 cond (r2.1.1)
 (cond (r1.1.2.1)
 (some ((!(r1.1.1==([48]:qBs)),()),()))
 (some ((true,()),())))
 (some ((false,()),()))
def qEK (x:Int×Int×Unit):Option (Ex×(Int×Int×Unit)):=
 let a0:=x.1
 let b1:=x.2.1
 cond (b1 !=(0:Int))
 (grd (b1 !=0) (some (Ex.normal,(b1,a0.tmod b1,()))))
 (some (Ex.exit 0,(a0,b1,())))
def qIL (a0:Int) (b1:Int):Option ((Int×Unit)×Unit):=
 (qMA qEK (a0,b1,())).bind fun y1=>
 cond (Ex.same y1.1 (Ex.exit 0))
 (some ((y1.2.1,()),()))
 (none)
def qDB (a0:qBs):Option ((Sml×Bool×Unit)×Unit):=
 (strings_CutPrefix a0 ([45]:qBs)).bind fun r1=>
 (strings_Cut r1.1.1 ([47]:qBs)).bind fun r2=>
 cond (decide ((r2.1.1.length:Int) > (9:Int)))
 (some ((((0:Int),(0:Int)),false,()),()))
 (cond (decide ((r2.1.2.1.length:Int) > (9:Int)))
 (some ((((0:Int),(0:Int)),false,()),()))
 ((qFH r2.1.1).bind fun r3=>
 cond (!r3.1.1)
 (some ((((0:Int),(0:Int)),false,()),()))
 (cond (r2.1.1==([48]:qBs))
 (cond (r1.1.2.1)
 (some ((((0:Int),(0:Int)),false,()),()))
 (cond (r2.1.2.2.1)
 (some ((((0:Int),(0:Int)),false,()),()))
 ((qKC r2.1.1 10 64).bind fun r4=>
 cond (r2.1.2.2.1)
 ((qFH r2.1.2.1).bind fun r5=>
 cond (!r5.1.1)
 (some ((((0:Int),(0:Int)),false,()),()))
 ((qKC r2.1.2.1 10 64).bind fun r6=>
 cond (decide (r6.1.1 < (2:Int)))
 (some ((((0:Int),(0:Int)),false,()),()))
 ((qIL r4.1.1 r6.1.1).bind fun r7=>
 cond (r7.1.1 !=(1:Int))
 (some ((((0:Int),(0:Int)),false,()),()))
 (cond (r1.1.2.1)
 (some (((qI (0 - r4.1.1),r6.1.1),true,()),()))
 (some (((r4.1.1,r6.1.1),true,()),()))))))
 (cond (r1.1.2.1)
 (some (((qI (0 - r4.1.1),1),true,()),()))
 (some (((r4.1.1,1),true,()),()))))))
 ((qKC r2.1.1 10 64).bind fun r8=>
 cond (r2.1.2.2.1)
 ((qFH r2.1.2.1).bind fun r9=>
 cond (!r9.1.1)
 (some ((((0:Int),(0:Int)),false,()),()))
 ((qKC r2.1.2.1 10 64).bind fun r10=>
 cond (decide (r10.1.1 < (2:Int)))
 (some ((((0:Int),(0:Int)),false,()),()))
 ((qIL r8.1.1 r10.1.1).bind fun r11=>
 cond (r11.1.1 !=(1:Int))
 (some ((((0:Int),(0:Int)),false,()),()))
 (cond (r1.1.2.1)
 (some (((qI (0 - r8.1.1),r10.1.1),true,()),()))
 (some (((r8.1.1,r10.1.1),true,()),()))))))
 (cond (r1.1.2.1)
 (some (((qI (0 - r8.1.1),1),true,()),()))
 (some (((r8.1.1,1),true,()),())))))))
def qVB (x:(List Int)×Int×Unit):Option (Ex×((List Int)×Int×Unit)):=
 let a0:=x.1
 let n3:=x.2.1
 cond (decide (n3 > (0:Int)))
 (grd (decide (0<=qI (n3 - (1:Int)))&&decide (qI (n3 - (1:Int)) < a0.length)) (
 cond ((a0.getD (qI (n3 - (1:Int))).toNat (0:Int))==0)
 (some (Ex.normal,(a0,qI (n3 - (1:Int)),())))
 (some (Ex.exit 0,(a0,n3,())))))
 (some (Ex.exit 0,(a0,n3,())))
def qWD (a0:List Int):Option (((List Int)×Unit)×Unit):=
 (qMA qVB (a0,(a0.length:Int),())).bind fun y1=>
 cond (Ex.same y1.1 (Ex.exit 0))
 (grd (decide (0<=y1.2.2.1)&&decide (y1.2.2.1<=y1.2.1.length)) (some ((y1.2.1.take y1.2.2.1.toNat,()),())))
 (none)
def qEL (x:qBs×(List Int)×Int×Int×(List Int)×Int×Int×Unit):Option (Ex×(qBs×(List Int)×Int×Int×(List Int)×Int×Int×Unit)):=
 let s0:=x.1
 let out3:=x.2.1
 let end4:=x.2.2.1
 let v5:=x.2.2.2.1
 let t20:=x.2.2.2.2.1
 let t21:=x.2.2.2.2.2.1
 let t22:=x.2.2.2.2.2.2.1
 cond (decide (t22 < t21))
 (grd (decide (0<=t22)&&decide (t22 < t20.length)) (some (Ex.normal,(s0,out3,end4,IntKind.u32.wrap ((IntKind.u32.wrap (v5 * (10:Int)))+(IntKind.u32.wrap (IntKind.u8.wrap ((t20.getD t22.toNat (0:Int)) - (48:Int))))),t20,t21,qI (t22+1),()))))
 (some (Ex.exit 2,(s0,out3,end4,v5,t20,t21,t22,())))
def qKN (x:qBs×(List Int)×Int×Unit):Option (Ex×(qBs×(List Int)×Int×Unit)):=
 let s0:=x.1
 let out3:=x.2.1
 let end4:=x.2.2.1
 cond (decide (end4 > (0:Int)))
 (grd (decide (0<=qDW (qI (end4 - (9:Int))) (0:Int))&&decide (qDW (qI (end4 - (9:Int))) (0:Int)<=end4)&&decide (end4<=s0.length)) (
 (qMA qEL (s0,out3,end4,0,((s0.take end4.toNat).drop (qDW (qI (end4 - (9:Int))) (0:Int)).toNat).map fun b=>(b.toNat:Int),((((s0.take end4.toNat).drop (qDW (qI (end4 - (9:Int))) (0:Int)).toNat).map fun b=>(b.toNat:Int)).length:Int),0,())).bind fun y1=>
 cond (Ex.same y1.1 (Ex.exit 2))
 (grd (decide (y1.2.2.1.length+([y1.2.2.2.2.1]:List Int).length<=qSG)) (some (Ex.normal,(y1.2.1,y1.2.2.1++([y1.2.2.2.2.1]:List Int),qI (y1.2.2.2.1 - (9:Int)),()))))
 (none)))
 (some (Ex.exit 0,(s0,out3,end4,())))
def qQS (s0:qBs):Option (((List Int)×Unit)×Unit):=
 (qMA qKN (s0,([]:List Int),(s0.length:Int),())).bind fun y1=>
 cond (Ex.same y1.1 (Ex.exit 0))
 ((qWD y1.2.2.1).bind fun r2=>
 some ((r2.1.1,()),()))
 (none)
def qQH (x:(List Int)×(List Int)×Int×Int×Unit):Option (Ex×((List Int)×(List Int)×Int×Int×Unit)):=
 let a0:=x.1
 let b1:=x.2.1
 let t4:=x.2.2.1
 let i5:=x.2.2.2.1
 cond (decide (i5>=0))
 (grd (decide (0<=i5)&&decide (i5 < a0.length)) (
 grd (decide (0<=i5)&&decide (i5 < b1.length)) (
 cond ((a0.getD i5.toNat (0:Int)) !=(b1.getD i5.toNat (0:Int)))
 (grd (decide (0<=i5)&&decide (i5 < a0.length)) (grd (decide (0<=i5)&&decide (i5 < b1.length)) (some (Ex.ret,(a0,b1,qI ((qI (a0.getD i5.toNat (0:Int))) - (qI (b1.getD i5.toNat (0:Int)))),i5,())))))
 (some (Ex.normal,(a0,b1,t4,qI (i5 - (1:Int)),()))))))
 (some (Ex.exit 0,(a0,b1,t4,i5,())))
def qPL (a0:List Int) (b1:List Int):Option ((Int×Unit)×Unit):=
 cond ((a0.length:Int) !=(b1.length:Int))
 (some ((qI ((a0.length:Int) - (b1.length:Int)),()),()))
 ((qMA qQH (a0,b1,0,qI ((a0.length:Int) - (1:Int)),())).bind fun y1=>
 cond (Ex.same y1.1 (Ex.exit 0))
 (some ((0,()),()))
 (cond (Ex.same y1.1 Ex.ret)
 (some ((y1.2.2.2.1,()),()))
 (none)))
def qAF (x:(List Int)×Int×(List Int)×Int×Int×Unit):Option (Ex×((List Int)×Int×(List Int)×Int×Int×Unit)):=
 let a0:=x.1
 let b1:=x.2.1
 let q6:=x.2.2.1
 let rest7:=x.2.2.2.1
 let i8:=x.2.2.2.2.1
 cond (decide (i8>=0))
 (grd (decide (0<=i8)&&decide (i8 < a0.length)) (grd ((qU (b1)) !=0) (grd ((qU (b1)) !=0) (grd (decide (0<=i8)&&decide (i8 < q6.length)) (grd (decide (i8.toNat < q6.length)) (some (Ex.normal,(a0,b1,q6.set i8.toNat (IntKind.u32.wrap (qU ((qU ((qU (rest7 * (1000000000:Int)))+(qU (a0.getD i8.toNat (0:Int))))).tdiv (qU (b1))))),(qU ((qU (rest7 * (1000000000:Int)))+(qU (a0.getD i8.toNat (0:Int))))).tmod (qU (b1)),qI (i8 - (1:Int)),()))))))))
 (some (Ex.exit 0,(a0,b1,q6,rest7,i8,())))
def qNG (a0:List Int) (b1:Int):Option (((List Int)×(List Int)×Unit)×Unit):=
 grd (decide (0<=(a0.length:Int))&&decide ((a0.length:Int)<=(a0.length:Int))&&decide ((a0.length:Int)<=qSG)) (
 (qMA qAF (a0,b1,List.replicate (a0.length:Int).toNat (0:Int),0,qI ((a0.length:Int) - (1:Int)),())).bind fun y1=>
 cond (Ex.same y1.1 (Ex.exit 0))
 ((qWD y1.2.2.2.1).bind fun r2=>
 (qWD ([IntKind.u32.wrap (y1.2.2.2.2.1)]:List Int)).bind fun r3=>
 some ((r2.1.1,r3.1.1,()),()))
 (none))
def qBJ (x:(List Int)×Int×Unit):Option (Ex×((List Int)×Int×Unit)):=
 let a0:=x.1
 let n3:=x.2.1
 cond (decide (n3 > (0:Int)))
 (grd (decide (0<=qI (n3 - (1:Int)))&&decide (qI (n3 - (1:Int)) < a0.length)) (
 grd (decide ((qI (n3 - (1:Int))).toNat < a0.length)) (
 cond ((a0.getD ((qI (n3 - (1:Int))).toNat) (0:Int))==0)
 (some (Ex.normal,(a0,qI (n3 - (1:Int)),())))
 (some (Ex.exit 0,(a0,n3,()))))))
 (some (Ex.exit 0,(a0,n3,())))
def qMM (a0:List Int):Option ((Nat×Unit)×((List Int)×Unit)):=
 (qMA qBJ (a0,(a0.length:Int),())).bind fun y1=>
 cond (Ex.same y1.1 (Ex.exit 0))
 (grd (decide (0<=y1.2.2.1)&&decide (y1.2.2.1<=y1.2.1.length)) (some ((y1.2.2.1.toNat,()),y1.2.1,())))
 (none)
def qKR (x:(List Int)×(List Int)×Int×Int×Int×(List Int)×Int×Int×(List Int)×Int×Int×Unit):Option (Ex×((List Int)×(List Int)×Int×Int×Int×(List Int)×Int×Int×(List Int)×Int×Int×Unit)):=
 let b1:=x.1
 let out5:=x.2.1
 let i6:=x.2.2.1
 let x7:=x.2.2.2.1
 let carry8:=x.2.2.2.2.1
 let t18:=x.2.2.2.2.2.1
 let t19:=x.2.2.2.2.2.2.1
 let t20:=x.2.2.2.2.2.2.2.1
 let t25:=x.2.2.2.2.2.2.2.2.1
 let t26:=x.2.2.2.2.2.2.2.2.2.1
 let t27:=x.2.2.2.2.2.2.2.2.2.2.1
 cond (decide (t27 < t26))
 (grd (decide (0<=t27)&&decide (t27 < t25.length)) (grd (decide (0<=qI (i6+t27))&&decide (qI (i6+t27) < out5.length)) (grd (decide ((qI (i6+t27)).toNat < out5.length)) (grd ((1000000000:Int) !=0) (grd ((1000000000:Int) !=0) (grd (decide (0<=qI (i6+t27))&&decide (qI (i6+t27) < out5.length)) (grd (decide ((qI (i6+t27)).toNat < out5.length)) (some (Ex.normal,(b1,out5.set ((qI (i6+t27)).toNat) (IntKind.u32.wrap ((qU ((qU ((qU (out5.getD ((qI (i6+t27)).toNat) (0:Int)))+(qU ((qU (x7)) * (qU (t25.getD t27.toNat (0:Int)))))))+carry8)).tmod 1000000000)),i6,x7,qU ((qU ((qU ((qU (out5.getD ((qI (i6+t27)).toNat) (0:Int)))+(qU ((qU (x7)) * (qU (t25.getD t27.toNat (0:Int)))))))+carry8)).tdiv 1000000000),t18,t19,t20,t25,t26,qI (t27+1),()))))))))))
 (some (Ex.exit 2,(b1,out5,i6,x7,carry8,t18,t19,t20,t25,t26,t27,())))
def qTM (x:(List Int)×(List Int)×(List Int)×Int×Int×Unit):Option (Ex×((List Int)×(List Int)×(List Int)×Int×Int×Unit)):=
 let b1:=x.1
 let out5:=x.2.1
 let t18:=x.2.2.1
 let t19:=x.2.2.2.1
 let t20:=x.2.2.2.2.1
 cond (decide (t20 < t19))
 (grd (decide (0<=t20)&&decide (t20 < t18.length)) (
 (qMA qKR (b1,out5,t20,t18.getD t20.toNat (0:Int),0,t18,t19,t20,b1,(b1.length:Int),0,())).bind fun y1=>
 cond (Ex.same y1.1 (Ex.exit 2))
 (grd (decide (0<=qI (y1.2.2.2.1+(y1.2.1.length:Int)))&&decide (qI (y1.2.2.2.1+(y1.2.1.length:Int)) < y1.2.2.1.length)) (grd (decide ((qI (y1.2.2.2.1+(y1.2.1.length:Int))).toNat < y1.2.2.1.length)) (some (Ex.normal,(y1.2.1,y1.2.2.1.set ((qI (y1.2.2.2.1+(y1.2.1.length:Int))).toNat) (IntKind.u32.wrap (y1.2.2.2.2.2.1)),y1.2.2.2.2.2.2.1,y1.2.2.2.2.2.2.2.1,qI (y1.2.2.2.2.2.2.2.2.1+1),())))))
 (none)))
 (some (Ex.exit 0,(b1,out5,t18,t19,t20,())))
def qXL (a0:List Int) (b1:List Int):Option (((List Int)×Unit)×Unit):=
 grd (decide (0<=qI ((a0.length:Int)+(b1.length:Int)))&&decide (qI ((a0.length:Int)+(b1.length:Int))<=qI ((a0.length:Int)+(b1.length:Int)))&&decide (qI ((a0.length:Int)+(b1.length:Int))<=qSG)) (
 (qMA qTM (b1,List.replicate (qI ((a0.length:Int)+(b1.length:Int))).toNat (0:Int),a0,(a0.length:Int),0,())).bind fun y1=>
 cond (Ex.same y1.1 (Ex.exit 0))
 ((qMM y1.2.2.1).bind fun r2=>
 some ((r2.2.1.take r2.1.1,()),()))
 (none))
def qSC (x:(List Int)×(List Int)×Int×Int×Int×Int×Int×Unit):Option (Ex×((List Int)×(List Int)×Int×Int×Int×Int×Int×Unit)):=
 let u0:=x.1
 let v1:=x.2.1
 let times2:=x.2.2.1
 let carry7:=x.2.2.2.1
 let borrow8:=x.2.2.2.2.1
 let t12:=x.2.2.2.2.2.1
 let t13:=x.2.2.2.2.2.2.1
 cond (decide (t13 < t12))
 (cond (decide (t13 < (v1.length:Int)))
 (grd (decide (0<=t13)&&decide (t13 < v1.length)) (
 grd (decide (0<=t13)&&decide (t13 < u0.length)) (
 grd (decide (t13.toNat < u0.length)) (
 grd ((1000000000:Int) !=0) (
 grd ((1000000000:Int) !=0) (
 cond (decide ((qI ((qI ((qI (u0.getD t13.toNat (0:Int))) - borrow8)) - (qI ((qU (carry7+(qU (times2 * (qU (v1.getD t13.toNat (0:Int))))))).tmod 1000000000)))) < (0:Int)))
 (grd (decide (0<=t13)&&decide (t13 < u0.length)) (grd (decide (t13.toNat < u0.length)) (some (Ex.normal,(u0.set t13.toNat (IntKind.u32.wrap (qI ((qI ((qI ((qI (u0.getD t13.toNat (0:Int))) - borrow8)) - (qI ((qU (carry7+(qU (times2 * (qU (v1.getD t13.toNat (0:Int))))))).tmod 1000000000))))+1000000000))),v1,times2,qU ((qU (carry7+(qU (times2 * (qU (v1.getD t13.toNat (0:Int))))))).tdiv 1000000000),1,t12,qI (t13+1),())))))
 (grd (decide (0<=t13)&&decide (t13 < u0.length)) (grd (decide (t13.toNat < u0.length)) (some (Ex.normal,(u0.set t13.toNat (IntKind.u32.wrap (qI ((qI ((qI (u0.getD t13.toNat (0:Int))) - borrow8)) - (qI ((qU (carry7+(qU (times2 * (qU (v1.getD t13.toNat (0:Int))))))).tmod 1000000000))))),v1,times2,qU ((qU (carry7+(qU (times2 * (qU (v1.getD t13.toNat (0:Int))))))).tdiv 1000000000),0,t12,qI (t13+1),())))))))))))
 (grd (decide (0<=t13)&&decide (t13 < u0.length)) (
 grd (decide (t13.toNat < u0.length)) (
 grd ((1000000000:Int) !=0) (
 grd ((1000000000:Int) !=0) (
 cond (decide ((qI ((qI ((qI (u0.getD t13.toNat (0:Int))) - borrow8)) - (qI (carry7.tmod 1000000000)))) < (0:Int)))
 (grd (decide (0<=t13)&&decide (t13 < u0.length)) (grd (decide (t13.toNat < u0.length)) (some (Ex.normal,(u0.set t13.toNat (IntKind.u32.wrap (qI ((qI ((qI ((qI (u0.getD t13.toNat (0:Int))) - borrow8)) - (qI (carry7.tmod 1000000000))))+1000000000))),v1,times2,qU (carry7.tdiv 1000000000),1,t12,qI (t13+1),())))))
 (grd (decide (0<=t13)&&decide (t13 < u0.length)) (grd (decide (t13.toNat < u0.length)) (some (Ex.normal,(u0.set t13.toNat (IntKind.u32.wrap (qI ((qI ((qI (u0.getD t13.toNat (0:Int))) - borrow8)) - (qI (carry7.tmod 1000000000))))),v1,times2,qU (carry7.tdiv 1000000000),0,t12,qI (t13+1),())))))))))))
 (some (Ex.exit 0,(u0,v1,times2,carry7,borrow8,t12,t13,())))
def qCN (u0:List Int) (v1:List Int) (times2:Int):Option ((Bool×Unit)×((List Int)×Unit)):=
 (qMA qSC (u0,v1,times2,0,0,(u0.length:Int),0,())).bind fun y1=>
 cond (Ex.same y1.1 (Ex.exit 0))
 (some ((decide (y1.2.2.2.2.2.1 > (0:Int)),()),y1.2.1,()))
 (none)
def qGO (a0:List Int) (i1:Int):Option ((Int×Unit)×Unit):=
 cond (decide (i1>=(a0.length:Int)))
 (some ((0,()),()))
 (grd (decide (0<=i1)&&decide (i1 < a0.length)) (some ((a0.getD i1.toNat (0:Int),()),())))
def qIK (x:(List Int)×(List Int)×Int×Int×Int×Unit):Option (Ex×((List Int)×(List Int)×Int×Int×Int×Unit)):=
 let u0:=x.1
 let v1:=x.2.1
 let carry4:=x.2.2.1
 let t8:=x.2.2.2.1
 let t9:=x.2.2.2.2.1
 cond (decide (t9 < t8))
 (grd (decide (0<=t9)&&decide (t9 < u0.length)) (
 grd (decide (t9.toNat < u0.length)) (
 (qGO v1 t9).bind fun r1=>
 grd ((1000000000:Int) !=0) (grd ((1000000000:Int) !=0) (grd (decide (0<=t9)&&decide (t9 < u0.length)) (grd (decide (t9.toNat < u0.length)) (some (Ex.normal,(u0.set t9.toNat ((IntKind.u32.wrap ((IntKind.u32.wrap ((u0.getD t9.toNat (0:Int))+r1.1.1))+carry4)).tmod 1000000000),v1,IntKind.u32.wrap ((IntKind.u32.wrap ((IntKind.u32.wrap ((u0.getD t9.toNat (0:Int))+r1.1.1))+carry4)).tdiv 1000000000),t8,qI (t9+1),())))))))))
 (some (Ex.exit 0,(u0,v1,carry4,t8,t9,())))
def qFP (u0:List Int) (v1:List Int):Option ((Unit)×((List Int)×Unit)):=
 (qMA qIK (u0,v1,0,(u0.length:Int),0,())).bind fun y1=>
 cond (Ex.same y1.1 (Ex.exit 0))
 (some ((),y1.2.1,()))
 (none)
def qKD (x:(List Int)×(List Int)×Int×Int×Int×Int×Unit):Option (Ex×((List Int)×(List Int)×Int×Int×Int×Int×Unit)):=
 let u0:=x.1
 let v1:=x.2.1
 let n5:=x.2.2.1
 let first7:=x.2.2.2.1
 let guess8:=x.2.2.2.2.1
 let rest9:=x.2.2.2.2.2.1
 cond (decide (guess8>=1000000000))
 (cond (decide ((qU (rest9+first7))>=1000000000))
 (some (Ex.exit 0,(u0,v1,n5,first7,qU (guess8 - (1:Int)),qU (rest9+first7),())))
 (some (Ex.normal,(u0,v1,n5,first7,qU (guess8 - (1:Int)),qU (rest9+first7),()))))
 (grd (decide (0<=qI (n5 - (2:Int)))&&decide (qI (n5 - (2:Int)) < v1.length)) (
 grd (decide (0<=qI (n5 - (2:Int)))&&decide (qI (n5 - (2:Int)) < u0.length)) (
 grd (decide ((qI (n5 - (2:Int))).toNat < u0.length)) (
 cond (decide ((qU (guess8 * (qU (v1.getD (qI (n5 - (2:Int))).toNat (0:Int))))) > (qU ((qU (rest9 * (1000000000:Int)))+(qU (u0.getD ((qI (n5 - (2:Int))).toNat) (0:Int)))))))
 (cond (decide ((qU (rest9+first7))>=1000000000))
 (some (Ex.exit 0,(u0,v1,n5,first7,qU (guess8 - (1:Int)),qU (rest9+first7),())))
 (some (Ex.normal,(u0,v1,n5,first7,qU (guess8 - (1:Int)),qU (rest9+first7),()))))
 (some (Ex.exit 0,(u0,v1,n5,first7,guess8,rest9,())))))))
def qVT (u0:List Int) (v1:List Int):Option ((Int×Unit)×((List Int)×Unit)):=
 grd (decide (0<=(v1.length:Int))&&decide ((v1.length:Int) < u0.length)) (
 grd (decide ((v1.length:Int).toNat < u0.length)) (
 grd (decide (0<=qI ((v1.length:Int) - (1:Int)))&&decide (qI ((v1.length:Int) - (1:Int)) < u0.length)) (
 grd (decide ((qI ((v1.length:Int) - (1:Int))).toNat < u0.length)) (
 grd (decide (0<=qI ((v1.length:Int) - (1:Int)))&&decide (qI ((v1.length:Int) - (1:Int)) < v1.length)) (
 grd ((qU (v1.getD (qI ((v1.length:Int) - (1:Int))).toNat (0:Int))) !=0) (
 grd ((qU (v1.getD (qI ((v1.length:Int) - (1:Int))).toNat (0:Int))) !=0) (
 (qMA qKD (u0,v1,(v1.length:Int),qU (v1.getD (qI ((v1.length:Int) - (1:Int))).toNat (0:Int)),qU ((qU ((qU ((qU (u0.getD ((v1.length:Int).toNat) (0:Int))) * (1000000000:Int)))+(qU (u0.getD ((qI ((v1.length:Int) - (1:Int))).toNat) (0:Int))))).tdiv (qU (v1.getD (qI ((v1.length:Int) - (1:Int))).toNat (0:Int)))),(qU ((qU ((qU (u0.getD ((v1.length:Int).toNat) (0:Int))) * (1000000000:Int)))+(qU (u0.getD ((qI ((v1.length:Int) - (1:Int))).toNat) (0:Int))))).tmod (qU (v1.getD (qI ((v1.length:Int) - (1:Int))).toNat (0:Int))),())).bind fun y1=>
 cond (Ex.same y1.1 (Ex.exit 0))
 ((qCN y1.2.1 y1.2.2.1 y1.2.2.2.2.2.1).bind fun r2=>
 cond (r2.1.1)
 ((qFP r2.2.1 y1.2.2.1).bind fun r3=>
 some ((IntKind.u32.wrap (qU (y1.2.2.2.2.2.1 - (1:Int))),()),r3.2.1,()))
 (some ((IntKind.u32.wrap (y1.2.2.2.2.2.1),()),r2.2.1,())))
 (none))))))))
def qJE (x:(List Int)×(List Int)×(List Int)×(List Int)×Unit):Option (Ex×((List Int)×(List Int)×(List Int)×(List Int)×Unit)):=
 let a0:=x.1
 let scale6:=x.2.1
 let u7:=x.2.2.1
 let v8:=x.2.2.2.1
 cond (decide ((u7.length:Int)<=(a0.length:Int)))
 (grd (decide (u7.length+([0]:List Int).length<=qSG)) (some (Ex.normal,(a0,scale6,u7++([0]:List Int),v8,()))))
 (some (Ex.exit 1,(a0,scale6,u7,v8,())))
def qXD (x:(List Int)×(List Int)×(List Int)×(List Int)×Int×Unit):Option (Ex×((List Int)×(List Int)×(List Int)×(List Int)×Int×Unit)):=
 let scale6:=x.1
 let u7:=x.2.1
 let v8:=x.2.2.1
 let q9:=x.2.2.2.1
 let j10:=x.2.2.2.2.1
 cond (decide (j10>=0))
 (grd (decide (0<=j10)&&decide (j10<=qI ((qI (j10+(v8.length:Int)))+1))&&decide (qI ((qI (j10+(v8.length:Int)))+1)<=u7.length)) (
 (qVT ((u7.drop j10.toNat).take ((qI ((qI (j10+(v8.length:Int)))+1)).toNat - j10.toNat)) v8).bind fun r1=>
 grd (decide (0<=j10)&&decide (j10 < q9.length)) (grd (decide (j10.toNat < q9.length)) (some (Ex.normal,(scale6,u7.take j10.toNat++r1.2.1++u7.drop (j10.toNat+((qI ((qI (j10+(v8.length:Int)))+1)).toNat - j10.toNat)),v8,q9.set j10.toNat r1.1.1,qI (j10 - (1:Int)),()))))))
 (some (Ex.exit 3,(scale6,u7,v8,q9,j10,())))
def qBG (a0:List Int) (b1:List Int):Option (((List Int)×(List Int)×Unit)×Unit):=
 (qPL a0 b1).bind fun r1=>
 cond (decide (r1.1.1 < (0:Int)))
 (some ((([]:List Int),a0,()),()))
 (cond ((b1.length:Int)==1)
 (grd (decide (0<=(0:Int))&&decide ((0:Int) < b1.length)) (
 (qNG a0 (b1.getD (0:Int).toNat (0:Int))).bind fun r2=>
 some ((r2.1.1,r2.1.2.1,()),())))
 (grd (decide (0<=qI ((b1.length:Int) - (1:Int)))&&decide (qI ((b1.length:Int) - (1:Int)) < b1.length)) (
 grd ((qU ((qU (b1.getD (qI ((b1.length:Int) - (1:Int))).toNat (0:Int)))+1)) !=0) (
 (qXL a0 ([IntKind.u32.wrap (qU ((1000000000:Int).tdiv (qU ((qU (b1.getD (qI ((b1.length:Int) - (1:Int))).toNat (0:Int)))+1))))]:List Int)).bind fun r3=>
 (qXL b1 ([IntKind.u32.wrap (qU ((1000000000:Int).tdiv (qU ((qU (b1.getD (qI ((b1.length:Int) - (1:Int))).toNat (0:Int)))+1))))]:List Int)).bind fun r4=>
 (qMA qJE (a0,([IntKind.u32.wrap (qU ((1000000000:Int).tdiv (qU ((qU (b1.getD (qI ((b1.length:Int) - (1:Int))).toNat (0:Int)))+1))))]:List Int),r3.1.1,r4.1.1,())).bind fun y5=>
 cond (Ex.same y5.1 (Ex.exit 1))
 (grd (decide (0<=qI ((y5.2.2.2.1.length:Int) - (y5.2.2.2.2.1.length:Int)))&&decide (qI ((y5.2.2.2.1.length:Int) - (y5.2.2.2.2.1.length:Int))<=qI ((y5.2.2.2.1.length:Int) - (y5.2.2.2.2.1.length:Int)))&&decide (qI ((y5.2.2.2.1.length:Int) - (y5.2.2.2.2.1.length:Int))<=qSG)) (
 (qMA qXD (y5.2.2.1,y5.2.2.2.1,y5.2.2.2.2.1,List.replicate (qI ((y5.2.2.2.1.length:Int) - (y5.2.2.2.2.1.length:Int))).toNat (0:Int),qI (((List.replicate (qI ((y5.2.2.2.1.length:Int) - (y5.2.2.2.2.1.length:Int))).toNat (0:Int)).length:Int) - (1:Int)),())).bind fun y6=>
 cond (Ex.same y6.1 (Ex.exit 3))
 ((qWD y6.2.2.1).bind fun r7=>
 grd (decide (0<=(0:Int))&&decide ((0:Int) < y6.2.1.length)) (
 (qNG r7.1.1 (y6.2.1.getD (0:Int).toNat (0:Int))).bind fun r8=>
 (qWD y6.2.2.2.2.1).bind fun r9=>
 some ((r9.1.1,r8.1.1,()),())))
 (none)))
 (none)))))
def qIU (x:(List Int)×(List Int)×Unit):Option (Ex×((List Int)×(List Int)×Unit)):=
 let a0:=x.1
 let b1:=x.2.1
 cond (decide ((b1.length:Int) > (0:Int)))
 ((qBG a0 b1).bind fun r1=>
 some (Ex.normal,(b1,r1.1.2.1,())))
 (some (Ex.exit 0,(a0,b1,())))
def qAn (a0:List Int) (b1:List Int):Option (((List Int)×Unit)×Unit):=
 (qMA qIU (a0,b1,())).bind fun y1=>
 cond (Ex.same y1.1 (Ex.exit 0))
 (some ((y1.2.1,()),()))
 (none)
def qAH (a0:List Int):Option ((Bool×Unit)×Unit):=
 cond ((a0.length:Int)==1)
 (grd (decide (0<=(0:Int))&&decide ((0:Int) < a0.length)) (some (((a0.getD (0:Int).toNat (0:Int))==1,()),())))
 (some ((false,()),()))
def qWE (a0:qBs):Option ((Rt×Bool×Unit)×Unit):=
 (strings_CutPrefix a0 ([45]:qBs)).bind fun r1=>
 (strings_Cut r1.1.1 ([47]:qBs)).bind fun r2=>
 (qFH r2.1.1).bind fun r3=>
 cond (!r3.1.1)
 (some (((false,([]:List Int),([]:List Int)),false,()),()))
 (cond (r2.1.1==([48]:qBs))
 (cond (r1.1.2.1)
 (some (((false,([]:List Int),([]:List Int)),false,()),()))
 (cond (r2.1.2.2.1)
 (some (((false,([]:List Int),([]:List Int)),false,()),()))
 ((qQS r2.1.1).bind fun r4=>
 cond (!r2.1.2.2.1)
 (some (((r1.1.2.1,r4.1.1,([1]:List Int)),true,()),()))
 ((qFH r2.1.2.1).bind fun r5=>
 cond (!r5.1.1)
 (some (((false,([]:List Int),([]:List Int)),false,()),()))
 (cond (r2.1.2.1==([48]:qBs))
 (some (((false,([]:List Int),([]:List Int)),false,()),()))
 (cond (r2.1.2.1==([49]:qBs))
 (some (((false,([]:List Int),([]:List Int)),false,()),()))
 ((qQS r2.1.2.1).bind fun r6=>
 (qAn r4.1.1 r6.1.1).bind fun r7=>
 (qAH r7.1.1).bind fun r8=>
 some (((r1.1.2.1,r4.1.1,r6.1.1),r8.1.1,()),()))))))))
 ((qQS r2.1.1).bind fun r9=>
 cond (!r2.1.2.2.1)
 (some (((r1.1.2.1,r9.1.1,([1]:List Int)),true,()),()))
 ((qFH r2.1.2.1).bind fun r10=>
 cond (!r10.1.1)
 (some (((false,([]:List Int),([]:List Int)),false,()),()))
 (cond (r2.1.2.1==([48]:qBs))
 (some (((false,([]:List Int),([]:List Int)),false,()),()))
 (cond (r2.1.2.1==([49]:qBs))
 (some (((false,([]:List Int),([]:List Int)),false,()),()))
 ((qQS r2.1.2.1).bind fun r11=>
 (qAn r9.1.1 r11.1.1).bind fun r12=>
 (qAH r12.1.1).bind fun r13=>
 some (((r1.1.2.1,r9.1.1,r11.1.1),r13.1.1,()),())))))))
def qPM (a0:qBs):Option ((Bool×Unit)×Unit):=
 (qDB a0).bind fun r1=>
 cond (r1.1.2.1)
 (some ((true,()),()))
 ((qWE a0).bind fun r2=>
 some ((r2.1.2.1,()),()))
def qUS (a0:qBs):Option ((Int×Unit)×Unit):=
 (qPM a0).bind fun r1=>
 cond (!r1.1.1)
 (some ((0,()),()))
 (cond (a0==([48]:qBs))
 (some ((0,()),()))
 (grd (decide (0<=(0:Int))&&decide ((0:Int) < a0.length)) (
 cond (((a0.getD (0:Int).toNat 0).toNat:Int)==45)
 (some ((-1,()),()))
 (some ((1,()),())))))
def qBv (a0:qBs):Option ((qBs×Unit)×Unit):=
 (qUS a0).bind fun r1=>
 cond (decide (r1.1.1 < (0:Int)))
 (grd (decide (0<=(1:Int))&&decide ((1:Int)<=a0.length)) (some ((a0.drop (1:Int).toNat,()),())))
 ((qUS a0).bind fun r2=>
 cond (decide (r2.1.1 > (0:Int)))
 (grd (decide (([45]:qBs).length+a0.length<=qXK)) (some ((([45]:qBs)++a0,()),())))
 (cond (a0==([48]:qBs))
 (some ((a0,()),()))
 (some ((([]:qBs),()),()))))
def qDJ (n0:Int) (d1:Int):Option ((qBs×Unit)×Unit):=
 cond (decide (d1 < (0:Int)))
 ((qIL (qDW (qI (0 - n0)) (qI (0 - (qI (0 - n0))))) (qI (0 - d1))).bind fun r1=>
 grd (r1.1.1 !=0) (
 grd (r1.1.1 !=0) (
 (qMB (qI ((qI (0 - n0)).tdiv r1.1.1)) 10).bind fun r2=>
 cond (decide ((qI ((qI (0 - d1)).tdiv r1.1.1)) > (1:Int)))
 ((qMB (qI ((qI (0 - d1)).tdiv r1.1.1)) 10).bind fun r3=>
 grd (decide (([47]:qBs).length+r3.1.1.length<=qXK)) (grd (decide (r2.1.1.length+(([47]:qBs)++r3.1.1).length<=qXK)) (some ((r2.1.1++(([47]:qBs)++r3.1.1),()),()))))
 (some ((r2.1.1,()),())))))
 ((qIL (qDW n0 (qI (0 - n0))) d1).bind fun r4=>
 grd (r4.1.1 !=0) (
 grd (r4.1.1 !=0) (
 (qMB (qI (n0.tdiv r4.1.1)) 10).bind fun r5=>
 cond (decide ((qI (d1.tdiv r4.1.1)) > (1:Int)))
 ((qMB (qI (d1.tdiv r4.1.1)) 10).bind fun r6=>
 grd (decide (([47]:qBs).length+r6.1.1.length<=qXK)) (grd (decide (r5.1.1.length+(([47]:qBs)++r6.1.1).length<=qXK)) (some ((r5.1.1++(([47]:qBs)++r6.1.1),()),()))))
 (some ((r5.1.1,()),())))))
def qQY (x0:Sml) (y1:Sml):Option ((qBs×Unit)×Unit):=
 (qDJ (qI ((qI (x0.1 * y1.2))+(qI (y1.1 * x0.2)))) (qI (x0.2 * y1.2))).bind fun r1=>
 some ((r1.1.1,()),())
def qSH (x:(List Int)×(List Int)×Int×Int×Int×(List Int)×Int×Int×(List Int)×Int×Int×Unit):Option (Ex×((List Int)×(List Int)×Int×Int×Int×(List Int)×Int×Int×(List Int)×Int×Int×Unit)):=
 let b1:=x.1
 let out5:=x.2.1
 let i6:=x.2.2.1
 let x7:=x.2.2.2.1
 let carry8:=x.2.2.2.2.1
 let t18:=x.2.2.2.2.2.1
 let t19:=x.2.2.2.2.2.2.1
 let t20:=x.2.2.2.2.2.2.2.1
 let t25:=x.2.2.2.2.2.2.2.2.1
 let t26:=x.2.2.2.2.2.2.2.2.2.1
 let t27:=x.2.2.2.2.2.2.2.2.2.2.1
 cond (decide (t27 < t26))
 (grd (decide (0<=t27)&&decide (t27 < t25.length)) (grd (decide (0<=qI (i6+t27))&&decide (qI (i6+t27) < out5.length)) (grd (decide ((qI (i6+t27)).toNat < out5.length)) (grd ((1000000000:Int) !=0) (grd ((1000000000:Int) !=0) (grd (decide (0<=qI (i6+t27))&&decide (qI (i6+t27) < out5.length)) (grd (decide ((qI (i6+t27)).toNat < out5.length)) (some (Ex.normal,(b1,out5.set ((qI (i6+t27)).toNat) (IntKind.u32.wrap ((qU ((qU ((qU (out5.getD ((qI (i6+t27)).toNat) (0:Int)))+(qU ((qU (x7)) * (qU (t25.getD t27.toNat (0:Int)))))))+carry8)).tmod 1000000000)),i6,x7,qU ((qU ((qU ((qU (out5.getD ((qI (i6+t27)).toNat) (0:Int)))+(qU ((qU (x7)) * (qU (t25.getD t27.toNat (0:Int)))))))+carry8)).tdiv 1000000000),t18,t19,t20,t25,t26,qI (t27+1),()))))))))))
 (some (Ex.exit 2,(b1,out5,i6,x7,carry8,t18,t19,t20,t25,t26,t27,())))
def qXF (x:(List Int)×(List Int)×(List Int)×Int×Int×Unit):Option (Ex×((List Int)×(List Int)×(List Int)×Int×Int×Unit)):=
 let b1:=x.1
 let out5:=x.2.1
 let t18:=x.2.2.1
 let t19:=x.2.2.2.1
 let t20:=x.2.2.2.2.1
 cond (decide (t20 < t19))
 (grd (decide (0<=t20)&&decide (t20 < t18.length)) (
 (qMA qSH (b1,out5,t20,t18.getD t20.toNat (0:Int),0,t18,t19,t20,b1,(b1.length:Int),0,())).bind fun y1=>
 cond (Ex.same y1.1 (Ex.exit 2))
 (grd (decide (0<=qI (y1.2.2.2.1+(y1.2.1.length:Int)))&&decide (qI (y1.2.2.2.1+(y1.2.1.length:Int)) < y1.2.2.1.length)) (grd (decide ((qI (y1.2.2.2.1+(y1.2.1.length:Int))).toNat < y1.2.2.1.length)) (some (Ex.normal,(y1.2.1,y1.2.2.1.set ((qI (y1.2.2.2.1+(y1.2.1.length:Int))).toNat) (IntKind.u32.wrap (y1.2.2.2.2.2.1)),y1.2.2.2.2.2.2.1,y1.2.2.2.2.2.2.2.1,qI (y1.2.2.2.2.2.2.2.2.1+1),())))))
 (none)))
 (some (Ex.exit 0,(b1,out5,t18,t19,t20,())))
def qMI (a0:List Int) (b1:List Int):Option (((List Int)×Unit)×Unit):=
 grd (decide (0<=qI ((a0.length:Int)+(b1.length:Int)))&&decide (qI ((a0.length:Int)+(b1.length:Int))<=qI ((a0.length:Int)+(b1.length:Int)))&&decide (qI ((a0.length:Int)+(b1.length:Int))<=qSG)) (
 (qMA qXF (b1,List.replicate (qI ((a0.length:Int)+(b1.length:Int))).toNat (0:Int),a0,(a0.length:Int),0,())).bind fun y1=>
 cond (Ex.same y1.1 (Ex.exit 0))
 ((qWD y1.2.2.1).bind fun r2=>
 some ((r2.1.1,()),()))
 (none))
def qVJ (x:(List Int)×(List Int)×(List Int)×Int×Int×Int×Unit):Option (Ex×((List Int)×(List Int)×(List Int)×Int×Int×Int×Unit)):=
 let a0:=x.1
 let b1:=x.2.1
 let out5:=x.2.2.1
 let carry6:=x.2.2.2.1
 let t20:=x.2.2.2.2.1
 let t21:=x.2.2.2.2.2.1
 cond (decide (t21 < t20))
 ((qGO a0 t21).bind fun r1=>
 (qGO b1 t21).bind fun r2=>
 grd ((1000000000:Int) !=0) (grd (decide (out5.length+([(IntKind.u32.wrap ((IntKind.u32.wrap (r1.1.1+r2.1.1))+carry6)).tmod 1000000000]:List Int).length<=qSG)) (grd ((1000000000:Int) !=0) (some (Ex.normal,(a0,b1,out5++([(IntKind.u32.wrap ((IntKind.u32.wrap (r1.1.1+r2.1.1))+carry6)).tmod 1000000000]:List Int),IntKind.u32.wrap ((IntKind.u32.wrap ((IntKind.u32.wrap (r1.1.1+r2.1.1))+carry6)).tdiv 1000000000),t20,qI (t21+1),()))))))
 (some (Ex.exit 0,(a0,b1,out5,carry6,t20,t21,())))
def qMN (a0:List Int) (b1:List Int):Option (((List Int)×Unit)×Unit):=
 grd (decide (0<=(0:Int))&&decide ((0:Int)<=qI ((qDW (a0.length:Int) (b1.length:Int))+1))&&decide (qI ((qDW (a0.length:Int) (b1.length:Int))+1)<=qSG)) (
 (qMA qVJ (a0,b1,List.replicate (0:Int).toNat (0:Int),0,qDW (a0.length:Int) (b1.length:Int),0,())).bind fun y1=>
 cond (Ex.same y1.1 (Ex.exit 0))
 (grd (decide (y1.2.2.2.1.length+([y1.2.2.2.2.1]:List Int).length<=qSG)) (
 (qWD (y1.2.2.2.1++([y1.2.2.2.2.1]:List Int))).bind fun r2=>
 some ((r2.1.1,()),())))
 (none))
def qLM (neg0:Bool) (num1:List Int) (den2:List Int):Option ((Rt×Unit)×Unit):=
 (qAn num1 den2).bind fun r1=>
 (qAH r1.1.1).bind fun r2=>
 cond (!r2.1.1)
 ((qBG num1 r1.1.1).bind fun r3=>
 (qBG den2 r1.1.1).bind fun r4=>
 some (((neg0,r3.1.1,r4.1.1),()),()))
 (some (((neg0,num1,den2),()),()))
def qWH (x:(List Int)×(List Int)×(List Int)×Int×Int×Int×Unit):Option (Ex×((List Int)×(List Int)×(List Int)×Int×Int×Int×Unit)):=
 let a0:=x.1
 let b1:=x.2.1
 let out5:=x.2.2.1
 let borrow6:=x.2.2.2.1
 let t13:=x.2.2.2.2.1
 let t14:=x.2.2.2.2.2.1
 cond (decide (t14 < t13))
 (grd (decide (0<=t14)&&decide (t14 < a0.length)) (
 (qGO b1 t14).bind fun r1=>
 cond (decide ((qI ((qI ((qI (a0.getD t14.toNat (0:Int))) - (qI (r1.1.1)))) - borrow6)) < (0:Int)))
 (grd (decide (out5.length+([IntKind.u32.wrap (qI ((qI ((qI ((qI (a0.getD t14.toNat (0:Int))) - (qI (r1.1.1)))) - borrow6))+1000000000))]:List Int).length<=qSG)) (some (Ex.normal,(a0,b1,out5++([IntKind.u32.wrap (qI ((qI ((qI ((qI (a0.getD t14.toNat (0:Int))) - (qI (r1.1.1)))) - borrow6))+1000000000))]:List Int),1,t13,qI (t14+1),()))))
 (grd (decide (out5.length+([IntKind.u32.wrap (qI ((qI ((qI (a0.getD t14.toNat (0:Int))) - (qI (r1.1.1)))) - borrow6))]:List Int).length<=qSG)) (some (Ex.normal,(a0,b1,out5++([IntKind.u32.wrap (qI ((qI ((qI (a0.getD t14.toNat (0:Int))) - (qI (r1.1.1)))) - borrow6))]:List Int),0,t13,qI (t14+1),()))))))
 (some (Ex.exit 0,(a0,b1,out5,borrow6,t13,t14,())))
def qTL (a0:List Int) (b1:List Int):Option (((List Int)×Unit)×Unit):=
 grd (decide (0<=(0:Int))&&decide ((0:Int)<=(a0.length:Int))&&decide ((a0.length:Int)<=qSG)) (
 (qMA qWH (a0,b1,List.replicate (0:Int).toNat (0:Int),0,(a0.length:Int),0,())).bind fun y1=>
 cond (Ex.same y1.1 (Ex.exit 0))
 ((qWD y1.2.2.2.1).bind fun r2=>
 some ((r2.1.1,()),()))
 (none))
def qEU (x0:Rt) (y1:Rt):Option ((Rt×Unit)×Unit):=
 (qMI x0.2.1 y1.2.2).bind fun r1=>
 (qMI y1.2.1 x0.2.2).bind fun r2=>
 (qMI x0.2.2 y1.2.2).bind fun r3=>
 cond (x0.1==y1.1)
 ((qMN r1.1.1 r2.1.1).bind fun r4=>
 (qLM x0.1 r4.1.1 r3.1.1).bind fun r5=>
 some (((r5.1.1.1,r5.1.1.2.1,r5.1.1.2.2),()),()))
 ((qPL r1.1.1 r2.1.1).bind fun r6=>
 cond (decide (r6.1.1>=0))
 ((qTL r1.1.1 r2.1.1).bind fun r7=>
 (qLM x0.1 r7.1.1 r3.1.1).bind fun r8=>
 some (((r8.1.1.1,r8.1.1.2.1,r8.1.1.2.2),()),()))
 ((qTL r2.1.1 r1.1.1).bind fun r9=>
 (qLM y1.1 r9.1.1 r3.1.1).bind fun r10=>
 some (((r10.1.1.1,r10.1.1.2.1,r10.1.1.2.2),()),())))
def qGA (b0:Unit×List Int) (s1:qBs):Option ((Int×Bool×Unit)×((Unit×List Int)×Unit)):=
 (qUC ((),b0.2)).bind fun r1=>
 grd (decide (r1.2.1.2.length+(s1.map fun c=>((c.toNat:Nat):Int)).length<=qSG)) (some (((s1.length:Int),false,()),((),r1.2.1.2++(s1.map fun c=>((c.toNat:Nat):Int))),()))
def qKG (v:Int) (i:Nat) (x:(Unit×List Int)×Unit):Option ((Unit×List Int)×Unit):=
 let b3:=x.1
 (qWC (qU (v)) 10).bind fun r1=>
 grd (decide (0<=(r1.1.1.length:Int))&&decide ((r1.1.1.length:Int)<=([48,48,48,48,48,48,48,48,48]:qBs).length)) (
 (qGA ((),b3.2) (([48,48,48,48,48,48,48,48,48]:qBs).drop (r1.1.1.length:Int).toNat)).bind fun r2=>
 (qGA ((),r2.2.1.2) r1.1.1).bind fun r3=>
 some (((),r3.2.1.2),()))
def qXI (y:(Unit×List Int)×Unit) (o:(Unit×List Int)×Unit):(Unit×List Int)×Unit:=(o.1,())
def qWI (y:(Unit×List Int)×Unit):(Unit×List Int)×Unit:=(y.1,())
def qCJ (a0:List Int):Option ((qBs×Unit)×Unit):=
 cond ((a0.length:Int)==0)
 (some ((([48]:qBs),()),()))
 (grd (decide (0<=qI ((a0.length:Int) - (1:Int)))&&decide (qI ((a0.length:Int) - (1:Int)) < a0.length)) (
 (qWC (qU (a0.getD (qI ((a0.length:Int) - (1:Int))).toNat (0:Int))) 10).bind fun r1=>
 (qGA ((),([]:List Int)) r1.1.1).bind fun r2=>
 grd (decide (0<=qI ((a0.length:Int) - (1:Int)))&&decide (qI ((a0.length:Int) - (1:Int))<=a0.length)) (
 grd (decide ((a0.take (qI ((a0.length:Int) - (1:Int))).toNat).length<=qSG)) (((qXR (fun p y=>(qKG p.1 p.2 y).bind fun o=>some (qXI y o)) (a0.take (qI ((a0.length:Int) - (1:Int))).toNat).zipIdx.reverse (((),r2.2.1.2),())).bind fun y=>some ((),qWI y)).bind fun y3=>
 (qMC ((),y3.2.1.2)).bind fun r4=>
 some ((r4.1.1,()),())))))
def qXH (x0:Rt):Option ((qBs×Unit)×Unit):=
 (qCJ x0.2.1).bind fun r1=>
 cond (x0.1)
 (cond (decide ((x0.2.1.length:Int) > (0:Int)))
 (grd (decide (([45]:qBs).length+r1.1.1.length<=qXK)) (
 (qAH x0.2.2).bind fun r2=>
 cond (!r2.1.1)
 ((qCJ x0.2.2).bind fun r3=>
 grd (decide (([47]:qBs).length+r3.1.1.length<=qXK)) (grd (decide ((([45]:qBs)++r1.1.1).length+(([47]:qBs)++r3.1.1).length<=qXK)) (some (((([45]:qBs)++r1.1.1)++(([47]:qBs)++r3.1.1),()),()))))
 (some ((([45]:qBs)++r1.1.1,()),()))))
 ((qAH x0.2.2).bind fun r4=>
 cond (!r4.1.1)
 ((qCJ x0.2.2).bind fun r5=>
 grd (decide (([47]:qBs).length+r5.1.1.length<=qXK)) (grd (decide (r1.1.1.length+(([47]:qBs)++r5.1.1).length<=qXK)) (some ((r1.1.1++(([47]:qBs)++r5.1.1),()),()))))
 (some ((r1.1.1,()),()))))
 ((qAH x0.2.2).bind fun r6=>
 cond (!r6.1.1)
 ((qCJ x0.2.2).bind fun r7=>
 grd (decide (([47]:qBs).length+r7.1.1.length<=qXK)) (grd (decide (r1.1.1.length+(([47]:qBs)++r7.1.1).length<=qXK)) (some ((r1.1.1++(([47]:qBs)++r7.1.1),()),()))))
 (some ((r1.1.1,()),())))
def qKZ (x0:Rt) (y1:Rt):Option ((qBs×Unit)×Unit):=
 (qEU (x0.1,x0.2.1,x0.2.2) (y1.1,y1.2.1,y1.2.2)).bind fun r1=>
 (qXH (r1.1.1.1,r1.1.1.2.1,r1.1.1.2.2)).bind fun r2=>
 some ((r2.1.1,()),())
def qBC (a0:qBs) (b1:qBs) (small2:Unit) (all3:Unit):Option ((qBs×Unit)×Unit):=
 (qDB a0).bind fun r1=>
 (qDB b1).bind fun r2=>
 cond (r1.1.2.1)
 (cond (r2.1.2.1)
 ((qQY (r1.1.1.1,r1.1.1.2) (r2.1.1.1,r2.1.1.2)).bind fun r3=>
 some ((r3.1.1,()),()))
 ((qWE a0).bind fun r4=>
 (qWE b1).bind fun r5=>
 cond (!r4.1.2.1)
 (some ((([]:qBs),()),()))
 (cond (!r5.1.2.1)
 (some ((([]:qBs),()),()))
 ((qKZ (r4.1.1.1,r4.1.1.2.1,r4.1.1.2.2) (r5.1.1.1,r5.1.1.2.1,r5.1.1.2.2)).bind fun r6=>
 some ((r6.1.1,()),())))))
 ((qWE a0).bind fun r7=>
 (qWE b1).bind fun r8=>
 cond (!r7.1.2.1)
 (some ((([]:qBs),()),()))
 (cond (!r8.1.2.1)
 (some ((([]:qBs),()),()))
 ((qKZ (r7.1.1.1,r7.1.1.2.1,r7.1.1.2.2) (r8.1.1.1,r8.1.1.2.1,r8.1.1.2.2)).bind fun r9=>
 some ((r9.1.1,()),()))))
def qBu (a0:qBs) (b1:qBs):Option ((qBs×Unit)×Unit):=
 (qBC a0 b1 () ()).bind fun r1=>
 some ((r1.1.1,()),())
def qLr (a0:qBs) (b1:qBs):Option ((qBs×Unit)×Unit):=
 (qBv b1).bind fun r1=>
 (qBu a0 r1.1.1).bind fun r2=>
 some ((r2.1.1,()),())
def qMS (a0:qBs) (b1:qBs):Option ((Int×Unit)×Unit):=
 (qLr a0 b1).bind fun r1=>
 (qUS r1.1.1).bind fun r2=>
 some ((r2.1.1,()),())
def qRI (x:Val×Bool×(List qBs)×Int×Int×Unit):Option (Ex×(Val×Bool×(List qBs)×Int×Int×Unit)):=
 let v1:=x.1
 let t2:=x.2.1
 let t13:=x.2.2.1
 let t14:=x.2.2.2.1
 let t15:=x.2.2.2.2.1
 cond (decide (t15 < t14))
 (grd (decide (0<=t15)&&decide (t15 < t13.length)) (
 (qOE (t13.getD t15.toNat ([]:qBs))).bind fun r1=>
 cond (!r1.1.1)
 (some (Ex.ret,(v1,false,t13,t14,t15,())))
 (grd (decide (0<=t15)&&decide (t15 < v1.2.2.2.2.length)) (
 (qOE (v1.2.2.2.2.getD t15.toNat ([]:qBs))).bind fun r2=>
 cond (!r2.1.1)
 (some (Ex.ret,(v1,false,t13,t14,t15,())))
 (grd (decide (0<=t15)&&decide (t15 < v1.2.2.2.2.length)) (
 cond ((v1.2.2.2.2.getD t15.toNat ([]:qBs))==v1.2.2.1)
 (some (Ex.ret,(v1,false,t13,t14,t15,())))
 (cond (decide (t15 > (0:Int)))
 (grd (decide (0<=qI (t15 - (1:Int)))&&decide (qI (t15 - (1:Int)) < v1.2.2.2.1.length)) (
 (qMS (v1.2.2.2.1.getD (qI (t15 - (1:Int))).toNat ([]:qBs)) (t13.getD t15.toNat ([]:qBs))).bind fun r3=>
 cond (decide (r3.1.1>=0))
 (some (Ex.ret,(v1,false,t13,t14,t15,())))
 (some (Ex.normal,(v1,t2,t13,t14,qI (t15+1),())))))
 (some (Ex.normal,(v1,t2,t13,t14,qI (t15+1),()))))))))))
 (some (Ex.exit 0,(v1,t2,t13,t14,t15,())))
def qQQ (v0:Val):Option ((Bool×Unit)×Unit):=
 cond ((v0.2.2.2.1.length:Int) !=(v0.2.2.2.2.length:Int))
 (some ((false,()),()))
 ((qMA qRI (v0,false,v0.2.2.2.1,(v0.2.2.2.1.length:Int),0,())).bind fun y1=>
 cond (Ex.same y1.1 (Ex.exit 0))
 (some ((true,()),()))
 (cond (Ex.same y1.1 Ex.ret)
 (some ((y1.2.2.1,()),()))
 (none)))
def qVP (v0:Val):Option ((Bool×Unit)×Unit):=
 cond (v0.1==1)
 (cond (v0.2.2.1==([]:qBs))
 ((qVQ v0).bind fun r1=>
 some ((r1.1.1,()),()))
 (some ((false,()),())))
 (cond (v0.1==2)
 (cond (!v0.2.1)
 ((qOE v0.2.2.1).bind fun r2=>
 cond (r2.1.1)
 ((qVQ v0).bind fun r3=>
 some ((r3.1.1,()),()))
 (some ((false,()),())))
 (some ((false,()),())))
 (cond (v0.1==3)
 (cond (!v0.2.1)
 ((qPM v0.2.2.1).bind fun r4=>
 cond (r4.1.1)
 ((qVQ v0).bind fun r5=>
 some ((r5.1.1,()),()))
 (some ((false,()),())))
 (some ((false,()),())))
 (cond (v0.1==4)
 (cond (!v0.2.1)
 ((qOE v0.2.2.1).bind fun r6=>
 cond (r6.1.1)
 ((qQQ v0).bind fun r7=>
 some ((r7.1.1,()),()))
 (some ((false,()),())))
 (some ((false,()),())))
 (some ((false,()),())))))
def qCa (v0:Val):Option ((Bool×Unit)×Unit):=
 cond (v0.1==4)
 ((qVP v0).bind fun r1=>
 some ((r1.1.1,()),()))
 (some ((false,()),()))
def qKY (v0:Val):Option (((Int×Bool×qBs×(List qBs)×List qBs)×Unit)×Unit):=
 (qLC v0.2.2.2.1).bind fun r1=>
 (qLC v0.2.2.2.2).bind fun r2=>
 some (((v0.1,v0.2.1,v0.2.2.1,r1.1.1,r2.1.1),()),())
def qCA (x:(List qBs)×qBs×Unit×Int×Int×Int×Unit):Option (Ex×((List qBs)×qBs×Unit×Int×Int×Int×Unit)):=
 let x0:=x.1
 let target1:=x.2.1
 let cmp2:=x.2.2.1
 let n8:=x.2.2.2.1
 let i9:=x.2.2.2.2.1
 let j10:=x.2.2.2.2.2.1
 cond (decide (i9 < j10))
 (grd (decide (0<=(1:Int))) (
 grd (decide (0<=qI ((qU (qI (i9+j10))).fdiv (2 ^ min (1:Int).toNat IntKind.u64.bits)))&&decide (qI ((qU (qI (i9+j10))).fdiv (2 ^ min (1:Int).toNat IntKind.u64.bits)) < x0.length)) (
 (qMS (x0.getD (qI ((qU (qI (i9+j10))).fdiv (2 ^ min (1:Int).toNat IntKind.u64.bits))).toNat ([]:qBs)) target1).bind fun r1=>
 cond (decide (r1.1.1 < (0:Int)))
 (some (Ex.normal,(x0,target1,(),n8,qI ((qI ((qU (qI (i9+j10))).fdiv (2 ^ min (1:Int).toNat IntKind.u64.bits)))+1),j10,())))
 (some (Ex.normal,(x0,target1,(),n8,i9,qI ((qU (qI (i9+j10))).fdiv (2 ^ min (1:Int).toNat IntKind.u64.bits)),()))))))
 (some (Ex.exit 0,(x0,target1,(),n8,i9,j10,())))
def qHA (x0:List qBs) (target1:qBs) (cmp2:Unit):Option ((Int×Bool×Unit)×Unit):=
 (qMA qCA (x0,target1,(),(x0.length:Int),0,(x0.length:Int),())).bind fun y1=>
 cond (Ex.same y1.1 (Ex.exit 0))
 (cond (decide (y1.2.2.2.2.2.1 < y1.2.2.2.2.1))
 (grd (decide (0<=y1.2.2.2.2.2.1)&&decide (y1.2.2.2.2.2.1 < y1.2.1.length)) (
 (qMS (y1.2.1.getD y1.2.2.2.2.2.1.toNat ([]:qBs)) y1.2.2.1).bind fun r2=>
 some ((y1.2.2.2.2.2.1,r2.1.1==0,()),())))
 (some ((y1.2.2.2.2.2.1,false,()),())))
 (none)
def qXU (a0:Val) (index1:qBs):Option ((Int×Bool×Unit)×Unit):=
 (qHA a0.2.2.2.1 index1 ()).bind fun r1=>
 some ((r1.1.1,r1.1.2.1,()),())
def qCV (a0:Val) (index1:qBs) (num2:qBs):Option ((Val×Unit)×Unit):=
 (qKY a0).bind fun r1=>
 (qXU r1.1.1 index1).bind fun r2=>
 cond (r2.1.2.1)
 (cond (num2==r1.1.1.2.2.1)
 ((qIB r1.1.1.2.2.2.1 r2.1.1 (qI (r2.1.1+1))).bind fun r3=>
 (qIB r1.1.1.2.2.2.2 r2.1.1 (qI (r2.1.1+1))).bind fun r4=>
 some (((r1.1.1.1,r1.1.1.2.1,r1.1.1.2.2.1,r3.2.1.take r3.1.1,r4.2.1.take r4.1.1),()),()))
 (cond (r2.1.2.1)
 (grd (decide (0<=r2.1.1)&&decide (r2.1.1 < r1.1.1.2.2.2.2.length)) (grd (decide (r2.1.1.toNat < r1.1.1.2.2.2.2.length)) (some (((r1.1.1.1,r1.1.1.2.1,r1.1.1.2.2.1,r1.1.1.2.2.2.1,r1.1.1.2.2.2.2.set r2.1.1.toNat num2),()),()))))
 (cond (!(num2==r1.1.1.2.2.1))
 ((qPA r1.1.1.2.2.2.1 r2.1.1 ([index1]:List qBs)).bind fun r5=>
 (qPA r1.1.1.2.2.2.2 r2.1.1 ([num2]:List qBs)).bind fun r6=>
 some (((r1.1.1.1,r1.1.1.2.1,r1.1.1.2.2.1,r5.1.1,r6.1.1),()),()))
 (some ((r1.1.1,()),())))))
 (cond (r2.1.2.1)
 (grd (decide (0<=r2.1.1)&&decide (r2.1.1 < r1.1.1.2.2.2.2.length)) (grd (decide (r2.1.1.toNat < r1.1.1.2.2.2.2.length)) (some (((r1.1.1.1,r1.1.1.2.1,r1.1.1.2.2.1,r1.1.1.2.2.2.1,r1.1.1.2.2.2.2.set r2.1.1.toNat num2),()),()))))
 (cond (!(num2==r1.1.1.2.2.1))
 ((qPA r1.1.1.2.2.2.1 r2.1.1 ([index1]:List qBs)).bind fun r7=>
 (qPA r1.1.1.2.2.2.2 r2.1.1 ([num2]:List qBs)).bind fun r8=>
 some (((r1.1.1.1,r1.1.1.2.1,r1.1.1.2.2.1,r7.1.1,r8.1.1),()),()))
 (some ((r1.1.1,()),()))))
def qMF (a0:Val) (index1:qBs) (num2:qBs):Option ((Val×Int×Unit)×Unit):=
 (qCa a0).bind fun r1=>
 cond (!r1.1.1)
 (some ((((0:Int),false,([]:qBs),([]:List qBs),([]:List qBs)),1,()),()))
 ((qOE index1).bind fun r2=>
 cond (!r2.1.1)
 (some ((((0:Int),false,([]:qBs),([]:List qBs),([]:List qBs)),1,()),()))
 ((qOE num2).bind fun r3=>
 cond (!r3.1.1)
 (some ((((0:Int),false,([]:qBs),([]:List qBs),([]:List qBs)),1,()),()))
 ((qCV a0 index1 num2).bind fun r4=>
 some ((r4.1.1,0,()),()))))
def qHaa (sort0:Int) (num1:qBs):Option (((List Nod)×Unit)×Unit):=
 some ((([(3,sort0,([]:qBs),num1,(0:Int))]:List Nod),()),())
def qXg (x:(List (List Nod))×(List Nod)×Int×Unit):Option (Ex×((List (List Nod))×(List Nod)×Int×Unit)):=
 let kids1:=x.1
 let t5:=x.2.1
 let i6:=x.2.2.1
 cond (decide (i6 < (kids1.length:Int)))
 (grd (decide (0<=i6)&&decide (i6 < kids1.length)) (grd (decide (t5.length+(kids1.getD i6.toNat ([]:List Nod)).length<=qSG)) (some (Ex.normal,(kids1,t5++(kids1.getD i6.toNat ([]:List Nod)),qI (i6+1),())))))
 (some (Ex.exit 0,(kids1,t5,i6,())))
def qGz (n0:Nod) (kids1:List (List Nod)):Option (((List Nod)×Unit)×Unit):=
 (qMA qXg (kids1,([(n0.1,n0.2.1,n0.2.2.1,n0.2.2.2.1,(kids1.length:Int))]:List Nod),0,())).bind fun y1=>
 cond (Ex.same y1.1 (Ex.exit 0))
 (some ((y1.2.2.1,()),()))
 (none)
def qCU (x:(List (qBs×Val))×Bool×(List (qBs×Val))×(List qKm)×Int×Int×Unit):Option (Ex×((List (qBs×Val))×Bool×(List (qBs×Val))×(List qKm)×Int×Int×Unit)):=
 let t2:=x.1
 let t3:=x.2.1
 let out4:=x.2.2.1
 let t10:=x.2.2.2.1
 let t11:=x.2.2.2.2.1
 let t12:=x.2.2.2.2.2.1
 cond (decide (t12 < t11))
 (grd (decide (0<=t12)&&decide (t12 < t10.length)) (
 (qVP ((t10.getD t12.toNat qJx).2)).bind fun r1=>
 cond (!r1.1.1)
 (some (Ex.ret,(([]:List (qBs×Val)),false,out4,t10,t11,t12,())))
 (cond (!((qNF ((t10.getD t12.toNat qJx).1) out4).isSome))
 (some (Ex.normal,(t2,t3,qPd ((t10.getD t12.toNat qJx).1) ((t10.getD t12.toNat qJx).2) out4,t10,t11,qI (t12+1),())))
 (some (Ex.normal,(t2,t3,out4,t10,t11,qI (t12+1),()))))))
 (some (Ex.exit 0,(t2,t3,out4,t10,t11,t12,())))
def qHc (env0:List qKm):Option (((List (qBs×Val))×Bool×Unit)×Unit):=
 (qMA qCU (([]:List (qBs×Val)),false,([]:List (qBs×Val)),env0,(env0.length:Int),0,())).bind fun y1=>
 cond (Ex.same y1.1 (Ex.exit 0))
 (some ((y1.2.2.2.1,true,()),()))
 (cond (Ex.same y1.1 Ex.ret)
 (some ((y1.2.1,y1.2.2.1,()),()))
 (none))
def qRW (v0:Val):Option ((Bool×Unit)×Unit):=
 (qVP v0).bind fun r1=>
 some ((!r1.1.1,()),())
def qHC (x:(List Val)×Unit×Int×Int×Int×Unit):Option (Ex×((List Val)×Unit×Int×Int×Int×Unit)):=
 let s0:=x.1
 let f1:=x.2.1
 let t4:=x.2.2.1
 let t7:=x.2.2.2.1
 let t8:=x.2.2.2.2.1
 cond (decide (t8 < t7))
 (grd (decide (0<=t8)&&decide (t8 < s0.length)) (
 (qRW (s0.getD t8.toNat qRP)).bind fun r1=>
 cond (r1.1.1)
 (some (Ex.ret,(s0,(),t8,t7,t8,())))
 (some (Ex.normal,(s0,(),t4,t7,qI (t8+1),())))))
 (some (Ex.exit 0,(s0,(),t4,t7,t8,())))
def qOC (s0:List Val) (f1:Unit):Option ((Int×Unit)×Unit):=
 (qMA qHC (s0,(),0,(s0.length:Int),0,())).bind fun y1=>
 cond (Ex.same y1.1 (Ex.exit 0))
 (some ((-1,()),()))
 (cond (Ex.same y1.1 Ex.ret)
 (some ((y1.2.2.2.1,()),()))
 (none))
def qGC (s0:List Val) (f1:Unit):Option ((Bool×Unit)×Unit):=
 (qOC s0 ()).bind fun r1=>
 some ((decide (r1.1.1>=0),()),())
def qGV (l0:List Val):Option ((Bool×Unit)×Unit):=
 (qGC l0 ()).bind fun r1=>
 some ((!r1.1.1,()),())
def qAW (l0:List Val):Option ((Bool×Unit)×Unit):=
 (qGV l0).bind fun r1=>
 some ((!r1.1.1,()),())
def qFC (x:(List (List Val))×Unit×Int×Int×Int×Unit):Option (Ex×((List (List Val))×Unit×Int×Int×Int×Unit)):=
 let s0:=x.1
 let f1:=x.2.1
 let t4:=x.2.2.1
 let t7:=x.2.2.2.1
 let t8:=x.2.2.2.2.1
 cond (decide (t8 < t7))
 (grd (decide (0<=t8)&&decide (t8 < s0.length)) (
 (qAW (s0.getD t8.toNat ([]:List Val))).bind fun r1=>
 cond (r1.1.1)
 (some (Ex.ret,(s0,(),t8,t7,t8,())))
 (some (Ex.normal,(s0,(),t4,t7,qI (t8+1),())))))
 (some (Ex.exit 0,(s0,(),t4,t7,t8,())))
def qNC (s0:List (List Val)) (f1:Unit):Option ((Int×Unit)×Unit):=
 (qMA qFC (s0,(),0,(s0.length:Int),0,())).bind fun y1=>
 cond (Ex.same y1.1 (Ex.exit 0))
 (some ((-1,()),()))
 (cond (Ex.same y1.1 Ex.ret)
 (some ((y1.2.2.2.1,()),()))
 (none))
def qDC (s0:List (List Val)) (f1:Unit):Option ((Bool×Unit)×Unit):=
 (qNC s0 ()).bind fun r1=>
 some ((decide (r1.1.1>=0),()),())
def qRU (x:(List (qBs×Interp))×Bool×(List (qBs×Interp))×(List Interp)×Int×Int×Unit):Option (Ex×((List (qBs×Interp))×Bool×(List (qBs×Interp))×(List Interp)×Int×Int×Unit)):=
 let t2:=x.1
 let t3:=x.2.1
 let out4:=x.2.2.1
 let t10:=x.2.2.2.1
 let t11:=x.2.2.2.2.1
 let t12:=x.2.2.2.2.2.1
 cond (decide (t12 < t11))
 (grd (decide (0<=t12)&&decide (t12 < t10.length)) (
 cond (((((t10.getD t12.toNat qHI).2).1).length:Int) !=(((((t10.getD t12.toNat qHI).2).2).1).length:Int))
 (some (Ex.ret,(([]:List (qBs×Interp)),false,out4,t10,t11,t12,())))
 ((qGV ((((t10.getD t12.toNat qHI).2).2).1)).bind fun r1=>
 cond (!r1.1.1)
 (some (Ex.ret,(([]:List (qBs×Interp)),false,out4,t10,t11,t12,())))
 ((qVP ((((t10.getD t12.toNat qHI).2).2).2)).bind fun r2=>
 cond (!r2.1.1)
 (some (Ex.ret,(([]:List (qBs×Interp)),false,out4,t10,t11,t12,())))
 ((qDC (((t10.getD t12.toNat qHI).2).1) ()).bind fun r3=>
 cond (r3.1.1)
 (some (Ex.ret,(([]:List (qBs×Interp)),false,out4,t10,t11,t12,())))
 (cond (!((qNF ((t10.getD t12.toNat qHI).1) out4).isSome))
 (some (Ex.normal,(t2,t3,qPd ((t10.getD t12.toNat qHI).1) (t10.getD t12.toNat qHI) out4,t10,t11,qI (t12+1),())))
 (some (Ex.normal,(t2,t3,out4,t10,t11,qI (t12+1),())))))))))
 (some (Ex.exit 0,(t2,t3,out4,t10,t11,t12,())))
def qIb (fns0:List Interp):Option (((List (qBs×Interp))×Bool×Unit)×Unit):=
 (qMA qRU (([]:List (qBs×Interp)),false,([]:List (qBs×Interp)),fns0,(fns0.length:Int),0,())).bind fun y1=>
 cond (Ex.same y1.1 (Ex.exit 0))
 (some ((y1.2.2.2.1,true,()),()))
 (cond (Ex.same y1.1 Ex.ret)
 (some ((y1.2.1,y1.2.2.1,()),()))
 (none))
def qVb (sort0:Int) (a1:qBs):Option ((Bool×Unit)×Unit):=
 cond (sort0==2)
 ((qOE a1).bind fun r1=>
 cond (r1.1.1)
 (some ((true,()),()))
 (cond (sort0==3)
 ((qPM a1).bind fun r2=>
 some ((r2.1.1,()),()))
 (some ((false,()),()))))
 (cond (sort0==3)
 ((qPM a1).bind fun r3=>
 some ((r3.1.1,()),()))
 (some ((false,()),())))
def qCd (s0:Int):Option ((Bool×Unit)×Unit):=
 cond (decide (s0>=1))
 (some ((decide (s0<=4),()),()))
 (some ((false,()),()))
def qMd (c0:Int):Option ((Bool×Unit)×Unit):=
 cond (decide (c0>=97))
 (cond (decide (c0<=122))
 (some ((true,()),()))
 (cond (decide (c0>=65))
 (cond (decide (c0<=90))
 (some ((true,()),()))
 (cond (c0==95)
 (some ((true,()),()))
 (cond (c0==36)
 (some ((true,()),()))
 (some ((c0==33,()),())))))
 (cond (c0==95)
 (some ((true,()),()))
 (cond (c0==36)
 (some ((true,()),()))
 (some ((c0==33,()),()))))))
 (cond (decide (c0>=65))
 (cond (decide (c0<=90))
 (some ((true,()),()))
 (cond (c0==95)
 (some ((true,()),()))
 (cond (c0==36)
 (some ((true,()),()))
 (some ((c0==33,()),())))))
 (cond (c0==95)
 (some ((true,()),()))
 (cond (c0==36)
 (some ((true,()),()))
 (some ((c0==33,()),())))))
def qTz (s0:qBs):Option ((Bool×Unit)×Unit):=
 cond (s0==([97,110,100]:qBs))
 (some ((true,()),()))
 (cond (s0==([111,114]:qBs))
 (some ((true,()),()))
 (cond (s0==([110,111,116]:qBs))
 (some ((true,()),()))
 (cond (s0==([105,116,101]:qBs))
 (some ((true,()),()))
 (cond (s0==([116,114,117,101]:qBs))
 (some ((true,()),()))
 (cond (s0==([102,97,108,115,101]:qBs))
 (some ((true,()),()))
 (cond (s0==([108,101,116]:qBs))
 (some ((true,()),()))
 (cond (s0==([102,111,114,97,108,108]:qBs))
 (some ((true,()),()))
 (cond (s0==([101,120,105,115,116,115]:qBs))
 (some ((true,()),()))
 (cond (s0==([100,105,115,116,105,110,99,116]:qBs))
 (some ((true,()),()))
 (cond (s0==([100,105,118]:qBs))
 (some ((true,()),()))
 (cond (s0==([109,111,100]:qBs))
 (some ((true,()),()))
 (cond (s0==([115,101,108,101,99,116]:qBs))
 (some ((true,()),()))
 (cond (s0==([115,116,111,114,101]:qBs))
 (some ((true,()),()))
 (cond (s0==([99,111,110,115,116]:qBs))
 (some ((true,()),()))
 (cond (s0==([66,111,111,108]:qBs))
 (some ((true,()),()))
 (cond (s0==([73,110,116]:qBs))
 (some ((true,()),()))
 (cond (s0==([82,101,97,108]:qBs))
 (some ((true,()),()))
 (cond (s0==([65,114,114,97,121]:qBs))
 (some ((true,()),()))
 (some ((false,()),()))))))))))))))))))))
def qLY (x:qBs×Bool×Int×Int×Unit):Option (Ex×(qBs×Bool×Int×Int×Unit)):=
 let s0:=x.1
 let t2:=x.2.1
 let t23:=x.2.2.1
 let t24:=x.2.2.2.1
 cond (decide (t24 < t23))
 (grd (decide (0<=t24)&&decide (t24 < s0.length)) (
 (qMd ((s0.getD t24.toNat 0).toNat:Int)).bind fun r1=>
 cond (!r1.1.1)
 (cond (decide (((s0.getD t24.toNat 0).toNat:Int)>=48))
 (cond (!(decide (((s0.getD t24.toNat 0).toNat:Int)<=57)))
 (cond (((s0.getD t24.toNat 0).toNat:Int) !=(46:Int))
 (cond (((s0.getD t24.toNat 0).toNat:Int) !=(64:Int))
 (some (Ex.ret,(s0,false,t23,t24,())))
 (some (Ex.normal,(s0,t2,t23,qI (t24+1),()))))
 (some (Ex.normal,(s0,t2,t23,qI (t24+1),()))))
 (some (Ex.normal,(s0,t2,t23,qI (t24+1),()))))
 (cond (((s0.getD t24.toNat 0).toNat:Int) !=(46:Int))
 (cond (((s0.getD t24.toNat 0).toNat:Int) !=(64:Int))
 (some (Ex.ret,(s0,false,t23,t24,())))
 (some (Ex.normal,(s0,t2,t23,qI (t24+1),()))))
 (some (Ex.normal,(s0,t2,t23,qI (t24+1),())))))
 (some (Ex.normal,(s0,t2,t23,qI (t24+1),())))))
 (some (Ex.exit 0,(s0,t2,t23,t24,())))
def qRd (s0:qBs):Option ((Bool×Unit)×Unit):=
 cond (s0==([]:qBs))
 (some ((false,()),()))
 (cond (decide ((s0.length:Int) > (40:Int)))
 (some ((false,()),()))
 (grd (decide (0<=(0:Int))&&decide ((0:Int) < s0.length)) (
 (qMd ((s0.getD (0:Int).toNat 0).toNat:Int)).bind fun r1=>
 cond (!r1.1.1)
 (some ((false,()),()))
 ((qTz s0).bind fun r2=>
 cond (r2.1.1)
 (some ((false,()),()))
 ((qMA qLY (s0,false,(s0.length:Int),0,())).bind fun y3=>
 cond (Ex.same y3.1 (Ex.exit 0))
 (some ((true,()),()))
 (cond (Ex.same y3.1 Ex.ret)
 (some ((y3.2.2.1,()),()))
 (none)))))))
def qMl (n0:Nod):Option ((Bool×Unit)×Unit):=
 cond (n0.1==3)
 (cond (n0.2.2.1==([]:qBs))
 ((qVb n0.2.1 n0.2.2.2.1).bind fun r1=>
 some ((r1.1.1,()),()))
 (some ((false,()),())))
 (cond (n0.1==4)
 ((qCd n0.2.1).bind fun r2=>
 cond (r2.1.1)
 ((qRd n0.2.2.1).bind fun r3=>
 cond (r3.1.1)
 (some ((n0.2.2.2.1==([]:qBs),()),()))
 (some ((false,()),())))
 (some ((false,()),())))
 (cond (n0.1==5)
 ((qCd n0.2.1).bind fun r4=>
 cond (r4.1.1)
 ((qRd n0.2.2.1).bind fun r5=>
 cond (r5.1.1)
 (some ((n0.2.2.2.1==([]:qBs),()),()))
 (some ((false,()),())))
 (some ((false,()),())))
 (cond (n0.1==16)
 (cond (n0.2.1==0)
 (cond (n0.2.2.1==([]:qBs))
 ((qOE n0.2.2.2.1).bind fun r6=>
 cond (r6.1.1)
 ((qUS n0.2.2.2.1).bind fun r7=>
 some ((decide (r7.1.1 > (0:Int)),()),()))
 (some ((false,()),())))
 (some ((false,()),())))
 (some ((false,()),())))
 (cond (n0.1==17)
 (cond (n0.2.1==0)
 (cond (n0.2.2.1==([]:qBs))
 ((qOE n0.2.2.2.1).bind fun r8=>
 cond (r8.1.1)
 ((qUS n0.2.2.2.1).bind fun r9=>
 some ((decide (r9.1.1 > (0:Int)),()),()))
 (some ((false,()),())))
 (some ((false,()),())))
 (some ((false,()),())))
 (cond (decide (n0.1>=1))
 (cond (decide (n0.1<=20))
 (cond (n0.2.1==0)
 (cond (n0.2.2.1==([]:qBs))
 (some ((n0.2.2.2.1==([]:qBs),()),()))
 (some ((false,()),())))
 (some ((false,()),())))
 (some ((false,()),())))
 (some ((false,()),())))))))
def qRq (op0:Int) (n1:Int):Option ((Bool×Unit)×Unit):=
 cond (op0==1)
 (some ((n1==0,()),()))
 (cond (op0==2)
 (some ((n1==0,()),()))
 (cond (op0==3)
 (some ((n1==0,()),()))
 (cond (op0==4)
 (some ((n1==0,()),()))
 (cond (op0==5)
 (cond (decide (n1>=1))
 (some ((decide (n1<=40),()),()))
 (some ((false,()),())))
 (cond (op0==6)
 (some ((n1==1,()),()))
 (cond (op0==16)
 (some ((n1==1,()),()))
 (cond (op0==17)
 (some ((n1==1,()),()))
 (cond (op0==20)
 (some ((n1==1,()),()))
 (cond (op0==7)
 (some ((true,()),()))
 (cond (op0==8)
 (some ((true,()),()))
 (cond (op0==14)
 (some ((decide (n1>=1),()),()))
 (cond (op0==10)
 (some ((n1==3,()),()))
 (cond (op0==19)
 (some ((n1==3,()),()))
 (some ((n1==2,()),())))))))))))))))
def qSp (x0:Int) (a1:Option Int):Option ((Bool×Unit)×Unit):=
 grd (a1.isSome) (some ((x0 !=(a1.getD (0:Int)),()),()))
def qLD (x:(List Int)×(Option Int)×Int×Int×Int×Unit):Option (Ex×((List Int)×(Option Int)×Int×Int×Int×Unit)):=
 let s0:=x.1
 let f1:=x.2.1
 let t4:=x.2.2.1
 let t7:=x.2.2.2.1
 let t8:=x.2.2.2.2.1
 cond (decide (t8 < t7))
 (grd (decide (0<=t8)&&decide (t8 < s0.length)) (
 (qSp (s0.getD t8.toNat (0:Int)) f1).bind fun r1=>
 cond (r1.1.1)
 (some (Ex.ret,(s0,f1,t8,t7,t8,())))
 (some (Ex.normal,(s0,f1,t4,t7,qI (t8+1),())))))
 (some (Ex.exit 0,(s0,f1,t4,t7,t8,())))
def qFE (s0:List Int) (f1:Option Int):Option ((Int×Unit)×Unit):=
 (qMA qLD (s0,f1,0,(s0.length:Int),0,())).bind fun y1=>
 cond (Ex.same y1.1 (Ex.exit 0))
 (some ((-1,()),()))
 (cond (Ex.same y1.1 Ex.ret)
 (some ((y1.2.2.2.1,()),()))
 (none))
def qJD (s0:List Int) (f1:Option Int):Option ((Bool×Unit)×Unit):=
 (qFE s0 f1).bind fun r1=>
 some ((decide (r1.1.1>=0),()),())
def qXW (sorts0:List Int) (s1:Int):Option ((Bool×Unit)×Unit):=
 (qJD sorts0 (some s1)).bind fun r1=>
 some ((!r1.1.1,()),())
def qCF (is0:Bool) (sort1:Int):Option ((Int×Unit)×Unit):=
 cond (is0)
 (some ((sort1,()),()))
 (some ((0,()),()))
def qCP (s0:Int):Option ((Bool×Unit)×Unit):=
 cond (s0==2)
 (some ((true,()),()))
 (some ((s0==3,()),()))
def qWk (n0:Nod) (sorts1:List Int):Option ((Int×Unit)×Unit):=
 cond (n0.1==3)
 (some ((n0.2.1,()),()))
 (cond (n0.1==4)
 (some ((n0.2.1,()),()))
 (cond (n0.1==5)
 (some ((n0.2.1,()),()))
 (cond (n0.1==1)
 ((qXW sorts1 1).bind fun r1=>
 (qCF r1.1.1 1).bind fun r2=>
 some ((r2.1.1,()),()))
 (cond (n0.1==2)
 ((qXW sorts1 1).bind fun r3=>
 (qCF r3.1.1 1).bind fun r4=>
 some ((r4.1.1,()),()))
 (cond (n0.1==6)
 ((qXW sorts1 1).bind fun r5=>
 (qCF r5.1.1 1).bind fun r6=>
 some ((r6.1.1,()),()))
 (cond (n0.1==7)
 ((qXW sorts1 1).bind fun r7=>
 (qCF r7.1.1 1).bind fun r8=>
 some ((r8.1.1,()),()))
 (cond (n0.1==8)
 ((qXW sorts1 1).bind fun r9=>
 (qCF r9.1.1 1).bind fun r10=>
 some ((r10.1.1,()),()))
 (cond (n0.1==9)
 ((qXW sorts1 1).bind fun r11=>
 (qCF r11.1.1 1).bind fun r12=>
 some ((r12.1.1,()),()))
 (cond (n0.1==10)
 (grd (decide (0<=(0:Int))&&decide ((0:Int) < sorts1.length)) (
 cond ((sorts1.getD (0:Int).toNat (0:Int))==1)
 (grd (decide (0<=(1:Int))&&decide ((1:Int) < sorts1.length)) (
 grd (decide (0<=(2:Int))&&decide ((2:Int) < sorts1.length)) (
 grd (decide (0<=(1:Int))&&decide ((1:Int) < sorts1.length)) (
 (qCF ((sorts1.getD (1:Int).toNat (0:Int))==(sorts1.getD (2:Int).toNat (0:Int))) (sorts1.getD (1:Int).toNat (0:Int))).bind fun r13=>
 some ((r13.1.1,()),())))))
 (grd (decide (0<=(1:Int))&&decide ((1:Int) < sorts1.length)) (
 (qCF false (sorts1.getD (1:Int).toNat (0:Int))).bind fun r14=>
 some ((r14.1.1,()),())))))
 (cond (n0.1==11)
 (grd (decide (0<=(0:Int))&&decide ((0:Int) < sorts1.length)) (
 grd (decide (0<=(1:Int))&&decide ((1:Int) < sorts1.length)) (
 (qCF ((sorts1.getD (0:Int).toNat (0:Int))==(sorts1.getD (1:Int).toNat (0:Int))) 1).bind fun r15=>
 some ((r15.1.1,()),()))))
 (cond (n0.1==12)
 (grd (decide (0<=(0:Int))&&decide ((0:Int) < sorts1.length)) (
 (qCP (sorts1.getD (0:Int).toNat (0:Int))).bind fun r16=>
 cond (r16.1.1)
 (grd (decide (0<=(0:Int))&&decide ((0:Int) < sorts1.length)) (
 (qXW sorts1 (sorts1.getD (0:Int).toNat (0:Int))).bind fun r17=>
 (qCF r17.1.1 1).bind fun r18=>
 some ((r18.1.1,()),())))
 ((qCF false 1).bind fun r19=>
 some ((r19.1.1,()),()))))
 (cond (n0.1==13)
 (grd (decide (0<=(0:Int))&&decide ((0:Int) < sorts1.length)) (
 (qCP (sorts1.getD (0:Int).toNat (0:Int))).bind fun r20=>
 cond (r20.1.1)
 (grd (decide (0<=(0:Int))&&decide ((0:Int) < sorts1.length)) (
 (qXW sorts1 (sorts1.getD (0:Int).toNat (0:Int))).bind fun r21=>
 (qCF r21.1.1 1).bind fun r22=>
 some ((r22.1.1,()),())))
 ((qCF false 1).bind fun r23=>
 some ((r23.1.1,()),()))))
 (cond (n0.1==14)
 (grd (decide (0<=(0:Int))&&decide ((0:Int) < sorts1.length)) (
 (qCP (sorts1.getD (0:Int).toNat (0:Int))).bind fun r24=>
 cond (r24.1.1)
 (grd (decide (0<=(0:Int))&&decide ((0:Int) < sorts1.length)) (
 (qXW sorts1 (sorts1.getD (0:Int).toNat (0:Int))).bind fun r25=>
 grd (decide (0<=(0:Int))&&decide ((0:Int) < sorts1.length)) (
 (qCF r25.1.1 (sorts1.getD (0:Int).toNat (0:Int))).bind fun r26=>
 some ((r26.1.1,()),()))))
 (grd (decide (0<=(0:Int))&&decide ((0:Int) < sorts1.length)) (
 (qCF false (sorts1.getD (0:Int).toNat (0:Int))).bind fun r27=>
 some ((r27.1.1,()),())))))
 (cond (n0.1==15)
 (grd (decide (0<=(0:Int))&&decide ((0:Int) < sorts1.length)) (
 (qCP (sorts1.getD (0:Int).toNat (0:Int))).bind fun r28=>
 cond (r28.1.1)
 (grd (decide (0<=(0:Int))&&decide ((0:Int) < sorts1.length)) (
 (qXW sorts1 (sorts1.getD (0:Int).toNat (0:Int))).bind fun r29=>
 grd (decide (0<=(0:Int))&&decide ((0:Int) < sorts1.length)) (
 (qCF r29.1.1 (sorts1.getD (0:Int).toNat (0:Int))).bind fun r30=>
 some ((r30.1.1,()),()))))
 (grd (decide (0<=(0:Int))&&decide ((0:Int) < sorts1.length)) (
 (qCF false (sorts1.getD (0:Int).toNat (0:Int))).bind fun r31=>
 some ((r31.1.1,()),())))))
 (cond (n0.1==16)
 (grd (decide (0<=(0:Int))&&decide ((0:Int) < sorts1.length)) (
 (qCF ((sorts1.getD (0:Int).toNat (0:Int))==2) 2).bind fun r32=>
 some ((r32.1.1,()),())))
 (cond (n0.1==17)
 (grd (decide (0<=(0:Int))&&decide ((0:Int) < sorts1.length)) (
 (qCF ((sorts1.getD (0:Int).toNat (0:Int))==2) 2).bind fun r33=>
 some ((r33.1.1,()),())))
 (cond (n0.1==18)
 (grd (decide (0<=(0:Int))&&decide ((0:Int) < sorts1.length)) (
 cond ((sorts1.getD (0:Int).toNat (0:Int))==4)
 (grd (decide (0<=(1:Int))&&decide ((1:Int) < sorts1.length)) (
 (qCF ((sorts1.getD (1:Int).toNat (0:Int))==2) 2).bind fun r34=>
 some ((r34.1.1,()),())))
 ((qCF false 2).bind fun r35=>
 some ((r35.1.1,()),()))))
 (cond (n0.1==19)
 (grd (decide (0<=(0:Int))&&decide ((0:Int) < sorts1.length)) (
 cond ((sorts1.getD (0:Int).toNat (0:Int))==4)
 (grd (decide (0<=(1:Int))&&decide ((1:Int)<=sorts1.length)) (
 (qXW (sorts1.drop (1:Int).toNat) 2).bind fun r36=>
 (qCF r36.1.1 4).bind fun r37=>
 some ((r37.1.1,()),())))
 ((qCF false 4).bind fun r38=>
 some ((r38.1.1,()),()))))
 (grd (decide (0<=(0:Int))&&decide ((0:Int) < sorts1.length)) (
 (qCF ((sorts1.getD (0:Int).toNat (0:Int))==2) 4).bind fun r39=>
 some ((r39.1.1,()),())))))))))))))))))))))
def qSV (v:Int) (i:Nat) (x:((List Nod)×List (Int×Sml))×(Int×Sml)×(List Int)×Unit):Option (((List Nod)×List (Int×Sml))×(Int×Sml)×(List Int)×Unit):=
 let v4:=x.1
 let p9:=x.2.1
 let sorts10:=x.2.2.1
 grd (decide (0<=v)&&decide (v < v4.2.length)) (grd (decide (v.toNat < v4.2.length)) (grd (decide (sorts10.length+([(v4.2.getD v.toNat ((0:Int),(0:Int),(0:Int))).1]:List Int).length<=qSG)) (grd (decide (0<=v)&&decide (v < v4.2.length)) (grd (decide (v.toNat < v4.2.length)) (grd (decide (0<=v)&&decide (v < v4.2.length)) (grd (decide (v.toNat < v4.2.length)) (some (v4,(p9.1,qDW p9.2.1 (qI ((((v4.2.getD v.toNat ((0:Int),(0:Int),(0:Int))).2).1)+1)),((v4.2.getD v.toNat ((0:Int),(0:Int),(0:Int))).2).2),sorts10++([(v4.2.getD v.toNat ((0:Int),(0:Int),(0:Int))).1]:List Int),()))))))))
def qIP (y:((List Nod)×List (Int×Sml))×(Int×Sml)×(List Int)×Unit) (o:((List Nod)×List (Int×Sml))×(Int×Sml)×(List Int)×Unit):((List Nod)×List (Int×Sml))×(Int×Sml)×(List Int)×Unit:=(o.1,o.2.1,o.2.2.1,())
def qOP (y:((List Nod)×List (Int×Sml))×(Int×Sml)×(List Int)×Unit):((List Nod)×List (Int×Sml))×(Int×Sml)×(List Int)×Unit:=(y.1,y.2.1,y.2.2.1,())
def qHg (x:(List Nod)×(Option qHP)×Bool×((List Nod)×List (Int×Sml))×(List Int)×Int×Unit):Option (Ex×((List Nod)×(Option qHP)×Bool×((List Nod)×List (Int×Sml))×(List Int)×Int×Unit)):=
 let t0:=x.1
 let t2:=x.2.1
 let t3:=x.2.2.1
 let v4:=x.2.2.2.1
 let roots5:=x.2.2.2.2.1
 let i6:=x.2.2.2.2.2.1
 cond (decide (i6>=0))
 (grd (decide (0<=i6)&&decide (i6 < t0.length)) (
 cond (decide ((((((t0.getD i6.toNat qTF).2).2).2).2) < (0:Int)))
 (some (Ex.ret,(t0,(none:Option qHP),false,v4,roots5,i6,())))
 (cond (decide ((((((t0.getD i6.toNat qTF).2).2).2).2) > (roots5.length:Int)))
 (some (Ex.ret,(t0,(none:Option qHP),false,v4,roots5,i6,())))
 ((qMl (t0.getD i6.toNat qTF)).bind fun r1=>
 cond (!r1.1.1)
 (some (Ex.ret,(t0,(none:Option qHP),false,v4,roots5,i6,())))
 ((qRq ((t0.getD i6.toNat qTF).1) (((((t0.getD i6.toNat qTF).2).2).2).2)).bind fun r2=>
 cond (!r2.1.1)
 (some (Ex.ret,(t0,(none:Option qHP),false,v4,roots5,i6,())))
 (grd (decide (0<=qI ((roots5.length:Int) - (((((t0.getD i6.toNat qTF).2).2).2).2)))&&decide (qI ((roots5.length:Int) - (((((t0.getD i6.toNat qTF).2).2).2).2))<=roots5.length)) (
 grd (decide (((roots5.drop ((qI ((roots5.length:Int) - (((((t0.getD i6.toNat qTF).2).2).2).2))).toNat)).take (roots5.length - (qI ((roots5.length:Int) - (((((t0.getD i6.toNat qTF).2).2).2).2))).toNat)).length<=qSG)) (((qXR (fun p y=>(qSV p.1 p.2 y).bind fun o=>some (qIP y o)) ((roots5.drop ((qI ((roots5.length:Int) - (((((t0.getD i6.toNat qTF).2).2).2).2))).toNat)).take (roots5.length - (qI ((roots5.length:Int) - (((((t0.getD i6.toNat qTF).2).2).2).2))).toNat)).zipIdx.reverse (v4,((0:Int),1,qI (i6+1)),([]:List Int),())).bind fun y=>some ((),qOP y)).bind fun y3=>
 (qWk (t0.getD i6.toNat qTF) y3.2.2.2.1).bind fun r4=>
 cond (r4.1.1==0)
 (some (Ex.ret,(t0,(none:Option qHP),false,y3.2.1,roots5,i6,())))
 (cond (((t0.getD i6.toNat qTF).1)==15)
 (grd (decide (0<=qI (i6+1))&&decide (qI (i6+1) < t0.length)) (
 cond (((t0.getD (qI (i6+1)).toNat qTF).1) !=(3:Int))
 (some (Ex.ret,(t0,(none:Option qHP),false,y3.2.1,roots5,i6,())))
 (grd (decide (0<=i6)&&decide (i6 < y3.2.1.2.length)) (grd (decide (i6.toNat < y3.2.1.2.length)) (grd (decide (0<=qI ((roots5.length:Int) - (((((t0.getD i6.toNat qTF).2).2).2).2)))&&decide (qI ((roots5.length:Int) - (((((t0.getD i6.toNat qTF).2).2).2).2))<=roots5.length)) (grd (decide (((qI ((roots5.length:Int) - (((((t0.getD i6.toNat qTF).2).2).2).2))).toNat)+([i6]:List Int).length<=qSG)) (some (Ex.normal,(t0,t2,t3,(y3.2.1.1,y3.2.1.2.set i6.toNat (r4.1.1,y3.2.2.1.2)),roots5.take ((qI ((roots5.length:Int) - (((((t0.getD i6.toNat qTF).2).2).2).2))).toNat)++([i6]:List Int),qI (i6 - (1:Int)),())))))))))
 (grd (decide (0<=i6)&&decide (i6 < y3.2.1.2.length)) (grd (decide (i6.toNat < y3.2.1.2.length)) (grd (decide (0<=qI ((roots5.length:Int) - (((((t0.getD i6.toNat qTF).2).2).2).2)))&&decide (qI ((roots5.length:Int) - (((((t0.getD i6.toNat qTF).2).2).2).2))<=roots5.length)) (grd (decide (((qI ((roots5.length:Int) - (((((t0.getD i6.toNat qTF).2).2).2).2))).toNat)+([i6]:List Int).length<=qSG)) (some (Ex.normal,(t0,t2,t3,(y3.2.1.1,y3.2.1.2.set i6.toNat (r4.1.1,y3.2.2.1.2)),roots5.take ((qI ((roots5.length:Int) - (((((t0.getD i6.toNat qTF).2).2).2).2))).toNat)++([i6]:List Int),qI (i6 - (1:Int)),()))))))))))))))))
 (some (Ex.exit 0,(t0,t2,t3,v4,roots5,i6,())))
def qEz (t0:List Nod):Option (((Option qHP)×Bool×Unit)×Unit):=
 grd (decide (0<=(t0.length:Int))&&decide ((t0.length:Int)<=(t0.length:Int))&&decide ((t0.length:Int)<=qSG)) (
 (qMA qHg (t0,(none:Option qHP),false,(t0,List.replicate (t0.length:Int).toNat ((0:Int),(0:Int),(0:Int))),([]:List Int),qI ((t0.length:Int) - (1:Int)),())).bind fun y1=>
 cond (Ex.same y1.1 (Ex.exit 0))
 (some ((some y1.2.2.2.2.1,(y1.2.2.2.2.2.1.length:Int)==1,()),()))
 (cond (Ex.same y1.1 Ex.ret)
 (some ((y1.2.2.1,y1.2.2.2.1,()),()))
 (none)))
def qBW (v0:Option qHP):Option ((Bool×Unit)×Unit):=
 grd (v0.isSome) (
 cond (decide ((((v0.getD qRJ).1).length:Int) > (20000:Int)))
 (some ((true,()),()))
 (grd (v0.isSome) (grd (decide (0<=(0:Int))&&decide ((0:Int) < ((v0.getD qRJ).2).length)) (some ((decide ((((((v0.getD qRJ).2).getD (0:Int).toNat ((0:Int),(0:Int),(0:Int))).2).1) > (257:Int)),()),())))))
def qIR (x:(Option qHP)×(List Int)×Int×Int×Int×Unit):Option (Ex×((Option qHP)×(List Int)×Int×Int×Int×Unit)):=
 let v0:=x.1
 let out5:=x.2.1
 let at6:=x.2.2.1
 let t16:=x.2.2.2.1
 let t17:=x.2.2.2.2.1
 cond (decide (t17 < t16))
 (grd (decide (out5.length+([at6]:List Int).length<=qSG)) (grd (v0.isSome) (grd (decide (0<=at6)&&decide (at6 < ((v0.getD qRJ).2).length)) (some (Ex.normal,(v0,out5++([at6]:List Int),((((v0.getD qRJ).2).getD at6.toNat ((0:Int),(0:Int),(0:Int))).2).2,t16,qI (t17+1),()))))))
 (some (Ex.exit 0,(v0,out5,at6,t16,t17,())))
def qAS (v0:Option qHP) (i1:Int):Option (((List Int)×Unit)×Unit):=
 grd (v0.isSome) (
 grd (decide (0<=i1)&&decide (i1 < ((v0.getD qRJ).1).length)) (
 (qMA qIR (v0,([]:List Int),qI (i1+1),((((((v0.getD qRJ).1).getD i1.toNat qTF).2).2).2).2,0,())).bind fun y1=>
 cond (Ex.same y1.1 (Ex.exit 0))
 (some ((y1.2.2.1,()),()))
 (none)))
def qKL (x:(Option qHP)×(qBs×qNA)×(qBs×(List Int)×Int)×(List Int)×Int×Int×Unit):Option (Ex×((Option qHP)×(qBs×qNA)×(qBs×(List Int)×Int)×(List Int)×Int×Int×Unit)):=
 let v0:=x.1
 let t4:=x.2.1
 let f5:=x.2.2.1
 let t27:=x.2.2.2.1
 let t28:=x.2.2.2.2.1
 let t29:=x.2.2.2.2.2.1
 cond (decide (t29 < t28))
 (grd (decide (0<=t29)&&decide (t29 < t27.length)) (grd (v0.isSome) (grd (decide (0<=t27.getD t29.toNat (0:Int))&&decide (t27.getD t29.toNat (0:Int) < ((v0.getD qRJ).2).length)) (grd (decide (f5.2.1.length+([(((v0.getD qRJ).2).getD (t27.getD t29.toNat (0:Int)).toNat ((0:Int),(0:Int),(0:Int))).1]:List Int).length<=qSG)) (some (Ex.normal,(v0,t4,(f5.1,f5.2.1++([(((v0.getD qRJ).2).getD (t27.getD t29.toNat (0:Int)).toNat ((0:Int),(0:Int),(0:Int))).1]:List Int),f5.2.2),t27,t28,qI (t29+1),())))))))
 (some (Ex.exit 0,(v0,t4,f5,t27,t28,t29,())))
def qOO (v0:Option qHP) (i1:Int):Option (((qBs×qNA)×Unit)×Unit):=
 grd (v0.isSome) (
 grd (decide (0<=i1)&&decide (i1 < ((v0.getD qRJ).1).length)) (
 grd (v0.isSome) (
 grd (decide (0<=i1)&&decide (i1 < ((v0.getD qRJ).1).length)) (
 (qAS v0 i1).bind fun r1=>
 (qMA qKL (v0,(([]:qBs),([]:List Int),(0:Int)),((((((v0.getD qRJ).1).getD i1.toNat qTF).2).2).1,([]:List Int),((((v0.getD qRJ).1).getD i1.toNat qTF).2).1),r1.1.1,(r1.1.1.length:Int),0,())).bind fun y2=>
 cond (Ex.same y2.1 (Ex.exit 0))
 (some ((y2.2.2.2.1,()),()))
 (none)))))
def qKI (x:(List Int)×(List Int)×Bool×Int×Int×Unit):Option (Ex×((List Int)×(List Int)×Bool×Int×Int×Unit)):=
 let s10:=x.1
 let s21:=x.2.1
 let t4:=x.2.2.1
 let t12:=x.2.2.2.1
 let t13:=x.2.2.2.2.1
 cond (decide (t13 < t12))
 (grd (decide (0<=t13)&&decide (t13 < s10.length)) (
 grd (decide (0<=t13)&&decide (t13 < s21.length)) (
 cond ((s10.getD t13.toNat (0:Int)) !=(s21.getD t13.toNat (0:Int)))
 (some (Ex.ret,(s10,s21,false,t12,t13,())))
 (some (Ex.normal,(s10,s21,t4,t12,qI (t13+1),()))))))
 (some (Ex.exit 0,(s10,s21,t4,t12,t13,())))
def qTK (s10:List Int) (s21:List Int):Option ((Bool×Unit)×Unit):=
 cond ((s10.length:Int) !=(s21.length:Int))
 (some ((false,()),()))
 ((qMA qKI (s10,s21,false,(s10.length:Int),0,())).bind fun y1=>
 cond (Ex.same y1.1 (Ex.exit 0))
 (some ((true,()),()))
 (cond (Ex.same y1.1 Ex.ret)
 (some ((y1.2.2.2.1,()),()))
 (none)))
def qGt (f0:qBs×qNA) (g1:qBs×qNA):Option ((Bool×Unit)×Unit):=
 cond (f0.1==g1.1)
 (cond (f0.2.2==g1.2.2)
 ((qTK f0.2.1 g1.2.1).bind fun r1=>
 some ((r1.1.1,()),()))
 (some ((false,()),())))
 (some ((false,()),()))
def qTP (x:(Option qHP)×(List Vr)×(List (qBs×qNA))×Bool×(List (qBs×Vr))×(List (qBs×qBs×qNA))×(List Vr)×(List (qBs×qNA))×(List Nod)×Int×Int×Unit):Option (Ex×((Option qHP)×(List Vr)×(List (qBs×qNA))×Bool×(List (qBs×Vr))×(List (qBs×qBs×qNA))×(List Vr)×(List (qBs×qNA))×(List Nod)×Int×Int×Unit)):=
 let v0:=x.1
 let t2:=x.2.1
 let t3:=x.2.2.1
 let t4:=x.2.2.2.1
 let vars5:=x.2.2.2.2.1
 let funcs6:=x.2.2.2.2.2.1
 let l7:=x.2.2.2.2.2.2.1
 let m8:=x.2.2.2.2.2.2.2.1
 let t25:=x.2.2.2.2.2.2.2.2.1
 let t26:=x.2.2.2.2.2.2.2.2.2.1
 let t27:=x.2.2.2.2.2.2.2.2.2.2.1
 cond (decide (t27 < t26))
 (grd (decide (0<=t27)&&decide (t27 < t25.length)) (
 cond (((t25.getD t27.toNat qTF).1)==4)
 (cond (!((qNF ((((t25.getD t27.toNat qTF).2).2).1) vars5).isSome))
 (grd (decide (l7.length+([((((t25.getD t27.toNat qTF).2).2).1,((t25.getD t27.toNat qTF).2).1)]:List Vr).length<=qSG)) (
 cond ((qNF ((((t25.getD t27.toNat qTF).2).2).1) funcs6).isSome)
 (some (Ex.ret,(v0,([]:List Vr),([]:List (qBs×qNA)),false,qPd ((((t25.getD t27.toNat qTF).2).2).1) ((((t25.getD t27.toNat qTF).2).2).1,((t25.getD t27.toNat qTF).2).1) vars5,funcs6,l7++([((((t25.getD t27.toNat qTF).2).2).1,((t25.getD t27.toNat qTF).2).1)]:List Vr),m8,t25,t26,t27,())))
 (cond ((((t25.getD t27.toNat qTF).2).1) !=(((t25.getD t27.toNat qTF).2).1))
 (some (Ex.ret,(v0,([]:List Vr),([]:List (qBs×qNA)),false,qPd ((((t25.getD t27.toNat qTF).2).2).1) ((((t25.getD t27.toNat qTF).2).2).1,((t25.getD t27.toNat qTF).2).1) vars5,funcs6,l7++([((((t25.getD t27.toNat qTF).2).2).1,((t25.getD t27.toNat qTF).2).1)]:List Vr),m8,t25,t26,t27,())))
 (some (Ex.normal,(v0,t2,t3,t4,qPd ((((t25.getD t27.toNat qTF).2).2).1) ((((t25.getD t27.toNat qTF).2).2).1,((t25.getD t27.toNat qTF).2).1) vars5,funcs6,l7++([((((t25.getD t27.toNat qTF).2).2).1,((t25.getD t27.toNat qTF).2).1)]:List Vr),m8,t25,t26,qI (t27+1),()))))))
 (cond ((qNF ((((t25.getD t27.toNat qTF).2).2).1) funcs6).isSome)
 (some (Ex.ret,(v0,([]:List Vr),([]:List (qBs×qNA)),false,vars5,funcs6,l7,m8,t25,t26,t27,())))
 (cond ((((qNF ((((t25.getD t27.toNat qTF).2).2).1) vars5).getD zVr).2) !=(((t25.getD t27.toNat qTF).2).1))
 (some (Ex.ret,(v0,([]:List Vr),([]:List (qBs×qNA)),false,vars5,funcs6,l7,m8,t25,t26,t27,())))
 (some (Ex.normal,(v0,t2,t3,t4,vars5,funcs6,l7,m8,t25,t26,qI (t27+1),()))))))
 (cond (((t25.getD t27.toNat qTF).1)==5)
 ((qOO v0 t27).bind fun r1=>
 cond (!((qNF ((((t25.getD t27.toNat qTF).2).2).1) funcs6).isSome))
 (grd (decide (m8.length+([r1.1.1]:List (qBs×qNA)).length<=qSG)) (
 cond ((qNF ((((t25.getD t27.toNat qTF).2).2).1) vars5).isSome)
 (some (Ex.ret,(v0,([]:List Vr),([]:List (qBs×qNA)),false,vars5,qPd ((((t25.getD t27.toNat qTF).2).2).1) r1.1.1 funcs6,l7,m8++([r1.1.1]:List (qBs×qNA)),t25,t26,t27,())))
 ((qGt r1.1.1 r1.1.1).bind fun r2=>
 cond (!r2.1.1)
 (some (Ex.ret,(v0,([]:List Vr),([]:List (qBs×qNA)),false,vars5,qPd ((((t25.getD t27.toNat qTF).2).2).1) r1.1.1 funcs6,l7,m8++([r1.1.1]:List (qBs×qNA)),t25,t26,t27,())))
 (some (Ex.normal,(v0,t2,t3,t4,vars5,qPd ((((t25.getD t27.toNat qTF).2).2).1) r1.1.1 funcs6,l7,m8++([r1.1.1]:List (qBs×qNA)),t25,t26,qI (t27+1),()))))))
 (cond ((qNF ((((t25.getD t27.toNat qTF).2).2).1) vars5).isSome)
 (some (Ex.ret,(v0,([]:List Vr),([]:List (qBs×qNA)),false,vars5,funcs6,l7,m8,t25,t26,t27,())))
 ((qGt ((qNF ((((t25.getD t27.toNat qTF).2).2).1) funcs6).getD (([]:qBs),([]:List Int),(0:Int))) r1.1.1).bind fun r3=>
 cond (!r3.1.1)
 (some (Ex.ret,(v0,([]:List Vr),([]:List (qBs×qNA)),false,vars5,funcs6,l7,m8,t25,t26,t27,())))
 (some (Ex.normal,(v0,t2,t3,t4,vars5,funcs6,l7,m8,t25,t26,qI (t27+1),()))))))
 (some (Ex.normal,(v0,t2,t3,t4,vars5,funcs6,l7,m8,t25,t26,qI (t27+1),()))))))
 (some (Ex.exit 0,(v0,t2,t3,t4,vars5,funcs6,l7,m8,t25,t26,t27,())))
def qIW (v0:Option qHP):Option (((List Vr)×(List (qBs×qNA))×Bool×Unit)×Unit):=
 grd (v0.isSome) (
 (qMA qTP (v0,([]:List Vr),([]:List (qBs×qNA)),false,([]:List (qBs×Vr)),([]:List (qBs×qBs×qNA)),([]:List Vr),([]:List (qBs×qNA)),(v0.getD qRJ).1,(((v0.getD qRJ).1).length:Int),0,())).bind fun y1=>
 cond (Ex.same y1.1 (Ex.exit 0))
 (some ((y1.2.2.2.2.2.2.2.1,y1.2.2.2.2.2.2.2.2.1,true,()),()))
 (cond (Ex.same y1.1 Ex.ret)
 (some ((y1.2.2.1,y1.2.2.2.1,y1.2.2.2.2.1,()),()))
 (none)))
def qRi (t0:List Nod):Option (((Option qHP)×Bool×Unit)×Unit):=
 cond ((t0.length:Int)==0)
 (some (((none:Option qHP),false,()),()))
 (cond (decide ((t0.length:Int) > (20000:Int)))
 (some (((none:Option qHP),false,()),()))
 ((qEz t0).bind fun r1=>
 cond (!r1.1.2.1)
 (some (((none:Option qHP),false,()),()))
 ((qBW r1.1.1).bind fun r2=>
 cond (r2.1.1)
 (some (((none:Option qHP),false,()),()))
 ((qIW r1.1.1).bind fun r3=>
 cond (!r3.1.2.2.1)
 (some (((none:Option qHP),false,()),()))
 (some ((r1.1.1,true,()),()))))))
def qWh (t0:List Nod):Option ((Bool×Unit)×Unit):=
 (qRi t0).bind fun r1=>
 some ((r1.1.2.1,()),())
def qSK (e0:Evl) (n1:Nod):Option ((Val×Int×Unit)×(Evl×Unit)):=
 cond (!((qNF n1.2.2.1 e0.2.2.1).isSome))
 (some ((((0:Int),false,([]:qBs),([]:List qBs),([]:List qBs)),7,()),e0,()))
 (cond ((((qNF n1.2.2.1 e0.2.2.1).getD qRP).1) !=n1.2.1)
 (some ((((0:Int),false,([]:qBs),([]:List qBs),([]:List qBs)),3,()),e0,()))
 (some (((qNF n1.2.2.1 e0.2.2.1).getD qRP,0,()),e0,())))
def qDF (x:(List qBs)×(List qBs)×Bool×Int×Int×Unit):Option (Ex×((List qBs)×(List qBs)×Bool×Int×Int×Unit)):=
 let s10:=x.1
 let s21:=x.2.1
 let t4:=x.2.2.1
 let t12:=x.2.2.2.1
 let t13:=x.2.2.2.2.1
 cond (decide (t13 < t12))
 (grd (decide (0<=t13)&&decide (t13 < s10.length)) (
 grd (decide (0<=t13)&&decide (t13 < s21.length)) (
 cond (!((s10.getD t13.toNat ([]:qBs))==(s21.getD t13.toNat ([]:qBs))))
 (some (Ex.ret,(s10,s21,false,t12,t13,())))
 (some (Ex.normal,(s10,s21,t4,t12,qI (t13+1),()))))))
 (some (Ex.exit 0,(s10,s21,t4,t12,t13,())))
def qUD (s10:List qBs) (s21:List qBs):Option ((Bool×Unit)×Unit):=
 cond ((s10.length:Int) !=(s21.length:Int))
 (some ((false,()),()))
 ((qMA qDF (s10,s21,false,(s10.length:Int),0,())).bind fun y1=>
 cond (Ex.same y1.1 (Ex.exit 0))
 (some ((true,()),()))
 (cond (Ex.same y1.1 Ex.ret)
 (some ((y1.2.2.2.1,()),()))
 (none)))
def qOc (a0:Val) (b1:Val):Option ((Bool×Unit)×Unit):=
 cond (a0.1==b1.1)
 (cond (a0.2.1==b1.2.1)
 (cond (a0.2.2.1==b1.2.2.1)
 ((qUD a0.2.2.2.1 b1.2.2.2.1).bind fun r1=>
 cond (r1.1.1)
 ((qUD a0.2.2.2.2 b1.2.2.2.2).bind fun r2=>
 some ((r2.1.1,()),()))
 (some ((false,()),())))
 (some ((false,()),())))
 (some ((false,()),())))
 (some ((false,()),()))
def qJB (x:(List Val)×Unit×Bool×(List Val)×Int×Int×Unit):Option (Ex×((List Val)×Unit×Bool×(List Val)×Int×Int×Unit)):=
 let s21:=x.1
 let eq2:=x.2.1
 let t6:=x.2.2.1
 let t15:=x.2.2.2.1
 let t16:=x.2.2.2.2.1
 let t17:=x.2.2.2.2.2.1
 cond (decide (t17 < t16))
 (grd (decide (0<=t17)&&decide (t17 < t15.length)) (
 grd (decide (0<=t17)&&decide (t17 < s21.length)) (
 (qOc (t15.getD t17.toNat qRP) (s21.getD t17.toNat qRP)).bind fun r1=>
 cond (!r1.1.1)
 (some (Ex.ret,(s21,(),false,t15,t16,t17,())))
 (some (Ex.normal,(s21,(),t6,t15,t16,qI (t17+1),()))))))
 (some (Ex.exit 0,(s21,(),t6,t15,t16,t17,())))
def qQB (s10:List Val) (s21:List Val) (eq2:Unit):Option ((Bool×Unit)×Unit):=
 cond ((s10.length:Int) !=(s21.length:Int))
 (some ((false,()),()))
 ((qMA qJB (s21,(),false,s10,(s10.length:Int),0,())).bind fun y1=>
 cond (Ex.same y1.1 (Ex.exit 0))
 (some ((true,()),()))
 (cond (Ex.same y1.1 Ex.ret)
 (some ((y1.2.2.2.1,()),()))
 (none)))
def qJM (l0:List Val) (a1:Option (List Val)):Option ((Bool×Unit)×Unit):=
 grd (a1.isSome) (
 (qQB l0 (a1.getD ([]:List Val)) ()).bind fun r1=>
 some ((r1.1.1,()),()))
def qLB (x:(List (List Val))×(Option (List Val))×Int×Int×Int×Unit):Option (Ex×((List (List Val))×(Option (List Val))×Int×Int×Int×Unit)):=
 let s0:=x.1
 let f1:=x.2.1
 let t4:=x.2.2.1
 let t7:=x.2.2.2.1
 let t8:=x.2.2.2.2.1
 cond (decide (t8 < t7))
 (grd (decide (0<=t8)&&decide (t8 < s0.length)) (
 (qJM (s0.getD t8.toNat ([]:List Val)) f1).bind fun r1=>
 cond (r1.1.1)
 (some (Ex.ret,(s0,f1,t8,t7,t8,())))
 (some (Ex.normal,(s0,f1,t4,t7,qI (t8+1),())))))
 (some (Ex.exit 0,(s0,f1,t4,t7,t8,())))
def qUB (s0:List (List Val)) (f1:Option (List Val)):Option ((Int×Unit)×Unit):=
 (qMA qLB (s0,f1,0,(s0.length:Int),0,())).bind fun y1=>
 cond (Ex.same y1.1 (Ex.exit 0))
 (some ((-1,()),()))
 (cond (Ex.same y1.1 Ex.ret)
 (some ((y1.2.2.2.1,()),()))
 (none))
def qKK (e0:Evl) (n1:Nod) (kids2:List Val):Option ((Val×Int×Unit)×(Evl×Unit)):=
 cond (!((qNF n1.2.2.1 e0.2.2.2).isSome))
 (some ((((0:Int),false,([]:qBs),([]:List qBs),([]:List qBs)),4,()),e0,()))
 ((qUB ((((qNF n1.2.2.1 e0.2.2.2).getD qHI).2).1) (some kids2)).bind fun r1=>
 cond (decide (r1.1.1>=0))
 (grd (decide (0<=r1.1.1)&&decide (r1.1.1 < (((((qNF n1.2.2.1 e0.2.2.2).getD qHI).2).2).1).length)) (
 cond ((((((((qNF n1.2.2.1 e0.2.2.2).getD qHI).2).2).1).getD r1.1.1.toNat qRP).1) !=n1.2.1)
 (some ((((0:Int),false,([]:qBs),([]:List qBs),([]:List qBs)),3,()),e0,()))
 (some (((((((qNF n1.2.2.1 e0.2.2.2).getD qHI).2).2).1).getD r1.1.1.toNat qRP,0,()),e0,()))))
 (cond (((((((qNF n1.2.2.1 e0.2.2.2).getD qHI).2).2).2).1) !=n1.2.1)
 (some ((((0:Int),false,([]:qBs),([]:List qBs),([]:List qBs)),3,()),e0,()))
 (some ((((((qNF n1.2.2.1 e0.2.2.2).getD qHI).2).2).2,0,()),e0,()))))
def qUx (v0:Val):Option ((Bool×Unit)×Unit):=
 some ((!v0.2.1,()),())
def qXC (x:(List Val)×Unit×Int×Int×Int×Unit):Option (Ex×((List Val)×Unit×Int×Int×Int×Unit)):=
 let s0:=x.1
 let f1:=x.2.1
 let t4:=x.2.2.1
 let t7:=x.2.2.2.1
 let t8:=x.2.2.2.2.1
 cond (decide (t8 < t7))
 (grd (decide (0<=t8)&&decide (t8 < s0.length)) (
 (qUx (s0.getD t8.toNat qRP)).bind fun r1=>
 cond (r1.1.1)
 (some (Ex.ret,(s0,(),t8,t7,t8,())))
 (some (Ex.normal,(s0,(),t4,t7,qI (t8+1),())))))
 (some (Ex.exit 0,(s0,(),t4,t7,t8,())))
def qSD (s0:List Val) (f1:Unit):Option ((Int×Unit)×Unit):=
 (qMA qXC (s0,(),0,(s0.length:Int),0,())).bind fun y1=>
 cond (Ex.same y1.1 (Ex.exit 0))
 (some ((-1,()),()))
 (cond (Ex.same y1.1 Ex.ret)
 (some ((y1.2.2.2.1,()),()))
 (none))
def qOB (s0:List Val) (f1:Unit):Option ((Bool×Unit)×Unit):=
 (qSD s0 ()).bind fun r1=>
 some ((decide (r1.1.1>=0),()),())
def qBM (is0:Bool):Option ((Val×Unit)×Unit):=
 some (((1,is0,([]:qBs),([]:List qBs),([]:List qBs)),()),())
def v_is (v0:Val):Option ((Bool×Unit)×Unit):=
 some ((v0.2.1,()),())
def qFD (x:(List Val)×Unit×Int×Int×Int×Unit):Option (Ex×((List Val)×Unit×Int×Int×Int×Unit)):=
 let s0:=x.1
 let f1:=x.2.1
 let t4:=x.2.2.1
 let t7:=x.2.2.2.1
 let t8:=x.2.2.2.2.1
 cond (decide (t8 < t7))
 (grd (decide (0<=t8)&&decide (t8 < s0.length)) (
 (v_is (s0.getD t8.toNat qRP)).bind fun r1=>
 cond (r1.1.1)
 (some (Ex.ret,(s0,(),t8,t7,t8,())))
 (some (Ex.normal,(s0,(),t4,t7,qI (t8+1),())))))
 (some (Ex.exit 0,(s0,(),t4,t7,t8,())))
def qCE (s0:List Val) (f1:Unit):Option ((Int×Unit)×Unit):=
 (qMA qFD (s0,(),0,(s0.length:Int),0,())).bind fun y1=>
 cond (Ex.same y1.1 (Ex.exit 0))
 (some ((-1,()),()))
 (cond (Ex.same y1.1 Ex.ret)
 (some ((y1.2.2.2.1,()),()))
 (none))
def qTB (s0:List Val) (f1:Unit):Option ((Bool×Unit)×Unit):=
 (qCE s0 ()).bind fun r1=>
 some ((decide (r1.1.1>=0),()),())
def qHJ (sort0:Int) (a1:qBs):Option ((Val×Unit)×Unit):=
 some (((sort0,false,a1,([]:List qBs),([]:List qBs)),()),())
def qTp (x0:Sml) (y1:Sml):Option ((qBs×Unit)×Unit):=
 (qDJ (qI (x0.1 * y1.1)) (qI (x0.2 * y1.2))).bind fun r1=>
 some ((r1.1.1,()),())
def qCg (x0:Rt) (y1:Rt):Option ((Rt×Unit)×Unit):=
 (qMI x0.2.1 y1.2.1).bind fun r1=>
 (qMI x0.2.2 y1.2.2).bind fun r2=>
 (qLM (!(x0.1==y1.1)) r1.1.1 r2.1.1).bind fun r3=>
 some (((r3.1.1.1,r3.1.1.2.1,r3.1.1.2.2),()),())
def qPk (x0:Rt) (y1:Rt):Option ((qBs×Unit)×Unit):=
 (qCg (x0.1,x0.2.1,x0.2.2) (y1.1,y1.2.1,y1.2.2)).bind fun r1=>
 (qXH (r1.1.1.1,r1.1.1.2.1,r1.1.1.2.2)).bind fun r2=>
 some ((r2.1.1,()),())
def qBK (a0:qBs) (b1:qBs) (small2:Unit) (all3:Unit):Option ((qBs×Unit)×Unit):=
 (qDB a0).bind fun r1=>
 (qDB b1).bind fun r2=>
 cond (r1.1.2.1)
 (cond (r2.1.2.1)
 ((qTp (r1.1.1.1,r1.1.1.2) (r2.1.1.1,r2.1.1.2)).bind fun r3=>
 some ((r3.1.1,()),()))
 ((qWE a0).bind fun r4=>
 (qWE b1).bind fun r5=>
 cond (!r4.1.2.1)
 (some ((([]:qBs),()),()))
 (cond (!r5.1.2.1)
 (some ((([]:qBs),()),()))
 ((qPk (r4.1.1.1,r4.1.1.2.1,r4.1.1.2.2) (r5.1.1.1,r5.1.1.2.1,r5.1.1.2.2)).bind fun r6=>
 some ((r6.1.1,()),())))))
 ((qWE a0).bind fun r7=>
 (qWE b1).bind fun r8=>
 cond (!r7.1.2.1)
 (some ((([]:qBs),()),()))
 (cond (!r8.1.2.1)
 (some ((([]:qBs),()),()))
 ((qPk (r7.1.1.1,r7.1.1.2.1,r7.1.1.2.2) (r8.1.1.1,r8.1.1.2.1,r8.1.1.2.2)).bind fun r9=>
 some ((r9.1.1,()),()))))
def qDag (a0:qBs) (b1:qBs):Option ((qBs×Unit)×Unit):=
 (qBK a0 b1 () ()).bind fun r1=>
 some ((r1.1.1,()),())
def qQW (x0:Rt) (y1:Rt):Option ((Rt×Rt×Unit)×Unit):=
 (qBG x0.2.1 y1.2.1).bind fun r1=>
 cond (x0.1)
 (cond (decide ((r1.1.2.1.length:Int) > (0:Int)))
 ((qMN r1.1.1 ([1]:List Int)).bind fun r2=>
 (qTL y1.2.1 r1.1.2.1).bind fun r3=>
 some (((!(x0.1==y1.1),r2.1.1,([1]:List Int)),(false,r3.1.1,([1]:List Int)),()),()))
 (some (((!(x0.1==y1.1),r1.1.1,([1]:List Int)),(false,r1.1.2.1,([1]:List Int)),()),())))
 (some (((!(x0.1==y1.1),r1.1.1,([1]:List Int)),(false,r1.1.2.1,([1]:List Int)),()),()))
def qTd (a0:qBs) (b1:qBs):Option ((qBs×qBs×Unit)×Unit):=
 (qOE a0).bind fun r1=>
 cond (!r1.1.1)
 (some ((([]:qBs),([]:qBs),()),()))
 ((qOE b1).bind fun r2=>
 cond (!r2.1.1)
 (some ((([]:qBs),([]:qBs),()),()))
 (cond (b1==([48]:qBs))
 (some ((([]:qBs),([]:qBs),()),()))
 ((qWE a0).bind fun r3=>
 (qWE b1).bind fun r4=>
 (qQW (r3.1.1.1,r3.1.1.2.1,r3.1.1.2.2) (r4.1.1.1,r4.1.1.2.1,r4.1.1.2.2)).bind fun r5=>
 (qXH (r5.1.1.1,r5.1.1.2.1,r5.1.1.2.2)).bind fun r6=>
 (qXH (r5.1.2.1.1,r5.1.2.1.2.1,r5.1.2.1.2.2)).bind fun r7=>
 some ((r6.1.1,r7.1.1,()),()))))
def qNae (a0:qBs) (b1:qBs):Option ((qBs×Unit)×Unit):=
 (qTd a0 b1).bind fun r1=>
 some ((r1.1.1,()),())
def qJae (a0:qBs) (b1:qBs):Option ((qBs×Unit)×Unit):=
 (qTd a0 b1).bind fun r1=>
 some ((r1.1.2.1,()),())
def v_at (a0:Val) (index1:qBs):Option ((qBs×Unit)×Unit):=
 (qXU a0 index1).bind fun r1=>
 cond (r1.1.2.1)
 (grd (decide (0<=r1.1.1)&&decide (r1.1.1 < a0.2.2.2.2.length)) (some ((a0.2.2.2.2.getD r1.1.1.toNat ([]:qBs),()),())))
 (some ((a0.2.2.1,()),()))
def qCW (x:(List Val)×Val×qBs×(List Val)×Int×Int×Unit):Option (Ex×((List Val)×Val×qBs×(List Val)×Int×Int×Unit)):=
 let l1:=x.1
 let t4:=x.2.1
 let sum5:=x.2.2.1
 let t19:=x.2.2.2.1
 let t20:=x.2.2.2.2.1
 let t21:=x.2.2.2.2.2.1
 cond (decide (t21 < t20))
 (grd (decide (0<=t21)&&decide (t21 < t19.length)) (
 (qBu sum5 ((((t19.getD t21.toNat qRP).2).2).1)).bind fun r1=>
 some (Ex.normal,(l1,t4,r1.1.1,t19,t20,qI (t21+1),()))))
 (some (Ex.exit 1,(l1,t4,sum5,t19,t20,t21,())))
def qFg (n0:Nod) (l1:List Val):Option ((Val×Unit)×Unit):=
 cond (n0.1==3)
 ((qHJ n0.2.1 n0.2.2.2.1).bind fun r1=>
 some ((r1.1.1,()),()))
 (cond (n0.1==14)
 ((qMA qCW (l1,((0:Int),false,([]:qBs),([]:List qBs),([]:List qBs)),([48]:qBs),l1,(l1.length:Int),0,())).bind fun y2=>
 cond (Ex.same y2.1 (Ex.exit 1))
 (grd (decide (0<=(0:Int))&&decide ((0:Int) < y2.2.1.length)) (
 (qHJ ((y2.2.1.getD (0:Int).toNat qRP).1) y2.2.2.2.1).bind fun r3=>
 some ((r3.1.1,()),())))
 (none))
 (cond (n0.1==15)
 (grd (decide (0<=(0:Int))&&decide ((0:Int) < l1.length)) (
 grd (decide (0<=(0:Int))&&decide ((0:Int) < l1.length)) (
 grd (decide (0<=(1:Int))&&decide ((1:Int) < l1.length)) (
 (qDag ((((l1.getD (0:Int).toNat qRP).2).2).1) ((((l1.getD (1:Int).toNat qRP).2).2).1)).bind fun r4=>
 (qHJ ((l1.getD (0:Int).toNat qRP).1) r4.1.1).bind fun r5=>
 some ((r5.1.1,()),())))))
 (cond (n0.1==16)
 (grd (decide (0<=(0:Int))&&decide ((0:Int) < l1.length)) (
 (qNae ((((l1.getD (0:Int).toNat qRP).2).2).1) n0.2.2.2.1).bind fun r6=>
 (qHJ 2 r6.1.1).bind fun r7=>
 some ((r7.1.1,()),())))
 (cond (n0.1==17)
 (grd (decide (0<=(0:Int))&&decide ((0:Int) < l1.length)) (
 (qJae ((((l1.getD (0:Int).toNat qRP).2).2).1) n0.2.2.2.1).bind fun r8=>
 (qHJ 2 r8.1.1).bind fun r9=>
 some ((r9.1.1,()),())))
 (cond (n0.1==18)
 (grd (decide (0<=(0:Int))&&decide ((0:Int) < l1.length)) (
 grd (decide (0<=(1:Int))&&decide ((1:Int) < l1.length)) (
 (v_at (l1.getD (0:Int).toNat qRP) ((((l1.getD (1:Int).toNat qRP).2).2).1)).bind fun r10=>
 (qHJ 2 r10.1.1).bind fun r11=>
 some ((r11.1.1,()),()))))
 (cond (n0.1==19)
 (grd (decide (0<=(0:Int))&&decide ((0:Int) < l1.length)) (
 grd (decide (0<=(1:Int))&&decide ((1:Int) < l1.length)) (
 grd (decide (0<=(2:Int))&&decide ((2:Int) < l1.length)) (
 (qCV (l1.getD (0:Int).toNat qRP) ((((l1.getD (1:Int).toNat qRP).2).2).1) ((((l1.getD (2:Int).toNat qRP).2).2).1)).bind fun r12=>
 some ((r12.1.1,()),())))))
 (grd (decide (0<=(0:Int))&&decide ((0:Int) < l1.length)) (some (((4,false,(((l1.getD (0:Int).toNat qRP).2).2).1,([]:List qBs),([]:List qBs)),()),())))))))))
def qSg (n0:Nod) (l1:List Val):Option ((Val×Unit)×Unit):=
 cond (n0.1==1)
 ((qOB l1 ()).bind fun r1=>
 (qBM !r1.1.1).bind fun r2=>
 some ((r2.1.1,()),()))
 (cond (n0.1==7)
 ((qOB l1 ()).bind fun r3=>
 (qBM !r3.1.1).bind fun r4=>
 some ((r4.1.1,()),()))
 (cond (n0.1==2)
 ((qTB l1 ()).bind fun r5=>
 (qBM r5.1.1).bind fun r6=>
 some ((r6.1.1,()),()))
 (cond (n0.1==8)
 ((qTB l1 ()).bind fun r7=>
 (qBM r7.1.1).bind fun r8=>
 some ((r8.1.1,()),()))
 (cond (n0.1==6)
 (grd (decide (0<=(0:Int))&&decide ((0:Int) < l1.length)) (
 (qUx (l1.getD (0:Int).toNat qRP)).bind fun r9=>
 (qBM r9.1.1).bind fun r10=>
 some ((r10.1.1,()),())))
 (cond (n0.1==9)
 (grd (decide (0<=(0:Int))&&decide ((0:Int) < l1.length)) (
 (qUx (l1.getD (0:Int).toNat qRP)).bind fun r11=>
 cond (r11.1.1)
 ((qBM true).bind fun r12=>
 some ((r12.1.1,()),()))
 (grd (decide (0<=(1:Int))&&decide ((1:Int) < l1.length)) (
 (v_is (l1.getD (1:Int).toNat qRP)).bind fun r13=>
 (qBM r13.1.1).bind fun r14=>
 some ((r14.1.1,()),())))))
 (cond (n0.1==10)
 (grd (decide (0<=(0:Int))&&decide ((0:Int) < l1.length)) (
 (v_is (l1.getD (0:Int).toNat qRP)).bind fun r15=>
 cond (r15.1.1)
 (grd (decide (0<=(1:Int))&&decide ((1:Int) < l1.length)) (some ((l1.getD (1:Int).toNat qRP,()),())))
 (grd (decide (0<=(2:Int))&&decide ((2:Int) < l1.length)) (some ((l1.getD (2:Int).toNat qRP,()),())))))
 (cond (n0.1==11)
 (grd (decide (0<=(0:Int))&&decide ((0:Int) < l1.length)) (
 grd (decide (0<=(1:Int))&&decide ((1:Int) < l1.length)) (
 (qOc (l1.getD (0:Int).toNat qRP) (l1.getD (1:Int).toNat qRP)).bind fun r16=>
 (qBM r16.1.1).bind fun r17=>
 some ((r17.1.1,()),()))))
 (cond (n0.1==12)
 (grd (decide (0<=(0:Int))&&decide ((0:Int) < l1.length)) (
 grd (decide (0<=(1:Int))&&decide ((1:Int) < l1.length)) (
 (qMS ((((l1.getD (0:Int).toNat qRP).2).2).1) ((((l1.getD (1:Int).toNat qRP).2).2).1)).bind fun r18=>
 (qBM (decide (r18.1.1<=0))).bind fun r19=>
 some ((r19.1.1,()),()))))
 (cond (n0.1==13)
 (grd (decide (0<=(0:Int))&&decide ((0:Int) < l1.length)) (
 grd (decide (0<=(1:Int))&&decide ((1:Int) < l1.length)) (
 (qMS ((((l1.getD (0:Int).toNat qRP).2).2).1) ((((l1.getD (1:Int).toNat qRP).2).2).1)).bind fun r20=>
 (qBM (decide (r20.1.1 < (0:Int)))).bind fun r21=>
 some ((r21.1.1,()),()))))
 ((qFg n0 l1).bind fun r22=>
 some ((r22.1.1,()),())))))))))))
def qML (qYal:Evl->Option ((Val×Int×Unit)×(Evl×Unit))) (x:Evl×Val×Int×Nod×(List Val)×Int×Int×Unit):Option (Ex×(Evl×Val×Int×Nod×(List Val)×Int×Int×Unit)):=
 let e0:=x.1
 let t2:=x.2.1
 let t3:=x.2.2.1
 let n4:=x.2.2.2.1
 let kids5:=x.2.2.2.2.1
 let t26:=x.2.2.2.2.2.1
 let t27:=x.2.2.2.2.2.2.1
 cond (decide (t27 < t26))
 ((qYal e0).bind fun r1=>
 cond (r1.1.2.1 !=(0:Int))
 (some (Ex.ret,(r1.2.1,((0:Int),false,([]:qBs),([]:List qBs),([]:List qBs)),r1.1.2.1,n4,kids5,t26,t27,())))
 (grd (decide (kids5.length+([r1.1.1]:List Val).length<=qSG)) (some (Ex.normal,(r1.2.1,t2,t3,n4,kids5++([r1.1.1]:List Val),t26,qI (t27+1),())))))
 (some (Ex.exit 0,(e0,t2,t3,n4,kids5,t26,t27,())))
def qNM (qYal:Evl->Option ((Val×Int×Unit)×(Evl×Unit))) (e0:Evl):Option ((Val×Int×Unit)×(Evl×Unit)):=
 grd (decide (0<=e0.2.1)&&decide (e0.2.1 < e0.1.length)) (
 (qMA (qML qYal) ((e0.1,qI (e0.2.1+1),e0.2.2),((0:Int),false,([]:qBs),([]:List qBs),([]:List qBs)),0,e0.1.getD e0.2.1.toNat qTF,([]:List Val),((((e0.1.getD e0.2.1.toNat qTF).2).2).2).2,0,())).bind fun y1=>
 cond (Ex.same y1.1 (Ex.exit 0))
 (cond (y1.2.2.2.2.1.1==4)
 ((qSK y1.2.1 y1.2.2.2.2.1).bind fun r2=>
 some ((r2.1.1,r2.1.2.1,()),r2.2.1,()))
 (cond (y1.2.2.2.2.1.1==5)
 ((qKK y1.2.1 y1.2.2.2.2.1 y1.2.2.2.2.2.1).bind fun r3=>
 some ((r3.1.1,r3.1.2.1,()),r3.2.1,()))
 ((qSg y1.2.2.2.2.1 y1.2.2.2.2.2.1).bind fun r4=>
 some ((r4.1.1,0,()),y1.2.1,()))))
 (cond (Ex.same y1.1 Ex.ret)
 (some ((y1.2.2.1,y1.2.2.2.1,()),y1.2.1,()))
 (none)))
def qXE:Nat->Evl->Option ((Val×Int×Unit)×(Evl×Unit))
 |0=>fun _=>none
 |n+1=>qNM (qXE n)
def qBz (t0:List Nod) (env1:List qKm) (fns2:List Interp):Option ((Val×Int×Unit)×Unit):=
 (qHc env1).bind fun r1=>
 (qIb fns2).bind fun r2=>
 cond (!r1.1.2.1)
 (some ((((0:Int),false,([]:qBs),([]:List qBs),([]:List qBs)),1,()),()))
 (cond (!r2.1.2.1)
 (some ((((0:Int),false,([]:qBs),([]:List qBs),([]:List qBs)),1,()),()))
 ((qWh t0).bind fun r3=>
 cond (!r3.1.1)
 (some ((((0:Int),false,([]:qBs),([]:List qBs),([]:List qBs)),1,()),()))
 ((qXE big (t0,0,r1.1.1,r2.1.1)).bind fun r4=>
 cond (r4.1.2.1 !=(0:Int))
 (some ((((0:Int),false,([]:qBs),([]:List qBs),([]:List qBs)),r4.1.2.1,()),()))
 ((qKY r4.1.1).bind fun r5=>
 some ((r5.1.1,0,()),())))))
def qHU (a0:qBs):Option ((Nod×Unit)×Unit):=
 some (((3,2,([]:qBs),a0,(0:Int)),()),())
def qUb (x:Val×(List Nod)×Int×Int×Unit):Option (Ex×(Val×(List Nod)×Int×Int×Unit)):=
 let v1:=x.1
 let t4:=x.2.1
 let t31:=x.2.2.1
 let t32:=x.2.2.2.1
 cond (decide (t32 < t31))
 (grd (decide (t4.length+([(19,(0:Int),([]:qBs),([]:qBs),3)]:List Nod).length<=qSG)) (some (Ex.normal,(v1,t4++([(19,(0:Int),([]:qBs),([]:qBs),3)]:List Nod),t31,qI (t32+1),()))))
 (some (Ex.exit 1,(v1,t4,t31,t32,())))
def qFc (x:Val×(List Nod)×(List qBs)×Int×Int×Unit):Option (Ex×(Val×(List Nod)×(List qBs)×Int×Int×Unit)):=
 let v1:=x.1
 let t4:=x.2.1
 let t47:=x.2.2.1
 let t48:=x.2.2.2.1
 let t49:=x.2.2.2.2.1
 cond (decide (t49 < t48))
 (grd (decide (0<=t49)&&decide (t49 < t47.length)) (
 (qHU (t47.getD t49.toNat ([]:qBs))).bind fun r1=>
 grd (decide (0<=t49)&&decide (t49 < v1.2.2.2.2.length)) (
 (qHU (v1.2.2.2.2.getD t49.toNat ([]:qBs))).bind fun r2=>
 grd (decide (t4.length+([r1.1.1,r2.1.1]:List Nod).length<=qSG)) (some (Ex.normal,(v1,t4++([r1.1.1,r2.1.1]:List Nod),t47,t48,qI (t49+1),()))))))
 (some (Ex.exit 3,(v1,t4,t47,t48,t49,())))
def qUz (v0:Val):Option (((List Nod)×Int×Unit)×Unit):=
 (qVP v0).bind fun r1=>
 cond (!r1.1.1)
 (some ((([]:List Nod),1,()),()))
 (cond (v0.1==1)
 (cond (v0.2.1)
 (some ((([(1,(0:Int),([]:qBs),([]:qBs),(0:Int))]:List Nod),0,()),()))
 (some ((([(2,(0:Int),([]:qBs),([]:qBs),(0:Int))]:List Nod),0,()),())))
 (cond (v0.1==2)
 (some ((([(3,v0.1,([]:qBs),v0.2.2.1,(0:Int))]:List Nod),0,()),()))
 (cond (v0.1==3)
 (some ((([(3,v0.1,([]:qBs),v0.2.2.1,(0:Int))]:List Nod),0,()),()))
 ((qMA qUb (v0,([]:List Nod),(v0.2.2.2.1.length:Int),0,())).bind fun y2=>
 cond (Ex.same y2.1 (Ex.exit 1))
 ((qHU y2.2.1.2.2.1).bind fun r3=>
 grd (decide (y2.2.2.1.length+([(20,(0:Int),([]:qBs),([]:qBs),1),r3.1.1]:List Nod).length<=qSG)) (
 (qMA qFc (y2.2.1,y2.2.2.1++([(20,(0:Int),([]:qBs),([]:qBs),1),r3.1.1]:List Nod),y2.2.1.2.2.2.1,(y2.2.1.2.2.2.1.length:Int),0,())).bind fun y4=>
 cond (Ex.same y4.1 (Ex.exit 3))
 ((qWh y4.2.2.1).bind fun r5=>
 cond (!r5.1.1)
 (some ((([]:List Nod),6,()),()))
 (some ((y4.2.2.1,0,()),())))
 (none)))
 (none)))))
def qYae (a0:qBs):Option ((qBs×Unit)×Unit):=
 (qPM a0).bind fun r1=>
 cond (!r1.1.1)
 (some ((([]:qBs),()),()))
 ((strings_Cut a0 ([47]:qBs)).bind fun r2=>
 some ((r2.1.1,()),()))
def qPad (a0:qBs):Option ((qBs×Unit)×Unit):=
 (qPM a0).bind fun r1=>
 cond (!r1.1.1)
 (some ((([]:qBs),()),()))
 ((strings_Cut a0 ([47]:qBs)).bind fun r2=>
 cond (r2.1.2.2.1)
 (some ((r2.1.2.1,()),()))
 (some ((([49]:qBs),()),())))
def qMT (qWal:Int->qBs->Option ((qBs×Unit)×Unit)) (sort0:Int) (a1:qBs):Option ((qBs×Unit)×Unit):=
 (qUS a1).bind fun r1=>
 cond (decide (r1.1.1 < (0:Int)))
 ((qBv a1).bind fun r2=>
 (qWal sort0 r2.1.1).bind fun r3=>
 grd (decide (([40,45,32]:qBs).length+r3.1.1.length<=qXK)) (grd (decide ((([40,45,32]:qBs)++r3.1.1).length+([41]:qBs).length<=qXK)) (some (((([40,45,32]:qBs)++r3.1.1)++([41]:qBs),()),()))))
 (cond (sort0==2)
 (some ((a1,()),()))
 ((qOE a1).bind fun r4=>
 cond (r4.1.1)
 (grd (decide (a1.length+([46,48]:qBs).length<=qXK)) (some ((a1++([46,48]:qBs),()),())))
 ((qYae a1).bind fun r5=>
 grd (decide (([40,47,32]:qBs).length+r5.1.1.length<=qXK)) (
 grd (decide ((([40,47,32]:qBs)++r5.1.1).length+([46,48,32]:qBs).length<=qXK)) (
 (qPad a1).bind fun r6=>
 grd (decide (((([40,47,32]:qBs)++r5.1.1)++([46,48,32]:qBs)).length+r6.1.1.length<=qXK)) (grd (decide ((((([40,47,32]:qBs)++r5.1.1)++([46,48,32]:qBs))++r6.1.1).length+([46,48,41]:qBs).length<=qXK)) (some (((((([40,47,32]:qBs)++r5.1.1)++([46,48,32]:qBs))++r6.1.1)++([46,48,41]:qBs),()),()))))))))
def qNL:Nat->Int->qBs->Option ((qBs×Unit)×Unit)
 |0=>fun _ _=>none
 |n+1=>qMT (qNL n)
def qCm (n0:Nod):Option ((qBs×Unit)×Unit):=
 cond (n0.1==6)
 (some ((([110,111,116]:qBs),()),()))
 (cond (n0.1==7)
 (some ((([97,110,100]:qBs),()),()))
 (cond (n0.1==8)
 (some ((([111,114]:qBs),()),()))
 (cond (n0.1==9)
 (some ((([61,62]:qBs),()),()))
 (cond (n0.1==10)
 (some ((([105,116,101]:qBs),()),()))
 (cond (n0.1==11)
 (some ((([61]:qBs),()),()))
 (cond (n0.1==12)
 (some ((([60,61]:qBs),()),()))
 (cond (n0.1==13)
 (some ((([60]:qBs),()),()))
 (cond (n0.1==14)
 (some ((([43]:qBs),()),()))
 (cond (n0.1==15)
 (some ((([42]:qBs),()),()))
 (cond (n0.1==16)
 (some ((([100,105,118]:qBs),()),()))
 (cond (n0.1==17)
 (some ((([109,111,100]:qBs),()),()))
 (cond (n0.1==18)
 (some ((([115,101,108,101,99,116]:qBs),()),()))
 (cond (n0.1==19)
 (some ((([115,116,111,114,101]:qBs),()),()))
 (cond (n0.1==20)
 (some ((([99,111,110,115,116]:qBs),()),()))
 (some ((n0.2.2.1,()),()))))))))))))))))
def qVC (b0:Unit×List Int) (c1:Int):Option ((Bool×Unit)×((Unit×List Int)×Unit)):=
 (qUC ((),b0.2)).bind fun r1=>
 grd (decide (r1.2.1.2.length+([c1]:List Int).length<=qSG)) (some ((false,()),((),r1.2.1.2++([c1]:List Int)),()))
def qDQ (qXal:Option qHP->(Unit×List Int)->Int->Option ((Unit)×((Unit×List Int)×Unit))) (x:(Option qHP)×(Unit×List Int)×Nod×(List Int)×Int×Int×Unit):Option (Ex×((Option qHP)×(Unit×List Int)×Nod×(List Int)×Int×Int×Unit)):=
 let v0:=x.1
 let b1:=x.2.1
 let n6:=x.2.2.1
 let t25:=x.2.2.2.1
 let t26:=x.2.2.2.2.1
 let t27:=x.2.2.2.2.2.1
 cond (decide (t27 < t26))
 (grd (decide (0<=t27)&&decide (t27 < t25.length)) (
 (qVC ((),b1.2) 32).bind fun r1=>
 (qXal v0 ((),r1.2.1.2) (t25.getD t27.toNat (0:Int))).bind fun r2=>
 some (Ex.normal,(v0,((),r2.2.1.2),n6,t25,t26,qI (t27+1),()))))
 (some (Ex.exit 1,(v0,((),b1.2),n6,t25,t26,t27,())))
def qOR (qXal:Option qHP->(Unit×List Int)->Int->Option ((Unit)×((Unit×List Int)×Unit))) (v0:Option qHP) (b1:Unit×List Int) (i2:Int):Option ((Unit)×((Unit×List Int)×Unit)):=
 grd (v0.isSome) (
 grd (decide (0<=i2)&&decide (i2 < ((v0.getD qRJ).1).length)) (
 cond (((((v0.getD qRJ).1).getD i2.toNat qTF).1)==1)
 ((qGA ((),b1.2) ([116,114,117,101]:qBs)).bind fun r1=>
 some ((),((),r1.2.1.2),()))
 (cond (((((v0.getD qRJ).1).getD i2.toNat qTF).1)==2)
 ((qGA ((),b1.2) ([102,97,108,115,101]:qBs)).bind fun r2=>
 some ((),((),r2.2.1.2),()))
 (cond (((((v0.getD qRJ).1).getD i2.toNat qTF).1)==3)
 ((qNL big (((((v0.getD qRJ).1).getD i2.toNat qTF).2).1) (((((((v0.getD qRJ).1).getD i2.toNat qTF).2).2).2).1)).bind fun r3=>
 (qGA ((),b1.2) r3.1.1).bind fun r4=>
 some ((),((),r4.2.1.2),()))
 (cond (((((v0.getD qRJ).1).getD i2.toNat qTF).1)==4)
 ((qGA ((),b1.2) ((((((v0.getD qRJ).1).getD i2.toNat qTF).2).2).1)).bind fun r5=>
 some ((),((),r5.2.1.2),()))
 ((qCm (((v0.getD qRJ).1).getD i2.toNat qTF)).bind fun r6=>
 grd (decide (([40]:qBs).length+r6.1.1.length<=qXK)) (
 (qGA ((),b1.2) (([40]:qBs)++r6.1.1)).bind fun r7=>
 (qAS v0 i2).bind fun r8=>
 (qMA (qDQ qXal) (v0,((),r7.2.1.2),((v0.getD qRJ).1).getD i2.toNat qTF,r8.1.1,(r8.1.1.length:Int),0,())).bind fun y9=>
 cond (Ex.same y9.1 (Ex.exit 1))
 (cond (!(y9.2.2.2.1.2.2.2.1==([]:qBs)))
 (grd (decide (([32]:qBs).length+y9.2.2.2.1.2.2.2.1.length<=qXK)) (
 (qGA ((),y9.2.2.1.2) (([32]:qBs)++y9.2.2.2.1.2.2.2.1)).bind fun r10=>
 (qVC ((),r10.2.1.2) 41).bind fun r11=>
 some ((),((),r11.2.1.2),())))
 ((qVC ((),y9.2.2.1.2) 41).bind fun r12=>
 some ((),((),r12.2.1.2),())))
 (none))))))))
def qNJ:Nat->Option qHP->(Unit×List Int)->Int->Option ((Unit)×((Unit×List Int)×Unit))
 |0=>fun _ _ _=>none
 |n+1=>qOR (qNJ n)
def qDm (t0:List Nod):Option ((qBs×Unit)×Unit):=
 (qRi t0).bind fun r1=>
 cond (!r1.1.2.1)
 (some ((([]:qBs),()),()))
 ((qNJ big r1.1.1 ((),([]:List Int)) 0).bind fun r2=>
 (qMC ((),r2.2.1.2)).bind fun r3=>
 some ((r3.1.1,()),()))
def qEm (v0:Val):Option ((qBs×Unit)×Unit):=
 (qUz v0).bind fun r1=>
 cond (r1.1.2.1 !=(0:Int))
 (some ((([]:qBs),()),()))
 ((qDm r1.1.1).bind fun r2=>
 some ((r2.1.1,()),()))
def qOV:Option ((Bool×Unit)×Unit):=
 (qDz 4).bind fun r1=>
 (qMF r1.1.1 ([51]:qBs) ([55]:qBs)).bind fun r2=>
 (qMF r2.1.1 ([51]:qBs) ([48]:qBs)).bind fun r3=>
 (qHaa 2 ([45,55]:qBs)).bind fun r4=>
 (qGz (16,(0:Int),([]:qBs),([50]:qBs),(0:Int)) ([r4.1.1]:List (List Nod))).bind fun r5=>
 (qBz r5.1.1 ([]:List qKm) ([]:List Interp)).bind fun r6=>
 cond (r1.1.2.1==0)
 (cond (r2.1.2.1==0)
 (cond (r3.1.2.1==0)
 (cond (r6.1.2.1==0)
 (cond ((r2.1.1.2.2.2.1.length:Int)==1)
 (grd (decide (0<=(0:Int))&&decide ((0:Int) < r2.1.1.2.2.2.2.length)) (
 cond ((r2.1.1.2.2.2.2.getD (0:Int).toNat ([]:qBs))==([55]:qBs))
 ((qOc r3.1.1 r1.1.1).bind fun r7=>
 cond (r7.1.1)
 (cond (r6.1.1.2.2.1==([45,52]:qBs))
 ((qEm (4,false,([49]:qBs),([([45,50]:qBs)]:List qBs),([([53]:qBs)]:List qBs))).bind fun r8=>
 some ((r8.1.1==([40,115,116,111,114,101,32,40,99,111,110,115,116,32,49,41,32,40,45,32,50,41,32,53,41]:qBs),()),()))
 (some ((false,()),())))
 (some ((false,()),())))
 (some ((false,()),()))))
 (some ((false,()),())))
 (some ((false,()),())))
 (some ((false,()),())))
 (some ((false,()),())))
 (some ((false,()),()))
def qEt (l0:List Int):Option ((qNA×Unit)×Unit):=
 grd (decide (0<=qAy (l0.length:Int) (400:Int))&&decide (qAy (l0.length:Int) (400:Int)<=l0.length)) (some (((l0.take (qAy (l0.length:Int) (400:Int)).toNat,(0:Int)),()),()))
def qPw (v0:Int) (n1:Int):Option ((Int×Unit)×Unit):=
 grd ((qU (n1)) !=0) (some ((qI ((qU (v0)).tmod (qU (n1))),()),()))
def qRA (c0:qNA) (n1:Int):Option ((Int×Unit)×(qNA×Unit)):=
 cond (decide (c0.2>=(c0.1.length:Int)))
 (some ((0,()),(c0.1,c0.2),()))
 (grd (decide (0<=qI ((qI (c0.2+1)) - (1:Int)))&&decide (qI ((qI (c0.2+1)) - (1:Int)) < c0.1.length)) (
 (qPw (c0.1.getD (qI ((qI (c0.2+1)) - (1:Int))).toNat (0:Int)) n1).bind fun r1=>
 some ((r1.1.1,()),(c0.1,qI (c0.2+1)),())))
def qUH (x:Int×qBs×Int×Unit):Option (Ex×(Int×qBs×Int×Unit)):=
 let n0:=x.1
 let s3:=x.2.1
 let v4:=x.2.2.1
 cond (v4 !=(0:Int))
 (grd ((10:Int) !=0) (
 cond (decide ((v4.tmod 10) < (0:Int)))
 (grd (decide ((([IntKind.u8.wrap (qI ((48:Int)+(qI (0 - (v4.tmod 10)))))]:List Int).map fun n=>UInt8.ofNat n.toNat).length+s3.length<=qXK)) (grd ((10:Int) !=0) (some (Ex.normal,(n0,(([IntKind.u8.wrap (qI ((48:Int)+(qI (0 - (v4.tmod 10)))))]:List Int).map fun n=>UInt8.ofNat n.toNat)++s3,qI (v4.tdiv 10),())))))
 (grd (decide ((([IntKind.u8.wrap (qI ((48:Int)+(v4.tmod 10)))]:List Int).map fun n=>UInt8.ofNat n.toNat).length+s3.length<=qXK)) (grd ((10:Int) !=0) (some (Ex.normal,(n0,(([IntKind.u8.wrap (qI ((48:Int)+(v4.tmod 10)))]:List Int).map fun n=>UInt8.ofNat n.toNat)++s3,qI (v4.tdiv 10),())))))))
 (cond (s3==([]:qBs))
 (grd ((10:Int) !=0) (
 cond (decide ((v4.tmod 10) < (0:Int)))
 (grd (decide ((([IntKind.u8.wrap (qI ((48:Int)+(qI (0 - (v4.tmod 10)))))]:List Int).map fun n=>UInt8.ofNat n.toNat).length+s3.length<=qXK)) (grd ((10:Int) !=0) (some (Ex.normal,(n0,(([IntKind.u8.wrap (qI ((48:Int)+(qI (0 - (v4.tmod 10)))))]:List Int).map fun n=>UInt8.ofNat n.toNat)++s3,qI (v4.tdiv 10),())))))
 (grd (decide ((([IntKind.u8.wrap (qI ((48:Int)+(v4.tmod 10)))]:List Int).map fun n=>UInt8.ofNat n.toNat).length+s3.length<=qXK)) (grd ((10:Int) !=0) (some (Ex.normal,(n0,(([IntKind.u8.wrap (qI ((48:Int)+(v4.tmod 10)))]:List Int).map fun n=>UInt8.ofNat n.toNat)++s3,qI (v4.tdiv 10),())))))))
 (some (Ex.exit 0,(n0,s3,v4,()))))
def qXJ (n0:Int):Option ((qBs×Unit)×Unit):=
 (qMA qUH (n0,([]:qBs),n0,())).bind fun y1=>
 cond (Ex.same y1.1 (Ex.exit 0))
 (cond (decide (y1.2.1 < (0:Int)))
 (grd (decide (([45]:qBs).length+y1.2.2.1.length<=qXK)) (some ((([45]:qBs)++y1.2.2.1,()),())))
 (some ((y1.2.2.1,()),())))
 (none)
def qMH (x:qBs×Bool×Int×Unit):Option (Ex×(qBs×Bool×Int×Unit)):=
 let s0:=x.1
 let t2:=x.2.1
 let i3:=x.2.2.1
 cond (decide (i3 < (s0.length:Int)))
 (grd (decide (0<=i3)&&decide (i3 < s0.length)) (
 cond (decide (((s0.getD i3.toNat 0).toNat:Int) < (48:Int)))
 (some (Ex.ret,(s0,false,i3,())))
 (grd (decide (0<=i3)&&decide (i3 < s0.length)) (
 cond (decide (((s0.getD i3.toNat 0).toNat:Int) > (57:Int)))
 (some (Ex.ret,(s0,false,i3,())))
 (some (Ex.normal,(s0,t2,qI (i3+1),())))))))
 (some (Ex.exit 0,(s0,t2,i3,())))
def qAJ (s0:qBs):Option ((Bool×Unit)×Unit):=
 (qMA qMH (s0,false,0,())).bind fun y1=>
 cond (Ex.same y1.1 (Ex.exit 0))
 (some ((!(y1.2.1==([]:qBs)),()),()))
 (cond (Ex.same y1.1 Ex.ret)
 (some ((y1.2.2.1,()),()))
 (none))
def qXM (x:qBs×Unit):Option (Ex×(qBs×Unit)):=
 let s0:=x.1
 cond (decide ((s0.length:Int) > (1:Int)))
 (grd (decide (0<=(0:Int))&&decide ((0:Int) < s0.length)) (
 cond (((s0.getD (0:Int).toNat 0).toNat:Int)==48)
 (grd (decide (0<=(1:Int))&&decide ((1:Int)<=s0.length)) (some (Ex.normal,(s0.drop (1:Int).toNat,()))))
 (some (Ex.exit 0,(s0,())))))
 (some (Ex.exit 0,(s0,())))
def qRK (s0:qBs):Option ((qBs×Unit)×Unit):=
 (qMA qXM (s0,())).bind fun y1=>
 cond (Ex.same y1.1 (Ex.exit 0))
 (some ((y1.2.1,()),()))
 (none)
def qLU (a0:qBs) (b1:qBs):Option ((Int×Unit)×Unit):=
 cond (decide ((a0.length:Int) < (b1.length:Int)))
 (some ((-1,()),()))
 (cond ((a0.length:Int)==(b1.length:Int))
 (cond (qIk a0 b1)
 (some ((-1,()),()))
 (cond (a0==b1)
 (some ((0,()),()))
 (some ((1,()),()))))
 (cond (a0==b1)
 (some ((0,()),()))
 (some ((1,()),()))))
def qEE (x:qBs×qBs×(List Int)×Int×Int×Unit):Option (Ex×(qBs×qBs×(List Int)×Int×Int×Unit)):=
 let a0:=x.1
 let b1:=x.2.1
 let out5:=x.2.2.1
 let borrow6:=x.2.2.2.1
 let i7:=x.2.2.2.2.1
 cond (decide (i7 < (a0.length:Int)))
 (grd (decide (0<=qI ((qI ((a0.length:Int) - (1:Int))) - i7))&&decide (qI ((qI ((a0.length:Int) - (1:Int))) - i7) < a0.length)) (
 cond (decide (i7 < (b1.length:Int)))
 (grd (decide (0<=qI ((qI ((b1.length:Int) - (1:Int))) - i7))&&decide (qI ((qI ((b1.length:Int) - (1:Int))) - i7) < b1.length)) (
 cond (decide ((qI ((qI ((qI (IntKind.u8.wrap (((a0.getD (qI ((qI ((a0.length:Int) - (1:Int))) - i7)).toNat 0).toNat:Int) - (48:Int)))) - borrow6)) - (qI (IntKind.u8.wrap (((b1.getD (qI ((qI ((b1.length:Int) - (1:Int))) - i7)).toNat 0).toNat:Int) - (48:Int)))))) < (0:Int)))
 (grd (decide (0<=qI ((qI ((a0.length:Int) - (1:Int))) - i7))&&decide (qI ((qI ((a0.length:Int) - (1:Int))) - i7) < out5.length)) (grd (decide ((qI ((qI ((a0.length:Int) - (1:Int))) - i7)).toNat < out5.length)) (some (Ex.normal,(a0,b1,out5.set ((qI ((qI ((a0.length:Int) - (1:Int))) - i7)).toNat) (IntKind.u8.wrap (qI ((48:Int)+(qI ((qI ((qI ((qI (IntKind.u8.wrap (((a0.getD (qI ((qI ((a0.length:Int) - (1:Int))) - i7)).toNat 0).toNat:Int) - (48:Int)))) - borrow6)) - (qI (IntKind.u8.wrap (((b1.getD (qI ((qI ((b1.length:Int) - (1:Int))) - i7)).toNat 0).toNat:Int) - (48:Int))))))+10))))),1,qI (i7+1),())))))
 (grd (decide (0<=qI ((qI ((a0.length:Int) - (1:Int))) - i7))&&decide (qI ((qI ((a0.length:Int) - (1:Int))) - i7) < out5.length)) (grd (decide ((qI ((qI ((a0.length:Int) - (1:Int))) - i7)).toNat < out5.length)) (some (Ex.normal,(a0,b1,out5.set ((qI ((qI ((a0.length:Int) - (1:Int))) - i7)).toNat) (IntKind.u8.wrap (qI ((48:Int)+(qI ((qI ((qI (IntKind.u8.wrap (((a0.getD (qI ((qI ((a0.length:Int) - (1:Int))) - i7)).toNat 0).toNat:Int) - (48:Int)))) - borrow6)) - (qI (IntKind.u8.wrap (((b1.getD (qI ((qI ((b1.length:Int) - (1:Int))) - i7)).toNat 0).toNat:Int) - (48:Int))))))))),0,qI (i7+1),())))))))
 (cond (decide ((qI ((qI (IntKind.u8.wrap (((a0.getD (qI ((qI ((a0.length:Int) - (1:Int))) - i7)).toNat 0).toNat:Int) - (48:Int)))) - borrow6)) < (0:Int)))
 (grd (decide (0<=qI ((qI ((a0.length:Int) - (1:Int))) - i7))&&decide (qI ((qI ((a0.length:Int) - (1:Int))) - i7) < out5.length)) (grd (decide ((qI ((qI ((a0.length:Int) - (1:Int))) - i7)).toNat < out5.length)) (some (Ex.normal,(a0,b1,out5.set ((qI ((qI ((a0.length:Int) - (1:Int))) - i7)).toNat) (IntKind.u8.wrap (qI ((48:Int)+(qI ((qI ((qI (IntKind.u8.wrap (((a0.getD (qI ((qI ((a0.length:Int) - (1:Int))) - i7)).toNat 0).toNat:Int) - (48:Int)))) - borrow6))+10))))),1,qI (i7+1),())))))
 (grd (decide (0<=qI ((qI ((a0.length:Int) - (1:Int))) - i7))&&decide (qI ((qI ((a0.length:Int) - (1:Int))) - i7) < out5.length)) (grd (decide ((qI ((qI ((a0.length:Int) - (1:Int))) - i7)).toNat < out5.length)) (some (Ex.normal,(a0,b1,out5.set ((qI ((qI ((a0.length:Int) - (1:Int))) - i7)).toNat) (IntKind.u8.wrap (qI ((48:Int)+(qI ((qI (IntKind.u8.wrap (((a0.getD (qI ((qI ((a0.length:Int) - (1:Int))) - i7)).toNat 0).toNat:Int) - (48:Int)))) - borrow6))))),0,qI (i7+1),()))))))))
 (some (Ex.exit 0,(a0,b1,out5,borrow6,i7,())))
def qHQ (a0:qBs) (b1:qBs):Option ((qBs×Unit)×Unit):=
 grd (decide (0<=(a0.length:Int))&&decide ((a0.length:Int)<=(a0.length:Int))&&decide ((a0.length:Int)<=qSG)) (
 (qMA qEE (a0,b1,List.replicate (a0.length:Int).toNat (0:Int),0,0,())).bind fun y1=>
 cond (Ex.same y1.1 (Ex.exit 0))
 ((qRK (y1.2.2.2.1.map fun n=>UInt8.ofNat n.toNat)).bind fun r2=>
 some ((r2.1.1,()),()))
 (none))
def qFJ (x:qBs×qBs×(List Int)×qBs×Int×Int×Unit):Option (Ex×(qBs×qBs×(List Int)×qBs×Int×Int×Unit)):=
 let a0:=x.1
 let b1:=x.2.1
 let q6:=x.2.2.1
 let r7:=x.2.2.2.1
 let i8:=x.2.2.2.2.1
 let d9:=x.2.2.2.2.2.1
 (qLU r7 b1).bind fun r1=>
 cond (decide (r1.1.1>=0))
 ((qHQ r7 b1).bind fun r2=>
 some (Ex.normal,(a0,b1,q6,r2.1.1,i8,IntKind.u8.wrap (d9+1),())))
 (some (Ex.exit 2,(a0,b1,q6,r7,i8,d9,())))
def qAM (x:qBs×qBs×(List Int)×qBs×Int×Unit):Option (Ex×(qBs×qBs×(List Int)×qBs×Int×Unit)):=
 let a0:=x.1
 let b1:=x.2.1
 let q6:=x.2.2.1
 let r7:=x.2.2.2.1
 let i8:=x.2.2.2.2.1
 cond (decide (i8 < (a0.length:Int)))
 (grd (decide (0<=i8)&&decide (i8<=qI (i8+1))&&decide (qI (i8+1)<=a0.length)) (
 grd (decide (r7.length+((a0.take (qI (i8+1)).toNat).drop i8.toNat).length<=qXK)) (
 (qRK (r7++((a0.take (qI (i8+1)).toNat).drop i8.toNat))).bind fun r1=>
 (qMA qFJ (a0,b1,q6,r1.1.1,i8,48,())).bind fun y2=>
 cond (Ex.same y2.1 (Ex.exit 2))
 (grd (decide (0<=y2.2.2.2.2.2.1)&&decide (y2.2.2.2.2.2.1 < y2.2.2.2.1.length)) (grd (decide (y2.2.2.2.2.2.1.toNat < y2.2.2.2.1.length)) (some (Ex.normal,(y2.2.1,y2.2.2.1,y2.2.2.2.1.set y2.2.2.2.2.2.1.toNat y2.2.2.2.2.2.2.1,y2.2.2.2.2.1,qI (y2.2.2.2.2.2.1+1),())))))
 (none))))
 (some (Ex.exit 0,(a0,b1,q6,r7,i8,())))
def qXQ (a0:qBs) (b1:qBs):Option ((qBs×qBs×Unit)×Unit):=
 grd (decide (0<=(a0.length:Int))&&decide ((a0.length:Int)<=(a0.length:Int))&&decide ((a0.length:Int)<=qSG)) (
 (qMA qAM (a0,b1,List.replicate (a0.length:Int).toNat (0:Int),([48]:qBs),0,())).bind fun y1=>
 cond (Ex.same y1.1 (Ex.exit 0))
 ((qRK (y1.2.2.2.1.map fun n=>UInt8.ofNat n.toNat)).bind fun r2=>
 some ((r2.1.1,y1.2.2.2.2.1,()),()))
 (none))
def qOL (x:qBs×qBs×Unit):Option (Ex×(qBs×qBs×Unit)):=
 let a0:=x.1
 let b1:=x.2.1
 cond (!(b1==([48]:qBs)))
 ((qXQ a0 b1).bind fun r1=>
 some (Ex.normal,(b1,r1.1.2.1,())))
 (some (Ex.exit 0,(a0,b1,())))
def qCX (a0:qBs) (b1:qBs):Option ((qBs×Unit)×Unit):=
 (qMA qOL (a0,b1,())).bind fun y1=>
 cond (Ex.same y1.1 (Ex.exit 0))
 (some ((y1.2.1,()),()))
 (none)
def qOF (neg0:Bool) (num1:qBs) (den2:qBs):Option ((qEj×Unit)×Unit):=
 (qCX num1 den2).bind fun r1=>
 (qXQ num1 r1.1.1).bind fun r2=>
 (qXQ den2 r1.1.1).bind fun r3=>
 cond (neg0)
 (some (((!(r2.1.1==([48]:qBs)),r2.1.1,r3.1.1),()),()))
 (some (((false,r2.1.1,r3.1.1),()),()))
def qXA (x0:qEj):Option ((qBs×Unit)×Unit):=
 cond (x0.1)
 (grd (decide (([45]:qBs).length+x0.2.1.length<=qXK)) (
 cond (!(x0.2.2==([49]:qBs)))
 (grd (decide (([47]:qBs).length+x0.2.2.length<=qXK)) (grd (decide ((([45]:qBs)++x0.2.1).length+(([47]:qBs)++x0.2.2).length<=qXK)) (some (((([45]:qBs)++x0.2.1)++(([47]:qBs)++x0.2.2),()),()))))
 (some ((([45]:qBs)++x0.2.1,()),()))))
 (cond (!(x0.2.2==([49]:qBs)))
 (grd (decide (([47]:qBs).length+x0.2.2.length<=qXK)) (grd (decide (x0.2.1.length+(([47]:qBs)++x0.2.2).length<=qXK)) (some ((x0.2.1++(([47]:qBs)++x0.2.2),()),()))))
 (some ((x0.2.1,()),())))
def qGG (x:qBs×qEj×qEj×qBs×Int×Unit):Option (Ex×(qBs×qEj×qEj×qBs×Int×Unit)):=
 let a0:=x.1
 let t2:=x.2.1
 let x4:=x.2.2.1
 let s5:=x.2.2.2.1
 let i6:=x.2.2.2.2.1
 cond (decide (i6 < (s5.length:Int)))
 (grd (decide (0<=i6)&&decide (i6 < s5.length)) (
 cond (((s5.getD i6.toNat 0).toNat:Int)==47)
 (grd (decide (0<=qI (i6+1))&&decide (qI (i6+1)<=s5.length)) (grd (decide (0<=i6)&&decide (i6<=s5.length)) (some (Ex.exit 0,(a0,(t2.1,t2.2.1,t2.2.2),(x4.1,x4.2.1,s5.drop (qI (i6+1)).toNat),s5.take i6.toNat,i6,())))))
 (some (Ex.normal,(a0,(t2.1,t2.2.1,t2.2.2),(x4.1,x4.2.1,x4.2.2),s5,qI (i6+1),())))))
 (some (Ex.exit 0,(a0,(t2.1,t2.2.1,t2.2.2),(x4.1,x4.2.1,x4.2.2),s5,i6,())))
def qRE (a0:qBs):Option ((qEj×Bool×Unit)×Unit):=
 cond (!(a0==([]:qBs)))
 (grd (decide (0<=(0:Int))&&decide ((0:Int) < a0.length)) (
 cond (((a0.getD (0:Int).toNat 0).toNat:Int)==45)
 (grd (decide (0<=(1:Int))&&decide ((1:Int)<=a0.length)) (
 (qMA qGG (a0,(false,([]:qBs),([]:qBs)),(true,([]:qBs),([49]:qBs)),a0.drop (1:Int).toNat,0,())).bind fun y1=>
 cond (Ex.same y1.1 (Ex.exit 0))
 ((qAJ y1.2.2.2.2.1).bind fun r2=>
 cond (!r2.1.1)
 (some (((false,([]:qBs),([]:qBs)),false,()),()))
 ((qAJ y1.2.2.2.1.2.2).bind fun r3=>
 cond (!r3.1.1)
 (some (((false,([]:qBs),([]:qBs)),false,()),()))
 (cond (y1.2.2.2.1.2.2==([48]:qBs))
 (some (((false,([]:qBs),([]:qBs)),false,()),()))
 ((qRK y1.2.2.2.2.1).bind fun r4=>
 cond (!(r4.1.1==y1.2.2.2.2.1))
 (some (((false,([]:qBs),([]:qBs)),false,()),()))
 ((qRK y1.2.2.2.1.2.2).bind fun r5=>
 cond (!(r5.1.1==y1.2.2.2.1.2.2))
 (some (((false,([]:qBs),([]:qBs)),false,()),()))
 ((qOF y1.2.2.2.1.1 y1.2.2.2.2.1 y1.2.2.2.1.2.2).bind fun r6=>
 (qXA (r6.1.1.1,r6.1.1.2.1,r6.1.1.2.2)).bind fun r7=>
 cond (!(r7.1.1==y1.2.1))
 (some (((false,([]:qBs),([]:qBs)),false,()),()))
 (some (((y1.2.2.2.1.1,y1.2.2.2.2.1,y1.2.2.2.1.2.2),true,()),()))))))))
 (none)))
 ((qMA qGG (a0,(false,([]:qBs),([]:qBs)),(false,([]:qBs),([49]:qBs)),a0,0,())).bind fun y8=>
 cond (Ex.same y8.1 (Ex.exit 0))
 ((qAJ y8.2.2.2.2.1).bind fun r9=>
 cond (!r9.1.1)
 (some (((false,([]:qBs),([]:qBs)),false,()),()))
 ((qAJ y8.2.2.2.1.2.2).bind fun r10=>
 cond (!r10.1.1)
 (some (((false,([]:qBs),([]:qBs)),false,()),()))
 (cond (y8.2.2.2.1.2.2==([48]:qBs))
 (some (((false,([]:qBs),([]:qBs)),false,()),()))
 ((qRK y8.2.2.2.2.1).bind fun r11=>
 cond (!(r11.1.1==y8.2.2.2.2.1))
 (some (((false,([]:qBs),([]:qBs)),false,()),()))
 ((qRK y8.2.2.2.1.2.2).bind fun r12=>
 cond (!(r12.1.1==y8.2.2.2.1.2.2))
 (some (((false,([]:qBs),([]:qBs)),false,()),()))
 ((qOF y8.2.2.2.1.1 y8.2.2.2.2.1 y8.2.2.2.1.2.2).bind fun r13=>
 (qXA (r13.1.1.1,r13.1.1.2.1,r13.1.1.2.2)).bind fun r14=>
 cond (!(r14.1.1==y8.2.1))
 (some (((false,([]:qBs),([]:qBs)),false,()),()))
 (some (((y8.2.2.2.1.1,y8.2.2.2.2.1,y8.2.2.2.1.2.2),true,()),()))))))))
 (none))))
 ((qMA qGG (a0,(false,([]:qBs),([]:qBs)),(false,([]:qBs),([49]:qBs)),a0,0,())).bind fun y15=>
 cond (Ex.same y15.1 (Ex.exit 0))
 ((qAJ y15.2.2.2.2.1).bind fun r16=>
 cond (!r16.1.1)
 (some (((false,([]:qBs),([]:qBs)),false,()),()))
 ((qAJ y15.2.2.2.1.2.2).bind fun r17=>
 cond (!r17.1.1)
 (some (((false,([]:qBs),([]:qBs)),false,()),()))
 (cond (y15.2.2.2.1.2.2==([48]:qBs))
 (some (((false,([]:qBs),([]:qBs)),false,()),()))
 ((qRK y15.2.2.2.2.1).bind fun r18=>
 cond (!(r18.1.1==y15.2.2.2.2.1))
 (some (((false,([]:qBs),([]:qBs)),false,()),()))
 ((qRK y15.2.2.2.1.2.2).bind fun r19=>
 cond (!(r19.1.1==y15.2.2.2.1.2.2))
 (some (((false,([]:qBs),([]:qBs)),false,()),()))
 ((qOF y15.2.2.2.1.1 y15.2.2.2.2.1 y15.2.2.2.1.2.2).bind fun r20=>
 (qXA (r20.1.1.1,r20.1.1.2.1,r20.1.1.2.2)).bind fun r21=>
 cond (!(r21.1.1==y15.2.1))
 (some (((false,([]:qBs),([]:qBs)),false,()),()))
 (some (((y15.2.2.2.1.1,y15.2.2.2.2.1,y15.2.2.2.1.2.2),true,()),()))))))))
 (none))
def qEJ (x:qBs×qBs×(List Int)×Int×Int×Unit):Option (Ex×(qBs×qBs×(List Int)×Int×Int×Unit)):=
 let a0:=x.1
 let b1:=x.2.1
 let out5:=x.2.2.1
 let i6:=x.2.2.2.1
 let j7:=x.2.2.2.2.1
 cond (decide (j7 < (b1.length:Int)))
 (grd (decide (0<=qI ((qI (i6+j7))+1))&&decide (qI ((qI (i6+j7))+1) < out5.length)) (grd (decide ((qI ((qI (i6+j7))+1)).toNat < out5.length)) (grd (decide (0<=i6)&&decide (i6 < a0.length)) (grd (decide (0<=j7)&&decide (j7 < b1.length)) (grd (decide (0<=qI ((qI (i6+j7))+1))&&decide (qI ((qI (i6+j7))+1) < out5.length)) (grd (decide ((qI ((qI (i6+j7))+1)).toNat < out5.length)) (some (Ex.normal,(a0,b1,out5.set ((qI ((qI (i6+j7))+1)).toNat) (qI ((out5.getD ((qI ((qI (i6+j7))+1)).toNat) (0:Int))+(qI ((qI (IntKind.u8.wrap (((a0.getD i6.toNat 0).toNat:Int) - (48:Int)))) * (qI (IntKind.u8.wrap (((b1.getD j7.toNat 0).toNat:Int) - (48:Int)))))))),i6,qI (j7+1),())))))))))
 (some (Ex.exit 2,(a0,b1,out5,i6,j7,())))
def qJL (x:qBs×qBs×(List Int)×Int×Unit):Option (Ex×(qBs×qBs×(List Int)×Int×Unit)):=
 let a0:=x.1
 let b1:=x.2.1
 let out5:=x.2.2.1
 let i6:=x.2.2.2.1
 cond (decide (i6 < (a0.length:Int)))
 ((qMA qEJ (a0,b1,out5,i6,0,())).bind fun y1=>
 cond (Ex.same y1.1 (Ex.exit 2))
 (some (Ex.normal,(y1.2.1,y1.2.2.1,y1.2.2.2.1,qI (y1.2.2.2.2.1+1),())))
 (none))
 (some (Ex.exit 0,(a0,b1,out5,i6,())))
def qWJ (x:(List Int)×(List Int)×Int×Int×Unit):Option (Ex×((List Int)×(List Int)×Int×Int×Unit)):=
 let out5:=x.1
 let s8:=x.2.1
 let carry9:=x.2.2.1
 let k10:=x.2.2.2.1
 cond (decide (k10>=0))
 (grd (decide (0<=k10)&&decide (k10 < out5.length)) (grd (decide (k10.toNat < out5.length)) (grd ((10:Int) !=0) (grd (decide (0<=k10)&&decide (k10 < s8.length)) (grd (decide (k10.toNat < s8.length)) (grd ((10:Int) !=0) (some (Ex.normal,(out5,s8.set k10.toNat (IntKind.u8.wrap (qI ((48:Int)+((qI ((out5.getD k10.toNat (0:Int))+carry9)).tmod 10)))),qI ((qI ((out5.getD k10.toNat (0:Int))+carry9)).tdiv 10),qI (k10 - (1:Int)),())))))))))
 (some (Ex.exit 4,(out5,s8,carry9,k10,())))
def qKJ (a0:qBs) (b1:qBs):Option ((qBs×Unit)×Unit):=
 grd (decide (0<=qI ((a0.length:Int)+(b1.length:Int)))&&decide (qI ((a0.length:Int)+(b1.length:Int))<=qI ((a0.length:Int)+(b1.length:Int)))&&decide (qI ((a0.length:Int)+(b1.length:Int))<=qSG)) (
 (qMA qJL (a0,b1,List.replicate (qI ((a0.length:Int)+(b1.length:Int))).toNat (0:Int),0,())).bind fun y1=>
 cond (Ex.same y1.1 (Ex.exit 0))
 (grd (decide (0<=(y1.2.2.2.1.length:Int))&&decide ((y1.2.2.2.1.length:Int)<=(y1.2.2.2.1.length:Int))&&decide ((y1.2.2.2.1.length:Int)<=qSG)) (
 (qMA qWJ (y1.2.2.2.1,List.replicate (y1.2.2.2.1.length:Int).toNat (0:Int),0,qI ((y1.2.2.2.1.length:Int) - (1:Int)),())).bind fun y2=>
 cond (Ex.same y2.1 (Ex.exit 4))
 ((qRK (y2.2.2.1.map fun n=>UInt8.ofNat n.toNat)).bind fun r3=>
 some ((r3.1.1,()),()))
 (none)))
 (none))
def qLx (a0:qBs) (b1:qBs):Option ((qBs×Unit)×Unit):=
 (qRE a0).bind fun r1=>
 (qRE b1).bind fun r2=>
 cond (!r1.1.2.1)
 (some ((([]:qBs),()),()))
 (cond (!r2.1.2.1)
 (some ((([]:qBs),()),()))
 ((qKJ r1.1.1.2.1 r2.1.1.2.1).bind fun r3=>
 (qKJ r1.1.1.2.2 r2.1.1.2.2).bind fun r4=>
 (qOF (!(r1.1.1.1==r2.1.1.1)) r3.1.1 r4.1.1).bind fun r5=>
 (qXA (r5.1.1.1,r5.1.1.2.1,r5.1.1.2.2)).bind fun r6=>
 some ((r6.1.1,()),())))
def qAB (c0:qNA):Option ((qBs×Unit)×(qNA×Unit)):=
 (qRA (c0.1,c0.2) 8).bind fun r1=>
 cond (r1.1.1==6)
 ((qRA (r1.2.1.1,r1.2.1.2) 2001).bind fun r2=>
 (qXJ (qI (r2.1.1 - (1000:Int)))).bind fun r3=>
 some ((r3.1.1,()),(r2.2.1.1,r2.2.1.2),()))
 (cond (r1.1.1==7)
 ((qRA (r1.2.1.1,r1.2.1.2) 1099511627776).bind fun r4=>
 (qXJ (qI (r4.1.1 - (549755813888:Int)))).bind fun r5=>
 (qRA (r4.2.1.1,r4.2.1.2) 1099511627776).bind fun r6=>
 (qXJ r6.1.1).bind fun r7=>
 (qLx r5.1.1 r7.1.1).bind fun r8=>
 some ((r8.1.1,()),(r6.2.1.1,r6.2.1.2),()))
 ((qRA (r1.2.1.1,r1.2.1.2) 9).bind fun r9=>
 (qXJ (qI (r9.1.1 - (4:Int)))).bind fun r10=>
 some ((r10.1.1,()),(r9.2.1.1,r9.2.1.2),())))
def qQE (a0:qBs):Option ((Bool×Unit)×Unit):=
 (qRE a0).bind fun r1=>
 cond (r1.1.2.1)
 (some ((r1.1.1.2.2==([49]:qBs),()),()))
 (some ((false,()),()))
def qUM (a0:qBs):Option ((Bool×Unit)×Unit):=
 (qRE a0).bind fun r1=>
 some ((r1.1.2.1,()),())
def qBw (a0:qBs):Option ((qBs×Unit)×Unit):=
 (qRE a0).bind fun r1=>
 cond (!r1.1.2.1)
 (some ((([]:qBs),()),()))
 (cond (!r1.1.1.1)
 ((qXA (!(r1.1.1.2.1==([48]:qBs)),r1.1.1.2.1,r1.1.1.2.2)).bind fun r2=>
 some ((r2.1.1,()),()))
 ((qXA (false,r1.1.1.2.1,r1.1.1.2.2)).bind fun r3=>
 some ((r3.1.1,()),())))
def qDE (x:qBs×qBs×Int×(List Int)×Int×Int×Unit):Option (Ex×(qBs×qBs×Int×(List Int)×Int×Int×Unit)):=
 let a0:=x.1
 let b1:=x.2.1
 let n5:=x.2.2.1
 let out6:=x.2.2.2.1
 let carry7:=x.2.2.2.2.1
 let i8:=x.2.2.2.2.2.1
 cond (decide (i8 < n5))
 (cond (decide (i8 < (a0.length:Int)))
 (grd (decide (0<=qI ((qI ((a0.length:Int) - (1:Int))) - i8))&&decide (qI ((qI ((a0.length:Int) - (1:Int))) - i8) < a0.length)) (
 cond (decide (i8 < (b1.length:Int)))
 (grd (decide (0<=qI ((qI ((b1.length:Int) - (1:Int))) - i8))&&decide (qI ((qI ((b1.length:Int) - (1:Int))) - i8) < b1.length)) (grd ((10:Int) !=0) (grd (decide (0<=qI ((qI (n5 - (1:Int))) - i8))&&decide (qI ((qI (n5 - (1:Int))) - i8) < out6.length)) (grd (decide ((qI ((qI (n5 - (1:Int))) - i8)).toNat < out6.length)) (grd ((10:Int) !=0) (some (Ex.normal,(a0,b1,n5,out6.set ((qI ((qI (n5 - (1:Int))) - i8)).toNat) (IntKind.u8.wrap (qI ((48:Int)+((qI ((qI (carry7+(qI (IntKind.u8.wrap (((a0.getD (qI ((qI ((a0.length:Int) - (1:Int))) - i8)).toNat 0).toNat:Int) - (48:Int))))))+(qI (IntKind.u8.wrap (((b1.getD (qI ((qI ((b1.length:Int) - (1:Int))) - i8)).toNat 0).toNat:Int) - (48:Int)))))).tmod 10)))),qI ((qI ((qI (carry7+(qI (IntKind.u8.wrap (((a0.getD (qI ((qI ((a0.length:Int) - (1:Int))) - i8)).toNat 0).toNat:Int) - (48:Int))))))+(qI (IntKind.u8.wrap (((b1.getD (qI ((qI ((b1.length:Int) - (1:Int))) - i8)).toNat 0).toNat:Int) - (48:Int)))))).tdiv 10),qI (i8+1),()))))))))
 (grd ((10:Int) !=0) (grd (decide (0<=qI ((qI (n5 - (1:Int))) - i8))&&decide (qI ((qI (n5 - (1:Int))) - i8) < out6.length)) (grd (decide ((qI ((qI (n5 - (1:Int))) - i8)).toNat < out6.length)) (grd ((10:Int) !=0) (some (Ex.normal,(a0,b1,n5,out6.set ((qI ((qI (n5 - (1:Int))) - i8)).toNat) (IntKind.u8.wrap (qI ((48:Int)+((qI (carry7+(qI (IntKind.u8.wrap (((a0.getD (qI ((qI ((a0.length:Int) - (1:Int))) - i8)).toNat 0).toNat:Int) - (48:Int)))))).tmod 10)))),qI ((qI (carry7+(qI (IntKind.u8.wrap (((a0.getD (qI ((qI ((a0.length:Int) - (1:Int))) - i8)).toNat 0).toNat:Int) - (48:Int)))))).tdiv 10),qI (i8+1),())))))))))
 (cond (decide (i8 < (b1.length:Int)))
 (grd (decide (0<=qI ((qI ((b1.length:Int) - (1:Int))) - i8))&&decide (qI ((qI ((b1.length:Int) - (1:Int))) - i8) < b1.length)) (grd ((10:Int) !=0) (grd (decide (0<=qI ((qI (n5 - (1:Int))) - i8))&&decide (qI ((qI (n5 - (1:Int))) - i8) < out6.length)) (grd (decide ((qI ((qI (n5 - (1:Int))) - i8)).toNat < out6.length)) (grd ((10:Int) !=0) (some (Ex.normal,(a0,b1,n5,out6.set ((qI ((qI (n5 - (1:Int))) - i8)).toNat) (IntKind.u8.wrap (qI ((48:Int)+((qI (carry7+(qI (IntKind.u8.wrap (((b1.getD (qI ((qI ((b1.length:Int) - (1:Int))) - i8)).toNat 0).toNat:Int) - (48:Int)))))).tmod 10)))),qI ((qI (carry7+(qI (IntKind.u8.wrap (((b1.getD (qI ((qI ((b1.length:Int) - (1:Int))) - i8)).toNat 0).toNat:Int) - (48:Int)))))).tdiv 10),qI (i8+1),()))))))))
 (grd ((10:Int) !=0) (grd (decide (0<=qI ((qI (n5 - (1:Int))) - i8))&&decide (qI ((qI (n5 - (1:Int))) - i8) < out6.length)) (grd (decide ((qI ((qI (n5 - (1:Int))) - i8)).toNat < out6.length)) (grd ((10:Int) !=0) (some (Ex.normal,(a0,b1,n5,out6.set ((qI ((qI (n5 - (1:Int))) - i8)).toNat) (IntKind.u8.wrap (qI ((48:Int)+(carry7.tmod 10)))),qI (carry7.tdiv 10),qI (i8+1),())))))))))
 (some (Ex.exit 0,(a0,b1,n5,out6,carry7,i8,())))
def qGX (a0:qBs) (b1:qBs):Option ((qBs×Unit)×Unit):=
 grd (decide (0<=qI ((qDW (a0.length:Int) (b1.length:Int))+1))&&decide (qI ((qDW (a0.length:Int) (b1.length:Int))+1)<=qI ((qDW (a0.length:Int) (b1.length:Int))+1))&&decide (qI ((qDW (a0.length:Int) (b1.length:Int))+1)<=qSG)) (
 (qMA qDE (a0,b1,qI ((qDW (a0.length:Int) (b1.length:Int))+1),List.replicate (qI ((qDW (a0.length:Int) (b1.length:Int))+1)).toNat (0:Int),0,0,())).bind fun y1=>
 cond (Ex.same y1.1 (Ex.exit 0))
 ((qRK (y1.2.2.2.2.1.map fun n=>UInt8.ofNat n.toNat)).bind fun r2=>
 some ((r2.1.1,()),()))
 (none))
def qWw (a0:qBs) (b1:qBs):Option ((qBs×Unit)×Unit):=
 (qRE a0).bind fun r1=>
 (qRE b1).bind fun r2=>
 cond (!r1.1.2.1)
 (some ((([]:qBs),()),()))
 (cond (!r2.1.2.1)
 (some ((([]:qBs),()),()))
 ((qKJ r1.1.1.2.1 r2.1.1.2.2).bind fun r3=>
 (qKJ r2.1.1.2.1 r1.1.1.2.2).bind fun r4=>
 (qKJ r1.1.1.2.2 r2.1.1.2.2).bind fun r5=>
 cond (r1.1.1.1==r2.1.1.1)
 ((qGX r3.1.1 r4.1.1).bind fun r6=>
 (qOF r1.1.1.1 r6.1.1 r5.1.1).bind fun r7=>
 (qXA (r7.1.1.1,r7.1.1.2.1,r7.1.1.2.2)).bind fun r8=>
 some ((r8.1.1,()),()))
 ((qLU r3.1.1 r4.1.1).bind fun r9=>
 cond (decide (r9.1.1>=0))
 ((qHQ r3.1.1 r4.1.1).bind fun r10=>
 (qOF r1.1.1.1 r10.1.1 r5.1.1).bind fun r11=>
 (qXA (r11.1.1.1,r11.1.1.2.1,r11.1.1.2.2)).bind fun r12=>
 some ((r12.1.1,()),()))
 ((qHQ r4.1.1 r3.1.1).bind fun r13=>
 (qOF r2.1.1.1 r13.1.1 r5.1.1).bind fun r14=>
 (qXA (r14.1.1.1,r14.1.1.2.1,r14.1.1.2.2)).bind fun r15=>
 some ((r15.1.1,()),())))))
def qOv (a0:qBs) (b1:qBs):Option ((qBs×Unit)×Unit):=
 (qBw b1).bind fun r1=>
 (qWw a0 r1.1.1).bind fun r2=>
 some ((r2.1.1,()),())
def qWl (a0:qBs):Option ((Int×Unit)×Unit):=
 (qRE a0).bind fun r1=>
 cond (!r1.1.2.1)
 (some ((0,()),()))
 (cond (r1.1.1.2.1==([48]:qBs))
 (some ((0,()),()))
 (cond (r1.1.1.1)
 (some ((-1,()),()))
 (some ((1,()),()))))
def qSa (a0:qBs) (b1:qBs):Option ((Int×Unit)×Unit):=
 (qUM a0).bind fun r1=>
 cond (!r1.1.1)
 (some ((0,()),()))
 ((qUM b1).bind fun r2=>
 cond (!r2.1.1)
 (some ((0,()),()))
 ((qOv a0 b1).bind fun r3=>
 (qWl r3.1.1).bind fun r4=>
 some ((r4.1.1,()),())))
def qKB (x:Val×Bool×Int×Unit):Option (Ex×(Val×Bool×Int×Unit)):=
 let v1:=x.1
 let t2:=x.2.1
 let i3:=x.2.2.1
 cond (decide (i3 < (v1.2.2.2.1.length:Int)))
 (grd (decide (0<=i3)&&decide (i3 < v1.2.2.2.1.length)) (
 (qQE (v1.2.2.2.1.getD i3.toNat ([]:qBs))).bind fun r1=>
 cond (!r1.1.1)
 (some (Ex.ret,(v1,false,i3,())))
 (grd (decide (0<=i3)&&decide (i3 < v1.2.2.2.2.length)) (
 (qQE (v1.2.2.2.2.getD i3.toNat ([]:qBs))).bind fun r2=>
 cond (!r2.1.1)
 (some (Ex.ret,(v1,false,i3,())))
 (grd (decide (0<=i3)&&decide (i3 < v1.2.2.2.2.length)) (
 cond ((v1.2.2.2.2.getD i3.toNat ([]:qBs))==v1.2.2.1)
 (some (Ex.ret,(v1,false,i3,())))
 (cond (decide (i3 > (0:Int)))
 (grd (decide (0<=qI (i3 - (1:Int)))&&decide (qI (i3 - (1:Int)) < v1.2.2.2.1.length)) (
 grd (decide (0<=i3)&&decide (i3 < v1.2.2.2.1.length)) (
 (qSa (v1.2.2.2.1.getD (qI (i3 - (1:Int))).toNat ([]:qBs)) (v1.2.2.2.1.getD i3.toNat ([]:qBs))).bind fun r3=>
 cond (decide (r3.1.1>=0))
 (some (Ex.ret,(v1,false,i3,())))
 (some (Ex.normal,(v1,t2,qI (i3+1),()))))))
 (some (Ex.normal,(v1,t2,qI (i3+1),()))))))))))
 (some (Ex.exit 1,(v1,t2,i3,())))
def qSJ (v0:Val):Option ((Bool×Unit)×Unit):=
 cond (v0.1 !=(4:Int))
 (cond (decide ((v0.2.2.2.1.length:Int) > (0:Int)))
 (some ((false,()),()))
 (cond (decide ((v0.2.2.2.2.length:Int) > (0:Int)))
 (some ((false,()),()))
 (cond (v0.1 !=(1:Int))
 (cond (v0.2.1)
 (some ((false,()),()))
 (cond (v0.1==1)
 (some ((v0.2.2.1==([]:qBs),()),()))
 (cond (v0.1==2)
 ((qQE v0.2.2.1).bind fun r1=>
 some ((r1.1.1,()),()))
 (cond (v0.1==3)
 ((qUM v0.2.2.1).bind fun r2=>
 some ((r2.1.1,()),()))
 (cond (v0.1==4)
 ((qQE v0.2.2.1).bind fun r3=>
 cond (!r3.1.1)
 (some ((false,()),()))
 (cond ((v0.2.2.2.1.length:Int) !=(v0.2.2.2.2.length:Int))
 (some ((false,()),()))
 ((qMA qKB (v0,false,0,())).bind fun y4=>
 cond (Ex.same y4.1 (Ex.exit 1))
 (some ((true,()),()))
 (cond (Ex.same y4.1 Ex.ret)
 (some ((y4.2.2.1,()),()))
 (none)))))
 (some ((false,()),())))))))
 (cond (v0.1==1)
 (some ((v0.2.2.1==([]:qBs),()),()))
 (cond (v0.1==2)
 ((qQE v0.2.2.1).bind fun r5=>
 some ((r5.1.1,()),()))
 (cond (v0.1==3)
 ((qUM v0.2.2.1).bind fun r6=>
 some ((r6.1.1,()),()))
 (cond (v0.1==4)
 ((qQE v0.2.2.1).bind fun r7=>
 cond (!r7.1.1)
 (some ((false,()),()))
 (cond ((v0.2.2.2.1.length:Int) !=(v0.2.2.2.2.length:Int))
 (some ((false,()),()))
 ((qMA qKB (v0,false,0,())).bind fun y8=>
 cond (Ex.same y8.1 (Ex.exit 1))
 (some ((true,()),()))
 (cond (Ex.same y8.1 Ex.ret)
 (some ((y8.2.2.1,()),()))
 (none)))))
 (some ((false,()),())))))))))
 (cond (v0.1 !=(1:Int))
 (cond (v0.2.1)
 (some ((false,()),()))
 (cond (v0.1==1)
 (some ((v0.2.2.1==([]:qBs),()),()))
 (cond (v0.1==2)
 ((qQE v0.2.2.1).bind fun r9=>
 some ((r9.1.1,()),()))
 (cond (v0.1==3)
 ((qUM v0.2.2.1).bind fun r10=>
 some ((r10.1.1,()),()))
 (cond (v0.1==4)
 ((qQE v0.2.2.1).bind fun r11=>
 cond (!r11.1.1)
 (some ((false,()),()))
 (cond ((v0.2.2.2.1.length:Int) !=(v0.2.2.2.2.length:Int))
 (some ((false,()),()))
 ((qMA qKB (v0,false,0,())).bind fun y12=>
 cond (Ex.same y12.1 (Ex.exit 1))
 (some ((true,()),()))
 (cond (Ex.same y12.1 Ex.ret)
 (some ((y12.2.2.1,()),()))
 (none)))))
 (some ((false,()),())))))))
 (cond (v0.1==1)
 (some ((v0.2.2.1==([]:qBs),()),()))
 (cond (v0.1==2)
 ((qQE v0.2.2.1).bind fun r13=>
 some ((r13.1.1,()),()))
 (cond (v0.1==3)
 ((qUM v0.2.2.1).bind fun r14=>
 some ((r14.1.1,()),()))
 (cond (v0.1==4)
 ((qQE v0.2.2.1).bind fun r15=>
 cond (!r15.1.1)
 (some ((false,()),()))
 (cond ((v0.2.2.2.1.length:Int) !=(v0.2.2.2.2.length:Int))
 (some ((false,()),()))
 ((qMA qKB (v0,false,0,())).bind fun y16=>
 cond (Ex.same y16.1 (Ex.exit 1))
 (some ((true,()),()))
 (cond (Ex.same y16.1 Ex.ret)
 (some ((y16.2.2.1,()),()))
 (none)))))
 (some ((false,()),())))))))
def qHB (x:qBs×qBs×Val×Val×(Int×Bool×qBs×(List qBs)×List qBs)×Bool×Int×Unit):Option (Ex×(qBs×qBs×Val×Val×(Int×Bool×qBs×(List qBs)×List qBs)×Bool×Int×Unit)):=
 let index1:=x.1
 let num2:=x.2.1
 let a3:=x.2.2.1
 let t6:=x.2.2.2.1
 let out8:=x.2.2.2.2.1
 let put9:=x.2.2.2.2.2.1
 let i10:=x.2.2.2.2.2.2.1
 cond (decide (i10<=(a3.2.2.2.1.length:Int)))
 (cond (!put9)
 (cond (i10==(a3.2.2.2.1.length:Int))
 (cond (!(num2==a3.2.2.1))
 (grd (decide (out8.2.2.2.1.length+([index1]:List qBs).length<=qSG)) (
 grd (decide (out8.2.2.2.2.length+([num2]:List qBs).length<=qSG)) (
 cond (decide (i10 < (a3.2.2.2.1.length:Int)))
 (grd (decide (0<=i10)&&decide (i10 < a3.2.2.2.1.length)) (
 cond (!((a3.2.2.2.1.getD i10.toNat ([]:qBs))==index1))
 (grd (decide (0<=i10)&&decide (i10 < a3.2.2.2.1.length)) (grd (decide ((out8.2.2.2.1++([index1]:List qBs)).length+([a3.2.2.2.1.getD i10.toNat ([]:qBs)]:List qBs).length<=qSG)) (grd (decide (0<=i10)&&decide (i10 < a3.2.2.2.2.length)) (grd (decide ((out8.2.2.2.2++([num2]:List qBs)).length+([a3.2.2.2.2.getD i10.toNat ([]:qBs)]:List qBs).length<=qSG)) (some (Ex.normal,(index1,num2,a3,t6,(out8.1,out8.2.1,out8.2.2.1,(out8.2.2.2.1++([index1]:List qBs))++([a3.2.2.2.1.getD i10.toNat ([]:qBs)]:List qBs),(out8.2.2.2.2++([num2]:List qBs))++([a3.2.2.2.2.getD i10.toNat ([]:qBs)]:List qBs)),true,qI (i10+1),())))))))
 (some (Ex.normal,(index1,num2,a3,t6,(out8.1,out8.2.1,out8.2.2.1,out8.2.2.2.1++([index1]:List qBs),out8.2.2.2.2++([num2]:List qBs)),true,qI (i10+1),())))))
 (some (Ex.normal,(index1,num2,a3,t6,(out8.1,out8.2.1,out8.2.2.1,out8.2.2.2.1++([index1]:List qBs),out8.2.2.2.2++([num2]:List qBs)),true,qI (i10+1),()))))))
 (cond (decide (i10 < (a3.2.2.2.1.length:Int)))
 (grd (decide (0<=i10)&&decide (i10 < a3.2.2.2.1.length)) (
 cond (!((a3.2.2.2.1.getD i10.toNat ([]:qBs))==index1))
 (grd (decide (0<=i10)&&decide (i10 < a3.2.2.2.1.length)) (grd (decide (out8.2.2.2.1.length+([a3.2.2.2.1.getD i10.toNat ([]:qBs)]:List qBs).length<=qSG)) (grd (decide (0<=i10)&&decide (i10 < a3.2.2.2.2.length)) (grd (decide (out8.2.2.2.2.length+([a3.2.2.2.2.getD i10.toNat ([]:qBs)]:List qBs).length<=qSG)) (some (Ex.normal,(index1,num2,a3,t6,(out8.1,out8.2.1,out8.2.2.1,out8.2.2.2.1++([a3.2.2.2.1.getD i10.toNat ([]:qBs)]:List qBs),out8.2.2.2.2++([a3.2.2.2.2.getD i10.toNat ([]:qBs)]:List qBs)),true,qI (i10+1),())))))))
 (some (Ex.normal,(index1,num2,a3,t6,out8,true,qI (i10+1),())))))
 (some (Ex.normal,(index1,num2,a3,t6,out8,true,qI (i10+1),())))))
 (grd (decide (0<=i10)&&decide (i10 < a3.2.2.2.1.length)) (
 (qSa (a3.2.2.2.1.getD i10.toNat ([]:qBs)) index1).bind fun r1=>
 cond (decide (r1.1.1>=0))
 (cond (!(num2==a3.2.2.1))
 (grd (decide (out8.2.2.2.1.length+([index1]:List qBs).length<=qSG)) (
 grd (decide (out8.2.2.2.2.length+([num2]:List qBs).length<=qSG)) (
 cond (decide (i10 < (a3.2.2.2.1.length:Int)))
 (grd (decide (0<=i10)&&decide (i10 < a3.2.2.2.1.length)) (
 cond (!((a3.2.2.2.1.getD i10.toNat ([]:qBs))==index1))
 (grd (decide (0<=i10)&&decide (i10 < a3.2.2.2.1.length)) (grd (decide ((out8.2.2.2.1++([index1]:List qBs)).length+([a3.2.2.2.1.getD i10.toNat ([]:qBs)]:List qBs).length<=qSG)) (grd (decide (0<=i10)&&decide (i10 < a3.2.2.2.2.length)) (grd (decide ((out8.2.2.2.2++([num2]:List qBs)).length+([a3.2.2.2.2.getD i10.toNat ([]:qBs)]:List qBs).length<=qSG)) (some (Ex.normal,(index1,num2,a3,t6,(out8.1,out8.2.1,out8.2.2.1,(out8.2.2.2.1++([index1]:List qBs))++([a3.2.2.2.1.getD i10.toNat ([]:qBs)]:List qBs),(out8.2.2.2.2++([num2]:List qBs))++([a3.2.2.2.2.getD i10.toNat ([]:qBs)]:List qBs)),true,qI (i10+1),())))))))
 (some (Ex.normal,(index1,num2,a3,t6,(out8.1,out8.2.1,out8.2.2.1,out8.2.2.2.1++([index1]:List qBs),out8.2.2.2.2++([num2]:List qBs)),true,qI (i10+1),())))))
 (some (Ex.normal,(index1,num2,a3,t6,(out8.1,out8.2.1,out8.2.2.1,out8.2.2.2.1++([index1]:List qBs),out8.2.2.2.2++([num2]:List qBs)),true,qI (i10+1),()))))))
 (cond (decide (i10 < (a3.2.2.2.1.length:Int)))
 (grd (decide (0<=i10)&&decide (i10 < a3.2.2.2.1.length)) (
 cond (!((a3.2.2.2.1.getD i10.toNat ([]:qBs))==index1))
 (grd (decide (0<=i10)&&decide (i10 < a3.2.2.2.1.length)) (grd (decide (out8.2.2.2.1.length+([a3.2.2.2.1.getD i10.toNat ([]:qBs)]:List qBs).length<=qSG)) (grd (decide (0<=i10)&&decide (i10 < a3.2.2.2.2.length)) (grd (decide (out8.2.2.2.2.length+([a3.2.2.2.2.getD i10.toNat ([]:qBs)]:List qBs).length<=qSG)) (some (Ex.normal,(index1,num2,a3,t6,(out8.1,out8.2.1,out8.2.2.1,out8.2.2.2.1++([a3.2.2.2.1.getD i10.toNat ([]:qBs)]:List qBs),out8.2.2.2.2++([a3.2.2.2.2.getD i10.toNat ([]:qBs)]:List qBs)),true,qI (i10+1),())))))))
 (some (Ex.normal,(index1,num2,a3,t6,out8,true,qI (i10+1),())))))
 (some (Ex.normal,(index1,num2,a3,t6,out8,true,qI (i10+1),())))))
 (cond (decide (i10 < (a3.2.2.2.1.length:Int)))
 (grd (decide (0<=i10)&&decide (i10 < a3.2.2.2.1.length)) (
 cond (!((a3.2.2.2.1.getD i10.toNat ([]:qBs))==index1))
 (grd (decide (0<=i10)&&decide (i10 < a3.2.2.2.1.length)) (grd (decide (out8.2.2.2.1.length+([a3.2.2.2.1.getD i10.toNat ([]:qBs)]:List qBs).length<=qSG)) (grd (decide (0<=i10)&&decide (i10 < a3.2.2.2.2.length)) (grd (decide (out8.2.2.2.2.length+([a3.2.2.2.2.getD i10.toNat ([]:qBs)]:List qBs).length<=qSG)) (some (Ex.normal,(index1,num2,a3,t6,(out8.1,out8.2.1,out8.2.2.1,out8.2.2.2.1++([a3.2.2.2.1.getD i10.toNat ([]:qBs)]:List qBs),out8.2.2.2.2++([a3.2.2.2.2.getD i10.toNat ([]:qBs)]:List qBs)),put9,qI (i10+1),())))))))
 (some (Ex.normal,(index1,num2,a3,t6,out8,put9,qI (i10+1),())))))
 (some (Ex.normal,(index1,num2,a3,t6,out8,put9,qI (i10+1),())))))))
 (cond (decide (i10 < (a3.2.2.2.1.length:Int)))
 (grd (decide (0<=i10)&&decide (i10 < a3.2.2.2.1.length)) (
 cond (!((a3.2.2.2.1.getD i10.toNat ([]:qBs))==index1))
 (grd (decide (0<=i10)&&decide (i10 < a3.2.2.2.1.length)) (grd (decide (out8.2.2.2.1.length+([a3.2.2.2.1.getD i10.toNat ([]:qBs)]:List qBs).length<=qSG)) (grd (decide (0<=i10)&&decide (i10 < a3.2.2.2.2.length)) (grd (decide (out8.2.2.2.2.length+([a3.2.2.2.2.getD i10.toNat ([]:qBs)]:List qBs).length<=qSG)) (some (Ex.normal,(index1,num2,a3,t6,(out8.1,out8.2.1,out8.2.2.1,out8.2.2.2.1++([a3.2.2.2.1.getD i10.toNat ([]:qBs)]:List qBs),out8.2.2.2.2++([a3.2.2.2.2.getD i10.toNat ([]:qBs)]:List qBs)),put9,qI (i10+1),())))))))
 (some (Ex.normal,(index1,num2,a3,t6,out8,put9,qI (i10+1),())))))
 (some (Ex.normal,(index1,num2,a3,t6,out8,put9,qI (i10+1),())))))
 (some (Ex.exit 0,(index1,num2,a3,t6,out8,put9,i10,())))
def qCM (a0:Val) (index1:qBs) (num2:qBs):Option ((Val×Int×Unit)×Unit):=
 cond (a0.1 !=(4:Int))
 (some ((((0:Int),false,([]:qBs),([]:List qBs),([]:List qBs)),1,()),()))
 ((qSJ a0).bind fun r1=>
 cond (!r1.1.1)
 (some ((((0:Int),false,([]:qBs),([]:List qBs),([]:List qBs)),1,()),()))
 ((qQE index1).bind fun r2=>
 cond (!r2.1.1)
 (some ((((0:Int),false,([]:qBs),([]:List qBs),([]:List qBs)),1,()),()))
 ((qQE num2).bind fun r3=>
 cond (!r3.1.1)
 (some ((((0:Int),false,([]:qBs),([]:List qBs),([]:List qBs)),1,()),()))
 ((qMA qHB (index1,num2,a0,((0:Int),false,([]:qBs),([]:List qBs),([]:List qBs)),(a0.1,false,a0.2.2.1,([]:List qBs),([]:List qBs)),false,0,())).bind fun y4=>
 cond (Ex.same y4.1 (Ex.exit 0))
 (some ((y4.2.2.2.2.2.1,0,()),()))
 (none)))))
def qBag (a0:qBs) (b1:qBs):Option ((qBs×Unit)×Unit):=
 (qRE a0).bind fun r1=>
 (qRE b1).bind fun r2=>
 cond (!r1.1.2.1)
 (some ((([]:qBs),()),()))
 (cond (!r2.1.2.1)
 (some ((([]:qBs),()),()))
 (cond (r2.1.1.2.1==([48]:qBs))
 (some ((([]:qBs),()),()))
 ((qKJ r1.1.1.2.1 r2.1.1.2.2).bind fun r3=>
 (qKJ r1.1.1.2.2 r2.1.1.2.1).bind fun r4=>
 (qOF (!(r1.1.1.1==r2.1.1.1)) r3.1.1 r4.1.1).bind fun r5=>
 (qXA (r5.1.1.1,r5.1.1.2.1,r5.1.1.2.2)).bind fun r6=>
 some ((r6.1.1,()),()))))
def qQO (c0:qNA):Option ((qBs×Unit)×(qNA×Unit)):=
 (qAB (c0.1,c0.2)).bind fun r1=>
 (qRA (r1.2.1.1,r1.2.1.2) 4).bind fun r2=>
 (qXJ (qI ((1:Int)+r2.1.1))).bind fun r3=>
 (qBag r1.1.1 r3.1.1).bind fun r4=>
 some ((r4.1.1,()),(r2.2.1.1,r2.2.1.2),())
def qVU (c0:qNA) (sort1:Int):Option ((qBs×Unit)×(qNA×Unit)):=
 cond (sort1==2)
 ((qAB c0).bind fun r1=>
 some ((r1.1.1,()),r1.2.1,()))
 ((qQO c0).bind fun r2=>
 some ((r2.1.1,()),r2.2.1,()))
def qBE (x:qNA×Val×Val×Int×Unit):Option (Ex×(qNA×Val×Val×Int×Unit)):=
 let c0:=x.1
 let t4:=x.2.1
 let v5:=x.2.2.1
 let n6:=x.2.2.2.1
 cond (decide (n6 > (0:Int)))
 ((qAB c0).bind fun r1=>
 (qAB r1.2.1).bind fun r2=>
 (qCM v5 r1.1.1 r2.1.1).bind fun r3=>
 some (Ex.normal,(r2.2.1,t4,r3.1.1,qI (n6 - (1:Int)),())))
 (some (Ex.exit 1,(c0,t4,v5,n6,())))
def qDI (c0:qNA) (sort1:Int):Option ((Val×Unit)×(qNA×Unit)):=
 cond (sort1==1)
 ((qRA c0 2).bind fun r1=>
 some (((sort1,r1.1.1==1,([]:qBs),([]:List qBs),([]:List qBs)),()),r1.2.1,()))
 (cond (sort1==4)
 ((qAB c0).bind fun r2=>
 (qRA r2.2.1 4).bind fun r3=>
 (qMA qBE (r3.2.1,((0:Int),false,([]:qBs),([]:List qBs),([]:List qBs)),(sort1,false,r2.1.1,([]:List qBs),([]:List qBs)),r3.1.1,())).bind fun y4=>
 cond (Ex.same y4.1 (Ex.exit 1))
 (some ((y4.2.2.2.1,()),y4.2.1,()))
 (none))
 ((qVU c0 sort1).bind fun r5=>
 some (((sort1,false,r5.1.1,([]:List qBs),([]:List qBs)),()),r5.2.1,())))
def qFG (x:(List qBs)×(List qBs)×Bool×Int×Unit):Option (Ex×((List qBs)×(List qBs)×Bool×Int×Unit)):=
 let a0:=x.1
 let b1:=x.2.1
 let t4:=x.2.2.1
 let i5:=x.2.2.2.1
 cond (decide (i5 < (a0.length:Int)))
 (grd (decide (0<=i5)&&decide (i5 < a0.length)) (
 grd (decide (0<=i5)&&decide (i5 < b1.length)) (
 cond (!((a0.getD i5.toNat ([]:qBs))==(b1.getD i5.toNat ([]:qBs))))
 (some (Ex.ret,(a0,b1,false,i5,())))
 (some (Ex.normal,(a0,b1,t4,qI (i5+1),()))))))
 (some (Ex.exit 0,(a0,b1,t4,i5,())))
def qDK (a0:List qBs) (b1:List qBs):Option ((Bool×Unit)×Unit):=
 cond ((a0.length:Int) !=(b1.length:Int))
 (some ((false,()),()))
 ((qMA qFG (a0,b1,false,0,())).bind fun y1=>
 cond (Ex.same y1.1 (Ex.exit 0))
 (some ((true,()),()))
 (cond (Ex.same y1.1 Ex.ret)
 (some ((y1.2.2.2.1,()),()))
 (none)))
def qTJ (a0:Val) (b1:Val):Option ((Bool×Unit)×Unit):=
 cond (a0.1==b1.1)
 (cond (a0.2.1==b1.2.1)
 (cond (a0.2.2.1==b1.2.2.1)
 ((qDK a0.2.2.2.1 b1.2.2.2.1).bind fun r1=>
 cond (r1.1.1)
 ((qDK a0.2.2.2.2 b1.2.2.2.2).bind fun r2=>
 some ((r2.1.1,()),()))
 (some ((false,()),())))
 (some ((false,()),())))
 (some ((false,()),())))
 (some ((false,()),()))
def qMv (a0:Val) (index1:qBs):Option ((qBs×Unit)×Unit):=
 (qCa a0).bind fun r1=>
 cond (!r1.1.1)
 (some ((([]:qBs),()),()))
 ((qOE index1).bind fun r2=>
 cond (!r2.1.1)
 (some ((([]:qBs),()),()))
 ((v_at a0 index1).bind fun r3=>
 some ((r3.1.1,()),())))
def qGS (x:qBs×Val×qBs×Int×Unit):Option (Ex×(qBs×Val×qBs×Int×Unit)):=
 let index1:=x.1
 let a2:=x.2.1
 let t4:=x.2.2.1
 let i5:=x.2.2.2.1
 cond (decide (i5 < (a2.2.2.2.1.length:Int)))
 (grd (decide (0<=i5)&&decide (i5 < a2.2.2.2.1.length)) (
 cond ((a2.2.2.2.1.getD i5.toNat ([]:qBs))==index1)
 (grd (decide (0<=i5)&&decide (i5 < a2.2.2.2.2.length)) (some (Ex.ret,(index1,a2,a2.2.2.2.2.getD i5.toNat ([]:qBs),i5,()))))
 (some (Ex.normal,(index1,a2,t4,qI (i5+1),())))))
 (some (Ex.exit 0,(index1,a2,t4,i5,())))
def qNv (a0:Val) (index1:qBs):Option ((qBs×Unit)×Unit):=
 cond (a0.1 !=(4:Int))
 (some ((([]:qBs),()),()))
 ((qSJ a0).bind fun r1=>
 cond (!r1.1.1)
 (some ((([]:qBs),()),()))
 ((qQE index1).bind fun r2=>
 cond (!r2.1.1)
 (some ((([]:qBs),()),()))
 ((qMA qGS (index1,a0,([]:qBs),0,())).bind fun y3=>
 cond (Ex.same y3.1 (Ex.exit 0))
 (some ((y3.2.2.1.2.2.1,()),()))
 (cond (Ex.same y3.1 Ex.ret)
 (some ((y3.2.2.2.1,()),()))
 (none)))))
def qEO (v0:Val) (i1:qBs) (n2:qBs) (l3:List Int) (m4:List Int):Option ((Bool×Unit)×Unit):=
 (qJY v0).bind fun r1=>
 cond (!r1.1.1)
 (qOV.bind fun r2=>
 some ((r2.1.1,()),()))
 (cond (decide ((i1.length:Int) > (50:Int)))
 (qOV.bind fun r3=>
 some ((r3.1.1,()),()))
 (cond (decide ((n2.length:Int) > (50:Int)))
 (qOV.bind fun r4=>
 some ((r4.1.1,()),()))
 ((qEt m4).bind fun r5=>
 (qEt l3).bind fun r6=>
 (qDI r6.1.1 4).bind fun r7=>
 (qAB r5.1.1).bind fun r8=>
 (qAB r8.2.1).bind fun r9=>
 (qMF v0 i1 n2).bind fun r10=>
 (qCM v0 i1 n2).bind fun r11=>
 (qMF r7.1.1 r8.1.1 r9.1.1).bind fun r12=>
 (qCM r7.1.1 r8.1.1 r9.1.1).bind fun r13=>
 cond (r10.1.2.1==r11.1.2.1)
 ((qTJ r10.1.1 r11.1.1).bind fun r14=>
 cond (r14.1.1)
 (cond (r12.1.2.1==r13.1.2.1)
 ((qTJ r12.1.1 r13.1.1).bind fun r15=>
 cond (r15.1.1)
 ((qMv v0 i1).bind fun r16=>
 (qNv v0 i1).bind fun r17=>
 cond (r16.1.1==r17.1.1)
 ((qMv r7.1.1 r8.1.1).bind fun r18=>
 (qNv r7.1.1 r8.1.1).bind fun r19=>
 cond (r18.1.1==r19.1.1)
 ((qMv r7.1.1 i1).bind fun r20=>
 (qNv r7.1.1 i1).bind fun r21=>
 cond (r20.1.1==r21.1.1)
 (qOV.bind fun r22=>
 some ((r22.1.1,()),()))
 (some ((false,()),())))
 (some ((false,()),())))
 (some ((false,()),())))
 (some ((false,()),())))
 (some ((false,()),())))
 (some ((false,()),())))
 (some ((false,()),())))))
end
end Go.AM.Num
end
section
namespace Go.AM
open Go.Proofs Go.RowKit
attribute [local go_sem] Oper.semAt_some
theorem qIv {xs:List Int} {k:Nat} (h:k < xs.length):xs.zipIdx.reverse[k]?=some (xs[xs.length - 1 - k],xs.length - 1 - k):=by
 rw[List.getElem?_reverse (by simpa using h)]
 simp only[List.length_zipIdx,List.getElem?_zipIdx,Nat.zero_add]
 rw[qZ5 (by omega)]
 rfl
set_option maxHeartbeats 1000000 in
theorem qCj (F:Fence) (n:Nat) (h:F.fn 194) (hro:F.round=none) (v:Value) (w:World) (hv:v.oneCell'=true) :
 CallsIn F n Tryz.prog 194 #[v] w fun e w'=>e=.returned (.func (.func 247) #[] #[.pointer (some ⟨w.heap.size,0,none⟩)])/\∃ ty,w'=w.alloc (.cells #[v] ty):=by
 cases v<;>(try (simp[Value.oneCell'] at hv;done))
 all_goals refine callsIn_of_wp Tryz.func194 rfl h ?_ hro
 all_goals simp only[Tryz.ntmps194,List.size_toArray,qY11,List.length_nil,Nat.reduceAdd,Nat.reduceSub,Array.replicate_succ,Array.replicate_zero,List.push_toArray,List.append_toArray,qY15,qY5]
 all_goals gi_wp2
 all_goals go_ret
 all_goals exact ⟨rfl,_,rfl⟩
theorem qAg:qWQ Tryz.prog 194 247:=by
 refine ⟨⟨_,Tryz.func194,by decide,rfl⟩,fun v w hv=>(callsIn_wide (n:=0)).1 (CallsIn.mono (qCj Fence.wide 0 trivial rfl v w hv) ?_)⟩
 rintro e w' ⟨rfl,ty,rfl⟩
 exact ⟨ty,rfl,Ext.alloc _ _,by simp,World.alloc_heap_new _ _⟩
set_option maxRecDepth 100000 in
set_option maxHeartbeats 2000000 in
theorem qIg (F:Fence) (n:Nat) (h8:F.fn 247) (hro:F.round=none) (hn:1<=n) (Bs ob:Nat) (ad:Option Addr) (cap:Nat) (xs:List Int) (W:World) (l:Nat) (J:Nat->World->Prop) (hlen:xs.length<=2 ^ 40) (hBs:W.cell? ⟨Bs,ob,none⟩=some (.slice ad xs.length cap))
 (hcs:xs≠[]->∃ b off,ad=some ⟨b,off,none⟩/\∀ (k:Nat) x,xs[k]?=some x->W.cell? ⟨b,off+k,none⟩=some (.int .i64 x))
 (hY:∀ (k:Nat) x W1,xs.zipIdx.reverse[k]?=some x->J k W1->YieldAt F (n - 1) Tryz.prog l (qCz .i64 x) W1 fun e W'=>e=.returned (.bool true)/\J (k+1) W'/\qNT Bs (ad.map (·.block)) W1 W') (h0:J 0 W) :
 CallsIn F n Tryz.prog 247 #[.func (.yield l) #[] #[],.pointer (some ⟨Bs,ob,none⟩)] W fun e W'=>(∃ v,e=.returned v)/\J xs.length W':=by
 refine callsIn_of_wp Tryz.func247 rfl h8 ?_ hro
 simp only[Tryz.ntmps247,List.size_toArray,qY11,List.length_nil,Nat.reduceAdd,Nat.reduceSub,Array.replicate_succ,Array.replicate_zero,List.push_toArray,List.append_toArray,qY15,qY5]
 gi_wp2
 gi_loopw [3] (fun i wr=>∃ k:Nat,k<=xs.length/\i=.int .i64 ((xs.length:Int) - 1 - k)/\J k wr/\qNT Bs (ad.map (·.block)) W wr)
  (fun i _=>((RowKit.intOf i)+1).toNat)
 case atStart=>exact ⟨0,Nat.zero_le _,by simp,h0,⟨Nat.le_refl _,rfl,fun _ _=>rfl⟩⟩
 case round=>
  obtain ⟨k,hk,rfl,hJk,hnx⟩:=hrel
  by_cases hlt:k < xs.length
  ·have hz:=qIv hlt
   obtain ⟨fn,tmps,assign,body,hy,hR⟩:=hY k _ wr hz hJk
   dsimp only[qCz] at hy
   have hix:((xs.length - 1 - k:Nat):Int)=(xs.length:Int) - 1 - k:=by omega
   rw[hix] at hy
   have hBx:wr.cell? ⟨Bs,ob,none⟩=some (.slice ad xs.length cap):=by rw[<-hBs];simp only[World.cell?,hnx.2.1]
   obtain ⟨b,off,rfl,hcell⟩:=hcs (by intro e;rw[e] at hlt;simp at hlt)
   have hcx:wr.cell? ⟨b,off+(xs.length - 1 - k),none⟩=some (.int .i64 (xs[xs.length - 1 - k]'(by omega))):=by
    rw[<-hcell (xs.length - 1 - k) _ (qZ5 (by omega))]
    simp only[World.cell?,hnx.2.2 b rfl]
   gi_wp2
   refine hR.mono ?_
   rintro e W3 ⟨rfl,hJ3,hk3⟩
   gi_wp2
   go_roundw
   case rel=>exact ⟨k+1,by omega,by simp;omega,hJ3,⟨Nat.le_trans hnx.1 hk3.1,hk3.2.1.trans hnx.2.1,fun j hj=>(hk3.2.2 j hj).trans (hnx.2.2 j hj)⟩⟩
   case measure=>simp[RowKit.intOf];omega
  ·obtain rfl:k=xs.length:=by omega
   gi_wp2
   go_end0
   exact ⟨⟨_,rfl⟩,hJk⟩
theorem qSn:qHl Tryz.prog 247 .i64:=
 ⟨⟨_,Tryz.func247,by decide,rfl⟩,fun Bs ob ad cap xs W l J hlen hBs hcs hY h0=>(callsIn_wide (n:=0)).2 ((callsIn_wide (n:=1)).1 (qIg Fence.wide 1 trivial rfl (Nat.le_refl _) Bs ob ad cap xs W l J hlen hBs hcs hY h0))⟩
set_option maxHeartbeats 1000000 in
theorem qBk (F:Fence) (n:Nat) (h:F.fn 205) (hro:F.round=none) (v:Value) (w:World) (hv:v.oneCell'=true) :
 CallsIn F n Tryz.prog 205 #[v] w fun e w'=>e=.returned (.func (.func 260) #[] #[.pointer (some ⟨w.heap.size,0,none⟩)])/\∃ ty,w'=w.alloc (.cells #[v] ty):=by
 cases v<;>(try (simp[Value.oneCell'] at hv;done))
 all_goals refine callsIn_of_wp Tryz.func205 rfl h ?_ hro
 all_goals simp only[Tryz.ntmps205,List.size_toArray,qY11,List.length_nil,Nat.reduceAdd,Nat.reduceSub,Array.replicate_succ,Array.replicate_zero,List.push_toArray,List.append_toArray,qY15,qY5]
 all_goals gi_wp2
 all_goals go_ret
 all_goals exact ⟨rfl,_,rfl⟩
theorem qTf:qWQ Tryz.prog 205 260:=by
 refine ⟨⟨_,Tryz.func205,by decide,rfl⟩,fun v w hv=>(callsIn_wide (n:=0)).1 (CallsIn.mono (qBk Fence.wide 0 trivial rfl v w hv) ?_)⟩
 rintro e w' ⟨rfl,ty,rfl⟩
 exact ⟨ty,rfl,Ext.alloc _ _,by simp,World.alloc_heap_new _ _⟩
set_option maxRecDepth 100000 in
set_option maxHeartbeats 2000000 in
theorem qEh (F:Fence) (n:Nat) (h8:F.fn 260) (hro:F.round=none) (hn:1<=n) (Bs ob:Nat) (ad:Option Addr) (cap:Nat) (xs:List Int) (W:World) (l:Nat) (J:Nat->World->Prop) (hlen:xs.length<=2 ^ 40) (hBs:W.cell? ⟨Bs,ob,none⟩=some (.slice ad xs.length cap))
 (hcs:xs≠[]->∃ b off,ad=some ⟨b,off,none⟩/\∀ (k:Nat) x,xs[k]?=some x->W.cell? ⟨b,off+k,none⟩=some (.int .u32 x))
 (hY:∀ (k:Nat) x W1,xs.zipIdx.reverse[k]?=some x->J k W1->YieldAt F (n - 1) Tryz.prog l (qCz .u32 x) W1 fun e W'=>e=.returned (.bool true)/\J (k+1) W'/\qNT Bs (ad.map (·.block)) W1 W') (h0:J 0 W) :
 CallsIn F n Tryz.prog 260 #[.func (.yield l) #[] #[],.pointer (some ⟨Bs,ob,none⟩)] W fun e W'=>(∃ v,e=.returned v)/\J xs.length W':=by
 refine callsIn_of_wp Tryz.func260 rfl h8 ?_ hro
 simp only[Tryz.ntmps260,List.size_toArray,qY11,List.length_nil,Nat.reduceAdd,Nat.reduceSub,Array.replicate_succ,Array.replicate_zero,List.push_toArray,List.append_toArray,qY15,qY5]
 gi_wp2
 gi_loopw [3] (fun i wr=>∃ k:Nat,k<=xs.length/\i=.int .i64 ((xs.length:Int) - 1 - k)/\J k wr/\qNT Bs (ad.map (·.block)) W wr)
  (fun i _=>((RowKit.intOf i)+1).toNat)
 case atStart=>exact ⟨0,Nat.zero_le _,by simp,h0,⟨Nat.le_refl _,rfl,fun _ _=>rfl⟩⟩
 case round=>
  obtain ⟨k,hk,rfl,hJk,hnx⟩:=hrel
  by_cases hlt:k < xs.length
  ·have hz:=qIv hlt
   obtain ⟨fn,tmps,assign,body,hy,hR⟩:=hY k _ wr hz hJk
   dsimp only[qCz] at hy
   have hix:((xs.length - 1 - k:Nat):Int)=(xs.length:Int) - 1 - k:=by omega
   rw[hix] at hy
   have hBx:wr.cell? ⟨Bs,ob,none⟩=some (.slice ad xs.length cap):=by rw[<-hBs];simp only[World.cell?,hnx.2.1]
   obtain ⟨b,off,rfl,hcell⟩:=hcs (by intro e;rw[e] at hlt;simp at hlt)
   have hcx:wr.cell? ⟨b,off+(xs.length - 1 - k),none⟩=some (.int .u32 (xs[xs.length - 1 - k]'(by omega))):=by
    rw[<-hcell (xs.length - 1 - k) _ (qZ5 (by omega))]
    simp only[World.cell?,hnx.2.2 b rfl]
   gi_wp2
   refine hR.mono ?_
   rintro e W3 ⟨rfl,hJ3,hk3⟩
   gi_wp2
   go_roundw
   case rel=>exact ⟨k+1,by omega,by simp;omega,hJ3,⟨Nat.le_trans hnx.1 hk3.1,hk3.2.1.trans hnx.2.1,fun j hj=>(hk3.2.2 j hj).trans (hnx.2.2 j hj)⟩⟩
   case measure=>simp[RowKit.intOf];omega
  ·obtain rfl:k=xs.length:=by omega
   gi_wp2
   go_end0
   exact ⟨⟨_,rfl⟩,hJk⟩
theorem qNn:qHl Tryz.prog 260 .u32:=
 ⟨⟨_,Tryz.func260,by decide,rfl⟩,fun Bs ob ad cap xs W l J hlen hBs hcs hY h0=>(callsIn_wide (n:=0)).2 ((callsIn_wide (n:=1)).1 (qEh Fence.wide 1 trivial rfl (Nat.le_refl _) Bs ob ad cap xs W l J hlen hBs hcs hY h0))⟩
end Go.AM
end
