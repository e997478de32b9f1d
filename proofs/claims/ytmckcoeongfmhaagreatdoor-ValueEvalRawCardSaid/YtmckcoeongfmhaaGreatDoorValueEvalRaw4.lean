/- Law ValueEvalRaw of the values: a machine of plain values, what the program's functions compute in it, and what that is. No condition beyond what the statement says. -/
import Derived.Test.YtmckcoeongfmhaaGreatDoorValueEvalRaw3
set_option linter.unusedSimpArgs false
set_option linter.unusedVariables false
section
namespace Go.AM.Num
set_option maxRecDepth 100000
set_option linter.unusedVariables false
noncomputable section
def big:Nat:=2 ^ 64
@[reducible] def gVr : GT := (.pair .str (.int .i64))
abbrev Vr:=qBs×Int
abbrev zVr:Vr:=(([]:qBs),(0:Int))
@[reducible] def gSml : GT := (.pair (.int .i64) (.int .i64))
abbrev Sml:=Int×Int
@[reducible] def qTB : GT := (.pair (.sl (.int .i64)) (.int .i64))
abbrev qCA:=(List Int)×Int
@[reducible] def qCl : GT := (.pair .bool (.pair .str .str))
abbrev qQu:=Bool×qBs×qBs
@[reducible] def gRt : GT := (.pair .bool (.pair (.sl (.int .u32)) (.sl (.int .u32))))
abbrev Rt:=Bool×(List Int)×List Int
@[reducible] def qTG : GT := (.pair (.int .i64) (.pair (.int .i64) (.pair .str gVr)))
abbrev Nod:=Int×Int×qBs×Vr
abbrev qPE:Nod:=((0:Int),(0:Int),([]:qBs),([]:qBs),(0:Int))
@[reducible] def qBE : GT := (.pair (.int .i64) (.pair .bool (.pair .str (.pair (.sl .str) (.sl .str)))))
abbrev Val:=Int×Bool×qBs×(List qBs)×List qBs
abbrev qND:Val:=((0:Int),false,([]:qBs),([]:List qBs),([]:List qBs))
@[reducible] def qQN : GT := (.pair .str qBE)
abbrev qEK:=qBs×Val
abbrev qJU:qEK:=(([]:qBs),(0:Int),false,([]:qBs),([]:List qBs),([]:List qBs))
@[reducible] def qOa : GT := (.pair (.sl qTG) (.sl (.pair (.int .i64) gSml)))
abbrev qQR:=(List Nod)×List (Int×Sml)
abbrev qUN:qQR:=(([]:List Nod),([]:List (Int×Sml)))
@[reducible] def qEE : GT := (.pair .str (.pair (.sl (.sl qBE)) (.pair (.sl qBE) qBE)))
abbrev Interp:=qBs×(List (List Val))×(List Val)×Val
abbrev qQH:Interp:=(([]:qBs),([]:List (List Val)),([]:List Val),(0:Int),false,([]:qBs),([]:List qBs),([]:List qBs))
@[reducible] def gEvl : GT := (.pair (.sl qTG) (.pair (.int .i64) (.pair (.map qBE) (.map qEE))))
abbrev Evl:=(List Nod)×Int×(List (qBs×Val))×List (qBs×Interp)
def qFan (sort0:Int):Option ((Val×Int×Unit)×Unit):=
 cond (sort0==1)
 (some (((sort0,false,([]:qBs),([]:List qBs),([]:List qBs)),0,()),()))
 (cond (sort0==2)
 (some (((sort0,false,([48]:qBs),([]:List qBs),([]:List qBs)),0,()),()))
 (cond (sort0==3)
 (some (((sort0,false,([48]:qBs),([]:List qBs),([]:List qBs)),0,()),()))
 (cond (sort0==4)
 (some (((sort0,false,([48]:qBs),([]:List qBs),([]:List qBs)),0,()),()))
 (some ((((0:Int),false,([]:qBs),([]:List qBs),([]:List qBs)),1,()),())))))
def qHW (v0:Val):Option ((Bool×Unit)×Unit):=
 cond ((v0.2.2.2.1.length:Int)==0)
 (some (((v0.2.2.2.2.length:Int)==0,()),()))
 (some ((false,()),()))
def qPG (x:qBs×Bool×(List Int)×Int×Int×Unit):Option (Ex×(qBs×Bool×(List Int)×Int×Int×Unit)):=
 let s0:=x.1
 let t2:=x.2.1
 let t6:=x.2.2.1
 let t7:=x.2.2.2.1
 let t8:=x.2.2.2.2.1
 cond (decide (t8 < t7))
 (grd (decide (0<=t8)&&decide (t8 < t6.length)) (
 cond (decide ((t6.getD t8.toNat (0:Int)) < (48:Int)))
 (some (Ex.ret,(s0,false,t6,t7,t8,())))
 (cond (decide ((t6.getD t8.toNat (0:Int)) > (57:Int)))
 (some (Ex.ret,(s0,false,t6,t7,t8,())))
 (some (Ex.normal,(s0,t2,t6,t7,qI (t8+1),()))))))
 (some (Ex.exit 0,(s0,t2,t6,t7,t8,())))
def qGK (s0:qBs):Option ((Bool×Unit)×Unit):=
 (qPA qPG (s0,false,s0.map fun b=>(b.toNat:Int),((s0.map fun b=>(b.toNat:Int)).length:Int),0,())).bind fun y1=>
 cond (Ex.same y1.1 (Ex.exit 0))
 (cond (y1.2.1==([48]:qBs))
 (some ((true,()),()))
 (cond (!(y1.2.1==([]:qBs)))
 (grd (decide (0<=(0:Int))&&decide ((0:Int) < y1.2.1.length)) (some ((((y1.2.1.getD (0:Int).toNat 0).toNat:Int) !=(48:Int),()),())))
 (some ((false,()),()))))
 (cond (Ex.same y1.1 Ex.ret)
 (some ((y1.2.2.1,()),()))
 (none))
def qJI (a0:qBs):Option ((Bool×Unit)×Unit):=
 (strings_CutPrefix a0 ([45]:qBs)).bind fun r1=>
 (qGK r1.1.1).bind fun r2=>
 cond (r2.1.1)
 (cond (r1.1.2.1)
 (some ((!(r1.1.1==([48]:qBs)),()),()))
 (some ((true,()),())))
 (some ((false,()),()))
def qJO (x:Int×Int×Unit):Option (Ex×(Int×Int×Unit)):=
 let a0:=x.1
 let b1:=x.2.1
 cond (b1 !=(0:Int))
 (grd (b1 !=0) (some (Ex.normal,(b1,a0.tmod b1,()))))
 (some (Ex.exit 0,(a0,b1,())))
def qTP (a0:Int) (b1:Int):Option ((Int×Unit)×Unit):=
 (qPA qJO (a0,b1,())).bind fun y1=>
 cond (Ex.same y1.1 (Ex.exit 0))
 (some ((y1.2.1,()),()))
 (none)
def qDC (a0:qBs):Option ((Sml×Bool×Unit)×Unit):=
 (strings_CutPrefix a0 ([45]:qBs)).bind fun r1=>
 (strings_Cut r1.1.1 ([47]:qBs)).bind fun r2=>
 cond (decide ((r2.1.1.length:Int) > (9:Int)))
 (some ((((0:Int),(0:Int)),false,()),()))
 (cond (decide ((r2.1.2.1.length:Int) > (9:Int)))
 (some ((((0:Int),(0:Int)),false,()),()))
 ((qGK r2.1.1).bind fun r3=>
 cond (!r3.1.1)
 (some ((((0:Int),(0:Int)),false,()),()))
 (cond (r2.1.1==([48]:qBs))
 (cond (r1.1.2.1)
 (some ((((0:Int),(0:Int)),false,()),()))
 (cond (r2.1.2.2.1)
 (some ((((0:Int),(0:Int)),false,()),()))
 ((qNE r2.1.1 10 64).bind fun r4=>
 cond (r2.1.2.2.1)
 ((qGK r2.1.2.1).bind fun r5=>
 cond (!r5.1.1)
 (some ((((0:Int),(0:Int)),false,()),()))
 ((qNE r2.1.2.1 10 64).bind fun r6=>
 cond (decide (r6.1.1 < (2:Int)))
 (some ((((0:Int),(0:Int)),false,()),()))
 ((qTP r4.1.1 r6.1.1).bind fun r7=>
 cond (r7.1.1 !=(1:Int))
 (some ((((0:Int),(0:Int)),false,()),()))
 (cond (r1.1.2.1)
 (some (((qI (0 - r4.1.1),r6.1.1),true,()),()))
 (some (((r4.1.1,r6.1.1),true,()),()))))))
 (cond (r1.1.2.1)
 (some (((qI (0 - r4.1.1),1),true,()),()))
 (some (((r4.1.1,1),true,()),()))))))
 ((qNE r2.1.1 10 64).bind fun r8=>
 cond (r2.1.2.2.1)
 ((qGK r2.1.2.1).bind fun r9=>
 cond (!r9.1.1)
 (some ((((0:Int),(0:Int)),false,()),()))
 ((qNE r2.1.2.1 10 64).bind fun r10=>
 cond (decide (r10.1.1 < (2:Int)))
 (some ((((0:Int),(0:Int)),false,()),()))
 ((qTP r8.1.1 r10.1.1).bind fun r11=>
 cond (r11.1.1 !=(1:Int))
 (some ((((0:Int),(0:Int)),false,()),()))
 (cond (r1.1.2.1)
 (some (((qI (0 - r8.1.1),r10.1.1),true,()),()))
 (some (((r8.1.1,r10.1.1),true,()),()))))))
 (cond (r1.1.2.1)
 (some (((qI (0 - r8.1.1),1),true,()),()))
 (some (((r8.1.1,1),true,()),())))))))
def qHD (x:(List Int)×Int×Unit):Option (Ex×((List Int)×Int×Unit)):=
 let a0:=x.1
 let n3:=x.2.1
 cond (decide (n3 > (0:Int)))
 (grd (decide (0<=qI (n3 - (1:Int)))&&decide (qI (n3 - (1:Int)) < a0.length)) (
 cond ((a0.getD (qI (n3 - (1:Int))).toNat (0:Int))==0)
 (some (Ex.normal,(a0,qI (n3 - (1:Int)),())))
 (some (Ex.exit 0,(a0,n3,())))))
 (some (Ex.exit 0,(a0,n3,())))
def qLG (a0:List Int):Option (((List Int)×Unit)×Unit):=
 (qPA qHD (a0,(a0.length:Int),())).bind fun y1=>
 cond (Ex.same y1.1 (Ex.exit 0))
 (grd (decide (0<=y1.2.2.1)&&decide (y1.2.2.1<=y1.2.1.length)) (some ((y1.2.1.take y1.2.2.1.toNat,()),())))
 (none)
def qNP (x:qBs×(List Int)×Int×Int×(List Int)×Int×Int×Unit):Option (Ex×(qBs×(List Int)×Int×Int×(List Int)×Int×Int×Unit)):=
 let s0:=x.1
 let out3:=x.2.1
 let end4:=x.2.2.1
 let v5:=x.2.2.2.1
 let t20:=x.2.2.2.2.1
 let t21:=x.2.2.2.2.2.1
 let t22:=x.2.2.2.2.2.2.1
 cond (decide (t22 < t21))
 (grd (decide (0<=t22)&&decide (t22 < t20.length)) (some (Ex.normal,(s0,out3,end4,IntKind.u32.wrap ((IntKind.u32.wrap (v5 * (10:Int)))+(IntKind.u32.wrap (IntKind.u8.wrap ((t20.getD t22.toNat (0:Int)) - (48:Int))))),t20,t21,qI (t22+1),()))))
 (some (Ex.exit 2,(s0,out3,end4,v5,t20,t21,t22,())))
def qJS (x:qBs×(List Int)×Int×Unit):Option (Ex×(qBs×(List Int)×Int×Unit)):=
 let s0:=x.1
 let out3:=x.2.1
 let end4:=x.2.2.1
 cond (decide (end4 > (0:Int)))
 (grd (decide (0<=qSc (qI (end4 - (9:Int))) (0:Int))&&decide (qSc (qI (end4 - (9:Int))) (0:Int)<=end4)&&decide (end4<=s0.length)) (
 (qPA qNP (s0,out3,end4,0,((s0.take end4.toNat).drop (qSc (qI (end4 - (9:Int))) (0:Int)).toNat).map fun b=>(b.toNat:Int),((((s0.take end4.toNat).drop (qSc (qI (end4 - (9:Int))) (0:Int)).toNat).map fun b=>(b.toNat:Int)).length:Int),0,())).bind fun y1=>
 cond (Ex.same y1.1 (Ex.exit 2))
 (grd (decide (y1.2.2.1.length+([y1.2.2.2.2.1]:List Int).length<=qKF)) (some (Ex.normal,(y1.2.1,y1.2.2.1++([y1.2.2.2.2.1]:List Int),qI (y1.2.2.2.1 - (9:Int)),()))))
 (none)))
 (some (Ex.exit 0,(s0,out3,end4,())))
def qNY (s0:qBs):Option (((List Int)×Unit)×Unit):=
 (qPA qJS (s0,([]:List Int),(s0.length:Int),())).bind fun y1=>
 cond (Ex.same y1.1 (Ex.exit 0))
 ((qLG y1.2.2.1).bind fun r2=>
 some ((r2.1.1,()),()))
 (none)
def qIL (x:(List Int)×(List Int)×Int×Int×Unit):Option (Ex×((List Int)×(List Int)×Int×Int×Unit)):=
 let a0:=x.1
 let b1:=x.2.1
 let t4:=x.2.2.1
 let i5:=x.2.2.2.1
 cond (decide (i5>=0))
 (grd (decide (0<=i5)&&decide (i5 < a0.length)) (
 grd (decide (0<=i5)&&decide (i5 < b1.length)) (
 cond ((a0.getD i5.toNat (0:Int)) !=(b1.getD i5.toNat (0:Int)))
 (grd (decide (0<=i5)&&decide (i5 < a0.length)) (grd (decide (0<=i5)&&decide (i5 < b1.length)) (some (Ex.ret,(a0,b1,qI ((qI (a0.getD i5.toNat (0:Int))) - (qI (b1.getD i5.toNat (0:Int)))),i5,())))))
 (some (Ex.normal,(a0,b1,t4,qI (i5 - (1:Int)),()))))))
 (some (Ex.exit 0,(a0,b1,t4,i5,())))
def qQQ (a0:List Int) (b1:List Int):Option ((Int×Unit)×Unit):=
 cond ((a0.length:Int) !=(b1.length:Int))
 (some ((qI ((a0.length:Int) - (b1.length:Int)),()),()))
 ((qPA qIL (a0,b1,0,qI ((a0.length:Int) - (1:Int)),())).bind fun y1=>
 cond (Ex.same y1.1 (Ex.exit 0))
 (some ((0,()),()))
 (cond (Ex.same y1.1 Ex.ret)
 (some ((y1.2.2.2.1,()),()))
 (none)))
def qFI (x:(List Int)×Int×(List Int)×Int×Int×Unit):Option (Ex×((List Int)×Int×(List Int)×Int×Int×Unit)):=
 let a0:=x.1
 let b1:=x.2.1
 let q6:=x.2.2.1
 let rest7:=x.2.2.2.1
 let i8:=x.2.2.2.2.1
 cond (decide (i8>=0))
 (grd (decide (0<=i8)&&decide (i8 < a0.length)) (grd ((qU (b1)) !=0) (grd ((qU (b1)) !=0) (grd (decide (0<=i8)&&decide (i8 < q6.length)) (grd (decide (i8.toNat < q6.length)) (some (Ex.normal,(a0,b1,q6.set i8.toNat (IntKind.u32.wrap (qU ((qU ((qU (rest7 * (1000000000:Int)))+(qU (a0.getD i8.toNat (0:Int))))).tdiv (qU (b1))))),(qU ((qU (rest7 * (1000000000:Int)))+(qU (a0.getD i8.toNat (0:Int))))).tmod (qU (b1)),qI (i8 - (1:Int)),()))))))))
 (some (Ex.exit 0,(a0,b1,q6,rest7,i8,())))
def qNJ (a0:List Int) (b1:Int):Option (((List Int)×(List Int)×Unit)×Unit):=
 grd (decide (0<=(a0.length:Int))&&decide ((a0.length:Int)<=(a0.length:Int))&&decide ((a0.length:Int)<=qKF)) (
 (qPA qFI (a0,b1,List.replicate (a0.length:Int).toNat (0:Int),0,qI ((a0.length:Int) - (1:Int)),())).bind fun y1=>
 cond (Ex.same y1.1 (Ex.exit 0))
 ((qLG y1.2.2.2.1).bind fun r2=>
 (qLG ([IntKind.u32.wrap (y1.2.2.2.2.1)]:List Int)).bind fun r3=>
 some ((r2.1.1,r3.1.1,()),()))
 (none))
def qOM (x:(List Int)×Int×Unit):Option (Ex×((List Int)×Int×Unit)):=
 let a0:=x.1
 let n3:=x.2.1
 cond (decide (n3 > (0:Int)))
 (grd (decide (0<=qI (n3 - (1:Int)))&&decide (qI (n3 - (1:Int)) < a0.length)) (
 grd (decide ((qI (n3 - (1:Int))).toNat < a0.length)) (
 cond ((a0.getD ((qI (n3 - (1:Int))).toNat) (0:Int))==0)
 (some (Ex.normal,(a0,qI (n3 - (1:Int)),())))
 (some (Ex.exit 0,(a0,n3,()))))))
 (some (Ex.exit 0,(a0,n3,())))
def qCR (a0:List Int):Option ((Nat×Unit)×((List Int)×Unit)):=
 (qPA qOM (a0,(a0.length:Int),())).bind fun y1=>
 cond (Ex.same y1.1 (Ex.exit 0))
 (grd (decide (0<=y1.2.2.1)&&decide (y1.2.2.1<=y1.2.1.length)) (some ((y1.2.2.1.toNat,()),y1.2.1,())))
 (none)
def qMX (x:(List Int)×(List Int)×Int×Int×Int×(List Int)×Int×Int×(List Int)×Int×Int×Unit):Option (Ex×((List Int)×(List Int)×Int×Int×Int×(List Int)×Int×Int×(List Int)×Int×Int×Unit)):=
 let b1:=x.1
 let out5:=x.2.1
 let i6:=x.2.2.1
 let x7:=x.2.2.2.1
 let carry8:=x.2.2.2.2.1
 let t18:=x.2.2.2.2.2.1
 let t19:=x.2.2.2.2.2.2.1
 let t20:=x.2.2.2.2.2.2.2.1
 let t25:=x.2.2.2.2.2.2.2.2.1
 let t26:=x.2.2.2.2.2.2.2.2.2.1
 let t27:=x.2.2.2.2.2.2.2.2.2.2.1
 cond (decide (t27 < t26))
 (grd (decide (0<=t27)&&decide (t27 < t25.length)) (grd (decide (0<=qI (i6+t27))&&decide (qI (i6+t27) < out5.length)) (grd (decide ((qI (i6+t27)).toNat < out5.length)) (grd ((1000000000:Int) !=0) (grd ((1000000000:Int) !=0) (grd (decide (0<=qI (i6+t27))&&decide (qI (i6+t27) < out5.length)) (grd (decide ((qI (i6+t27)).toNat < out5.length)) (some (Ex.normal,(b1,out5.set ((qI (i6+t27)).toNat) (IntKind.u32.wrap ((qU ((qU ((qU (out5.getD ((qI (i6+t27)).toNat) (0:Int)))+(qU ((qU (x7)) * (qU (t25.getD t27.toNat (0:Int)))))))+carry8)).tmod 1000000000)),i6,x7,qU ((qU ((qU ((qU (out5.getD ((qI (i6+t27)).toNat) (0:Int)))+(qU ((qU (x7)) * (qU (t25.getD t27.toNat (0:Int)))))))+carry8)).tdiv 1000000000),t18,t19,t20,t25,t26,qI (t27+1),()))))))))))
 (some (Ex.exit 2,(b1,out5,i6,x7,carry8,t18,t19,t20,t25,t26,t27,())))
def qMR (x:(List Int)×(List Int)×(List Int)×Int×Int×Unit):Option (Ex×((List Int)×(List Int)×(List Int)×Int×Int×Unit)):=
 let b1:=x.1
 let out5:=x.2.1
 let t18:=x.2.2.1
 let t19:=x.2.2.2.1
 let t20:=x.2.2.2.2.1
 cond (decide (t20 < t19))
 (grd (decide (0<=t20)&&decide (t20 < t18.length)) (
 (qPA qMX (b1,out5,t20,t18.getD t20.toNat (0:Int),0,t18,t19,t20,b1,(b1.length:Int),0,())).bind fun y1=>
 cond (Ex.same y1.1 (Ex.exit 2))
 (grd (decide (0<=qI (y1.2.2.2.1+(y1.2.1.length:Int)))&&decide (qI (y1.2.2.2.1+(y1.2.1.length:Int)) < y1.2.2.1.length)) (grd (decide ((qI (y1.2.2.2.1+(y1.2.1.length:Int))).toNat < y1.2.2.1.length)) (some (Ex.normal,(y1.2.1,y1.2.2.1.set ((qI (y1.2.2.2.1+(y1.2.1.length:Int))).toNat) (IntKind.u32.wrap (y1.2.2.2.2.2.1)),y1.2.2.2.2.2.2.1,y1.2.2.2.2.2.2.2.1,qI (y1.2.2.2.2.2.2.2.2.1+1),())))))
 (none)))
 (some (Ex.exit 0,(b1,out5,t18,t19,t20,())))
def qAQ (a0:List Int) (b1:List Int):Option (((List Int)×Unit)×Unit):=
 grd (decide (0<=qI ((a0.length:Int)+(b1.length:Int)))&&decide (qI ((a0.length:Int)+(b1.length:Int))<=qI ((a0.length:Int)+(b1.length:Int)))&&decide (qI ((a0.length:Int)+(b1.length:Int))<=qKF)) (
 (qPA qMR (b1,List.replicate (qI ((a0.length:Int)+(b1.length:Int))).toNat (0:Int),a0,(a0.length:Int),0,())).bind fun y1=>
 cond (Ex.same y1.1 (Ex.exit 0))
 ((qCR y1.2.2.1).bind fun r2=>
 some ((r2.2.1.take r2.1.1,()),()))
 (none))
def qCF (x:(List Int)×(List Int)×Int×Int×Int×Int×Int×Unit):Option (Ex×((List Int)×(List Int)×Int×Int×Int×Int×Int×Unit)):=
 let u0:=x.1
 let v1:=x.2.1
 let times2:=x.2.2.1
 let carry7:=x.2.2.2.1
 let borrow8:=x.2.2.2.2.1
 let t12:=x.2.2.2.2.2.1
 let t13:=x.2.2.2.2.2.2.1
 cond (decide (t13 < t12))
 (cond (decide (t13 < (v1.length:Int)))
 (grd (decide (0<=t13)&&decide (t13 < v1.length)) (
 grd (decide (0<=t13)&&decide (t13 < u0.length)) (
 grd (decide (t13.toNat < u0.length)) (
 grd ((1000000000:Int) !=0) (
 grd ((1000000000:Int) !=0) (
 cond (decide ((qI ((qI ((qI (u0.getD t13.toNat (0:Int))) - borrow8)) - (qI ((qU (carry7+(qU (times2 * (qU (v1.getD t13.toNat (0:Int))))))).tmod 1000000000)))) < (0:Int)))
 (grd (decide (0<=t13)&&decide (t13 < u0.length)) (grd (decide (t13.toNat < u0.length)) (some (Ex.normal,(u0.set t13.toNat (IntKind.u32.wrap (qI ((qI ((qI ((qI (u0.getD t13.toNat (0:Int))) - borrow8)) - (qI ((qU (carry7+(qU (times2 * (qU (v1.getD t13.toNat (0:Int))))))).tmod 1000000000))))+1000000000))),v1,times2,qU ((qU (carry7+(qU (times2 * (qU (v1.getD t13.toNat (0:Int))))))).tdiv 1000000000),1,t12,qI (t13+1),())))))
 (grd (decide (0<=t13)&&decide (t13 < u0.length)) (grd (decide (t13.toNat < u0.length)) (some (Ex.normal,(u0.set t13.toNat (IntKind.u32.wrap (qI ((qI ((qI (u0.getD t13.toNat (0:Int))) - borrow8)) - (qI ((qU (carry7+(qU (times2 * (qU (v1.getD t13.toNat (0:Int))))))).tmod 1000000000))))),v1,times2,qU ((qU (carry7+(qU (times2 * (qU (v1.getD t13.toNat (0:Int))))))).tdiv 1000000000),0,t12,qI (t13+1),())))))))))))
 (grd (decide (0<=t13)&&decide (t13 < u0.length)) (
 grd (decide (t13.toNat < u0.length)) (
 grd ((1000000000:Int) !=0) (
 grd ((1000000000:Int) !=0) (
 cond (decide ((qI ((qI ((qI (u0.getD t13.toNat (0:Int))) - borrow8)) - (qI (carry7.tmod 1000000000)))) < (0:Int)))
 (grd (decide (0<=t13)&&decide (t13 < u0.length)) (grd (decide (t13.toNat < u0.length)) (some (Ex.normal,(u0.set t13.toNat (IntKind.u32.wrap (qI ((qI ((qI ((qI (u0.getD t13.toNat (0:Int))) - borrow8)) - (qI (carry7.tmod 1000000000))))+1000000000))),v1,times2,qU (carry7.tdiv 1000000000),1,t12,qI (t13+1),())))))
 (grd (decide (0<=t13)&&decide (t13 < u0.length)) (grd (decide (t13.toNat < u0.length)) (some (Ex.normal,(u0.set t13.toNat (IntKind.u32.wrap (qI ((qI ((qI (u0.getD t13.toNat (0:Int))) - borrow8)) - (qI (carry7.tmod 1000000000))))),v1,times2,qU (carry7.tdiv 1000000000),0,t12,qI (t13+1),())))))))))))
 (some (Ex.exit 0,(u0,v1,times2,carry7,borrow8,t12,t13,())))
def qUR (u0:List Int) (v1:List Int) (times2:Int):Option ((Bool×Unit)×((List Int)×Unit)):=
 (qPA qCF (u0,v1,times2,0,0,(u0.length:Int),0,())).bind fun y1=>
 cond (Ex.same y1.1 (Ex.exit 0))
 (some ((decide (y1.2.2.2.2.2.1 > (0:Int)),()),y1.2.1,()))
 (none)
def qET (a0:List Int) (i1:Int):Option ((Int×Unit)×Unit):=
 cond (decide (i1>=(a0.length:Int)))
 (some ((0,()),()))
 (grd (decide (0<=i1)&&decide (i1 < a0.length)) (some ((a0.getD i1.toNat (0:Int),()),())))
def qPN (x:(List Int)×(List Int)×Int×Int×Int×Unit):Option (Ex×((List Int)×(List Int)×Int×Int×Int×Unit)):=
 let u0:=x.1
 let v1:=x.2.1
 let carry4:=x.2.2.1
 let t8:=x.2.2.2.1
 let t9:=x.2.2.2.2.1
 cond (decide (t9 < t8))
 (grd (decide (0<=t9)&&decide (t9 < u0.length)) (
 grd (decide (t9.toNat < u0.length)) (
 (qET v1 t9).bind fun r1=>
 grd ((1000000000:Int) !=0) (grd ((1000000000:Int) !=0) (grd (decide (0<=t9)&&decide (t9 < u0.length)) (grd (decide (t9.toNat < u0.length)) (some (Ex.normal,(u0.set t9.toNat ((IntKind.u32.wrap ((IntKind.u32.wrap ((u0.getD t9.toNat (0:Int))+r1.1.1))+carry4)).tmod 1000000000),v1,IntKind.u32.wrap ((IntKind.u32.wrap ((IntKind.u32.wrap ((u0.getD t9.toNat (0:Int))+r1.1.1))+carry4)).tdiv 1000000000),t8,qI (t9+1),())))))))))
 (some (Ex.exit 0,(u0,v1,carry4,t8,t9,())))
def qAV (u0:List Int) (v1:List Int):Option ((Unit)×((List Int)×Unit)):=
 (qPA qPN (u0,v1,0,(u0.length:Int),0,())).bind fun y1=>
 cond (Ex.same y1.1 (Ex.exit 0))
 (some ((),y1.2.1,()))
 (none)
def qAG (x:(List Int)×(List Int)×Int×Int×Int×Int×Unit):Option (Ex×((List Int)×(List Int)×Int×Int×Int×Int×Unit)):=
 let u0:=x.1
 let v1:=x.2.1
 let n5:=x.2.2.1
 let first7:=x.2.2.2.1
 let guess8:=x.2.2.2.2.1
 let rest9:=x.2.2.2.2.2.1
 cond (decide (guess8>=1000000000))
 (cond (decide ((qU (rest9+first7))>=1000000000))
 (some (Ex.exit 0,(u0,v1,n5,first7,qU (guess8 - (1:Int)),qU (rest9+first7),())))
 (some (Ex.normal,(u0,v1,n5,first7,qU (guess8 - (1:Int)),qU (rest9+first7),()))))
 (grd (decide (0<=qI (n5 - (2:Int)))&&decide (qI (n5 - (2:Int)) < v1.length)) (
 grd (decide (0<=qI (n5 - (2:Int)))&&decide (qI (n5 - (2:Int)) < u0.length)) (
 grd (decide ((qI (n5 - (2:Int))).toNat < u0.length)) (
 cond (decide ((qU (guess8 * (qU (v1.getD (qI (n5 - (2:Int))).toNat (0:Int))))) > (qU ((qU (rest9 * (1000000000:Int)))+(qU (u0.getD ((qI (n5 - (2:Int))).toNat) (0:Int)))))))
 (cond (decide ((qU (rest9+first7))>=1000000000))
 (some (Ex.exit 0,(u0,v1,n5,first7,qU (guess8 - (1:Int)),qU (rest9+first7),())))
 (some (Ex.normal,(u0,v1,n5,first7,qU (guess8 - (1:Int)),qU (rest9+first7),()))))
 (some (Ex.exit 0,(u0,v1,n5,first7,guess8,rest9,())))))))
def qKZ (u0:List Int) (v1:List Int):Option ((Int×Unit)×((List Int)×Unit)):=
 grd (decide (0<=(v1.length:Int))&&decide ((v1.length:Int) < u0.length)) (
 grd (decide ((v1.length:Int).toNat < u0.length)) (
 grd (decide (0<=qI ((v1.length:Int) - (1:Int)))&&decide (qI ((v1.length:Int) - (1:Int)) < u0.length)) (
 grd (decide ((qI ((v1.length:Int) - (1:Int))).toNat < u0.length)) (
 grd (decide (0<=qI ((v1.length:Int) - (1:Int)))&&decide (qI ((v1.length:Int) - (1:Int)) < v1.length)) (
 grd ((qU (v1.getD (qI ((v1.length:Int) - (1:Int))).toNat (0:Int))) !=0) (
 grd ((qU (v1.getD (qI ((v1.length:Int) - (1:Int))).toNat (0:Int))) !=0) (
 (qPA qAG (u0,v1,(v1.length:Int),qU (v1.getD (qI ((v1.length:Int) - (1:Int))).toNat (0:Int)),qU ((qU ((qU ((qU (u0.getD ((v1.length:Int).toNat) (0:Int))) * (1000000000:Int)))+(qU (u0.getD ((qI ((v1.length:Int) - (1:Int))).toNat) (0:Int))))).tdiv (qU (v1.getD (qI ((v1.length:Int) - (1:Int))).toNat (0:Int)))),(qU ((qU ((qU (u0.getD ((v1.length:Int).toNat) (0:Int))) * (1000000000:Int)))+(qU (u0.getD ((qI ((v1.length:Int) - (1:Int))).toNat) (0:Int))))).tmod (qU (v1.getD (qI ((v1.length:Int) - (1:Int))).toNat (0:Int))),())).bind fun y1=>
 cond (Ex.same y1.1 (Ex.exit 0))
 ((qUR y1.2.1 y1.2.2.1 y1.2.2.2.2.2.1).bind fun r2=>
 cond (r2.1.1)
 ((qAV r2.2.1 y1.2.2.1).bind fun r3=>
 some ((IntKind.u32.wrap (qU (y1.2.2.2.2.2.1 - (1:Int))),()),r3.2.1,()))
 (some ((IntKind.u32.wrap (y1.2.2.2.2.2.1),()),r2.2.1,())))
 (none))))))))
def qCH (x:(List Int)×(List Int)×(List Int)×(List Int)×Unit):Option (Ex×((List Int)×(List Int)×(List Int)×(List Int)×Unit)):=
 let a0:=x.1
 let scale6:=x.2.1
 let u7:=x.2.2.1
 let v8:=x.2.2.2.1
 cond (decide ((u7.length:Int)<=(a0.length:Int)))
 (grd (decide (u7.length+([0]:List Int).length<=qKF)) (some (Ex.normal,(a0,scale6,u7++([0]:List Int),v8,()))))
 (some (Ex.exit 1,(a0,scale6,u7,v8,())))
def qIG (x:(List Int)×(List Int)×(List Int)×(List Int)×Int×Unit):Option (Ex×((List Int)×(List Int)×(List Int)×(List Int)×Int×Unit)):=
 let scale6:=x.1
 let u7:=x.2.1
 let v8:=x.2.2.1
 let q9:=x.2.2.2.1
 let j10:=x.2.2.2.2.1
 cond (decide (j10>=0))
 (grd (decide (0<=j10)&&decide (j10<=qI ((qI (j10+(v8.length:Int)))+1))&&decide (qI ((qI (j10+(v8.length:Int)))+1)<=u7.length)) (
 (qKZ ((u7.drop j10.toNat).take ((qI ((qI (j10+(v8.length:Int)))+1)).toNat - j10.toNat)) v8).bind fun r1=>
 grd (decide (0<=j10)&&decide (j10 < q9.length)) (grd (decide (j10.toNat < q9.length)) (some (Ex.normal,(scale6,u7.take j10.toNat++r1.2.1++u7.drop (j10.toNat+((qI ((qI (j10+(v8.length:Int)))+1)).toNat - j10.toNat)),v8,q9.set j10.toNat r1.1.1,qI (j10 - (1:Int)),()))))))
 (some (Ex.exit 3,(scale6,u7,v8,q9,j10,())))
def qSI (a0:List Int) (b1:List Int):Option (((List Int)×(List Int)×Unit)×Unit):=
 (qQQ a0 b1).bind fun r1=>
 cond (decide (r1.1.1 < (0:Int)))
 (some ((([]:List Int),a0,()),()))
 (cond ((b1.length:Int)==1)
 (grd (decide (0<=(0:Int))&&decide ((0:Int) < b1.length)) (
 (qNJ a0 (b1.getD (0:Int).toNat (0:Int))).bind fun r2=>
 some ((r2.1.1,r2.1.2.1,()),())))
 (grd (decide (0<=qI ((b1.length:Int) - (1:Int)))&&decide (qI ((b1.length:Int) - (1:Int)) < b1.length)) (
 grd ((qU ((qU (b1.getD (qI ((b1.length:Int) - (1:Int))).toNat (0:Int)))+1)) !=0) (
 (qAQ a0 ([IntKind.u32.wrap (qU ((1000000000:Int).tdiv (qU ((qU (b1.getD (qI ((b1.length:Int) - (1:Int))).toNat (0:Int)))+1))))]:List Int)).bind fun r3=>
 (qAQ b1 ([IntKind.u32.wrap (qU ((1000000000:Int).tdiv (qU ((qU (b1.getD (qI ((b1.length:Int) - (1:Int))).toNat (0:Int)))+1))))]:List Int)).bind fun r4=>
 (qPA qCH (a0,([IntKind.u32.wrap (qU ((1000000000:Int).tdiv (qU ((qU (b1.getD (qI ((b1.length:Int) - (1:Int))).toNat (0:Int)))+1))))]:List Int),r3.1.1,r4.1.1,())).bind fun y5=>
 cond (Ex.same y5.1 (Ex.exit 1))
 (grd (decide (0<=qI ((y5.2.2.2.1.length:Int) - (y5.2.2.2.2.1.length:Int)))&&decide (qI ((y5.2.2.2.1.length:Int) - (y5.2.2.2.2.1.length:Int))<=qI ((y5.2.2.2.1.length:Int) - (y5.2.2.2.2.1.length:Int)))&&decide (qI ((y5.2.2.2.1.length:Int) - (y5.2.2.2.2.1.length:Int))<=qKF)) (
 (qPA qIG (y5.2.2.1,y5.2.2.2.1,y5.2.2.2.2.1,List.replicate (qI ((y5.2.2.2.1.length:Int) - (y5.2.2.2.2.1.length:Int))).toNat (0:Int),qI (((List.replicate (qI ((y5.2.2.2.1.length:Int) - (y5.2.2.2.2.1.length:Int))).toNat (0:Int)).length:Int) - (1:Int)),())).bind fun y6=>
 cond (Ex.same y6.1 (Ex.exit 3))
 ((qLG y6.2.2.1).bind fun r7=>
 grd (decide (0<=(0:Int))&&decide ((0:Int) < y6.2.1.length)) (
 (qNJ r7.1.1 (y6.2.1.getD (0:Int).toNat (0:Int))).bind fun r8=>
 (qLG y6.2.2.2.2.1).bind fun r9=>
 some ((r9.1.1,r8.1.1,()),())))
 (none)))
 (none)))))
def qDa (x:(List Int)×(List Int)×Unit):Option (Ex×((List Int)×(List Int)×Unit)):=
 let a0:=x.1
 let b1:=x.2.1
 cond (decide ((b1.length:Int) > (0:Int)))
 ((qSI a0 b1).bind fun r1=>
 some (Ex.normal,(b1,r1.1.2.1,())))
 (some (Ex.exit 0,(a0,b1,())))
def qCy (a0:List Int) (b1:List Int):Option (((List Int)×Unit)×Unit):=
 (qPA qDa (a0,b1,())).bind fun y1=>
 cond (Ex.same y1.1 (Ex.exit 0))
 (some ((y1.2.1,()),()))
 (none)
def qNK (a0:List Int):Option ((Bool×Unit)×Unit):=
 cond ((a0.length:Int)==1)
 (grd (decide (0<=(0:Int))&&decide ((0:Int) < a0.length)) (some (((a0.getD (0:Int).toNat (0:Int))==1,()),())))
 (some ((false,()),()))
def qLH (a0:qBs):Option ((Rt×Bool×Unit)×Unit):=
 (strings_CutPrefix a0 ([45]:qBs)).bind fun r1=>
 (strings_Cut r1.1.1 ([47]:qBs)).bind fun r2=>
 (qGK r2.1.1).bind fun r3=>
 cond (!r3.1.1)
 (some (((false,([]:List Int),([]:List Int)),false,()),()))
 (cond (r2.1.1==([48]:qBs))
 (cond (r1.1.2.1)
 (some (((false,([]:List Int),([]:List Int)),false,()),()))
 (cond (r2.1.2.2.1)
 (some (((false,([]:List Int),([]:List Int)),false,()),()))
 ((qNY r2.1.1).bind fun r4=>
 cond (!r2.1.2.2.1)
 (some (((r1.1.2.1,r4.1.1,([1]:List Int)),true,()),()))
 ((qGK r2.1.2.1).bind fun r5=>
 cond (!r5.1.1)
 (some (((false,([]:List Int),([]:List Int)),false,()),()))
 (cond (r2.1.2.1==([48]:qBs))
 (some (((false,([]:List Int),([]:List Int)),false,()),()))
 (cond (r2.1.2.1==([49]:qBs))
 (some (((false,([]:List Int),([]:List Int)),false,()),()))
 ((qNY r2.1.2.1).bind fun r6=>
 (qCy r4.1.1 r6.1.1).bind fun r7=>
 (qNK r7.1.1).bind fun r8=>
 some (((r1.1.2.1,r4.1.1,r6.1.1),r8.1.1,()),()))))))))
 ((qNY r2.1.1).bind fun r9=>
 cond (!r2.1.2.2.1)
 (some (((r1.1.2.1,r9.1.1,([1]:List Int)),true,()),()))
 ((qGK r2.1.2.1).bind fun r10=>
 cond (!r10.1.1)
 (some (((false,([]:List Int),([]:List Int)),false,()),()))
 (cond (r2.1.2.1==([48]:qBs))
 (some (((false,([]:List Int),([]:List Int)),false,()),()))
 (cond (r2.1.2.1==([49]:qBs))
 (some (((false,([]:List Int),([]:List Int)),false,()),()))
 ((qNY r2.1.2.1).bind fun r11=>
 (qCy r9.1.1 r11.1.1).bind fun r12=>
 (qNK r12.1.1).bind fun r13=>
 some (((r1.1.2.1,r9.1.1,r11.1.1),r13.1.1,()),())))))))
def qNR (a0:qBs):Option ((Bool×Unit)×Unit):=
 (qDC a0).bind fun r1=>
 cond (r1.1.2.1)
 (some ((true,()),()))
 ((qLH a0).bind fun r2=>
 some ((r2.1.2.1,()),()))
def qMb (a0:qBs):Option ((Int×Unit)×Unit):=
 (qNR a0).bind fun r1=>
 cond (!r1.1.1)
 (some ((0,()),()))
 (cond (a0==([48]:qBs))
 (some ((0,()),()))
 (grd (decide (0<=(0:Int))&&decide ((0:Int) < a0.length)) (
 cond (((a0.getD (0:Int).toNat 0).toNat:Int)==45)
 (some ((-1,()),()))
 (some ((1,()),())))))
def qKag (a0:qBs):Option ((qBs×Unit)×Unit):=
 (qMb a0).bind fun r1=>
 cond (decide (r1.1.1 < (0:Int)))
 (grd (decide (0<=(1:Int))&&decide ((1:Int)<=a0.length)) (some ((a0.drop (1:Int).toNat,()),())))
 ((qMb a0).bind fun r2=>
 cond (decide (r2.1.1 > (0:Int)))
 (grd (decide (([45]:qBs).length+a0.length<=qGP)) (some ((([45]:qBs)++a0,()),())))
 (cond (a0==([48]:qBs))
 (some ((a0,()),()))
 (some ((([]:qBs),()),()))))
def qCN (n0:Int) (d1:Int):Option ((qBs×Unit)×Unit):=
 cond (decide (d1 < (0:Int)))
 ((qTP (qSc (qI (0 - n0)) (qI (0 - (qI (0 - n0))))) (qI (0 - d1))).bind fun r1=>
 grd (r1.1.1 !=0) (
 grd (r1.1.1 !=0) (
 (qWC (qI ((qI (0 - n0)).tdiv r1.1.1)) 10).bind fun r2=>
 cond (decide ((qI ((qI (0 - d1)).tdiv r1.1.1)) > (1:Int)))
 ((qWC (qI ((qI (0 - d1)).tdiv r1.1.1)) 10).bind fun r3=>
 grd (decide (([47]:qBs).length+r3.1.1.length<=qGP)) (grd (decide (r2.1.1.length+(([47]:qBs)++r3.1.1).length<=qGP)) (some ((r2.1.1++(([47]:qBs)++r3.1.1),()),()))))
 (some ((r2.1.1,()),())))))
 ((qTP (qSc n0 (qI (0 - n0))) d1).bind fun r4=>
 grd (r4.1.1 !=0) (
 grd (r4.1.1 !=0) (
 (qWC (qI (n0.tdiv r4.1.1)) 10).bind fun r5=>
 cond (decide ((qI (d1.tdiv r4.1.1)) > (1:Int)))
 ((qWC (qI (d1.tdiv r4.1.1)) 10).bind fun r6=>
 grd (decide (([47]:qBs).length+r6.1.1.length<=qGP)) (grd (decide (r5.1.1.length+(([47]:qBs)++r6.1.1).length<=qGP)) (some ((r5.1.1++(([47]:qBs)++r6.1.1),()),()))))
 (some ((r5.1.1,()),())))))
def qEh (x0:Sml) (y1:Sml):Option ((qBs×Unit)×Unit):=
 (qCN (qI ((qI (x0.1 * y1.2))+(qI (y1.1 * x0.2)))) (qI (x0.2 * y1.2))).bind fun r1=>
 some ((r1.1.1,()),())
def qOL (x:(List Int)×(List Int)×Int×Int×Int×(List Int)×Int×Int×(List Int)×Int×Int×Unit):Option (Ex×((List Int)×(List Int)×Int×Int×Int×(List Int)×Int×Int×(List Int)×Int×Int×Unit)):=
 let b1:=x.1
 let out5:=x.2.1
 let i6:=x.2.2.1
 let x7:=x.2.2.2.1
 let carry8:=x.2.2.2.2.1
 let t18:=x.2.2.2.2.2.1
 let t19:=x.2.2.2.2.2.2.1
 let t20:=x.2.2.2.2.2.2.2.1
 let t25:=x.2.2.2.2.2.2.2.2.1
 let t26:=x.2.2.2.2.2.2.2.2.2.1
 let t27:=x.2.2.2.2.2.2.2.2.2.2.1
 cond (decide (t27 < t26))
 (grd (decide (0<=t27)&&decide (t27 < t25.length)) (grd (decide (0<=qI (i6+t27))&&decide (qI (i6+t27) < out5.length)) (grd (decide ((qI (i6+t27)).toNat < out5.length)) (grd ((1000000000:Int) !=0) (grd ((1000000000:Int) !=0) (grd (decide (0<=qI (i6+t27))&&decide (qI (i6+t27) < out5.length)) (grd (decide ((qI (i6+t27)).toNat < out5.length)) (some (Ex.normal,(b1,out5.set ((qI (i6+t27)).toNat) (IntKind.u32.wrap ((qU ((qU ((qU (out5.getD ((qI (i6+t27)).toNat) (0:Int)))+(qU ((qU (x7)) * (qU (t25.getD t27.toNat (0:Int)))))))+carry8)).tmod 1000000000)),i6,x7,qU ((qU ((qU ((qU (out5.getD ((qI (i6+t27)).toNat) (0:Int)))+(qU ((qU (x7)) * (qU (t25.getD t27.toNat (0:Int)))))))+carry8)).tdiv 1000000000),t18,t19,t20,t25,t26,qI (t27+1),()))))))))))
 (some (Ex.exit 2,(b1,out5,i6,x7,carry8,t18,t19,t20,t25,t26,t27,())))
def qDJ (x:(List Int)×(List Int)×(List Int)×Int×Int×Unit):Option (Ex×((List Int)×(List Int)×(List Int)×Int×Int×Unit)):=
 let b1:=x.1
 let out5:=x.2.1
 let t18:=x.2.2.1
 let t19:=x.2.2.2.1
 let t20:=x.2.2.2.2.1
 cond (decide (t20 < t19))
 (grd (decide (0<=t20)&&decide (t20 < t18.length)) (
 (qPA qOL (b1,out5,t20,t18.getD t20.toNat (0:Int),0,t18,t19,t20,b1,(b1.length:Int),0,())).bind fun y1=>
 cond (Ex.same y1.1 (Ex.exit 2))
 (grd (decide (0<=qI (y1.2.2.2.1+(y1.2.1.length:Int)))&&decide (qI (y1.2.2.2.1+(y1.2.1.length:Int)) < y1.2.2.1.length)) (grd (decide ((qI (y1.2.2.2.1+(y1.2.1.length:Int))).toNat < y1.2.2.1.length)) (some (Ex.normal,(y1.2.1,y1.2.2.1.set ((qI (y1.2.2.2.1+(y1.2.1.length:Int))).toNat) (IntKind.u32.wrap (y1.2.2.2.2.2.1)),y1.2.2.2.2.2.2.1,y1.2.2.2.2.2.2.2.1,qI (y1.2.2.2.2.2.2.2.2.1+1),())))))
 (none)))
 (some (Ex.exit 0,(b1,out5,t18,t19,t20,())))
def qWL (a0:List Int) (b1:List Int):Option (((List Int)×Unit)×Unit):=
 grd (decide (0<=qI ((a0.length:Int)+(b1.length:Int)))&&decide (qI ((a0.length:Int)+(b1.length:Int))<=qI ((a0.length:Int)+(b1.length:Int)))&&decide (qI ((a0.length:Int)+(b1.length:Int))<=qKF)) (
 (qPA qDJ (b1,List.replicate (qI ((a0.length:Int)+(b1.length:Int))).toNat (0:Int),a0,(a0.length:Int),0,())).bind fun y1=>
 cond (Ex.same y1.1 (Ex.exit 0))
 ((qLG y1.2.2.1).bind fun r2=>
 some ((r2.1.1,()),()))
 (none))
def qIO (x:(List Int)×(List Int)×(List Int)×Int×Int×Int×Unit):Option (Ex×((List Int)×(List Int)×(List Int)×Int×Int×Int×Unit)):=
 let a0:=x.1
 let b1:=x.2.1
 let out5:=x.2.2.1
 let carry6:=x.2.2.2.1
 let t20:=x.2.2.2.2.1
 let t21:=x.2.2.2.2.2.1
 cond (decide (t21 < t20))
 ((qET a0 t21).bind fun r1=>
 (qET b1 t21).bind fun r2=>
 grd ((1000000000:Int) !=0) (grd (decide (out5.length+([(IntKind.u32.wrap ((IntKind.u32.wrap (r1.1.1+r2.1.1))+carry6)).tmod 1000000000]:List Int).length<=qKF)) (grd ((1000000000:Int) !=0) (some (Ex.normal,(a0,b1,out5++([(IntKind.u32.wrap ((IntKind.u32.wrap (r1.1.1+r2.1.1))+carry6)).tmod 1000000000]:List Int),IntKind.u32.wrap ((IntKind.u32.wrap ((IntKind.u32.wrap (r1.1.1+r2.1.1))+carry6)).tdiv 1000000000),t20,qI (t21+1),()))))))
 (some (Ex.exit 0,(a0,b1,out5,carry6,t20,t21,())))
def qDS (a0:List Int) (b1:List Int):Option (((List Int)×Unit)×Unit):=
 grd (decide (0<=(0:Int))&&decide ((0:Int)<=qI ((qSc (a0.length:Int) (b1.length:Int))+1))&&decide (qI ((qSc (a0.length:Int) (b1.length:Int))+1)<=qKF)) (
 (qPA qIO (a0,b1,List.replicate (0:Int).toNat (0:Int),0,qSc (a0.length:Int) (b1.length:Int),0,())).bind fun y1=>
 cond (Ex.same y1.1 (Ex.exit 0))
 (grd (decide (y1.2.2.2.1.length+([y1.2.2.2.2.1]:List Int).length<=qKF)) (
 (qLG (y1.2.2.2.1++([y1.2.2.2.2.1]:List Int))).bind fun r2=>
 some ((r2.1.1,()),())))
 (none))
def qJR (neg0:Bool) (num1:List Int) (den2:List Int):Option ((Rt×Unit)×Unit):=
 (qCy num1 den2).bind fun r1=>
 (qNK r1.1.1).bind fun r2=>
 cond (!r2.1.1)
 ((qSI num1 r1.1.1).bind fun r3=>
 (qSI den2 r1.1.1).bind fun r4=>
 some (((neg0,r3.1.1,r4.1.1),()),()))
 (some (((neg0,num1,den2),()),()))
def qNL (x:(List Int)×(List Int)×(List Int)×Int×Int×Int×Unit):Option (Ex×((List Int)×(List Int)×(List Int)×Int×Int×Int×Unit)):=
 let a0:=x.1
 let b1:=x.2.1
 let out5:=x.2.2.1
 let borrow6:=x.2.2.2.1
 let t13:=x.2.2.2.2.1
 let t14:=x.2.2.2.2.2.1
 cond (decide (t14 < t13))
 (grd (decide (0<=t14)&&decide (t14 < a0.length)) (
 (qET b1 t14).bind fun r1=>
 cond (decide ((qI ((qI ((qI (a0.getD t14.toNat (0:Int))) - (qI (r1.1.1)))) - borrow6)) < (0:Int)))
 (grd (decide (out5.length+([IntKind.u32.wrap (qI ((qI ((qI ((qI (a0.getD t14.toNat (0:Int))) - (qI (r1.1.1)))) - borrow6))+1000000000))]:List Int).length<=qKF)) (some (Ex.normal,(a0,b1,out5++([IntKind.u32.wrap (qI ((qI ((qI ((qI (a0.getD t14.toNat (0:Int))) - (qI (r1.1.1)))) - borrow6))+1000000000))]:List Int),1,t13,qI (t14+1),()))))
 (grd (decide (out5.length+([IntKind.u32.wrap (qI ((qI ((qI (a0.getD t14.toNat (0:Int))) - (qI (r1.1.1)))) - borrow6))]:List Int).length<=qKF)) (some (Ex.normal,(a0,b1,out5++([IntKind.u32.wrap (qI ((qI ((qI (a0.getD t14.toNat (0:Int))) - (qI (r1.1.1)))) - borrow6))]:List Int),0,t13,qI (t14+1),()))))))
 (some (Ex.exit 0,(a0,b1,out5,borrow6,t13,t14,())))
def qCQ (a0:List Int) (b1:List Int):Option (((List Int)×Unit)×Unit):=
 grd (decide (0<=(0:Int))&&decide ((0:Int)<=(a0.length:Int))&&decide ((a0.length:Int)<=qKF)) (
 (qPA qNL (a0,b1,List.replicate (0:Int).toNat (0:Int),0,(a0.length:Int),0,())).bind fun y1=>
 cond (Ex.same y1.1 (Ex.exit 0))
 ((qLG y1.2.2.2.1).bind fun r2=>
 some ((r2.1.1,()),()))
 (none))
def qXZ (x0:Rt) (y1:Rt):Option ((Rt×Unit)×Unit):=
 (qWL x0.2.1 y1.2.2).bind fun r1=>
 (qWL y1.2.1 x0.2.2).bind fun r2=>
 (qWL x0.2.2 y1.2.2).bind fun r3=>
 cond (x0.1==y1.1)
 ((qDS r1.1.1 r2.1.1).bind fun r4=>
 (qJR x0.1 r4.1.1 r3.1.1).bind fun r5=>
 some (((r5.1.1.1,r5.1.1.2.1,r5.1.1.2.2),()),()))
 ((qQQ r1.1.1 r2.1.1).bind fun r6=>
 cond (decide (r6.1.1>=0))
 ((qCQ r1.1.1 r2.1.1).bind fun r7=>
 (qJR x0.1 r7.1.1 r3.1.1).bind fun r8=>
 some (((r8.1.1.1,r8.1.1.2.1,r8.1.1.2.2),()),()))
 ((qCQ r2.1.1 r1.1.1).bind fun r9=>
 (qJR y1.1 r9.1.1 r3.1.1).bind fun r10=>
 some (((r10.1.1.1,r10.1.1.2.1,r10.1.1.2.2),()),())))
def qQA (b0:Unit×List Int) (s1:qBs):Option ((Int×Bool×Unit)×((Unit×List Int)×Unit)):=
 (qFF ((),b0.2)).bind fun r1=>
 grd (decide (r1.2.1.2.length+(s1.map fun c=>((c.toNat:Nat):Int)).length<=qKF)) (some (((s1.length:Int),false,()),((),r1.2.1.2++(s1.map fun c=>((c.toNat:Nat):Int))),()))
def qSJ (v:Int) (i:Nat) (x:(Unit×List Int)×Unit):Option ((Unit×List Int)×Unit):=
 let b3:=x.1
 (qJF (qU (v)) 10).bind fun r1=>
 grd (decide (0<=(r1.1.1.length:Int))&&decide ((r1.1.1.length:Int)<=([48,48,48,48,48,48,48,48,48]:qBs).length)) (
 (qQA ((),b3.2) (([48,48,48,48,48,48,48,48,48]:qBs).drop (r1.1.1.length:Int).toNat)).bind fun r2=>
 (qQA ((),r2.2.1.2) r1.1.1).bind fun r3=>
 some (((),r3.2.1.2),()))
def qBM (y:(Unit×List Int)×Unit) (o:(Unit×List Int)×Unit):(Unit×List Int)×Unit:=(o.1,())
def qUM (y:(Unit×List Int)×Unit):(Unit×List Int)×Unit:=(y.1,())
def qWM (a0:List Int):Option ((qBs×Unit)×Unit):=
 cond ((a0.length:Int)==0)
 (some ((([48]:qBs),()),()))
 (grd (decide (0<=qI ((a0.length:Int) - (1:Int)))&&decide (qI ((a0.length:Int) - (1:Int)) < a0.length)) (
 (qJF (qU (a0.getD (qI ((a0.length:Int) - (1:Int))).toNat (0:Int))) 10).bind fun r1=>
 (qQA ((),([]:List Int)) r1.1.1).bind fun r2=>
 grd (decide (0<=qI ((a0.length:Int) - (1:Int)))&&decide (qI ((a0.length:Int) - (1:Int))<=a0.length)) (
 grd (decide ((a0.take (qI ((a0.length:Int) - (1:Int))).toNat).length<=qKF)) (((foldO (fun p y=>(qSJ p.1 p.2 y).bind fun o=>some (qBM y o)) (a0.take (qI ((a0.length:Int) - (1:Int))).toNat).zipIdx.reverse (((),r2.2.1.2),())).bind fun y=>some ((),qUM y)).bind fun y3=>
 (qUE ((),y3.2.1.2)).bind fun r4=>
 some ((r4.1.1,()),())))))
def qGL (x0:Rt):Option ((qBs×Unit)×Unit):=
 (qWM x0.2.1).bind fun r1=>
 cond (x0.1)
 (cond (decide ((x0.2.1.length:Int) > (0:Int)))
 (grd (decide (([45]:qBs).length+r1.1.1.length<=qGP)) (
 (qNK x0.2.2).bind fun r2=>
 cond (!r2.1.1)
 ((qWM x0.2.2).bind fun r3=>
 grd (decide (([47]:qBs).length+r3.1.1.length<=qGP)) (grd (decide ((([45]:qBs)++r1.1.1).length+(([47]:qBs)++r3.1.1).length<=qGP)) (some (((([45]:qBs)++r1.1.1)++(([47]:qBs)++r3.1.1),()),()))))
 (some ((([45]:qBs)++r1.1.1,()),()))))
 ((qNK x0.2.2).bind fun r4=>
 cond (!r4.1.1)
 ((qWM x0.2.2).bind fun r5=>
 grd (decide (([47]:qBs).length+r5.1.1.length<=qGP)) (grd (decide (r1.1.1.length+(([47]:qBs)++r5.1.1).length<=qGP)) (some ((r1.1.1++(([47]:qBs)++r5.1.1),()),()))))
 (some ((r1.1.1,()),()))))
 ((qNK x0.2.2).bind fun r6=>
 cond (!r6.1.1)
 ((qWM x0.2.2).bind fun r7=>
 grd (decide (([47]:qBs).length+r7.1.1.length<=qGP)) (grd (decide (r1.1.1.length+(([47]:qBs)++r7.1.1).length<=qGP)) (some ((r1.1.1++(([47]:qBs)++r7.1.1),()),()))))
 (some ((r1.1.1,()),())))
def qNf (x0:Rt) (y1:Rt):Option ((qBs×Unit)×Unit):=
 (qXZ (x0.1,x0.2.1,x0.2.2) (y1.1,y1.2.1,y1.2.2)).bind fun r1=>
 (qGL (r1.1.1.1,r1.1.1.2.1,r1.1.1.2.2)).bind fun r2=>
 some ((r2.1.1,()),())
def qRD (a0:qBs) (b1:qBs) (small2:Unit) (all3:Unit):Option ((qBs×Unit)×Unit):=
 (qDC a0).bind fun r1=>
 (qDC b1).bind fun r2=>
 cond (r1.1.2.1)
 (cond (r2.1.2.1)
 ((qEh (r1.1.1.1,r1.1.1.2) (r2.1.1.1,r2.1.1.2)).bind fun r3=>
 some ((r3.1.1,()),()))
 ((qLH a0).bind fun r4=>
 (qLH b1).bind fun r5=>
 cond (!r4.1.2.1)
 (some ((([]:qBs),()),()))
 (cond (!r5.1.2.1)
 (some ((([]:qBs),()),()))
 ((qNf (r4.1.1.1,r4.1.1.2.1,r4.1.1.2.2) (r5.1.1.1,r5.1.1.2.1,r5.1.1.2.2)).bind fun r6=>
 some ((r6.1.1,()),())))))
 ((qLH a0).bind fun r7=>
 (qLH b1).bind fun r8=>
 cond (!r7.1.2.1)
 (some ((([]:qBs),()),()))
 (cond (!r8.1.2.1)
 (some ((([]:qBs),()),()))
 ((qNf (r7.1.1.1,r7.1.1.2.1,r7.1.1.2.2) (r8.1.1.1,r8.1.1.2.1,r8.1.1.2.2)).bind fun r9=>
 some ((r9.1.1,()),()))))
def qNy (a0:qBs) (b1:qBs):Option ((qBs×Unit)×Unit):=
 (qRD a0 b1 () ()).bind fun r1=>
 some ((r1.1.1,()),())
def qLag (a0:qBs) (b1:qBs):Option ((qBs×Unit)×Unit):=
 (qKag b1).bind fun r1=>
 (qNy a0 r1.1.1).bind fun r2=>
 some ((r2.1.1,()),())
def qSW (a0:qBs) (b1:qBs):Option ((Int×Unit)×Unit):=
 (qLag a0 b1).bind fun r1=>
 (qMb r1.1.1).bind fun r2=>
 some ((r2.1.1,()),())
def qIM (x:Val×Bool×(List qBs)×Int×Int×Unit):Option (Ex×(Val×Bool×(List qBs)×Int×Int×Unit)):=
 let v1:=x.1
 let t2:=x.2.1
 let t13:=x.2.2.1
 let t14:=x.2.2.2.1
 let t15:=x.2.2.2.2.1
 cond (decide (t15 < t14))
 (grd (decide (0<=t15)&&decide (t15 < t13.length)) (
 (qJI (t13.getD t15.toNat ([]:qBs))).bind fun r1=>
 cond (!r1.1.1)
 (some (Ex.ret,(v1,false,t13,t14,t15,())))
 (grd (decide (0<=t15)&&decide (t15 < v1.2.2.2.2.length)) (
 (qJI (v1.2.2.2.2.getD t15.toNat ([]:qBs))).bind fun r2=>
 cond (!r2.1.1)
 (some (Ex.ret,(v1,false,t13,t14,t15,())))
 (grd (decide (0<=t15)&&decide (t15 < v1.2.2.2.2.length)) (
 cond ((v1.2.2.2.2.getD t15.toNat ([]:qBs))==v1.2.2.1)
 (some (Ex.ret,(v1,false,t13,t14,t15,())))
 (cond (decide (t15 > (0:Int)))
 (grd (decide (0<=qI (t15 - (1:Int)))&&decide (qI (t15 - (1:Int)) < v1.2.2.2.1.length)) (
 (qSW (v1.2.2.2.1.getD (qI (t15 - (1:Int))).toNat ([]:qBs)) (t13.getD t15.toNat ([]:qBs))).bind fun r3=>
 cond (decide (r3.1.1>=0))
 (some (Ex.ret,(v1,false,t13,t14,t15,())))
 (some (Ex.normal,(v1,t2,t13,t14,qI (t15+1),())))))
 (some (Ex.normal,(v1,t2,t13,t14,qI (t15+1),()))))))))))
 (some (Ex.exit 0,(v1,t2,t13,t14,t15,())))
def qXV (v0:Val):Option ((Bool×Unit)×Unit):=
 cond ((v0.2.2.2.1.length:Int) !=(v0.2.2.2.2.length:Int))
 (some ((false,()),()))
 ((qPA qIM (v0,false,v0.2.2.2.1,(v0.2.2.2.1.length:Int),0,())).bind fun y1=>
 cond (Ex.same y1.1 (Ex.exit 0))
 (some ((true,()),()))
 (cond (Ex.same y1.1 Ex.ret)
 (some ((y1.2.2.1,()),()))
 (none)))
def qRV (v0:Val):Option ((Bool×Unit)×Unit):=
 cond (v0.1==1)
 (cond (v0.2.2.1==([]:qBs))
 ((qHW v0).bind fun r1=>
 some ((r1.1.1,()),()))
 (some ((false,()),())))
 (cond (v0.1==2)
 (cond (!v0.2.1)
 ((qJI v0.2.2.1).bind fun r2=>
 cond (r2.1.1)
 ((qHW v0).bind fun r3=>
 some ((r3.1.1,()),()))
 (some ((false,()),())))
 (some ((false,()),())))
 (cond (v0.1==3)
 (cond (!v0.2.1)
 ((qNR v0.2.2.1).bind fun r4=>
 cond (r4.1.1)
 ((qHW v0).bind fun r5=>
 some ((r5.1.1,()),()))
 (some ((false,()),())))
 (some ((false,()),())))
 (cond (v0.1==4)
 (cond (!v0.2.1)
 ((qJI v0.2.2.1).bind fun r6=>
 cond (r6.1.1)
 ((qXV v0).bind fun r7=>
 some ((r7.1.1,()),()))
 (some ((false,()),())))
 (some ((false,()),())))
 (some ((false,()),())))))
def qTab (v0:Val):Option ((Bool×Unit)×Unit):=
 cond (v0.1==4)
 ((qRV v0).bind fun r1=>
 some ((r1.1.1,()),()))
 (some ((false,()),()))
def qOc (v0:Val):Option (((Int×Bool×qBs×(List qBs)×List qBs)×Unit)×Unit):=
 (qQE v0.2.2.2.1).bind fun r1=>
 (qQE v0.2.2.2.2).bind fun r2=>
 some (((v0.1,v0.2.1,v0.2.2.1,r1.1.1,r2.1.1),()),())
def qNA (x:(List qBs)×qBs×Unit×Int×Int×Int×Unit):Option (Ex×((List qBs)×qBs×Unit×Int×Int×Int×Unit)):=
 let x0:=x.1
 let target1:=x.2.1
 let cmp2:=x.2.2.1
 let n8:=x.2.2.2.1
 let i9:=x.2.2.2.2.1
 let j10:=x.2.2.2.2.2.1
 cond (decide (i9 < j10))
 (grd (decide (0<=(1:Int))) (
 grd (decide (0<=qI ((qU (qI (i9+j10))).fdiv (2 ^ min (1:Int).toNat IntKind.u64.bits)))&&decide (qI ((qU (qI (i9+j10))).fdiv (2 ^ min (1:Int).toNat IntKind.u64.bits)) < x0.length)) (
 (qSW (x0.getD (qI ((qU (qI (i9+j10))).fdiv (2 ^ min (1:Int).toNat IntKind.u64.bits))).toNat ([]:qBs)) target1).bind fun r1=>
 cond (decide (r1.1.1 < (0:Int)))
 (some (Ex.normal,(x0,target1,(),n8,qI ((qI ((qU (qI (i9+j10))).fdiv (2 ^ min (1:Int).toNat IntKind.u64.bits)))+1),j10,())))
 (some (Ex.normal,(x0,target1,(),n8,i9,qI ((qU (qI (i9+j10))).fdiv (2 ^ min (1:Int).toNat IntKind.u64.bits)),()))))))
 (some (Ex.exit 0,(x0,target1,(),n8,i9,j10,())))
def qTA (x0:List qBs) (target1:qBs) (cmp2:Unit):Option ((Int×Bool×Unit)×Unit):=
 (qPA qNA (x0,target1,(),(x0.length:Int),0,(x0.length:Int),())).bind fun y1=>
 cond (Ex.same y1.1 (Ex.exit 0))
 (cond (decide (y1.2.2.2.2.2.1 < y1.2.2.2.2.1))
 (grd (decide (0<=y1.2.2.2.2.2.1)&&decide (y1.2.2.2.2.2.1 < y1.2.1.length)) (
 (qSW (y1.2.1.getD y1.2.2.2.2.2.1.toNat ([]:qBs)) y1.2.2.1).bind fun r2=>
 some ((y1.2.2.2.2.2.1,r2.1.1==0,()),())))
 (some ((y1.2.2.2.2.2.1,false,()),())))
 (none)
def qEc (a0:Val) (index1:qBs):Option ((Int×Bool×Unit)×Unit):=
 (qTA a0.2.2.2.1 index1 ()).bind fun r1=>
 some ((r1.1.1,r1.1.2.1,()),())
def qMc (a0:Val) (index1:qBs) (num2:qBs):Option ((Val×Unit)×Unit):=
 (qOc a0).bind fun r1=>
 (qEc r1.1.1 index1).bind fun r2=>
 cond (r2.1.2.1)
 (cond (num2==r1.1.1.2.2.1)
 ((qSC r1.1.1.2.2.2.1 r2.1.1 (qI (r2.1.1+1))).bind fun r3=>
 (qSC r1.1.1.2.2.2.2 r2.1.1 (qI (r2.1.1+1))).bind fun r4=>
 some (((r1.1.1.1,r1.1.1.2.1,r1.1.1.2.2.1,r3.2.1.take r3.1.1,r4.2.1.take r4.1.1),()),()))
 (cond (r2.1.2.1)
 (grd (decide (0<=r2.1.1)&&decide (r2.1.1 < r1.1.1.2.2.2.2.length)) (grd (decide (r2.1.1.toNat < r1.1.1.2.2.2.2.length)) (some (((r1.1.1.1,r1.1.1.2.1,r1.1.1.2.2.1,r1.1.1.2.2.2.1,r1.1.1.2.2.2.2.set r2.1.1.toNat num2),()),()))))
 (cond (!(num2==r1.1.1.2.2.1))
 ((qNB r1.1.1.2.2.2.1 r2.1.1 ([index1]:List qBs)).bind fun r5=>
 (qNB r1.1.1.2.2.2.2 r2.1.1 ([num2]:List qBs)).bind fun r6=>
 some (((r1.1.1.1,r1.1.1.2.1,r1.1.1.2.2.1,r5.1.1,r6.1.1),()),()))
 (some ((r1.1.1,()),())))))
 (cond (r2.1.2.1)
 (grd (decide (0<=r2.1.1)&&decide (r2.1.1 < r1.1.1.2.2.2.2.length)) (grd (decide (r2.1.1.toNat < r1.1.1.2.2.2.2.length)) (some (((r1.1.1.1,r1.1.1.2.1,r1.1.1.2.2.1,r1.1.1.2.2.2.1,r1.1.1.2.2.2.2.set r2.1.1.toNat num2),()),()))))
 (cond (!(num2==r1.1.1.2.2.1))
 ((qNB r1.1.1.2.2.2.1 r2.1.1 ([index1]:List qBs)).bind fun r7=>
 (qNB r1.1.1.2.2.2.2 r2.1.1 ([num2]:List qBs)).bind fun r8=>
 some (((r1.1.1.1,r1.1.1.2.1,r1.1.1.2.2.1,r7.1.1,r8.1.1),()),()))
 (some ((r1.1.1,()),()))))
def qCu (a0:Val) (index1:qBs) (num2:qBs):Option ((Val×Int×Unit)×Unit):=
 (qTab a0).bind fun r1=>
 cond (!r1.1.1)
 (some ((((0:Int),false,([]:qBs),([]:List qBs),([]:List qBs)),1,()),()))
 ((qJI index1).bind fun r2=>
 cond (!r2.1.1)
 (some ((((0:Int),false,([]:qBs),([]:List qBs),([]:List qBs)),1,()),()))
 ((qJI num2).bind fun r3=>
 cond (!r3.1.1)
 (some ((((0:Int),false,([]:qBs),([]:List qBs),([]:List qBs)),1,()),()))
 ((qMc a0 index1 num2).bind fun r4=>
 some ((r4.1.1,0,()),()))))
def qXO (sort0:Int) (num1:qBs):Option (((List Nod)×Unit)×Unit):=
 some ((([(3,sort0,([]:qBs),num1,(0:Int))]:List Nod),()),())
def qRU (x:(List (List Nod))×(List Nod)×Int×Unit):Option (Ex×((List (List Nod))×(List Nod)×Int×Unit)):=
 let kids1:=x.1
 let t5:=x.2.1
 let i6:=x.2.2.1
 cond (decide (i6 < (kids1.length:Int)))
 (grd (decide (0<=i6)&&decide (i6 < kids1.length)) (grd (decide (t5.length+(kids1.getD i6.toNat ([]:List Nod)).length<=qKF)) (some (Ex.normal,(kids1,t5++(kids1.getD i6.toNat ([]:List Nod)),qI (i6+1),())))))
 (some (Ex.exit 0,(kids1,t5,i6,())))
def qFd (n0:Nod) (kids1:List (List Nod)):Option (((List Nod)×Unit)×Unit):=
 (qPA qRU (kids1,([(n0.1,n0.2.1,n0.2.2.1,n0.2.2.2.1,(kids1.length:Int))]:List Nod),0,())).bind fun y1=>
 cond (Ex.same y1.1 (Ex.exit 0))
 (some ((y1.2.2.1,()),()))
 (none)
def qRG (x:(List (qBs×Val))×Bool×(List (qBs×Val))×(List qEK)×Int×Int×Unit):Option (Ex×((List (qBs×Val))×Bool×(List (qBs×Val))×(List qEK)×Int×Int×Unit)):=
 let t2:=x.1
 let t3:=x.2.1
 let out4:=x.2.2.1
 let t10:=x.2.2.2.1
 let t11:=x.2.2.2.2.1
 let t12:=x.2.2.2.2.2.1
 cond (decide (t12 < t11))
 (grd (decide (0<=t12)&&decide (t12 < t10.length)) (
 (qRV ((t10.getD t12.toNat qJU).2)).bind fun r1=>
 cond (!r1.1.1)
 (some (Ex.ret,(([]:List (qBs×Val)),false,out4,t10,t11,t12,())))
 (cond (!((qMD ((t10.getD t12.toNat qJU).1) out4).isSome))
 (some (Ex.normal,(t2,t3,qQc ((t10.getD t12.toNat qJU).1) ((t10.getD t12.toNat qJU).2) out4,t10,t11,qI (t12+1),())))
 (some (Ex.normal,(t2,t3,out4,t10,t11,qI (t12+1),()))))))
 (some (Ex.exit 0,(t2,t3,out4,t10,t11,t12,())))
def qIS (env0:List qEK):Option (((List (qBs×Val))×Bool×Unit)×Unit):=
 (qPA qRG (([]:List (qBs×Val)),false,([]:List (qBs×Val)),env0,(env0.length:Int),0,())).bind fun y1=>
 cond (Ex.same y1.1 (Ex.exit 0))
 (some ((y1.2.2.2.1,true,()),()))
 (cond (Ex.same y1.1 Ex.ret)
 (some ((y1.2.1,y1.2.2.1,()),()))
 (none))
def qOd (v0:Val):Option ((Bool×Unit)×Unit):=
 (qRV v0).bind fun r1=>
 some ((!r1.1.1,()),())
def qXD (x:(List Val)×Unit×Int×Int×Int×Unit):Option (Ex×((List Val)×Unit×Int×Int×Int×Unit)):=
 let s0:=x.1
 let f1:=x.2.1
 let t4:=x.2.2.1
 let t7:=x.2.2.2.1
 let t8:=x.2.2.2.2.1
 cond (decide (t8 < t7))
 (grd (decide (0<=t8)&&decide (t8 < s0.length)) (
 (qOd (s0.getD t8.toNat qND)).bind fun r1=>
 cond (r1.1.1)
 (some (Ex.ret,(s0,(),t8,t7,t8,())))
 (some (Ex.normal,(s0,(),t4,t7,qI (t8+1),())))))
 (some (Ex.exit 0,(s0,(),t4,t7,t8,())))
def qSE (s0:List Val) (f1:Unit):Option ((Int×Unit)×Unit):=
 (qPA qXD (s0,(),0,(s0.length:Int),0,())).bind fun y1=>
 cond (Ex.same y1.1 (Ex.exit 0))
 (some ((-1,()),()))
 (cond (Ex.same y1.1 Ex.ret)
 (some ((y1.2.2.2.1,()),()))
 (none))
def qAE (s0:List Val) (f1:Unit):Option ((Bool×Unit)×Unit):=
 (qSE s0 ()).bind fun r1=>
 some ((decide (r1.1.1>=0),()),())
def qBc (l0:List Val):Option ((Bool×Unit)×Unit):=
 (qAE l0 ()).bind fun r1=>
 some ((!r1.1.1,()),())
def qNd (l0:List Val):Option ((Bool×Unit)×Unit):=
 (qBc l0).bind fun r1=>
 some ((!r1.1.1,()),())
def qWD (x:(List (List Val))×Unit×Int×Int×Int×Unit):Option (Ex×((List (List Val))×Unit×Int×Int×Int×Unit)):=
 let s0:=x.1
 let f1:=x.2.1
 let t4:=x.2.2.1
 let t7:=x.2.2.2.1
 let t8:=x.2.2.2.2.1
 cond (decide (t8 < t7))
 (grd (decide (0<=t8)&&decide (t8 < s0.length)) (
 (qNd (s0.getD t8.toNat ([]:List Val))).bind fun r1=>
 cond (r1.1.1)
 (some (Ex.ret,(s0,(),t8,t7,t8,())))
 (some (Ex.normal,(s0,(),t4,t7,qI (t8+1),())))))
 (some (Ex.exit 0,(s0,(),t4,t7,t8,())))
def qRE (s0:List (List Val)) (f1:Unit):Option ((Int×Unit)×Unit):=
 (qPA qWD (s0,(),0,(s0.length:Int),0,())).bind fun y1=>
 cond (Ex.same y1.1 (Ex.exit 0))
 (some ((-1,()),()))
 (cond (Ex.same y1.1 Ex.ret)
 (some ((y1.2.2.2.1,()),()))
 (none))
def qVD (s0:List (List Val)) (f1:Unit):Option ((Bool×Unit)×Unit):=
 (qRE s0 ()).bind fun r1=>
 some ((decide (r1.1.1>=0),()),())
def qFZ (x:(List (qBs×Interp))×Bool×(List (qBs×Interp))×(List Interp)×Int×Int×Unit):Option (Ex×((List (qBs×Interp))×Bool×(List (qBs×Interp))×(List Interp)×Int×Int×Unit)):=
 let t2:=x.1
 let t3:=x.2.1
 let out4:=x.2.2.1
 let t10:=x.2.2.2.1
 let t11:=x.2.2.2.2.1
 let t12:=x.2.2.2.2.2.1
 cond (decide (t12 < t11))
 (grd (decide (0<=t12)&&decide (t12 < t10.length)) (
 cond (((((t10.getD t12.toNat qQH).2).1).length:Int) !=(((((t10.getD t12.toNat qQH).2).2).1).length:Int))
 (some (Ex.ret,(([]:List (qBs×Interp)),false,out4,t10,t11,t12,())))
 ((qBc ((((t10.getD t12.toNat qQH).2).2).1)).bind fun r1=>
 cond (!r1.1.1)
 (some (Ex.ret,(([]:List (qBs×Interp)),false,out4,t10,t11,t12,())))
 ((qRV ((((t10.getD t12.toNat qQH).2).2).2)).bind fun r2=>
 cond (!r2.1.1)
 (some (Ex.ret,(([]:List (qBs×Interp)),false,out4,t10,t11,t12,())))
 ((qVD (((t10.getD t12.toNat qQH).2).1) ()).bind fun r3=>
 cond (r3.1.1)
 (some (Ex.ret,(([]:List (qBs×Interp)),false,out4,t10,t11,t12,())))
 (cond (!((qMD ((t10.getD t12.toNat qQH).1) out4).isSome))
 (some (Ex.normal,(t2,t3,qQc ((t10.getD t12.toNat qQH).1) (t10.getD t12.toNat qQH) out4,t10,t11,qI (t12+1),())))
 (some (Ex.normal,(t2,t3,out4,t10,t11,qI (t12+1),())))))))))
 (some (Ex.exit 0,(t2,t3,out4,t10,t11,t12,())))
def qDc (fns0:List Interp):Option (((List (qBs×Interp))×Bool×Unit)×Unit):=
 (qPA qFZ (([]:List (qBs×Interp)),false,([]:List (qBs×Interp)),fns0,(fns0.length:Int),0,())).bind fun y1=>
 cond (Ex.same y1.1 (Ex.exit 0))
 (some ((y1.2.2.2.1,true,()),()))
 (cond (Ex.same y1.1 Ex.ret)
 (some ((y1.2.1,y1.2.2.1,()),()))
 (none))
def qOW (sort0:Int) (a1:qBs):Option ((Bool×Unit)×Unit):=
 cond (sort0==2)
 ((qJI a1).bind fun r1=>
 cond (r1.1.1)
 (some ((true,()),()))
 (cond (sort0==3)
 ((qNR a1).bind fun r2=>
 some ((r2.1.1,()),()))
 (some ((false,()),()))))
 (cond (sort0==3)
 ((qNR a1).bind fun r3=>
 some ((r3.1.1,()),()))
 (some ((false,()),())))
def qNZ (s0:Int):Option ((Bool×Unit)×Unit):=
 cond (decide (s0>=1))
 (some ((decide (s0<=4),()),()))
 (some ((false,()),()))
def qQY (c0:Int):Option ((Bool×Unit)×Unit):=
 cond (decide (c0>=97))
 (cond (decide (c0<=122))
 (some ((true,()),()))
 (cond (decide (c0>=65))
 (cond (decide (c0<=90))
 (some ((true,()),()))
 (cond (c0==95)
 (some ((true,()),()))
 (cond (c0==36)
 (some ((true,()),()))
 (some ((c0==33,()),())))))
 (cond (c0==95)
 (some ((true,()),()))
 (cond (c0==36)
 (some ((true,()),()))
 (some ((c0==33,()),()))))))
 (cond (decide (c0>=65))
 (cond (decide (c0<=90))
 (some ((true,()),()))
 (cond (c0==95)
 (some ((true,()),()))
 (cond (c0==36)
 (some ((true,()),()))
 (some ((c0==33,()),())))))
 (cond (c0==95)
 (some ((true,()),()))
 (cond (c0==36)
 (some ((true,()),()))
 (some ((c0==33,()),())))))
def qBag (s0:qBs):Option ((Bool×Unit)×Unit):=
 cond (s0==([97,110,100]:qBs))
 (some ((true,()),()))
 (cond (s0==([111,114]:qBs))
 (some ((true,()),()))
 (cond (s0==([110,111,116]:qBs))
 (some ((true,()),()))
 (cond (s0==([105,116,101]:qBs))
 (some ((true,()),()))
 (cond (s0==([116,114,117,101]:qBs))
 (some ((true,()),()))
 (cond (s0==([102,97,108,115,101]:qBs))
 (some ((true,()),()))
 (cond (s0==([108,101,116]:qBs))
 (some ((true,()),()))
 (cond (s0==([102,111,114,97,108,108]:qBs))
 (some ((true,()),()))
 (cond (s0==([101,120,105,115,116,115]:qBs))
 (some ((true,()),()))
 (cond (s0==([100,105,115,116,105,110,99,116]:qBs))
 (some ((true,()),()))
 (cond (s0==([100,105,118]:qBs))
 (some ((true,()),()))
 (cond (s0==([109,111,100]:qBs))
 (some ((true,()),()))
 (cond (s0==([115,101,108,101,99,116]:qBs))
 (some ((true,()),()))
 (cond (s0==([115,116,111,114,101]:qBs))
 (some ((true,()),()))
 (cond (s0==([99,111,110,115,116]:qBs))
 (some ((true,()),()))
 (cond (s0==([66,111,111,108]:qBs))
 (some ((true,()),()))
 (cond (s0==([73,110,116]:qBs))
 (some ((true,()),()))
 (cond (s0==([82,101,97,108]:qBs))
 (some ((true,()),()))
 (cond (s0==([65,114,114,97,121]:qBs))
 (some ((true,()),()))
 (some ((false,()),()))))))))))))))))))))
def qEQ (x:qBs×Bool×Int×Int×Unit):Option (Ex×(qBs×Bool×Int×Int×Unit)):=
 let s0:=x.1
 let t2:=x.2.1
 let t23:=x.2.2.1
 let t24:=x.2.2.2.1
 cond (decide (t24 < t23))
 (grd (decide (0<=t24)&&decide (t24 < s0.length)) (
 (qQY ((s0.getD t24.toNat 0).toNat:Int)).bind fun r1=>
 cond (!r1.1.1)
 (cond (decide (((s0.getD t24.toNat 0).toNat:Int)>=48))
 (cond (!(decide (((s0.getD t24.toNat 0).toNat:Int)<=57)))
 (cond (((s0.getD t24.toNat 0).toNat:Int) !=(46:Int))
 (cond (((s0.getD t24.toNat 0).toNat:Int) !=(64:Int))
 (some (Ex.ret,(s0,false,t23,t24,())))
 (some (Ex.normal,(s0,t2,t23,qI (t24+1),()))))
 (some (Ex.normal,(s0,t2,t23,qI (t24+1),()))))
 (some (Ex.normal,(s0,t2,t23,qI (t24+1),()))))
 (cond (((s0.getD t24.toNat 0).toNat:Int) !=(46:Int))
 (cond (((s0.getD t24.toNat 0).toNat:Int) !=(64:Int))
 (some (Ex.ret,(s0,false,t23,t24,())))
 (some (Ex.normal,(s0,t2,t23,qI (t24+1),()))))
 (some (Ex.normal,(s0,t2,t23,qI (t24+1),())))))
 (some (Ex.normal,(s0,t2,t23,qI (t24+1),())))))
 (some (Ex.exit 0,(s0,t2,t23,t24,())))
def qCa (s0:qBs):Option ((Bool×Unit)×Unit):=
 cond (s0==([]:qBs))
 (some ((false,()),()))
 (cond (decide ((s0.length:Int) > (40:Int)))
 (some ((false,()),()))
 (grd (decide (0<=(0:Int))&&decide ((0:Int) < s0.length)) (
 (qQY ((s0.getD (0:Int).toNat 0).toNat:Int)).bind fun r1=>
 cond (!r1.1.1)
 (some ((false,()),()))
 ((qBag s0).bind fun r2=>
 cond (r2.1.1)
 (some ((false,()),()))
 ((qPA qEQ (s0,false,(s0.length:Int),0,())).bind fun y3=>
 cond (Ex.same y3.1 (Ex.exit 0))
 (some ((true,()),()))
 (cond (Ex.same y3.1 Ex.ret)
 (some ((y3.2.2.1,()),()))
 (none)))))))
def qAf (n0:Nod):Option ((Bool×Unit)×Unit):=
 cond (n0.1==3)
 (cond (n0.2.2.1==([]:qBs))
 ((qOW n0.2.1 n0.2.2.2.1).bind fun r1=>
 some ((r1.1.1,()),()))
 (some ((false,()),())))
 (cond (n0.1==4)
 ((qNZ n0.2.1).bind fun r2=>
 cond (r2.1.1)
 ((qCa n0.2.2.1).bind fun r3=>
 cond (r3.1.1)
 (some ((n0.2.2.2.1==([]:qBs),()),()))
 (some ((false,()),())))
 (some ((false,()),())))
 (cond (n0.1==5)
 ((qNZ n0.2.1).bind fun r4=>
 cond (r4.1.1)
 ((qCa n0.2.2.1).bind fun r5=>
 cond (r5.1.1)
 (some ((n0.2.2.2.1==([]:qBs),()),()))
 (some ((false,()),())))
 (some ((false,()),())))
 (cond (n0.1==16)
 (cond (n0.2.1==0)
 (cond (n0.2.2.1==([]:qBs))
 ((qJI n0.2.2.2.1).bind fun r6=>
 cond (r6.1.1)
 ((qMb n0.2.2.2.1).bind fun r7=>
 some ((decide (r7.1.1 > (0:Int)),()),()))
 (some ((false,()),())))
 (some ((false,()),())))
 (some ((false,()),())))
 (cond (n0.1==17)
 (cond (n0.2.1==0)
 (cond (n0.2.2.1==([]:qBs))
 ((qJI n0.2.2.2.1).bind fun r8=>
 cond (r8.1.1)
 ((qMb n0.2.2.2.1).bind fun r9=>
 some ((decide (r9.1.1 > (0:Int)),()),()))
 (some ((false,()),())))
 (some ((false,()),())))
 (some ((false,()),())))
 (cond (decide (n0.1>=1))
 (cond (decide (n0.1<=20))
 (cond (n0.2.1==0)
 (cond (n0.2.2.1==([]:qBs))
 (some ((n0.2.2.2.1==([]:qBs),()),()))
 (some ((false,()),())))
 (some ((false,()),())))
 (some ((false,()),())))
 (some ((false,()),())))))))
def qHg (op0:Int) (n1:Int):Option ((Bool×Unit)×Unit):=
 cond (op0==1)
 (some ((n1==0,()),()))
 (cond (op0==2)
 (some ((n1==0,()),()))
 (cond (op0==3)
 (some ((n1==0,()),()))
 (cond (op0==4)
 (some ((n1==0,()),()))
 (cond (op0==5)
 (cond (decide (n1>=1))
 (some ((decide (n1<=40),()),()))
 (some ((false,()),())))
 (cond (op0==6)
 (some ((n1==1,()),()))
 (cond (op0==16)
 (some ((n1==1,()),()))
 (cond (op0==17)
 (some ((n1==1,()),()))
 (cond (op0==20)
 (some ((n1==1,()),()))
 (cond (op0==7)
 (some ((true,()),()))
 (cond (op0==8)
 (some ((true,()),()))
 (cond (op0==14)
 (some ((decide (n1>=1),()),()))
 (cond (op0==10)
 (some ((n1==3,()),()))
 (cond (op0==19)
 (some ((n1==3,()),()))
 (some ((n1==2,()),())))))))))))))))
def qPt (x0:Int) (a1:Option Int):Option ((Bool×Unit)×Unit):=
 grd (a1.isSome) (some ((x0 !=(a1.getD (0:Int)),()),()))
def qOB (x:(List Int)×(Option Int)×Int×Int×Int×Unit):Option (Ex×((List Int)×(Option Int)×Int×Int×Int×Unit)):=
 let s0:=x.1
 let f1:=x.2.1
 let t4:=x.2.2.1
 let t7:=x.2.2.2.1
 let t8:=x.2.2.2.2.1
 cond (decide (t8 < t7))
 (grd (decide (0<=t8)&&decide (t8 < s0.length)) (
 (qPt (s0.getD t8.toNat (0:Int)) f1).bind fun r1=>
 cond (r1.1.1)
 (some (Ex.ret,(s0,f1,t8,t7,t8,())))
 (some (Ex.normal,(s0,f1,t4,t7,qI (t8+1),())))))
 (some (Ex.exit 0,(s0,f1,t4,t7,t8,())))
def qOE (s0:List Int) (f1:Option Int):Option ((Int×Unit)×Unit):=
 (qPA qOB (s0,f1,0,(s0.length:Int),0,())).bind fun y1=>
 cond (Ex.same y1.1 (Ex.exit 0))
 (some ((-1,()),()))
 (cond (Ex.same y1.1 Ex.ret)
 (some ((y1.2.2.2.1,()),()))
 (none))
def qJD (s0:List Int) (f1:Option Int):Option ((Bool×Unit)×Unit):=
 (qOE s0 f1).bind fun r1=>
 some ((decide (r1.1.1>=0),()),())
def qVa (sorts0:List Int) (s1:Int):Option ((Bool×Unit)×Unit):=
 (qJD sorts0 (some s1)).bind fun r1=>
 some ((!r1.1.1,()),())
def qMH (is0:Bool) (sort1:Int):Option ((Int×Unit)×Unit):=
 cond (is0)
 (some ((sort1,()),()))
 (some ((0,()),()))
def qXP (s0:Int):Option ((Bool×Unit)×Unit):=
 cond (s0==2)
 (some ((true,()),()))
 (some ((s0==3,()),()))
def qMe (n0:Nod) (sorts1:List Int):Option ((Int×Unit)×Unit):=
 cond (n0.1==3)
 (some ((n0.2.1,()),()))
 (cond (n0.1==4)
 (some ((n0.2.1,()),()))
 (cond (n0.1==5)
 (some ((n0.2.1,()),()))
 (cond (n0.1==1)
 ((qVa sorts1 1).bind fun r1=>
 (qMH r1.1.1 1).bind fun r2=>
 some ((r2.1.1,()),()))
 (cond (n0.1==2)
 ((qVa sorts1 1).bind fun r3=>
 (qMH r3.1.1 1).bind fun r4=>
 some ((r4.1.1,()),()))
 (cond (n0.1==6)
 ((qVa sorts1 1).bind fun r5=>
 (qMH r5.1.1 1).bind fun r6=>
 some ((r6.1.1,()),()))
 (cond (n0.1==7)
 ((qVa sorts1 1).bind fun r7=>
 (qMH r7.1.1 1).bind fun r8=>
 some ((r8.1.1,()),()))
 (cond (n0.1==8)
 ((qVa sorts1 1).bind fun r9=>
 (qMH r9.1.1 1).bind fun r10=>
 some ((r10.1.1,()),()))
 (cond (n0.1==9)
 ((qVa sorts1 1).bind fun r11=>
 (qMH r11.1.1 1).bind fun r12=>
 some ((r12.1.1,()),()))
 (cond (n0.1==10)
 (grd (decide (0<=(0:Int))&&decide ((0:Int) < sorts1.length)) (
 cond ((sorts1.getD (0:Int).toNat (0:Int))==1)
 (grd (decide (0<=(1:Int))&&decide ((1:Int) < sorts1.length)) (
 grd (decide (0<=(2:Int))&&decide ((2:Int) < sorts1.length)) (
 grd (decide (0<=(1:Int))&&decide ((1:Int) < sorts1.length)) (
 (qMH ((sorts1.getD (1:Int).toNat (0:Int))==(sorts1.getD (2:Int).toNat (0:Int))) (sorts1.getD (1:Int).toNat (0:Int))).bind fun r13=>
 some ((r13.1.1,()),())))))
 (grd (decide (0<=(1:Int))&&decide ((1:Int) < sorts1.length)) (
 (qMH false (sorts1.getD (1:Int).toNat (0:Int))).bind fun r14=>
 some ((r14.1.1,()),())))))
 (cond (n0.1==11)
 (grd (decide (0<=(0:Int))&&decide ((0:Int) < sorts1.length)) (
 grd (decide (0<=(1:Int))&&decide ((1:Int) < sorts1.length)) (
 (qMH ((sorts1.getD (0:Int).toNat (0:Int))==(sorts1.getD (1:Int).toNat (0:Int))) 1).bind fun r15=>
 some ((r15.1.1,()),()))))
 (cond (n0.1==12)
 (grd (decide (0<=(0:Int))&&decide ((0:Int) < sorts1.length)) (
 (qXP (sorts1.getD (0:Int).toNat (0:Int))).bind fun r16=>
 cond (r16.1.1)
 (grd (decide (0<=(0:Int))&&decide ((0:Int) < sorts1.length)) (
 (qVa sorts1 (sorts1.getD (0:Int).toNat (0:Int))).bind fun r17=>
 (qMH r17.1.1 1).bind fun r18=>
 some ((r18.1.1,()),())))
 ((qMH false 1).bind fun r19=>
 some ((r19.1.1,()),()))))
 (cond (n0.1==13)
 (grd (decide (0<=(0:Int))&&decide ((0:Int) < sorts1.length)) (
 (qXP (sorts1.getD (0:Int).toNat (0:Int))).bind fun r20=>
 cond (r20.1.1)
 (grd (decide (0<=(0:Int))&&decide ((0:Int) < sorts1.length)) (
 (qVa sorts1 (sorts1.getD (0:Int).toNat (0:Int))).bind fun r21=>
 (qMH r21.1.1 1).bind fun r22=>
 some ((r22.1.1,()),())))
 ((qMH false 1).bind fun r23=>
 some ((r23.1.1,()),()))))
 (cond (n0.1==14)
 (grd (decide (0<=(0:Int))&&decide ((0:Int) < sorts1.length)) (
 (qXP (sorts1.getD (0:Int).toNat (0:Int))).bind fun r24=>
 cond (r24.1.1)
 (grd (decide (0<=(0:Int))&&decide ((0:Int) < sorts1.length)) (
 (qVa sorts1 (sorts1.getD (0:Int).toNat (0:Int))).bind fun r25=>
 grd (decide (0<=(0:Int))&&decide ((0:Int) < sorts1.length)) (
 (qMH r25.1.1 (sorts1.getD (0:Int).toNat (0:Int))).bind fun r26=>
 some ((r26.1.1,()),()))))
 (grd (decide (0<=(0:Int))&&decide ((0:Int) < sorts1.length)) (
 (qMH false (sorts1.getD (0:Int).toNat (0:Int))).bind fun r27=>
 some ((r27.1.1,()),())))))
 (cond (n0.1==15)
 (grd (decide (0<=(0:Int))&&decide ((0:Int) < sorts1.length)) (
 (qXP (sorts1.getD (0:Int).toNat (0:Int))).bind fun r28=>
 cond (r28.1.1)
 (grd (decide (0<=(0:Int))&&decide ((0:Int) < sorts1.length)) (
 (qVa sorts1 (sorts1.getD (0:Int).toNat (0:Int))).bind fun r29=>
 grd (decide (0<=(0:Int))&&decide ((0:Int) < sorts1.length)) (
 (qMH r29.1.1 (sorts1.getD (0:Int).toNat (0:Int))).bind fun r30=>
 some ((r30.1.1,()),()))))
 (grd (decide (0<=(0:Int))&&decide ((0:Int) < sorts1.length)) (
 (qMH false (sorts1.getD (0:Int).toNat (0:Int))).bind fun r31=>
 some ((r31.1.1,()),())))))
 (cond (n0.1==16)
 (grd (decide (0<=(0:Int))&&decide ((0:Int) < sorts1.length)) (
 (qMH ((sorts1.getD (0:Int).toNat (0:Int))==2) 2).bind fun r32=>
 some ((r32.1.1,()),())))
 (cond (n0.1==17)
 (grd (decide (0<=(0:Int))&&decide ((0:Int) < sorts1.length)) (
 (qMH ((sorts1.getD (0:Int).toNat (0:Int))==2) 2).bind fun r33=>
 some ((r33.1.1,()),())))
 (cond (n0.1==18)
 (grd (decide (0<=(0:Int))&&decide ((0:Int) < sorts1.length)) (
 cond ((sorts1.getD (0:Int).toNat (0:Int))==4)
 (grd (decide (0<=(1:Int))&&decide ((1:Int) < sorts1.length)) (
 (qMH ((sorts1.getD (1:Int).toNat (0:Int))==2) 2).bind fun r34=>
 some ((r34.1.1,()),())))
 ((qMH false 2).bind fun r35=>
 some ((r35.1.1,()),()))))
 (cond (n0.1==19)
 (grd (decide (0<=(0:Int))&&decide ((0:Int) < sorts1.length)) (
 cond ((sorts1.getD (0:Int).toNat (0:Int))==4)
 (grd (decide (0<=(1:Int))&&decide ((1:Int)<=sorts1.length)) (
 (qVa (sorts1.drop (1:Int).toNat) 2).bind fun r36=>
 (qMH r36.1.1 4).bind fun r37=>
 some ((r37.1.1,()),())))
 ((qMH false 4).bind fun r38=>
 some ((r38.1.1,()),()))))
 (grd (decide (0<=(0:Int))&&decide ((0:Int) < sorts1.length)) (
 (qMH ((sorts1.getD (0:Int).toNat (0:Int))==2) 4).bind fun r39=>
 some ((r39.1.1,()),())))))))))))))))))))))
def qRP (v:Int) (i:Nat) (x:((List Nod)×List (Int×Sml))×(Int×Sml)×(List Int)×Unit):Option (((List Nod)×List (Int×Sml))×(Int×Sml)×(List Int)×Unit):=
 let v4:=x.1
 let p9:=x.2.1
 let sorts10:=x.2.2.1
 grd (decide (0<=v)&&decide (v < v4.2.length)) (grd (decide (v.toNat < v4.2.length)) (grd (decide (sorts10.length+([(v4.2.getD v.toNat ((0:Int),(0:Int),(0:Int))).1]:List Int).length<=qKF)) (grd (decide (0<=v)&&decide (v < v4.2.length)) (grd (decide (v.toNat < v4.2.length)) (grd (decide (0<=v)&&decide (v < v4.2.length)) (grd (decide (v.toNat < v4.2.length)) (some (v4,(p9.1,qSc p9.2.1 (qI ((((v4.2.getD v.toNat ((0:Int),(0:Int),(0:Int))).2).1)+1)),((v4.2.getD v.toNat ((0:Int),(0:Int),(0:Int))).2).2),sorts10++([(v4.2.getD v.toNat ((0:Int),(0:Int),(0:Int))).1]:List Int),()))))))))
def qKL (y:((List Nod)×List (Int×Sml))×(Int×Sml)×(List Int)×Unit) (o:((List Nod)×List (Int×Sml))×(Int×Sml)×(List Int)×Unit):((List Nod)×List (Int×Sml))×(Int×Sml)×(List Int)×Unit:=(o.1,o.2.1,o.2.2.1,())
def qGR (y:((List Nod)×List (Int×Sml))×(Int×Sml)×(List Int)×Unit):((List Nod)×List (Int×Sml))×(Int×Sml)×(List Int)×Unit:=(y.1,y.2.1,y.2.2.1,())
def qFO (x:(List Nod)×(Option qQR)×Bool×((List Nod)×List (Int×Sml))×(List Int)×Int×Unit):Option (Ex×((List Nod)×(Option qQR)×Bool×((List Nod)×List (Int×Sml))×(List Int)×Int×Unit)):=
 let t0:=x.1
 let t2:=x.2.1
 let t3:=x.2.2.1
 let v4:=x.2.2.2.1
 let roots5:=x.2.2.2.2.1
 let i6:=x.2.2.2.2.2.1
 cond (decide (i6>=0))
 (grd (decide (0<=i6)&&decide (i6 < t0.length)) (
 cond (decide ((((((t0.getD i6.toNat qPE).2).2).2).2) < (0:Int)))
 (some (Ex.ret,(t0,(none:Option qQR),false,v4,roots5,i6,())))
 (cond (decide ((((((t0.getD i6.toNat qPE).2).2).2).2) > (roots5.length:Int)))
 (some (Ex.ret,(t0,(none:Option qQR),false,v4,roots5,i6,())))
 ((qAf (t0.getD i6.toNat qPE)).bind fun r1=>
 cond (!r1.1.1)
 (some (Ex.ret,(t0,(none:Option qQR),false,v4,roots5,i6,())))
 ((qHg ((t0.getD i6.toNat qPE).1) (((((t0.getD i6.toNat qPE).2).2).2).2)).bind fun r2=>
 cond (!r2.1.1)
 (some (Ex.ret,(t0,(none:Option qQR),false,v4,roots5,i6,())))
 (grd (decide (0<=qI ((roots5.length:Int) - (((((t0.getD i6.toNat qPE).2).2).2).2)))&&decide (qI ((roots5.length:Int) - (((((t0.getD i6.toNat qPE).2).2).2).2))<=roots5.length)) (
 grd (decide (((roots5.drop ((qI ((roots5.length:Int) - (((((t0.getD i6.toNat qPE).2).2).2).2))).toNat)).take (roots5.length - (qI ((roots5.length:Int) - (((((t0.getD i6.toNat qPE).2).2).2).2))).toNat)).length<=qKF)) (((foldO (fun p y=>(qRP p.1 p.2 y).bind fun o=>some (qKL y o)) ((roots5.drop ((qI ((roots5.length:Int) - (((((t0.getD i6.toNat qPE).2).2).2).2))).toNat)).take (roots5.length - (qI ((roots5.length:Int) - (((((t0.getD i6.toNat qPE).2).2).2).2))).toNat)).zipIdx.reverse (v4,((0:Int),1,qI (i6+1)),([]:List Int),())).bind fun y=>some ((),qGR y)).bind fun y3=>
 (qMe (t0.getD i6.toNat qPE) y3.2.2.2.1).bind fun r4=>
 cond (r4.1.1==0)
 (some (Ex.ret,(t0,(none:Option qQR),false,y3.2.1,roots5,i6,())))
 (cond (((t0.getD i6.toNat qPE).1)==15)
 (grd (decide (0<=qI (i6+1))&&decide (qI (i6+1) < t0.length)) (
 cond (((t0.getD (qI (i6+1)).toNat qPE).1) !=(3:Int))
 (some (Ex.ret,(t0,(none:Option qQR),false,y3.2.1,roots5,i6,())))
 (grd (decide (0<=i6)&&decide (i6 < y3.2.1.2.length)) (grd (decide (i6.toNat < y3.2.1.2.length)) (grd (decide (0<=qI ((roots5.length:Int) - (((((t0.getD i6.toNat qPE).2).2).2).2)))&&decide (qI ((roots5.length:Int) - (((((t0.getD i6.toNat qPE).2).2).2).2))<=roots5.length)) (grd (decide (((qI ((roots5.length:Int) - (((((t0.getD i6.toNat qPE).2).2).2).2))).toNat)+([i6]:List Int).length<=qKF)) (some (Ex.normal,(t0,t2,t3,(y3.2.1.1,y3.2.1.2.set i6.toNat (r4.1.1,y3.2.2.1.2)),roots5.take ((qI ((roots5.length:Int) - (((((t0.getD i6.toNat qPE).2).2).2).2))).toNat)++([i6]:List Int),qI (i6 - (1:Int)),())))))))))
 (grd (decide (0<=i6)&&decide (i6 < y3.2.1.2.length)) (grd (decide (i6.toNat < y3.2.1.2.length)) (grd (decide (0<=qI ((roots5.length:Int) - (((((t0.getD i6.toNat qPE).2).2).2).2)))&&decide (qI ((roots5.length:Int) - (((((t0.getD i6.toNat qPE).2).2).2).2))<=roots5.length)) (grd (decide (((qI ((roots5.length:Int) - (((((t0.getD i6.toNat qPE).2).2).2).2))).toNat)+([i6]:List Int).length<=qKF)) (some (Ex.normal,(t0,t2,t3,(y3.2.1.1,y3.2.1.2.set i6.toNat (r4.1.1,y3.2.2.1.2)),roots5.take ((qI ((roots5.length:Int) - (((((t0.getD i6.toNat qPE).2).2).2).2))).toNat)++([i6]:List Int),qI (i6 - (1:Int)),()))))))))))))))))
 (some (Ex.exit 0,(t0,t2,t3,v4,roots5,i6,())))
def qTv (t0:List Nod):Option (((Option qQR)×Bool×Unit)×Unit):=
 grd (decide (0<=(t0.length:Int))&&decide ((t0.length:Int)<=(t0.length:Int))&&decide ((t0.length:Int)<=qKF)) (
 (qPA qFO (t0,(none:Option qQR),false,(t0,List.replicate (t0.length:Int).toNat ((0:Int),(0:Int),(0:Int))),([]:List Int),qI ((t0.length:Int) - (1:Int)),())).bind fun y1=>
 cond (Ex.same y1.1 (Ex.exit 0))
 (some ((some y1.2.2.2.2.1,(y1.2.2.2.2.2.1.length:Int)==1,()),()))
 (cond (Ex.same y1.1 Ex.ret)
 (some ((y1.2.2.1,y1.2.2.2.1,()),()))
 (none)))
def qXQ (v0:Option qQR):Option ((Bool×Unit)×Unit):=
 grd (v0.isSome) (
 cond (decide ((((v0.getD qUN).1).length:Int) > (20000:Int)))
 (some ((true,()),()))
 (grd (v0.isSome) (grd (decide (0<=(0:Int))&&decide ((0:Int) < ((v0.getD qUN).2).length)) (some ((decide ((((((v0.getD qUN).2).getD (0:Int).toNat ((0:Int),(0:Int),(0:Int))).2).1) > (257:Int)),()),())))))
def qQK (x:(Option qQR)×(List Int)×Int×Int×Int×Unit):Option (Ex×((Option qQR)×(List Int)×Int×Int×Int×Unit)):=
 let v0:=x.1
 let out5:=x.2.1
 let at6:=x.2.2.1
 let t16:=x.2.2.2.1
 let t17:=x.2.2.2.2.1
 cond (decide (t17 < t16))
 (grd (decide (out5.length+([at6]:List Int).length<=qKF)) (grd (v0.isSome) (grd (decide (0<=at6)&&decide (at6 < ((v0.getD qUN).2).length)) (some (Ex.normal,(v0,out5++([at6]:List Int),((((v0.getD qUN).2).getD at6.toNat ((0:Int),(0:Int),(0:Int))).2).2,t16,qI (t17+1),()))))))
 (some (Ex.exit 0,(v0,out5,at6,t16,t17,())))
def qJQ (v0:Option qQR) (i1:Int):Option (((List Int)×Unit)×Unit):=
 grd (v0.isSome) (
 grd (decide (0<=i1)&&decide (i1 < ((v0.getD qUN).1).length)) (
 (qPA qQK (v0,([]:List Int),qI (i1+1),((((((v0.getD qUN).1).getD i1.toNat qPE).2).2).2).2,0,())).bind fun y1=>
 cond (Ex.same y1.1 (Ex.exit 0))
 (some ((y1.2.2.1,()),()))
 (none)))
def t_view_signature_s3 (x:(Option qQR)×(qBs×qCA)×(qBs×(List Int)×Int)×(List Int)×Int×Int×Unit):Option (Ex×((Option qQR)×(qBs×qCA)×(qBs×(List Int)×Int)×(List Int)×Int×Int×Unit)):=
 let v0:=x.1
 let t4:=x.2.1
 let f5:=x.2.2.1
 let t27:=x.2.2.2.1
 let t28:=x.2.2.2.2.1
 let t29:=x.2.2.2.2.2.1
 cond (decide (t29 < t28))
 (grd (decide (0<=t29)&&decide (t29 < t27.length)) (grd (v0.isSome) (grd (decide (0<=t27.getD t29.toNat (0:Int))&&decide (t27.getD t29.toNat (0:Int) < ((v0.getD qUN).2).length)) (grd (decide (f5.2.1.length+([(((v0.getD qUN).2).getD (t27.getD t29.toNat (0:Int)).toNat ((0:Int),(0:Int),(0:Int))).1]:List Int).length<=qKF)) (some (Ex.normal,(v0,t4,(f5.1,f5.2.1++([(((v0.getD qUN).2).getD (t27.getD t29.toNat (0:Int)).toNat ((0:Int),(0:Int),(0:Int))).1]:List Int),f5.2.2),t27,t28,qI (t29+1),())))))))
 (some (Ex.exit 0,(v0,t4,f5,t27,t28,t29,())))
def qRK (v0:Option qQR) (i1:Int):Option (((qBs×qCA)×Unit)×Unit):=
 grd (v0.isSome) (
 grd (decide (0<=i1)&&decide (i1 < ((v0.getD qUN).1).length)) (
 grd (v0.isSome) (
 grd (decide (0<=i1)&&decide (i1 < ((v0.getD qUN).1).length)) (
 (qJQ v0 i1).bind fun r1=>
 (qPA t_view_signature_s3 (v0,(([]:qBs),([]:List Int),(0:Int)),((((((v0.getD qUN).1).getD i1.toNat qPE).2).2).1,([]:List Int),((((v0.getD qUN).1).getD i1.toNat qPE).2).1),r1.1.1,(r1.1.1.length:Int),0,())).bind fun y2=>
 cond (Ex.same y2.1 (Ex.exit 0))
 (some ((y2.2.2.2.1,()),()))
 (none)))))
def qGE (x:(List Int)×(List Int)×Bool×Int×Int×Unit):Option (Ex×((List Int)×(List Int)×Bool×Int×Int×Unit)):=
 let s10:=x.1
 let s21:=x.2.1
 let t4:=x.2.2.1
 let t12:=x.2.2.2.1
 let t13:=x.2.2.2.2.1
 cond (decide (t13 < t12))
 (grd (decide (0<=t13)&&decide (t13 < s10.length)) (
 grd (decide (0<=t13)&&decide (t13 < s21.length)) (
 cond ((s10.getD t13.toNat (0:Int)) !=(s21.getD t13.toNat (0:Int)))
 (some (Ex.ret,(s10,s21,false,t12,t13,())))
 (some (Ex.normal,(s10,s21,t4,t12,qI (t13+1),()))))))
 (some (Ex.exit 0,(s10,s21,t4,t12,t13,())))
def qAH (s10:List Int) (s21:List Int):Option ((Bool×Unit)×Unit):=
 cond ((s10.length:Int) !=(s21.length:Int))
 (some ((false,()),()))
 ((qPA qGE (s10,s21,false,(s10.length:Int),0,())).bind fun y1=>
 cond (Ex.same y1.1 (Ex.exit 0))
 (some ((true,()),()))
 (cond (Ex.same y1.1 Ex.ret)
 (some ((y1.2.2.2.1,()),()))
 (none)))
def qSo (f0:qBs×qCA) (g1:qBs×qCA):Option ((Bool×Unit)×Unit):=
 cond (f0.1==g1.1)
 (cond (f0.2.2==g1.2.2)
 ((qAH f0.2.1 g1.2.1).bind fun r1=>
 some ((r1.1.1,()),()))
 (some ((false,()),())))
 (some ((false,()),()))
def qHF (x:(Option qQR)×(List Vr)×(List (qBs×qCA))×Bool×(List (qBs×Vr))×(List (qBs×qBs×qCA))×(List Vr)×(List (qBs×qCA))×(List Nod)×Int×Int×Unit):Option (Ex×((Option qQR)×(List Vr)×(List (qBs×qCA))×Bool×(List (qBs×Vr))×(List (qBs×qBs×qCA))×(List Vr)×(List (qBs×qCA))×(List Nod)×Int×Int×Unit)):=
 let v0:=x.1
 let t2:=x.2.1
 let t3:=x.2.2.1
 let t4:=x.2.2.2.1
 let vars5:=x.2.2.2.2.1
 let funcs6:=x.2.2.2.2.2.1
 let l7:=x.2.2.2.2.2.2.1
 let m8:=x.2.2.2.2.2.2.2.1
 let t25:=x.2.2.2.2.2.2.2.2.1
 let t26:=x.2.2.2.2.2.2.2.2.2.1
 let t27:=x.2.2.2.2.2.2.2.2.2.2.1
 cond (decide (t27 < t26))
 (grd (decide (0<=t27)&&decide (t27 < t25.length)) (
 cond (((t25.getD t27.toNat qPE).1)==4)
 (cond (!((qMD ((((t25.getD t27.toNat qPE).2).2).1) vars5).isSome))
 (grd (decide (l7.length+([((((t25.getD t27.toNat qPE).2).2).1,((t25.getD t27.toNat qPE).2).1)]:List Vr).length<=qKF)) (
 cond ((qMD ((((t25.getD t27.toNat qPE).2).2).1) funcs6).isSome)
 (some (Ex.ret,(v0,([]:List Vr),([]:List (qBs×qCA)),false,qQc ((((t25.getD t27.toNat qPE).2).2).1) ((((t25.getD t27.toNat qPE).2).2).1,((t25.getD t27.toNat qPE).2).1) vars5,funcs6,l7++([((((t25.getD t27.toNat qPE).2).2).1,((t25.getD t27.toNat qPE).2).1)]:List Vr),m8,t25,t26,t27,())))
 (cond ((((t25.getD t27.toNat qPE).2).1) !=(((t25.getD t27.toNat qPE).2).1))
 (some (Ex.ret,(v0,([]:List Vr),([]:List (qBs×qCA)),false,qQc ((((t25.getD t27.toNat qPE).2).2).1) ((((t25.getD t27.toNat qPE).2).2).1,((t25.getD t27.toNat qPE).2).1) vars5,funcs6,l7++([((((t25.getD t27.toNat qPE).2).2).1,((t25.getD t27.toNat qPE).2).1)]:List Vr),m8,t25,t26,t27,())))
 (some (Ex.normal,(v0,t2,t3,t4,qQc ((((t25.getD t27.toNat qPE).2).2).1) ((((t25.getD t27.toNat qPE).2).2).1,((t25.getD t27.toNat qPE).2).1) vars5,funcs6,l7++([((((t25.getD t27.toNat qPE).2).2).1,((t25.getD t27.toNat qPE).2).1)]:List Vr),m8,t25,t26,qI (t27+1),()))))))
 (cond ((qMD ((((t25.getD t27.toNat qPE).2).2).1) funcs6).isSome)
 (some (Ex.ret,(v0,([]:List Vr),([]:List (qBs×qCA)),false,vars5,funcs6,l7,m8,t25,t26,t27,())))
 (cond ((((qMD ((((t25.getD t27.toNat qPE).2).2).1) vars5).getD zVr).2) !=(((t25.getD t27.toNat qPE).2).1))
 (some (Ex.ret,(v0,([]:List Vr),([]:List (qBs×qCA)),false,vars5,funcs6,l7,m8,t25,t26,t27,())))
 (some (Ex.normal,(v0,t2,t3,t4,vars5,funcs6,l7,m8,t25,t26,qI (t27+1),()))))))
 (cond (((t25.getD t27.toNat qPE).1)==5)
 ((qRK v0 t27).bind fun r1=>
 cond (!((qMD ((((t25.getD t27.toNat qPE).2).2).1) funcs6).isSome))
 (grd (decide (m8.length+([r1.1.1]:List (qBs×qCA)).length<=qKF)) (
 cond ((qMD ((((t25.getD t27.toNat qPE).2).2).1) vars5).isSome)
 (some (Ex.ret,(v0,([]:List Vr),([]:List (qBs×qCA)),false,vars5,qQc ((((t25.getD t27.toNat qPE).2).2).1) r1.1.1 funcs6,l7,m8++([r1.1.1]:List (qBs×qCA)),t25,t26,t27,())))
 ((qSo r1.1.1 r1.1.1).bind fun r2=>
 cond (!r2.1.1)
 (some (Ex.ret,(v0,([]:List Vr),([]:List (qBs×qCA)),false,vars5,qQc ((((t25.getD t27.toNat qPE).2).2).1) r1.1.1 funcs6,l7,m8++([r1.1.1]:List (qBs×qCA)),t25,t26,t27,())))
 (some (Ex.normal,(v0,t2,t3,t4,vars5,qQc ((((t25.getD t27.toNat qPE).2).2).1) r1.1.1 funcs6,l7,m8++([r1.1.1]:List (qBs×qCA)),t25,t26,qI (t27+1),()))))))
 (cond ((qMD ((((t25.getD t27.toNat qPE).2).2).1) vars5).isSome)
 (some (Ex.ret,(v0,([]:List Vr),([]:List (qBs×qCA)),false,vars5,funcs6,l7,m8,t25,t26,t27,())))
 ((qSo ((qMD ((((t25.getD t27.toNat qPE).2).2).1) funcs6).getD (([]:qBs),([]:List Int),(0:Int))) r1.1.1).bind fun r3=>
 cond (!r3.1.1)
 (some (Ex.ret,(v0,([]:List Vr),([]:List (qBs×qCA)),false,vars5,funcs6,l7,m8,t25,t26,t27,())))
 (some (Ex.normal,(v0,t2,t3,t4,vars5,funcs6,l7,m8,t25,t26,qI (t27+1),()))))))
 (some (Ex.normal,(v0,t2,t3,t4,vars5,funcs6,l7,m8,t25,t26,qI (t27+1),()))))))
 (some (Ex.exit 0,(v0,t2,t3,t4,vars5,funcs6,l7,m8,t25,t26,t27,())))
def qGO (v0:Option qQR):Option (((List Vr)×(List (qBs×qCA))×Bool×Unit)×Unit):=
 grd (v0.isSome) (
 (qPA qHF (v0,([]:List Vr),([]:List (qBs×qCA)),false,([]:List (qBs×Vr)),([]:List (qBs×qBs×qCA)),([]:List Vr),([]:List (qBs×qCA)),(v0.getD qUN).1,(((v0.getD qUN).1).length:Int),0,())).bind fun y1=>
 cond (Ex.same y1.1 (Ex.exit 0))
 (some ((y1.2.2.2.2.2.2.2.1,y1.2.2.2.2.2.2.2.2.1,true,()),()))
 (cond (Ex.same y1.1 Ex.ret)
 (some ((y1.2.2.1,y1.2.2.2.1,y1.2.2.2.2.1,()),()))
 (none)))
def qCc (t0:List Nod):Option (((Option qQR)×Bool×Unit)×Unit):=
 cond ((t0.length:Int)==0)
 (some (((none:Option qQR),false,()),()))
 (cond (decide ((t0.length:Int) > (20000:Int)))
 (some (((none:Option qQR),false,()),()))
 ((qTv t0).bind fun r1=>
 cond (!r1.1.2.1)
 (some (((none:Option qQR),false,()),()))
 ((qXQ r1.1.1).bind fun r2=>
 cond (r2.1.1)
 (some (((none:Option qQR),false,()),()))
 ((qGO r1.1.1).bind fun r3=>
 cond (!r3.1.2.2.1)
 (some (((none:Option qQR),false,()),()))
 (some ((r1.1.1,true,()),()))))))
def qVg (t0:List Nod):Option ((Bool×Unit)×Unit):=
 (qCc t0).bind fun r1=>
 some ((r1.1.2.1,()),())
def qFK (e0:Evl) (n1:Nod):Option ((Val×Int×Unit)×(Evl×Unit)):=
 cond (!((qMD n1.2.2.1 e0.2.2.1).isSome))
 (some ((((0:Int),false,([]:qBs),([]:List qBs),([]:List qBs)),7,()),e0,()))
 (cond ((((qMD n1.2.2.1 e0.2.2.1).getD qND).1) !=n1.2.1)
 (some ((((0:Int),false,([]:qBs),([]:List qBs),([]:List qBs)),3,()),e0,()))
 (some (((qMD n1.2.2.1 e0.2.2.1).getD qND,0,()),e0,())))
def qHC (x:(List qBs)×(List qBs)×Bool×Int×Int×Unit):Option (Ex×((List qBs)×(List qBs)×Bool×Int×Int×Unit)):=
 let s10:=x.1
 let s21:=x.2.1
 let t4:=x.2.2.1
 let t12:=x.2.2.2.1
 let t13:=x.2.2.2.2.1
 cond (decide (t13 < t12))
 (grd (decide (0<=t13)&&decide (t13 < s10.length)) (
 grd (decide (0<=t13)&&decide (t13 < s21.length)) (
 cond (!((s10.getD t13.toNat ([]:qBs))==(s21.getD t13.toNat ([]:qBs))))
 (some (Ex.ret,(s10,s21,false,t12,t13,())))
 (some (Ex.normal,(s10,s21,t4,t12,qI (t13+1),()))))))
 (some (Ex.exit 0,(s10,s21,t4,t12,t13,())))
def qXC (s10:List qBs) (s21:List qBs):Option ((Bool×Unit)×Unit):=
 cond ((s10.length:Int) !=(s21.length:Int))
 (some ((false,()),()))
 ((qPA qHC (s10,s21,false,(s10.length:Int),0,())).bind fun y1=>
 cond (Ex.same y1.1 (Ex.exit 0))
 (some ((true,()),()))
 (cond (Ex.same y1.1 Ex.ret)
 (some ((y1.2.2.2.1,()),()))
 (none)))
def qPX (a0:Val) (b1:Val):Option ((Bool×Unit)×Unit):=
 cond (a0.1==b1.1)
 (cond (a0.2.1==b1.2.1)
 (cond (a0.2.2.1==b1.2.2.1)
 ((qXC a0.2.2.2.1 b1.2.2.2.1).bind fun r1=>
 cond (r1.1.1)
 ((qXC a0.2.2.2.2 b1.2.2.2.2).bind fun r2=>
 some ((r2.1.1,()),()))
 (some ((false,()),())))
 (some ((false,()),())))
 (some ((false,()),())))
 (some ((false,()),()))
def qPC (x:(List Val)×Unit×Bool×(List Val)×Int×Int×Unit):Option (Ex×((List Val)×Unit×Bool×(List Val)×Int×Int×Unit)):=
 let s21:=x.1
 let eq2:=x.2.1
 let t6:=x.2.2.1
 let t15:=x.2.2.2.1
 let t16:=x.2.2.2.2.1
 let t17:=x.2.2.2.2.2.1
 cond (decide (t17 < t16))
 (grd (decide (0<=t17)&&decide (t17 < t15.length)) (
 grd (decide (0<=t17)&&decide (t17 < s21.length)) (
 (qPX (t15.getD t17.toNat qND) (s21.getD t17.toNat qND)).bind fun r1=>
 cond (!r1.1.1)
 (some (Ex.ret,(s21,(),false,t15,t16,t17,())))
 (some (Ex.normal,(s21,(),t6,t15,t16,qI (t17+1),()))))))
 (some (Ex.exit 0,(s21,(),t6,t15,t16,t17,())))
def qBD (s10:List Val) (s21:List Val) (eq2:Unit):Option ((Bool×Unit)×Unit):=
 cond ((s10.length:Int) !=(s21.length:Int))
 (some ((false,()),()))
 ((qPA qPC (s21,(),false,s10,(s10.length:Int),0,())).bind fun y1=>
 cond (Ex.same y1.1 (Ex.exit 0))
 (some ((true,()),()))
 (cond (Ex.same y1.1 Ex.ret)
 (some ((y1.2.2.2.1,()),()))
 (none)))
def qKR (l0:List Val) (a1:Option (List Val)):Option ((Bool×Unit)×Unit):=
 grd (a1.isSome) (
 (qBD l0 (a1.getD ([]:List Val)) ()).bind fun r1=>
 some ((r1.1.1,()),()))
def qVC (x:(List (List Val))×(Option (List Val))×Int×Int×Int×Unit):Option (Ex×((List (List Val))×(Option (List Val))×Int×Int×Int×Unit)):=
 let s0:=x.1
 let f1:=x.2.1
 let t4:=x.2.2.1
 let t7:=x.2.2.2.1
 let t8:=x.2.2.2.2.1
 cond (decide (t8 < t7))
 (grd (decide (0<=t8)&&decide (t8 < s0.length)) (
 (qKR (s0.getD t8.toNat ([]:List Val)) f1).bind fun r1=>
 cond (r1.1.1)
 (some (Ex.ret,(s0,f1,t8,t7,t8,())))
 (some (Ex.normal,(s0,f1,t4,t7,qI (t8+1),())))))
 (some (Ex.exit 0,(s0,f1,t4,t7,t8,())))
def qED (s0:List (List Val)) (f1:Option (List Val)):Option ((Int×Unit)×Unit):=
 (qPA qVC (s0,f1,0,(s0.length:Int),0,())).bind fun y1=>
 cond (Ex.same y1.1 (Ex.exit 0))
 (some ((-1,()),()))
 (cond (Ex.same y1.1 Ex.ret)
 (some ((y1.2.2.2.1,()),()))
 (none))
def qNO (e0:Evl) (n1:Nod) (kids2:List Val):Option ((Val×Int×Unit)×(Evl×Unit)):=
 cond (!((qMD n1.2.2.1 e0.2.2.2).isSome))
 (some ((((0:Int),false,([]:qBs),([]:List qBs),([]:List qBs)),4,()),e0,()))
 ((qED ((((qMD n1.2.2.1 e0.2.2.2).getD qQH).2).1) (some kids2)).bind fun r1=>
 cond (decide (r1.1.1>=0))
 (grd (decide (0<=r1.1.1)&&decide (r1.1.1 < (((((qMD n1.2.2.1 e0.2.2.2).getD qQH).2).2).1).length)) (
 cond ((((((((qMD n1.2.2.1 e0.2.2.2).getD qQH).2).2).1).getD r1.1.1.toNat qND).1) !=n1.2.1)
 (some ((((0:Int),false,([]:qBs),([]:List qBs),([]:List qBs)),3,()),e0,()))
 (some (((((((qMD n1.2.2.1 e0.2.2.2).getD qQH).2).2).1).getD r1.1.1.toNat qND,0,()),e0,()))))
 (cond (((((((qMD n1.2.2.1 e0.2.2.2).getD qQH).2).2).2).1) !=n1.2.1)
 (some ((((0:Int),false,([]:qBs),([]:List qBs),([]:List qBs)),3,()),e0,()))
 (some ((((((qMD n1.2.2.1 e0.2.2.2).getD qQH).2).2).2,0,()),e0,()))))
def qHr (v0:Val):Option ((Bool×Unit)×Unit):=
 some ((!v0.2.1,()),())
def qIB (x:(List Val)×Unit×Int×Int×Int×Unit):Option (Ex×((List Val)×Unit×Int×Int×Int×Unit)):=
 let s0:=x.1
 let f1:=x.2.1
 let t4:=x.2.2.1
 let t7:=x.2.2.2.1
 let t8:=x.2.2.2.2.1
 cond (decide (t8 < t7))
 (grd (decide (0<=t8)&&decide (t8 < s0.length)) (
 (qHr (s0.getD t8.toNat qND)).bind fun r1=>
 cond (r1.1.1)
 (some (Ex.ret,(s0,(),t8,t7,t8,())))
 (some (Ex.normal,(s0,(),t4,t7,qI (t8+1),())))))
 (some (Ex.exit 0,(s0,(),t4,t7,t8,())))
def qUD (s0:List Val) (f1:Unit):Option ((Int×Unit)×Unit):=
 (qPA qIB (s0,(),0,(s0.length:Int),0,())).bind fun y1=>
 cond (Ex.same y1.1 (Ex.exit 0))
 (some ((-1,()),()))
 (cond (Ex.same y1.1 Ex.ret)
 (some ((y1.2.2.2.1,()),()))
 (none))
def qGB (s0:List Val) (f1:Unit):Option ((Bool×Unit)×Unit):=
 (qUD s0 ()).bind fun r1=>
 some ((decide (r1.1.1>=0),()),())
def qSO (is0:Bool):Option ((Val×Unit)×Unit):=
 some (((1,is0,([]:qBs),([]:List qBs),([]:List qBs)),()),())
def v_is (v0:Val):Option ((Bool×Unit)×Unit):=
 some ((v0.2.1,()),())
def qJB (x:(List Val)×Unit×Int×Int×Int×Unit):Option (Ex×((List Val)×Unit×Int×Int×Int×Unit)):=
 let s0:=x.1
 let f1:=x.2.1
 let t4:=x.2.2.1
 let t7:=x.2.2.2.1
 let t8:=x.2.2.2.2.1
 cond (decide (t8 < t7))
 (grd (decide (0<=t8)&&decide (t8 < s0.length)) (
 (v_is (s0.getD t8.toNat qND)).bind fun r1=>
 cond (r1.1.1)
 (some (Ex.ret,(s0,(),t8,t7,t8,())))
 (some (Ex.normal,(s0,(),t4,t7,qI (t8+1),())))))
 (some (Ex.exit 0,(s0,(),t4,t7,t8,())))
def qCE (s0:List Val) (f1:Unit):Option ((Int×Unit)×Unit):=
 (qPA qJB (s0,(),0,(s0.length:Int),0,())).bind fun y1=>
 cond (Ex.same y1.1 (Ex.exit 0))
 (some ((-1,()),()))
 (cond (Ex.same y1.1 Ex.ret)
 (some ((y1.2.2.2.1,()),()))
 (none))
def qKB (s0:List Val) (f1:Unit):Option ((Bool×Unit)×Unit):=
 (qCE s0 ()).bind fun r1=>
 some ((decide (r1.1.1>=0),()),())
def qPL (sort0:Int) (a1:qBs):Option ((Val×Unit)×Unit):=
 some (((sort0,false,a1,([]:List qBs),([]:List qBs)),()),())
def qPg (x0:Sml) (y1:Sml):Option ((qBs×Unit)×Unit):=
 (qCN (qI (x0.1 * y1.1)) (qI (x0.2 * y1.2))).bind fun r1=>
 some ((r1.1.1,()),())
def qIU (x0:Rt) (y1:Rt):Option ((Rt×Unit)×Unit):=
 (qWL x0.2.1 y1.2.1).bind fun r1=>
 (qWL x0.2.2 y1.2.2).bind fun r2=>
 (qJR (!(x0.1==y1.1)) r1.1.1 r2.1.1).bind fun r3=>
 some (((r3.1.1.1,r3.1.1.2.1,r3.1.1.2.2),()),())
def qMg (x0:Rt) (y1:Rt):Option ((qBs×Unit)×Unit):=
 (qIU (x0.1,x0.2.1,x0.2.2) (y1.1,y1.2.1,y1.2.2)).bind fun r1=>
 (qGL (r1.1.1.1,r1.1.1.2.1,r1.1.1.2.2)).bind fun r2=>
 some ((r2.1.1,()),())
def qTD (a0:qBs) (b1:qBs) (small2:Unit) (all3:Unit):Option ((qBs×Unit)×Unit):=
 (qDC a0).bind fun r1=>
 (qDC b1).bind fun r2=>
 cond (r1.1.2.1)
 (cond (r2.1.2.1)
 ((qPg (r1.1.1.1,r1.1.1.2) (r2.1.1.1,r2.1.1.2)).bind fun r3=>
 some ((r3.1.1,()),()))
 ((qLH a0).bind fun r4=>
 (qLH b1).bind fun r5=>
 cond (!r4.1.2.1)
 (some ((([]:qBs),()),()))
 (cond (!r5.1.2.1)
 (some ((([]:qBs),()),()))
 ((qMg (r4.1.1.1,r4.1.1.2.1,r4.1.1.2.2) (r5.1.1.1,r5.1.1.2.1,r5.1.1.2.2)).bind fun r6=>
 some ((r6.1.1,()),())))))
 ((qLH a0).bind fun r7=>
 (qLH b1).bind fun r8=>
 cond (!r7.1.2.1)
 (some ((([]:qBs),()),()))
 (cond (!r8.1.2.1)
 (some ((([]:qBs),()),()))
 ((qMg (r7.1.1.1,r7.1.1.2.1,r7.1.1.2.2) (r8.1.1.1,r8.1.1.2.1,r8.1.1.2.2)).bind fun r9=>
 some ((r9.1.1,()),()))))
def qBah (a0:qBs) (b1:qBs):Option ((qBs×Unit)×Unit):=
 (qTD a0 b1 () ()).bind fun r1=>
 some ((r1.1.1,()),())
def qIR (x0:Rt) (y1:Rt):Option ((Rt×Rt×Unit)×Unit):=
 (qSI x0.2.1 y1.2.1).bind fun r1=>
 cond (x0.1)
 (cond (decide ((r1.1.2.1.length:Int) > (0:Int)))
 ((qDS r1.1.1 ([1]:List Int)).bind fun r2=>
 (qCQ y1.2.1 r1.1.2.1).bind fun r3=>
 some (((!(x0.1==y1.1),r2.1.1,([1]:List Int)),(false,r3.1.1,([1]:List Int)),()),()))
 (some (((!(x0.1==y1.1),r1.1.1,([1]:List Int)),(false,r1.1.2.1,([1]:List Int)),()),())))
 (some (((!(x0.1==y1.1),r1.1.1,([1]:List Int)),(false,r1.1.2.1,([1]:List Int)),()),()))
def qMa (a0:qBs) (b1:qBs):Option ((qBs×qBs×Unit)×Unit):=
 (qJI a0).bind fun r1=>
 cond (!r1.1.1)
 (some ((([]:qBs),([]:qBs),()),()))
 ((qJI b1).bind fun r2=>
 cond (!r2.1.1)
 (some ((([]:qBs),([]:qBs),()),()))
 (cond (b1==([48]:qBs))
 (some ((([]:qBs),([]:qBs),()),()))
 ((qLH a0).bind fun r3=>
 (qLH b1).bind fun r4=>
 (qIR (r3.1.1.1,r3.1.1.2.1,r3.1.1.2.2) (r4.1.1.1,r4.1.1.2.1,r4.1.1.2.2)).bind fun r5=>
 (qGL (r5.1.1.1,r5.1.1.2.1,r5.1.1.2.2)).bind fun r6=>
 (qGL (r5.1.2.1.1,r5.1.2.1.2.1,r5.1.2.1.2.2)).bind fun r7=>
 some ((r6.1.1,r7.1.1,()),()))))
def qFad (a0:qBs) (b1:qBs):Option ((qBs×Unit)×Unit):=
 (qMa a0 b1).bind fun r1=>
 some ((r1.1.1,()),())
def qQad (a0:qBs) (b1:qBs):Option ((qBs×Unit)×Unit):=
 (qMa a0 b1).bind fun r1=>
 some ((r1.1.2.1,()),())
def v_at (a0:Val) (index1:qBs):Option ((qBs×Unit)×Unit):=
 (qEc a0 index1).bind fun r1=>
 cond (r1.1.2.1)
 (grd (decide (0<=r1.1.1)&&decide (r1.1.1 < a0.2.2.2.2.length)) (some ((a0.2.2.2.2.getD r1.1.1.toNat ([]:qBs),()),())))
 (some ((a0.2.2.1,()),()))
def qON (x:(List Val)×Val×qBs×(List Val)×Int×Int×Unit):Option (Ex×((List Val)×Val×qBs×(List Val)×Int×Int×Unit)):=
 let l1:=x.1
 let t4:=x.2.1
 let sum5:=x.2.2.1
 let t19:=x.2.2.2.1
 let t20:=x.2.2.2.2.1
 let t21:=x.2.2.2.2.2.1
 cond (decide (t21 < t20))
 (grd (decide (0<=t21)&&decide (t21 < t19.length)) (
 (qNy sum5 ((((t19.getD t21.toNat qND).2).2).1)).bind fun r1=>
 some (Ex.normal,(l1,t4,r1.1.1,t19,t20,qI (t21+1),()))))
 (some (Ex.exit 1,(l1,t4,sum5,t19,t20,t21,())))
def qFb (n0:Nod) (l1:List Val):Option ((Val×Unit)×Unit):=
 cond (n0.1==3)
 ((qPL n0.2.1 n0.2.2.2.1).bind fun r1=>
 some ((r1.1.1,()),()))
 (cond (n0.1==14)
 ((qPA qON (l1,((0:Int),false,([]:qBs),([]:List qBs),([]:List qBs)),([48]:qBs),l1,(l1.length:Int),0,())).bind fun y2=>
 cond (Ex.same y2.1 (Ex.exit 1))
 (grd (decide (0<=(0:Int))&&decide ((0:Int) < y2.2.1.length)) (
 (qPL ((y2.2.1.getD (0:Int).toNat qND).1) y2.2.2.2.1).bind fun r3=>
 some ((r3.1.1,()),())))
 (none))
 (cond (n0.1==15)
 (grd (decide (0<=(0:Int))&&decide ((0:Int) < l1.length)) (
 grd (decide (0<=(0:Int))&&decide ((0:Int) < l1.length)) (
 grd (decide (0<=(1:Int))&&decide ((1:Int) < l1.length)) (
 (qBah ((((l1.getD (0:Int).toNat qND).2).2).1) ((((l1.getD (1:Int).toNat qND).2).2).1)).bind fun r4=>
 (qPL ((l1.getD (0:Int).toNat qND).1) r4.1.1).bind fun r5=>
 some ((r5.1.1,()),())))))
 (cond (n0.1==16)
 (grd (decide (0<=(0:Int))&&decide ((0:Int) < l1.length)) (
 (qFad ((((l1.getD (0:Int).toNat qND).2).2).1) n0.2.2.2.1).bind fun r6=>
 (qPL 2 r6.1.1).bind fun r7=>
 some ((r7.1.1,()),())))
 (cond (n0.1==17)
 (grd (decide (0<=(0:Int))&&decide ((0:Int) < l1.length)) (
 (qQad ((((l1.getD (0:Int).toNat qND).2).2).1) n0.2.2.2.1).bind fun r8=>
 (qPL 2 r8.1.1).bind fun r9=>
 some ((r9.1.1,()),())))
 (cond (n0.1==18)
 (grd (decide (0<=(0:Int))&&decide ((0:Int) < l1.length)) (
 grd (decide (0<=(1:Int))&&decide ((1:Int) < l1.length)) (
 (v_at (l1.getD (0:Int).toNat qND) ((((l1.getD (1:Int).toNat qND).2).2).1)).bind fun r10=>
 (qPL 2 r10.1.1).bind fun r11=>
 some ((r11.1.1,()),()))))
 (cond (n0.1==19)
 (grd (decide (0<=(0:Int))&&decide ((0:Int) < l1.length)) (
 grd (decide (0<=(1:Int))&&decide ((1:Int) < l1.length)) (
 grd (decide (0<=(2:Int))&&decide ((2:Int) < l1.length)) (
 (qMc (l1.getD (0:Int).toNat qND) ((((l1.getD (1:Int).toNat qND).2).2).1) ((((l1.getD (2:Int).toNat qND).2).2).1)).bind fun r12=>
 some ((r12.1.1,()),())))))
 (grd (decide (0<=(0:Int))&&decide ((0:Int) < l1.length)) (some (((4,false,(((l1.getD (0:Int).toNat qND).2).2).1,([]:List qBs),([]:List qBs)),()),())))))))))
def qMV (n0:Nod) (l1:List Val):Option ((Val×Unit)×Unit):=
 cond (n0.1==1)
 ((qGB l1 ()).bind fun r1=>
 (qSO !r1.1.1).bind fun r2=>
 some ((r2.1.1,()),()))
 (cond (n0.1==7)
 ((qGB l1 ()).bind fun r3=>
 (qSO !r3.1.1).bind fun r4=>
 some ((r4.1.1,()),()))
 (cond (n0.1==2)
 ((qKB l1 ()).bind fun r5=>
 (qSO r5.1.1).bind fun r6=>
 some ((r6.1.1,()),()))
 (cond (n0.1==8)
 ((qKB l1 ()).bind fun r7=>
 (qSO r7.1.1).bind fun r8=>
 some ((r8.1.1,()),()))
 (cond (n0.1==6)
 (grd (decide (0<=(0:Int))&&decide ((0:Int) < l1.length)) (
 (qHr (l1.getD (0:Int).toNat qND)).bind fun r9=>
 (qSO r9.1.1).bind fun r10=>
 some ((r10.1.1,()),())))
 (cond (n0.1==9)
 (grd (decide (0<=(0:Int))&&decide ((0:Int) < l1.length)) (
 (qHr (l1.getD (0:Int).toNat qND)).bind fun r11=>
 cond (r11.1.1)
 ((qSO true).bind fun r12=>
 some ((r12.1.1,()),()))
 (grd (decide (0<=(1:Int))&&decide ((1:Int) < l1.length)) (
 (v_is (l1.getD (1:Int).toNat qND)).bind fun r13=>
 (qSO r13.1.1).bind fun r14=>
 some ((r14.1.1,()),())))))
 (cond (n0.1==10)
 (grd (decide (0<=(0:Int))&&decide ((0:Int) < l1.length)) (
 (v_is (l1.getD (0:Int).toNat qND)).bind fun r15=>
 cond (r15.1.1)
 (grd (decide (0<=(1:Int))&&decide ((1:Int) < l1.length)) (some ((l1.getD (1:Int).toNat qND,()),())))
 (grd (decide (0<=(2:Int))&&decide ((2:Int) < l1.length)) (some ((l1.getD (2:Int).toNat qND,()),())))))
 (cond (n0.1==11)
 (grd (decide (0<=(0:Int))&&decide ((0:Int) < l1.length)) (
 grd (decide (0<=(1:Int))&&decide ((1:Int) < l1.length)) (
 (qPX (l1.getD (0:Int).toNat qND) (l1.getD (1:Int).toNat qND)).bind fun r16=>
 (qSO r16.1.1).bind fun r17=>
 some ((r17.1.1,()),()))))
 (cond (n0.1==12)
 (grd (decide (0<=(0:Int))&&decide ((0:Int) < l1.length)) (
 grd (decide (0<=(1:Int))&&decide ((1:Int) < l1.length)) (
 (qSW ((((l1.getD (0:Int).toNat qND).2).2).1) ((((l1.getD (1:Int).toNat qND).2).2).1)).bind fun r18=>
 (qSO (decide (r18.1.1<=0))).bind fun r19=>
 some ((r19.1.1,()),()))))
 (cond (n0.1==13)
 (grd (decide (0<=(0:Int))&&decide ((0:Int) < l1.length)) (
 grd (decide (0<=(1:Int))&&decide ((1:Int) < l1.length)) (
 (qSW ((((l1.getD (0:Int).toNat qND).2).2).1) ((((l1.getD (1:Int).toNat qND).2).2).1)).bind fun r20=>
 (qSO (decide (r20.1.1 < (0:Int)))).bind fun r21=>
 some ((r21.1.1,()),()))))
 ((qFb n0 l1).bind fun r22=>
 some ((r22.1.1,()),())))))))))))
def qXB (qOaE:Evl->Option ((Val×Int×Unit)×(Evl×Unit))) (x:Evl×Val×Int×Nod×(List Val)×Int×Int×Unit):Option (Ex×(Evl×Val×Int×Nod×(List Val)×Int×Int×Unit)):=
 let e0:=x.1
 let t2:=x.2.1
 let t3:=x.2.2.1
 let n4:=x.2.2.2.1
 let kids5:=x.2.2.2.2.1
 let t26:=x.2.2.2.2.2.1
 let t27:=x.2.2.2.2.2.2.1
 cond (decide (t27 < t26))
 ((qOaE e0).bind fun r1=>
 cond (r1.1.2.1 !=(0:Int))
 (some (Ex.ret,(r1.2.1,((0:Int),false,([]:qBs),([]:List qBs),([]:List qBs)),r1.1.2.1,n4,kids5,t26,t27,())))
 (grd (decide (kids5.length+([r1.1.1]:List Val).length<=qKF)) (some (Ex.normal,(r1.2.1,t2,t3,n4,kids5++([r1.1.1]:List Val),t26,qI (t27+1),())))))
 (some (Ex.exit 0,(e0,t2,t3,n4,kids5,t26,t27,())))
def qOI (qOaE:Evl->Option ((Val×Int×Unit)×(Evl×Unit))) (e0:Evl):Option ((Val×Int×Unit)×(Evl×Unit)):=
 grd (decide (0<=e0.2.1)&&decide (e0.2.1 < e0.1.length)) (
 (qPA (qXB qOaE) ((e0.1,qI (e0.2.1+1),e0.2.2),((0:Int),false,([]:qBs),([]:List qBs),([]:List qBs)),0,e0.1.getD e0.2.1.toNat qPE,([]:List Val),((((e0.1.getD e0.2.1.toNat qPE).2).2).2).2,0,())).bind fun y1=>
 cond (Ex.same y1.1 (Ex.exit 0))
 (cond (y1.2.2.2.2.1.1==4)
 ((qFK y1.2.1 y1.2.2.2.2.1).bind fun r2=>
 some ((r2.1.1,r2.1.2.1,()),r2.2.1,()))
 (cond (y1.2.2.2.2.1.1==5)
 ((qNO y1.2.1 y1.2.2.2.2.1 y1.2.2.2.2.2.1).bind fun r3=>
 some ((r3.1.1,r3.1.2.1,()),r3.2.1,()))
 ((qMV y1.2.2.2.2.1 y1.2.2.2.2.2.1).bind fun r4=>
 some ((r4.1.1,0,()),y1.2.1,()))))
 (cond (Ex.same y1.1 Ex.ret)
 (some ((y1.2.2.1,y1.2.2.2.1,()),y1.2.1,()))
 (none)))
def qTC:Nat->Evl->Option ((Val×Int×Unit)×(Evl×Unit))
 |0=>fun _=>none
 |n+1=>qOI (qTC n)
def qXj (t0:List Nod) (env1:List qEK) (fns2:List Interp):Option ((Val×Int×Unit)×Unit):=
 (qIS env1).bind fun r1=>
 (qDc fns2).bind fun r2=>
 cond (!r1.1.2.1)
 (some ((((0:Int),false,([]:qBs),([]:List qBs),([]:List qBs)),1,()),()))
 (cond (!r2.1.2.1)
 (some ((((0:Int),false,([]:qBs),([]:List qBs),([]:List qBs)),1,()),()))
 ((qVg t0).bind fun r3=>
 cond (!r3.1.1)
 (some ((((0:Int),false,([]:qBs),([]:List qBs),([]:List qBs)),1,()),()))
 ((qTC big (t0,0,r1.1.1,r2.1.1)).bind fun r4=>
 cond (r4.1.2.1 !=(0:Int))
 (some ((((0:Int),false,([]:qBs),([]:List qBs),([]:List qBs)),r4.1.2.1,()),()))
 ((qOc r4.1.1).bind fun r5=>
 some ((r5.1.1,0,()),())))))
def qOb (a0:qBs):Option ((Nod×Unit)×Unit):=
 some (((3,2,([]:qBs),a0,(0:Int)),()),())
def qWj (x:Val×(List Nod)×Int×Int×Unit):Option (Ex×(Val×(List Nod)×Int×Int×Unit)):=
 let v1:=x.1
 let t4:=x.2.1
 let t31:=x.2.2.1
 let t32:=x.2.2.2.1
 cond (decide (t32 < t31))
 (grd (decide (t4.length+([(19,(0:Int),([]:qBs),([]:qBs),3)]:List Nod).length<=qKF)) (some (Ex.normal,(v1,t4++([(19,(0:Int),([]:qBs),([]:qBs),3)]:List Nod),t31,qI (t32+1),()))))
 (some (Ex.exit 1,(v1,t4,t31,t32,())))
def qTk (x:Val×(List Nod)×(List qBs)×Int×Int×Unit):Option (Ex×(Val×(List Nod)×(List qBs)×Int×Int×Unit)):=
 let v1:=x.1
 let t4:=x.2.1
 let t47:=x.2.2.1
 let t48:=x.2.2.2.1
 let t49:=x.2.2.2.2.1
 cond (decide (t49 < t48))
 (grd (decide (0<=t49)&&decide (t49 < t47.length)) (
 (qOb (t47.getD t49.toNat ([]:qBs))).bind fun r1=>
 grd (decide (0<=t49)&&decide (t49 < v1.2.2.2.2.length)) (
 (qOb (v1.2.2.2.2.getD t49.toNat ([]:qBs))).bind fun r2=>
 grd (decide (t4.length+([r1.1.1,r2.1.1]:List Nod).length<=qKF)) (some (Ex.normal,(v1,t4++([r1.1.1,r2.1.1]:List Nod),t47,t48,qI (t49+1),()))))))
 (some (Ex.exit 3,(v1,t4,t47,t48,t49,())))
def qMan (v0:Val):Option (((List Nod)×Int×Unit)×Unit):=
 (qRV v0).bind fun r1=>
 cond (!r1.1.1)
 (some ((([]:List Nod),1,()),()))
 (cond (v0.1==1)
 (cond (v0.2.1)
 (some ((([(1,(0:Int),([]:qBs),([]:qBs),(0:Int))]:List Nod),0,()),()))
 (some ((([(2,(0:Int),([]:qBs),([]:qBs),(0:Int))]:List Nod),0,()),())))
 (cond (v0.1==2)
 (some ((([(3,v0.1,([]:qBs),v0.2.2.1,(0:Int))]:List Nod),0,()),()))
 (cond (v0.1==3)
 (some ((([(3,v0.1,([]:qBs),v0.2.2.1,(0:Int))]:List Nod),0,()),()))
 ((qPA qWj (v0,([]:List Nod),(v0.2.2.2.1.length:Int),0,())).bind fun y2=>
 cond (Ex.same y2.1 (Ex.exit 1))
 ((qOb y2.2.1.2.2.1).bind fun r3=>
 grd (decide (y2.2.2.1.length+([(20,(0:Int),([]:qBs),([]:qBs),1),r3.1.1]:List Nod).length<=qKF)) (
 (qPA qTk (y2.2.1,y2.2.2.1++([(20,(0:Int),([]:qBs),([]:qBs),1),r3.1.1]:List Nod),y2.2.1.2.2.2.1,(y2.2.1.2.2.2.1.length:Int),0,())).bind fun y4=>
 cond (Ex.same y4.1 (Ex.exit 3))
 ((qVg y4.2.2.1).bind fun r5=>
 cond (!r5.1.1)
 (some ((([]:List Nod),6,()),()))
 (some ((y4.2.2.1,0,()),())))
 (none)))
 (none)))))
def qJas (a0:qBs):Option ((qBs×Unit)×Unit):=
 (qNR a0).bind fun r1=>
 cond (!r1.1.1)
 (some ((([]:qBs),()),()))
 ((strings_Cut a0 ([47]:qBs)).bind fun r2=>
 some ((r2.1.1,()),()))
def qNas (a0:qBs):Option ((qBs×Unit)×Unit):=
 (qNR a0).bind fun r1=>
 cond (!r1.1.1)
 (some ((([]:qBs),()),()))
 ((strings_Cut a0 ([47]:qBs)).bind fun r2=>
 cond (r2.1.2.2.1)
 (some ((r2.1.2.1,()),()))
 (some ((([49]:qBs),()),())))
def qSY (qMaE:Int->qBs->Option ((qBs×Unit)×Unit)) (sort0:Int) (a1:qBs):Option ((qBs×Unit)×Unit):=
 (qMb a1).bind fun r1=>
 cond (decide (r1.1.1 < (0:Int)))
 ((qKag a1).bind fun r2=>
 (qMaE sort0 r2.1.1).bind fun r3=>
 grd (decide (([40,45,32]:qBs).length+r3.1.1.length<=qGP)) (grd (decide ((([40,45,32]:qBs)++r3.1.1).length+([41]:qBs).length<=qGP)) (some (((([40,45,32]:qBs)++r3.1.1)++([41]:qBs),()),()))))
 (cond (sort0==2)
 (some ((a1,()),()))
 ((qJI a1).bind fun r4=>
 cond (r4.1.1)
 (grd (decide (a1.length+([46,48]:qBs).length<=qGP)) (some ((a1++([46,48]:qBs),()),())))
 ((qJas a1).bind fun r5=>
 grd (decide (([40,47,32]:qBs).length+r5.1.1.length<=qGP)) (
 grd (decide ((([40,47,32]:qBs)++r5.1.1).length+([46,48,32]:qBs).length<=qGP)) (
 (qNas a1).bind fun r6=>
 grd (decide (((([40,47,32]:qBs)++r5.1.1)++([46,48,32]:qBs)).length+r6.1.1.length<=qGP)) (grd (decide ((((([40,47,32]:qBs)++r5.1.1)++([46,48,32]:qBs))++r6.1.1).length+([46,48,41]:qBs).length<=qGP)) (some (((((([40,47,32]:qBs)++r5.1.1)++([46,48,32]:qBs))++r6.1.1)++([46,48,41]:qBs),()),()))))))))
def qGQ:Nat->Int->qBs->Option ((qBs×Unit)×Unit)
 |0=>fun _ _=>none
 |n+1=>qSY (qGQ n)
def qXv (n0:Nod):Option ((qBs×Unit)×Unit):=
 cond (n0.1==6)
 (some ((([110,111,116]:qBs),()),()))
 (cond (n0.1==7)
 (some ((([97,110,100]:qBs),()),()))
 (cond (n0.1==8)
 (some ((([111,114]:qBs),()),()))
 (cond (n0.1==9)
 (some ((([61,62]:qBs),()),()))
 (cond (n0.1==10)
 (some ((([105,116,101]:qBs),()),()))
 (cond (n0.1==11)
 (some ((([61]:qBs),()),()))
 (cond (n0.1==12)
 (some ((([60,61]:qBs),()),()))
 (cond (n0.1==13)
 (some ((([60]:qBs),()),()))
 (cond (n0.1==14)
 (some ((([43]:qBs),()),()))
 (cond (n0.1==15)
 (some ((([42]:qBs),()),()))
 (cond (n0.1==16)
 (some ((([100,105,118]:qBs),()),()))
 (cond (n0.1==17)
 (some ((([109,111,100]:qBs),()),()))
 (cond (n0.1==18)
 (some ((([115,101,108,101,99,116]:qBs),()),()))
 (cond (n0.1==19)
 (some ((([115,116,111,114,101]:qBs),()),()))
 (cond (n0.1==20)
 (some ((([99,111,110,115,116]:qBs),()),()))
 (some ((n0.2.2.1,()),()))))))))))))))))
def qEF (b0:Unit×List Int) (c1:Int):Option ((Bool×Unit)×((Unit×List Int)×Unit)):=
 (qFF ((),b0.2)).bind fun r1=>
 grd (decide (r1.2.1.2.length+([c1]:List Int).length<=qKF)) (some ((false,()),((),r1.2.1.2++([c1]:List Int)),()))
def qSV (qNaE:Option qQR->(Unit×List Int)->Int->Option ((Unit)×((Unit×List Int)×Unit))) (x:(Option qQR)×(Unit×List Int)×Nod×(List Int)×Int×Int×Unit):Option (Ex×((Option qQR)×(Unit×List Int)×Nod×(List Int)×Int×Int×Unit)):=
 let v0:=x.1
 let b1:=x.2.1
 let n6:=x.2.2.1
 let t25:=x.2.2.2.1
 let t26:=x.2.2.2.2.1
 let t27:=x.2.2.2.2.2.1
 cond (decide (t27 < t26))
 (grd (decide (0<=t27)&&decide (t27 < t25.length)) (
 (qEF ((),b1.2) 32).bind fun r1=>
 (qNaE v0 ((),r1.2.1.2) (t25.getD t27.toNat (0:Int))).bind fun r2=>
 some (Ex.normal,(v0,((),r2.2.1.2),n6,t25,t26,qI (t27+1),()))))
 (some (Ex.exit 1,(v0,((),b1.2),n6,t25,t26,t27,())))
def qGX (qNaE:Option qQR->(Unit×List Int)->Int->Option ((Unit)×((Unit×List Int)×Unit))) (v0:Option qQR) (b1:Unit×List Int) (i2:Int):Option ((Unit)×((Unit×List Int)×Unit)):=
 grd (v0.isSome) (
 grd (decide (0<=i2)&&decide (i2 < ((v0.getD qUN).1).length)) (
 cond (((((v0.getD qUN).1).getD i2.toNat qPE).1)==1)
 ((qQA ((),b1.2) ([116,114,117,101]:qBs)).bind fun r1=>
 some ((),((),r1.2.1.2),()))
 (cond (((((v0.getD qUN).1).getD i2.toNat qPE).1)==2)
 ((qQA ((),b1.2) ([102,97,108,115,101]:qBs)).bind fun r2=>
 some ((),((),r2.2.1.2),()))
 (cond (((((v0.getD qUN).1).getD i2.toNat qPE).1)==3)
 ((qGQ big (((((v0.getD qUN).1).getD i2.toNat qPE).2).1) (((((((v0.getD qUN).1).getD i2.toNat qPE).2).2).2).1)).bind fun r3=>
 (qQA ((),b1.2) r3.1.1).bind fun r4=>
 some ((),((),r4.2.1.2),()))
 (cond (((((v0.getD qUN).1).getD i2.toNat qPE).1)==4)
 ((qQA ((),b1.2) ((((((v0.getD qUN).1).getD i2.toNat qPE).2).2).1)).bind fun r5=>
 some ((),((),r5.2.1.2),()))
 ((qXv (((v0.getD qUN).1).getD i2.toNat qPE)).bind fun r6=>
 grd (decide (([40]:qBs).length+r6.1.1.length<=qGP)) (
 (qQA ((),b1.2) (([40]:qBs)++r6.1.1)).bind fun r7=>
 (qJQ v0 i2).bind fun r8=>
 (qPA (qSV qNaE) (v0,((),r7.2.1.2),((v0.getD qUN).1).getD i2.toNat qPE,r8.1.1,(r8.1.1.length:Int),0,())).bind fun y9=>
 cond (Ex.same y9.1 (Ex.exit 1))
 (cond (!(y9.2.2.2.1.2.2.2.1==([]:qBs)))
 (grd (decide (([32]:qBs).length+y9.2.2.2.1.2.2.2.1.length<=qGP)) (
 (qQA ((),y9.2.2.1.2) (([32]:qBs)++y9.2.2.2.1.2.2.2.1)).bind fun r10=>
 (qEF ((),r10.2.1.2) 41).bind fun r11=>
 some ((),((),r11.2.1.2),())))
 ((qEF ((),y9.2.2.1.2) 41).bind fun r12=>
 some ((),((),r12.2.1.2),())))
 (none))))))))
def qSN:Nat->Option qQR->(Unit×List Int)->Int->Option ((Unit)×((Unit×List Int)×Unit))
 |0=>fun _ _ _=>none
 |n+1=>qGX (qSN n)
def qQx (t0:List Nod):Option ((qBs×Unit)×Unit):=
 (qCc t0).bind fun r1=>
 cond (!r1.1.2.1)
 (some ((([]:qBs),()),()))
 ((qSN big r1.1.1 ((),([]:List Int)) 0).bind fun r2=>
 (qUE ((),r2.2.1.2)).bind fun r3=>
 some ((r3.1.1,()),()))
def qDx (v0:Val):Option ((qBs×Unit)×Unit):=
 (qMan v0).bind fun r1=>
 cond (r1.1.2.1 !=(0:Int))
 (some ((([]:qBs),()),()))
 ((qQx r1.1.1).bind fun r2=>
 some ((r2.1.1,()),()))
def qVU:Option ((Bool×Unit)×Unit):=
 (qFan 4).bind fun r1=>
 (qCu r1.1.1 ([51]:qBs) ([55]:qBs)).bind fun r2=>
 (qCu r2.1.1 ([51]:qBs) ([48]:qBs)).bind fun r3=>
 (qXO 2 ([45,55]:qBs)).bind fun r4=>
 (qFd (16,(0:Int),([]:qBs),([50]:qBs),(0:Int)) ([r4.1.1]:List (List Nod))).bind fun r5=>
 (qXj r5.1.1 ([]:List qEK) ([]:List Interp)).bind fun r6=>
 cond (r1.1.2.1==0)
 (cond (r2.1.2.1==0)
 (cond (r3.1.2.1==0)
 (cond (r6.1.2.1==0)
 (cond ((r2.1.1.2.2.2.1.length:Int)==1)
 (grd (decide (0<=(0:Int))&&decide ((0:Int) < r2.1.1.2.2.2.2.length)) (
 cond ((r2.1.1.2.2.2.2.getD (0:Int).toNat ([]:qBs))==([55]:qBs))
 ((qPX r3.1.1 r1.1.1).bind fun r7=>
 cond (r7.1.1)
 (cond (r6.1.1.2.2.1==([45,52]:qBs))
 ((qDx (4,false,([49]:qBs),([([45,50]:qBs)]:List qBs),([([53]:qBs)]:List qBs))).bind fun r8=>
 some ((r8.1.1==([40,115,116,111,114,101,32,40,99,111,110,115,116,32,49,41,32,40,45,32,50,41,32,53,41]:qBs),()),()))
 (some ((false,()),())))
 (some ((false,()),())))
 (some ((false,()),()))))
 (some ((false,()),())))
 (some ((false,()),())))
 (some ((false,()),())))
 (some ((false,()),())))
 (some ((false,()),()))
def qMS (x:Val×Bool×Int×Unit):Option (Ex×(Val×Bool×Int×Unit)):=
 let v1:=x.1
 let t2:=x.2.1
 let i3:=x.2.2.1
 cond (decide (i3 < (v1.2.2.2.1.length:Int)))
 (grd (decide (0<=i3)&&decide (i3 < v1.2.2.2.1.length)) (
 cond (decide (((v1.2.2.2.1.getD i3.toNat ([]:qBs)).length:Int) > (50:Int)))
 (some (Ex.ret,(v1,false,i3,())))
 (some (Ex.normal,(v1,t2,qI (i3+1),())))))
 (some (Ex.exit 0,(v1,t2,i3,())))
def qTR (x:Val×Bool×Int×Unit):Option (Ex×(Val×Bool×Int×Unit)):=
 let v1:=x.1
 let t2:=x.2.1
 let i4:=x.2.2.1
 cond (decide (i4 < (v1.2.2.2.2.length:Int)))
 (grd (decide (0<=i4)&&decide (i4 < v1.2.2.2.2.length)) (
 cond (decide (((v1.2.2.2.2.getD i4.toNat ([]:qBs)).length:Int) > (50:Int)))
 (some (Ex.ret,(v1,false,i4,())))
 (some (Ex.normal,(v1,t2,qI (i4+1),())))))
 (some (Ex.exit 2,(v1,t2,i4,())))
def qUf (v0:Val):Option ((Bool×Unit)×Unit):=
 cond (decide ((v0.2.2.1.length:Int) > (50:Int)))
 (some ((false,()),()))
 (cond (decide ((v0.2.2.2.1.length:Int) > (12:Int)))
 (some ((false,()),()))
 (cond (decide ((v0.2.2.2.2.length:Int) > (12:Int)))
 (some ((false,()),()))
 ((qPA qMS (v0,false,0,())).bind fun y1=>
 cond (Ex.same y1.1 (Ex.exit 0))
 ((qPA qTR (y1.2.1,y1.2.2.1,0,())).bind fun y2=>
 cond (Ex.same y2.1 (Ex.exit 2))
 (some ((true,()),()))
 (cond (Ex.same y2.1 Ex.ret)
 (some ((y2.2.2.1,()),()))
 (none)))
 (cond (Ex.same y1.1 Ex.ret)
 (some ((y1.2.2.1,()),()))
 (none)))))
def qEL (x:qBs×Bool×Int×Unit):Option (Ex×(qBs×Bool×Int×Unit)):=
 let s0:=x.1
 let t2:=x.2.1
 let i3:=x.2.2.1
 cond (decide (i3 < (s0.length:Int)))
 (grd (decide (0<=i3)&&decide (i3 < s0.length)) (
 cond (decide (((s0.getD i3.toNat 0).toNat:Int) < (48:Int)))
 (some (Ex.ret,(s0,false,i3,())))
 (grd (decide (0<=i3)&&decide (i3 < s0.length)) (
 cond (decide (((s0.getD i3.toNat 0).toNat:Int) > (57:Int)))
 (some (Ex.ret,(s0,false,i3,())))
 (some (Ex.normal,(s0,t2,qI (i3+1),())))))))
 (some (Ex.exit 0,(s0,t2,i3,())))
def qTL (s0:qBs):Option ((Bool×Unit)×Unit):=
 (qPA qEL (s0,false,0,())).bind fun y1=>
 cond (Ex.same y1.1 (Ex.exit 0))
 (some ((!(y1.2.1==([]:qBs)),()),()))
 (cond (Ex.same y1.1 Ex.ret)
 (some ((y1.2.2.1,()),()))
 (none))
def qCS (x:qBs×Unit):Option (Ex×(qBs×Unit)):=
 let s0:=x.1
 cond (decide ((s0.length:Int) > (1:Int)))
 (grd (decide (0<=(0:Int))&&decide ((0:Int) < s0.length)) (
 cond (((s0.getD (0:Int).toNat 0).toNat:Int)==48)
 (grd (decide (0<=(1:Int))&&decide ((1:Int)<=s0.length)) (some (Ex.normal,(s0.drop (1:Int).toNat,()))))
 (some (Ex.exit 0,(s0,())))))
 (some (Ex.exit 0,(s0,())))
def qVO (s0:qBs):Option ((qBs×Unit)×Unit):=
 (qPA qCS (s0,())).bind fun y1=>
 cond (Ex.same y1.1 (Ex.exit 0))
 (some ((y1.2.1,()),()))
 (none)
def qJb (a0:qBs) (b1:qBs):Option ((Int×Unit)×Unit):=
 cond (decide ((a0.length:Int) < (b1.length:Int)))
 (some ((-1,()),()))
 (cond ((a0.length:Int)==(b1.length:Int))
 (cond (qAr a0 b1)
 (some ((-1,()),()))
 (cond (a0==b1)
 (some ((0,()),()))
 (some ((1,()),()))))
 (cond (a0==b1)
 (some ((0,()),()))
 (some ((1,()),()))))
def qUG (x:qBs×qBs×(List Int)×Int×Int×Unit):Option (Ex×(qBs×qBs×(List Int)×Int×Int×Unit)):=
 let a0:=x.1
 let b1:=x.2.1
 let out5:=x.2.2.1
 let borrow6:=x.2.2.2.1
 let i7:=x.2.2.2.2.1
 cond (decide (i7 < (a0.length:Int)))
 (grd (decide (0<=qI ((qI ((a0.length:Int) - (1:Int))) - i7))&&decide (qI ((qI ((a0.length:Int) - (1:Int))) - i7) < a0.length)) (
 cond (decide (i7 < (b1.length:Int)))
 (grd (decide (0<=qI ((qI ((b1.length:Int) - (1:Int))) - i7))&&decide (qI ((qI ((b1.length:Int) - (1:Int))) - i7) < b1.length)) (
 cond (decide ((qI ((qI ((qI (IntKind.u8.wrap (((a0.getD (qI ((qI ((a0.length:Int) - (1:Int))) - i7)).toNat 0).toNat:Int) - (48:Int)))) - borrow6)) - (qI (IntKind.u8.wrap (((b1.getD (qI ((qI ((b1.length:Int) - (1:Int))) - i7)).toNat 0).toNat:Int) - (48:Int)))))) < (0:Int)))
 (grd (decide (0<=qI ((qI ((a0.length:Int) - (1:Int))) - i7))&&decide (qI ((qI ((a0.length:Int) - (1:Int))) - i7) < out5.length)) (grd (decide ((qI ((qI ((a0.length:Int) - (1:Int))) - i7)).toNat < out5.length)) (some (Ex.normal,(a0,b1,out5.set ((qI ((qI ((a0.length:Int) - (1:Int))) - i7)).toNat) (IntKind.u8.wrap (qI ((48:Int)+(qI ((qI ((qI ((qI (IntKind.u8.wrap (((a0.getD (qI ((qI ((a0.length:Int) - (1:Int))) - i7)).toNat 0).toNat:Int) - (48:Int)))) - borrow6)) - (qI (IntKind.u8.wrap (((b1.getD (qI ((qI ((b1.length:Int) - (1:Int))) - i7)).toNat 0).toNat:Int) - (48:Int))))))+10))))),1,qI (i7+1),())))))
 (grd (decide (0<=qI ((qI ((a0.length:Int) - (1:Int))) - i7))&&decide (qI ((qI ((a0.length:Int) - (1:Int))) - i7) < out5.length)) (grd (decide ((qI ((qI ((a0.length:Int) - (1:Int))) - i7)).toNat < out5.length)) (some (Ex.normal,(a0,b1,out5.set ((qI ((qI ((a0.length:Int) - (1:Int))) - i7)).toNat) (IntKind.u8.wrap (qI ((48:Int)+(qI ((qI ((qI (IntKind.u8.wrap (((a0.getD (qI ((qI ((a0.length:Int) - (1:Int))) - i7)).toNat 0).toNat:Int) - (48:Int)))) - borrow6)) - (qI (IntKind.u8.wrap (((b1.getD (qI ((qI ((b1.length:Int) - (1:Int))) - i7)).toNat 0).toNat:Int) - (48:Int))))))))),0,qI (i7+1),())))))))
 (cond (decide ((qI ((qI (IntKind.u8.wrap (((a0.getD (qI ((qI ((a0.length:Int) - (1:Int))) - i7)).toNat 0).toNat:Int) - (48:Int)))) - borrow6)) < (0:Int)))
 (grd (decide (0<=qI ((qI ((a0.length:Int) - (1:Int))) - i7))&&decide (qI ((qI ((a0.length:Int) - (1:Int))) - i7) < out5.length)) (grd (decide ((qI ((qI ((a0.length:Int) - (1:Int))) - i7)).toNat < out5.length)) (some (Ex.normal,(a0,b1,out5.set ((qI ((qI ((a0.length:Int) - (1:Int))) - i7)).toNat) (IntKind.u8.wrap (qI ((48:Int)+(qI ((qI ((qI (IntKind.u8.wrap (((a0.getD (qI ((qI ((a0.length:Int) - (1:Int))) - i7)).toNat 0).toNat:Int) - (48:Int)))) - borrow6))+10))))),1,qI (i7+1),())))))
 (grd (decide (0<=qI ((qI ((a0.length:Int) - (1:Int))) - i7))&&decide (qI ((qI ((a0.length:Int) - (1:Int))) - i7) < out5.length)) (grd (decide ((qI ((qI ((a0.length:Int) - (1:Int))) - i7)).toNat < out5.length)) (some (Ex.normal,(a0,b1,out5.set ((qI ((qI ((a0.length:Int) - (1:Int))) - i7)).toNat) (IntKind.u8.wrap (qI ((48:Int)+(qI ((qI (IntKind.u8.wrap (((a0.getD (qI ((qI ((a0.length:Int) - (1:Int))) - i7)).toNat 0).toNat:Int) - (48:Int)))) - borrow6))))),0,qI (i7+1),()))))))))
 (some (Ex.exit 0,(a0,b1,out5,borrow6,i7,())))
def qRW (a0:qBs) (b1:qBs):Option ((qBs×Unit)×Unit):=
 grd (decide (0<=(a0.length:Int))&&decide ((a0.length:Int)<=(a0.length:Int))&&decide ((a0.length:Int)<=qKF)) (
 (qPA qUG (a0,b1,List.replicate (a0.length:Int).toNat (0:Int),0,0,())).bind fun y1=>
 cond (Ex.same y1.1 (Ex.exit 0))
 ((qVO (y1.2.2.2.1.map fun n=>UInt8.ofNat n.toNat)).bind fun r2=>
 some ((r2.1.1,()),()))
 (none))
def qXM (x:qBs×qBs×(List Int)×qBs×Int×Int×Unit):Option (Ex×(qBs×qBs×(List Int)×qBs×Int×Int×Unit)):=
 let a0:=x.1
 let b1:=x.2.1
 let q6:=x.2.2.1
 let r7:=x.2.2.2.1
 let i8:=x.2.2.2.2.1
 let d9:=x.2.2.2.2.2.1
 (qJb r7 b1).bind fun r1=>
 cond (decide (r1.1.1>=0))
 ((qRW r7 b1).bind fun r2=>
 some (Ex.normal,(a0,b1,q6,r2.1.1,i8,IntKind.u8.wrap (d9+1),())))
 (some (Ex.exit 2,(a0,b1,q6,r7,i8,d9,())))
def qFQ (x:qBs×qBs×(List Int)×qBs×Int×Unit):Option (Ex×(qBs×qBs×(List Int)×qBs×Int×Unit)):=
 let a0:=x.1
 let b1:=x.2.1
 let q6:=x.2.2.1
 let r7:=x.2.2.2.1
 let i8:=x.2.2.2.2.1
 cond (decide (i8 < (a0.length:Int)))
 (grd (decide (0<=i8)&&decide (i8<=qI (i8+1))&&decide (qI (i8+1)<=a0.length)) (
 grd (decide (r7.length+((a0.take (qI (i8+1)).toNat).drop i8.toNat).length<=qGP)) (
 (qVO (r7++((a0.take (qI (i8+1)).toNat).drop i8.toNat))).bind fun r1=>
 (qPA qXM (a0,b1,q6,r1.1.1,i8,48,())).bind fun y2=>
 cond (Ex.same y2.1 (Ex.exit 2))
 (grd (decide (0<=y2.2.2.2.2.2.1)&&decide (y2.2.2.2.2.2.1 < y2.2.2.2.1.length)) (grd (decide (y2.2.2.2.2.2.1.toNat < y2.2.2.2.1.length)) (some (Ex.normal,(y2.2.1,y2.2.2.1,y2.2.2.2.1.set y2.2.2.2.2.2.1.toNat y2.2.2.2.2.2.2.1,y2.2.2.2.2.1,qI (y2.2.2.2.2.2.1+1),())))))
 (none))))
 (some (Ex.exit 0,(a0,b1,q6,r7,i8,())))
def qTS (a0:qBs) (b1:qBs):Option ((qBs×qBs×Unit)×Unit):=
 grd (decide (0<=(a0.length:Int))&&decide ((a0.length:Int)<=(a0.length:Int))&&decide ((a0.length:Int)<=qKF)) (
 (qPA qFQ (a0,b1,List.replicate (a0.length:Int).toNat (0:Int),([48]:qBs),0,())).bind fun y1=>
 cond (Ex.same y1.1 (Ex.exit 0))
 ((qVO (y1.2.2.2.1.map fun n=>UInt8.ofNat n.toNat)).bind fun r2=>
 some ((r2.1.1,y1.2.2.2.2.1,()),()))
 (none))
def qWP (x:qBs×qBs×Unit):Option (Ex×(qBs×qBs×Unit)):=
 let a0:=x.1
 let b1:=x.2.1
 cond (!(b1==([48]:qBs)))
 ((qTS a0 b1).bind fun r1=>
 some (Ex.normal,(b1,r1.1.2.1,())))
 (some (Ex.exit 0,(a0,b1,())))
def qOe (a0:qBs) (b1:qBs):Option ((qBs×Unit)×Unit):=
 (qPA qWP (a0,b1,())).bind fun y1=>
 cond (Ex.same y1.1 (Ex.exit 0))
 (some ((y1.2.1,()),()))
 (none)
def qPI (neg0:Bool) (num1:qBs) (den2:qBs):Option ((qQu×Unit)×Unit):=
 (qOe num1 den2).bind fun r1=>
 (qTS num1 r1.1.1).bind fun r2=>
 (qTS den2 r1.1.1).bind fun r3=>
 cond (neg0)
 (some (((!(r2.1.1==([48]:qBs)),r2.1.1,r3.1.1),()),()))
 (some (((false,r2.1.1,r3.1.1),()),()))
def qBB (x0:qQu):Option ((qBs×Unit)×Unit):=
 cond (x0.1)
 (grd (decide (([45]:qBs).length+x0.2.1.length<=qGP)) (
 cond (!(x0.2.2==([49]:qBs)))
 (grd (decide (([47]:qBs).length+x0.2.2.length<=qGP)) (grd (decide ((([45]:qBs)++x0.2.1).length+(([47]:qBs)++x0.2.2).length<=qGP)) (some (((([45]:qBs)++x0.2.1)++(([47]:qBs)++x0.2.2),()),()))))
 (some ((([45]:qBs)++x0.2.1,()),()))))
 (cond (!(x0.2.2==([49]:qBs)))
 (grd (decide (([47]:qBs).length+x0.2.2.length<=qGP)) (grd (decide (x0.2.1.length+(([47]:qBs)++x0.2.2).length<=qGP)) (some ((x0.2.1++(([47]:qBs)++x0.2.2),()),()))))
 (some ((x0.2.1,()),())))
def qRJ (x:qBs×qQu×qQu×qBs×Int×Unit):Option (Ex×(qBs×qQu×qQu×qBs×Int×Unit)):=
 let a0:=x.1
 let t2:=x.2.1
 let x4:=x.2.2.1
 let s5:=x.2.2.2.1
 let i6:=x.2.2.2.2.1
 cond (decide (i6 < (s5.length:Int)))
 (grd (decide (0<=i6)&&decide (i6 < s5.length)) (
 cond (((s5.getD i6.toNat 0).toNat:Int)==47)
 (grd (decide (0<=qI (i6+1))&&decide (qI (i6+1)<=s5.length)) (grd (decide (0<=i6)&&decide (i6<=s5.length)) (some (Ex.exit 0,(a0,(t2.1,t2.2.1,t2.2.2),(x4.1,x4.2.1,s5.drop (qI (i6+1)).toNat),s5.take i6.toNat,i6,())))))
 (some (Ex.normal,(a0,(t2.1,t2.2.1,t2.2.2),(x4.1,x4.2.1,x4.2.2),s5,qI (i6+1),())))))
 (some (Ex.exit 0,(a0,(t2.1,t2.2.1,t2.2.2),(x4.1,x4.2.1,x4.2.2),s5,i6,())))
def qFH (a0:qBs):Option ((qQu×Bool×Unit)×Unit):=
 cond (!(a0==([]:qBs)))
 (grd (decide (0<=(0:Int))&&decide ((0:Int) < a0.length)) (
 cond (((a0.getD (0:Int).toNat 0).toNat:Int)==45)
 (grd (decide (0<=(1:Int))&&decide ((1:Int)<=a0.length)) (
 (qPA qRJ (a0,(false,([]:qBs),([]:qBs)),(true,([]:qBs),([49]:qBs)),a0.drop (1:Int).toNat,0,())).bind fun y1=>
 cond (Ex.same y1.1 (Ex.exit 0))
 ((qTL y1.2.2.2.2.1).bind fun r2=>
 cond (!r2.1.1)
 (some (((false,([]:qBs),([]:qBs)),false,()),()))
 ((qTL y1.2.2.2.1.2.2).bind fun r3=>
 cond (!r3.1.1)
 (some (((false,([]:qBs),([]:qBs)),false,()),()))
 (cond (y1.2.2.2.1.2.2==([48]:qBs))
 (some (((false,([]:qBs),([]:qBs)),false,()),()))
 ((qVO y1.2.2.2.2.1).bind fun r4=>
 cond (!(r4.1.1==y1.2.2.2.2.1))
 (some (((false,([]:qBs),([]:qBs)),false,()),()))
 ((qVO y1.2.2.2.1.2.2).bind fun r5=>
 cond (!(r5.1.1==y1.2.2.2.1.2.2))
 (some (((false,([]:qBs),([]:qBs)),false,()),()))
 ((qPI y1.2.2.2.1.1 y1.2.2.2.2.1 y1.2.2.2.1.2.2).bind fun r6=>
 (qBB (r6.1.1.1,r6.1.1.2.1,r6.1.1.2.2)).bind fun r7=>
 cond (!(r7.1.1==y1.2.1))
 (some (((false,([]:qBs),([]:qBs)),false,()),()))
 (some (((y1.2.2.2.1.1,y1.2.2.2.2.1,y1.2.2.2.1.2.2),true,()),()))))))))
 (none)))
 ((qPA qRJ (a0,(false,([]:qBs),([]:qBs)),(false,([]:qBs),([49]:qBs)),a0,0,())).bind fun y8=>
 cond (Ex.same y8.1 (Ex.exit 0))
 ((qTL y8.2.2.2.2.1).bind fun r9=>
 cond (!r9.1.1)
 (some (((false,([]:qBs),([]:qBs)),false,()),()))
 ((qTL y8.2.2.2.1.2.2).bind fun r10=>
 cond (!r10.1.1)
 (some (((false,([]:qBs),([]:qBs)),false,()),()))
 (cond (y8.2.2.2.1.2.2==([48]:qBs))
 (some (((false,([]:qBs),([]:qBs)),false,()),()))
 ((qVO y8.2.2.2.2.1).bind fun r11=>
 cond (!(r11.1.1==y8.2.2.2.2.1))
 (some (((false,([]:qBs),([]:qBs)),false,()),()))
 ((qVO y8.2.2.2.1.2.2).bind fun r12=>
 cond (!(r12.1.1==y8.2.2.2.1.2.2))
 (some (((false,([]:qBs),([]:qBs)),false,()),()))
 ((qPI y8.2.2.2.1.1 y8.2.2.2.2.1 y8.2.2.2.1.2.2).bind fun r13=>
 (qBB (r13.1.1.1,r13.1.1.2.1,r13.1.1.2.2)).bind fun r14=>
 cond (!(r14.1.1==y8.2.1))
 (some (((false,([]:qBs),([]:qBs)),false,()),()))
 (some (((y8.2.2.2.1.1,y8.2.2.2.2.1,y8.2.2.2.1.2.2),true,()),()))))))))
 (none))))
 ((qPA qRJ (a0,(false,([]:qBs),([]:qBs)),(false,([]:qBs),([49]:qBs)),a0,0,())).bind fun y15=>
 cond (Ex.same y15.1 (Ex.exit 0))
 ((qTL y15.2.2.2.2.1).bind fun r16=>
 cond (!r16.1.1)
 (some (((false,([]:qBs),([]:qBs)),false,()),()))
 ((qTL y15.2.2.2.1.2.2).bind fun r17=>
 cond (!r17.1.1)
 (some (((false,([]:qBs),([]:qBs)),false,()),()))
 (cond (y15.2.2.2.1.2.2==([48]:qBs))
 (some (((false,([]:qBs),([]:qBs)),false,()),()))
 ((qVO y15.2.2.2.2.1).bind fun r18=>
 cond (!(r18.1.1==y15.2.2.2.2.1))
 (some (((false,([]:qBs),([]:qBs)),false,()),()))
 ((qVO y15.2.2.2.1.2.2).bind fun r19=>
 cond (!(r19.1.1==y15.2.2.2.1.2.2))
 (some (((false,([]:qBs),([]:qBs)),false,()),()))
 ((qPI y15.2.2.2.1.1 y15.2.2.2.2.1 y15.2.2.2.1.2.2).bind fun r20=>
 (qBB (r20.1.1.1,r20.1.1.2.1,r20.1.1.2.2)).bind fun r21=>
 cond (!(r21.1.1==y15.2.1))
 (some (((false,([]:qBs),([]:qBs)),false,()),()))
 (some (((y15.2.2.2.1.1,y15.2.2.2.2.1,y15.2.2.2.1.2.2),true,()),()))))))))
 (none))
def qRF (a0:qBs):Option ((Bool×Unit)×Unit):=
 (qFH a0).bind fun r1=>
 cond (r1.1.2.1)
 (some ((r1.1.1.2.2==([49]:qBs),()),()))
 (some ((false,()),()))
def qDN (a0:qBs):Option ((Bool×Unit)×Unit):=
 (qFH a0).bind fun r1=>
 some ((r1.1.2.1,()),())
def qSb:Option (((List qBs)×Unit)×Unit):=
 some ((([([97,110,100]:qBs),([111,114]:qBs),([110,111,116]:qBs),([105,116,101]:qBs),([116,114,117,101]:qBs),([102,97,108,115,101]:qBs),([108,101,116]:qBs),([102,111,114,97,108,108]:qBs),([101,120,105,115,116,115]:qBs),([100,105,115,116,105,110,99,116]:qBs),([100,105,118]:qBs),([109,111,100]:qBs),([115,101,108,101,99,116]:qBs),([115,116,111,114,101]:qBs),([99,111,110,115,116]:qBs),([66,111,111,108]:qBs),([73,110,116]:qBs),([82,101,97,108]:qBs),([65,114,114,97,121]:qBs)]:List qBs),()),())
def qBi (x:(List qBs)×qBs×Bool×Int×Unit):Option (Ex×((List qBs)×qBs×Bool×Int×Unit)):=
 let l0:=x.1
 let s1:=x.2.1
 let t4:=x.2.2.1
 let i5:=x.2.2.2.1
 cond (decide (i5 < (l0.length:Int)))
 (grd (decide (0<=i5)&&decide (i5 < l0.length)) (
 cond ((l0.getD i5.toNat ([]:qBs))==s1)
 (some (Ex.ret,(l0,s1,true,i5,())))
 (some (Ex.normal,(l0,s1,t4,qI (i5+1),())))))
 (some (Ex.exit 0,(l0,s1,t4,i5,())))
def r_in (l0:List qBs) (s1:qBs):Option ((Bool×Unit)×Unit):=
 (qPA qBi (l0,s1,false,0,())).bind fun y1=>
 cond (Ex.same y1.1 (Ex.exit 0))
 (some ((false,()),()))
 (cond (Ex.same y1.1 Ex.ret)
 (some ((y1.2.2.2.1,()),()))
 (none))
def qQe (c0:Int):Option ((Bool×Unit)×Unit):=
 cond (decide (c0>=97))
 (cond (decide (c0<=122))
 (some ((true,()),()))
 (cond (decide (c0>=65))
 (some ((decide (c0<=90),()),()))
 (some ((false,()),()))))
 (cond (decide (c0>=65))
 (some ((decide (c0<=90),()),()))
 (some ((false,()),())))
def qGV (x:qBs×Bool×Int×Unit):Option (Ex×(qBs×Bool×Int×Unit)):=
 let s0:=x.1
 let t2:=x.2.1
 let i3:=x.2.2.1
 cond (decide (i3 < (s0.length:Int)))
 (grd (decide (0<=i3)&&decide (i3 < s0.length)) (
 (qQe ((s0.getD i3.toNat 0).toNat:Int)).bind fun r1=>
 cond (r1.1.1)
 (some (Ex.normal,(s0,t2,qI (i3+1),())))
 (cond (((s0.getD i3.toNat 0).toNat:Int)==95)
 (some (Ex.normal,(s0,t2,qI (i3+1),())))
 (cond (((s0.getD i3.toNat 0).toNat:Int)==36)
 (some (Ex.normal,(s0,t2,qI (i3+1),())))
 (cond (!(((s0.getD i3.toNat 0).toNat:Int)==33))
 (cond (i3==0)
 (some (Ex.ret,(s0,false,i3,())))
 (cond (decide (((s0.getD i3.toNat 0).toNat:Int) < (48:Int)))
 (cond (((s0.getD i3.toNat 0).toNat:Int) !=(46:Int))
 (cond (((s0.getD i3.toNat 0).toNat:Int) !=(64:Int))
 (some (Ex.ret,(s0,false,i3,())))
 (some (Ex.normal,(s0,t2,qI (i3+1),()))))
 (some (Ex.normal,(s0,t2,qI (i3+1),()))))
 (cond (decide (((s0.getD i3.toNat 0).toNat:Int) > (57:Int)))
 (cond (((s0.getD i3.toNat 0).toNat:Int) !=(46:Int))
 (cond (((s0.getD i3.toNat 0).toNat:Int) !=(64:Int))
 (some (Ex.ret,(s0,false,i3,())))
 (some (Ex.normal,(s0,t2,qI (i3+1),()))))
 (some (Ex.normal,(s0,t2,qI (i3+1),()))))
 (some (Ex.normal,(s0,t2,qI (i3+1),()))))))
 (some (Ex.normal,(s0,t2,qI (i3+1),()))))))))
 (some (Ex.exit 0,(s0,t2,i3,())))
def qFp (s0:qBs):Option ((Bool×Unit)×Unit):=
 cond (s0==([]:qBs))
 (some ((false,()),()))
 (cond (decide ((s0.length:Int) > (40:Int)))
 (some ((false,()),()))
 (qSb.bind fun r1=>
 (r_in r1.1.1 s0).bind fun r2=>
 cond (r2.1.1)
 (some ((false,()),()))
 ((qPA qGV (s0,false,0,())).bind fun y3=>
 cond (Ex.same y3.1 (Ex.exit 0))
 (some ((true,()),()))
 (cond (Ex.same y3.1 Ex.ret)
 (some ((y3.2.2.1,()),()))
 (none)))))
def qPe (s0:Int):Option ((Bool×Unit)×Unit):=
 cond (decide (s0>=1))
 (some ((decide (s0<=4),()),()))
 (some ((false,()),()))
def qQd (a0:qBs):Option ((Int×Unit)×Unit):=
 (qFH a0).bind fun r1=>
 cond (!r1.1.2.1)
 (some ((0,()),()))
 (cond (r1.1.1.2.1==([48]:qBs))
 (some ((0,()),()))
 (cond (r1.1.1.1)
 (some ((-1,()),()))
 (some ((1,()),()))))
def qEf (x0:Nod):Option ((Bool×Unit)×Unit):=
 cond (x0.1==3)
 (cond (x0.2.2.1==([]:qBs))
 (cond (x0.2.1==2)
 ((qRF x0.2.2.2.1).bind fun r1=>
 cond (r1.1.1)
 (some ((true,()),()))
 (cond (x0.2.1==3)
 ((qDN x0.2.2.2.1).bind fun r2=>
 some ((r2.1.1,()),()))
 (some ((false,()),()))))
 (cond (x0.2.1==3)
 ((qDN x0.2.2.2.1).bind fun r3=>
 some ((r3.1.1,()),()))
 (some ((false,()),()))))
 (some ((false,()),())))
 (cond (x0.1==4)
 (cond (x0.2.2.2.1==([]:qBs))
 ((qFp x0.2.2.1).bind fun r4=>
 cond (r4.1.1)
 ((qPe x0.2.1).bind fun r5=>
 some ((r5.1.1,()),()))
 (some ((false,()),())))
 (some ((false,()),())))
 (cond (x0.1==5)
 (cond (x0.2.2.2.1==([]:qBs))
 ((qFp x0.2.2.1).bind fun r6=>
 cond (r6.1.1)
 ((qPe x0.2.1).bind fun r7=>
 some ((r7.1.1,()),()))
 (some ((false,()),())))
 (some ((false,()),())))
 (cond (x0.1==16)
 (cond (x0.2.1==0)
 (cond (x0.2.2.1==([]:qBs))
 ((qRF x0.2.2.2.1).bind fun r8=>
 cond (r8.1.1)
 ((qQd x0.2.2.2.1).bind fun r9=>
 some ((decide (r9.1.1 > (0:Int)),()),()))
 (some ((false,()),())))
 (some ((false,()),())))
 (some ((false,()),())))
 (cond (x0.1==17)
 (cond (x0.2.1==0)
 (cond (x0.2.2.1==([]:qBs))
 ((qRF x0.2.2.2.1).bind fun r10=>
 cond (r10.1.1)
 ((qQd x0.2.2.2.1).bind fun r11=>
 some ((decide (r11.1.1 > (0:Int)),()),()))
 (some ((false,()),())))
 (some ((false,()),())))
 (some ((false,()),())))
 (cond (decide (x0.1>=1))
 (cond (decide (x0.1<=20))
 (cond (x0.2.1==0)
 (cond (x0.2.2.1==([]:qBs))
 (some ((x0.2.2.2.1==([]:qBs),()),()))
 (some ((false,()),())))
 (some ((false,()),())))
 (some ((false,()),())))
 (some ((false,()),())))))))
def qPf (op0:Int) (n1:Int):Option ((Bool×Unit)×Unit):=
 cond (op0==1)
 (some ((n1==0,()),()))
 (cond (op0==2)
 (some ((n1==0,()),()))
 (cond (op0==3)
 (some ((n1==0,()),()))
 (cond (op0==4)
 (some ((n1==0,()),()))
 (cond (op0==5)
 (cond (decide (n1>=1))
 (some ((decide (n1<=40),()),()))
 (some ((false,()),())))
 (cond (op0==6)
 (some ((n1==1,()),()))
 (cond (op0==16)
 (some ((n1==1,()),()))
 (cond (op0==17)
 (some ((n1==1,()),()))
 (cond (op0==20)
 (some ((n1==1,()),()))
 (cond (op0==7)
 (some ((decide (n1>=0),()),()))
 (cond (op0==8)
 (some ((decide (n1>=0),()),()))
 (cond (op0==10)
 (some ((n1==3,()),()))
 (cond (op0==19)
 (some ((n1==3,()),()))
 (cond (op0==14)
 (some ((decide (n1>=1),()),()))
 (some ((n1==2,()),())))))))))))))))
def qPV (x:(List Int)×Int×Int×Int×Int×Unit):Option (Ex×((List Int)×Int×Int×Int×Int×Unit)):=
 let s0:=x.1
 let sort1:=x.2.1
 let out2:=x.2.2.1
 let t6:=x.2.2.2.1
 let i7:=x.2.2.2.2.1
 cond (decide (i7 < (s0.length:Int)))
 (grd (decide (0<=i7)&&decide (i7 < s0.length)) (
 cond ((s0.getD i7.toNat (0:Int)) !=sort1)
 (some (Ex.ret,(s0,sort1,out2,0,i7,())))
 (some (Ex.normal,(s0,sort1,out2,t6,qI (i7+1),())))))
 (some (Ex.exit 0,(s0,sort1,out2,t6,i7,())))
def qUP (s0:List Int) (sort1:Int) (out2:Int):Option ((Int×Unit)×Unit):=
 (qPA qPV (s0,sort1,out2,0,0,())).bind fun y1=>
 cond (Ex.same y1.1 (Ex.exit 0))
 (some ((y1.2.2.2.1,()),()))
 (cond (Ex.same y1.1 Ex.ret)
 (some ((y1.2.2.2.2.1,()),()))
 (none))
def qLV (s0:Int):Option ((Bool×Unit)×Unit):=
 cond (s0==2)
 (some ((true,()),()))
 (some ((s0==3,()),()))
def qDb (x0:Nod) (first1:Int) (s2:List Int):Option ((Int×Unit)×Unit):=
 cond (x0.1==1)
 (some ((1,()),()))
 (cond (x0.1==2)
 (some ((1,()),()))
 (cond (x0.1==3)
 (some ((x0.2.1,()),()))
 (cond (x0.1==4)
 (some ((x0.2.1,()),()))
 (cond (x0.1==5)
 (some ((x0.2.1,()),()))
 (cond (x0.1==6)
 ((qUP s2 1 1).bind fun r1=>
 some ((r1.1.1,()),()))
 (cond (x0.1==7)
 ((qUP s2 1 1).bind fun r2=>
 some ((r2.1.1,()),()))
 (cond (x0.1==8)
 ((qUP s2 1 1).bind fun r3=>
 some ((r3.1.1,()),()))
 (cond (x0.1==9)
 ((qUP s2 1 1).bind fun r4=>
 some ((r4.1.1,()),()))
 (cond (x0.1==10)
 (grd (decide (0<=(0:Int))&&decide ((0:Int) < s2.length)) (
 cond ((s2.getD (0:Int).toNat (0:Int))==1)
 (grd (decide (0<=(1:Int))&&decide ((1:Int) < s2.length)) (
 grd (decide (0<=(2:Int))&&decide ((2:Int) < s2.length)) (
 cond ((s2.getD (1:Int).toNat (0:Int))==(s2.getD (2:Int).toNat (0:Int)))
 (grd (decide (0<=(1:Int))&&decide ((1:Int) < s2.length)) (some ((s2.getD (1:Int).toNat (0:Int),()),())))
 (some ((0,()),())))))
 (some ((0,()),()))))
 (cond (x0.1==11)
 (grd (decide (0<=(0:Int))&&decide ((0:Int) < s2.length)) (
 (qUP s2 (s2.getD (0:Int).toNat (0:Int)) 1).bind fun r5=>
 some ((r5.1.1,()),())))
 (cond (x0.1==12)
 (grd (decide (0<=(0:Int))&&decide ((0:Int) < s2.length)) (
 (qLV (s2.getD (0:Int).toNat (0:Int))).bind fun r6=>
 cond (r6.1.1)
 (grd (decide (0<=(0:Int))&&decide ((0:Int) < s2.length)) (
 (qUP s2 (s2.getD (0:Int).toNat (0:Int)) 1).bind fun r7=>
 some ((r7.1.1,()),())))
 (some ((0,()),()))))
 (cond (x0.1==13)
 (grd (decide (0<=(0:Int))&&decide ((0:Int) < s2.length)) (
 (qLV (s2.getD (0:Int).toNat (0:Int))).bind fun r8=>
 cond (r8.1.1)
 (grd (decide (0<=(0:Int))&&decide ((0:Int) < s2.length)) (
 (qUP s2 (s2.getD (0:Int).toNat (0:Int)) 1).bind fun r9=>
 some ((r9.1.1,()),())))
 (some ((0,()),()))))
 (cond (x0.1==14)
 (grd (decide (0<=(0:Int))&&decide ((0:Int) < s2.length)) (
 (qLV (s2.getD (0:Int).toNat (0:Int))).bind fun r10=>
 cond (r10.1.1)
 (grd (decide (0<=(0:Int))&&decide ((0:Int) < s2.length)) (
 grd (decide (0<=(0:Int))&&decide ((0:Int) < s2.length)) (
 (qUP s2 (s2.getD (0:Int).toNat (0:Int)) (s2.getD (0:Int).toNat (0:Int))).bind fun r11=>
 some ((r11.1.1,()),()))))
 (some ((0,()),()))))
 (cond (x0.1==15)
 (cond (first1==3)
 (grd (decide (0<=(0:Int))&&decide ((0:Int) < s2.length)) (
 grd (decide (0<=(0:Int))&&decide ((0:Int) < s2.length)) (
 (qUP s2 (s2.getD (0:Int).toNat (0:Int)) (s2.getD (0:Int).toNat (0:Int))).bind fun r12=>
 some ((r12.1.1,()),()))))
 (some ((0,()),())))
 (cond (x0.1==16)
 ((qUP s2 2 2).bind fun r13=>
 some ((r13.1.1,()),()))
 (cond (x0.1==17)
 ((qUP s2 2 2).bind fun r14=>
 some ((r14.1.1,()),()))
 (cond (x0.1==20)
 ((qUP s2 2 4).bind fun r15=>
 some ((r15.1.1,()),()))
 (cond (x0.1==18)
 (grd (decide (0<=(0:Int))&&decide ((0:Int) < s2.length)) (
 cond ((s2.getD (0:Int).toNat (0:Int))==4)
 (grd (decide (0<=(1:Int))&&decide ((1:Int) < s2.length)) (
 cond ((s2.getD (1:Int).toNat (0:Int))==2)
 (some ((2,()),()))
 (some ((0,()),()))))
 (some ((0,()),()))))
 (cond (x0.1==19)
 (grd (decide (0<=(0:Int))&&decide ((0:Int) < s2.length)) (
 cond ((s2.getD (0:Int).toNat (0:Int))==4)
 (grd (decide (0<=(1:Int))&&decide ((1:Int) < s2.length)) (
 cond ((s2.getD (1:Int).toNat (0:Int))==2)
 (grd (decide (0<=(2:Int))&&decide ((2:Int) < s2.length)) (
 cond ((s2.getD (2:Int).toNat (0:Int))==2)
 (some ((4,()),()))
 (some ((0,()),()))))
 (some ((0,()),()))))
 (some ((0,()),()))))
 (some ((0,()),())))))))))))))))))))))
def qMN (qLaE:List Nod->Int->Int->Option ((Int×Int×Unit)×Unit)) (x:(List Nod)×Int×Int×Int×Int×(List Int)×Int×Bool×Int×Unit):Option (Ex×((List Nod)×Int×Int×Int×Int×(List Int)×Int×Bool×Int×Unit)):=
 let t0:=x.1
 let i1:=x.2.1
 let depth2:=x.2.2.1
 let t6:=x.2.2.2.1
 let t7:=x.2.2.2.2.1
 let s8:=x.2.2.2.2.2.1
 let end9:=x.2.2.2.2.2.2.1
 let good10:=x.2.2.2.2.2.2.2.1
 let k11:=x.2.2.2.2.2.2.2.2.1
 grd (decide (0<=i1)&&decide (i1 < t0.length)) (
 cond (decide (k11 < (((((t0.getD i1.toNat qPE).2).2).2).2)))
 ((qLaE t0 end9 (qI (depth2+1))).bind fun r1=>
 cond (decide (r1.1.1 < (0:Int)))
 (some (Ex.ret,(t0,i1,depth2,-1,0,s8,r1.1.1,good10,k11,())))
 (cond (good10)
 (grd (decide (s8.length+([r1.1.2.1]:List Int).length<=qKF)) (some (Ex.normal,(t0,i1,depth2,t6,t7,s8++([r1.1.2.1]:List Int),r1.1.1,decide (r1.1.2.1 > (0:Int)),qI (k11+1),()))))
 (grd (decide (s8.length+([r1.1.2.1]:List Int).length<=qKF)) (some (Ex.normal,(t0,i1,depth2,t6,t7,s8++([r1.1.2.1]:List Int),r1.1.1,false,qI (k11+1),()))))))
 (some (Ex.exit 0,(t0,i1,depth2,t6,t7,s8,end9,good10,k11,()))))
def qCf (qLaE:List Nod->Int->Int->Option ((Int×Int×Unit)×Unit)) (t0:List Nod) (i1:Int) (depth2:Int):Option ((Int×Int×Unit)×Unit):=
 cond (decide (i1>=(t0.length:Int)))
 (some ((-1,0,()),()))
 (cond (decide (depth2 > (256:Int)))
 (some ((-1,0,()),()))
 (grd (decide (0<=i1)&&decide (i1 < t0.length)) (
 (qEf (t0.getD i1.toNat qPE)).bind fun r1=>
 cond (!r1.1.1)
 (some ((-1,0,()),()))
 (grd (decide (0<=i1)&&decide (i1 < t0.length)) (
 grd (decide (0<=i1)&&decide (i1 < t0.length)) (
 (qPf ((t0.getD i1.toNat qPE).1) (((((t0.getD i1.toNat qPE).2).2).2).2)).bind fun r2=>
 cond (!r2.1.1)
 (some ((-1,0,()),()))
 (grd (decide (0<=i1)&&decide (i1 < t0.length)) (
 cond (decide ((((((t0.getD i1.toNat qPE).2).2).2).2) > (t0.length:Int)))
 (some ((-1,0,()),()))
 ((qPA (qMN qLaE) (t0,i1,depth2,0,0,([]:List Int),qI (i1+1),true,0,())).bind fun y3=>
 cond (Ex.same y3.1 (Ex.exit 0))
 (cond (!y3.2.2.2.2.2.2.2.2.1)
 (some ((y3.2.2.2.2.2.2.2.1,0,()),()))
 (cond (decide ((y3.2.2.2.2.2.2.1.length:Int) > (0:Int)))
 (grd (decide (0<=qI (y3.2.2.1+1))&&decide (qI (y3.2.2.1+1) < y3.2.1.length)) (
 grd (decide (0<=y3.2.2.1)&&decide (y3.2.2.1 < y3.2.1.length)) (
 (qDb (y3.2.1.getD y3.2.2.1.toNat qPE) ((y3.2.1.getD (qI (y3.2.2.1+1)).toNat qPE).1) y3.2.2.2.2.2.2.1).bind fun r4=>
 some ((y3.2.2.2.2.2.2.2.1,r4.1.1,()),()))))
 (grd (decide (0<=y3.2.2.1)&&decide (y3.2.2.1 < y3.2.1.length)) (
 (qDb (y3.2.1.getD y3.2.2.1.toNat qPE) 0 y3.2.2.2.2.2.2.1).bind fun r5=>
 some ((y3.2.2.2.2.2.2.2.1,r5.1.1,()),())))))
 (cond (Ex.same y3.1 Ex.ret)
 (some ((y3.2.2.2.2.1,y3.2.2.2.2.2.1,()),()))
 (none)))))))))))
def qHb:Nat->List Nod->Int->Int->Option ((Int×Int×Unit)×Unit)
 |0=>fun _ _ _=>none
 |n+1=>qCf (qHb n)
def qDH (x:(List Nod)×Int×(List Int)×Int×Int×Unit):Option (Ex×((List Nod)×Int×(List Int)×Int×Int×Unit)):=
 let t0:=x.1
 let i1:=x.2.1
 let out5:=x.2.2.1
 let at6:=x.2.2.2.1
 let k7:=x.2.2.2.2.1
 grd (decide (0<=i1)&&decide (i1 < t0.length)) (
 cond (decide (k7 < (((((t0.getD i1.toNat qPE).2).2).2).2)))
 ((qHb big t0 at6 0).bind fun r1=>
 grd (decide (out5.length+([r1.1.2.1]:List Int).length<=qKF)) (some (Ex.normal,(t0,i1,out5++([r1.1.2.1]:List Int),r1.1.1,qI (k7+1),()))))
 (some (Ex.exit 0,(t0,i1,out5,at6,k7,()))))
def qER (t0:List Nod) (i1:Int):Option (((List Int)×Unit)×Unit):=
 (qPA qDH (t0,i1,([]:List Int),qI (i1+1),0,())).bind fun y1=>
 cond (Ex.same y1.1 (Ex.exit 0))
 (some ((y1.2.2.2.1,()),()))
 (none)
def qDf (t0:List Nod) (i1:Int):Option (((qBs×qCA)×Unit)×Unit):=
 grd (decide (0<=i1)&&decide (i1 < t0.length)) (
 (qER t0 i1).bind fun r1=>
 grd (decide (0<=i1)&&decide (i1 < t0.length)) (some ((((((t0.getD i1.toNat qPE).2).2).1,r1.1.1,((t0.getD i1.toNat qPE).2).1),()),())))
def qMK (x:(List Int)×(List Int)×Bool×Int×Unit):Option (Ex×((List Int)×(List Int)×Bool×Int×Unit)):=
 let a0:=x.1
 let b1:=x.2.1
 let t4:=x.2.2.1
 let i5:=x.2.2.2.1
 cond (decide (i5 < (a0.length:Int)))
 (grd (decide (0<=i5)&&decide (i5 < a0.length)) (
 grd (decide (0<=i5)&&decide (i5 < b1.length)) (
 cond ((a0.getD i5.toNat (0:Int)) !=(b1.getD i5.toNat (0:Int)))
 (some (Ex.ret,(a0,b1,false,i5,())))
 (some (Ex.normal,(a0,b1,t4,qI (i5+1),()))))))
 (some (Ex.exit 0,(a0,b1,t4,i5,())))
def qWS (a0:List Int) (b1:List Int):Option ((Bool×Unit)×Unit):=
 cond ((a0.length:Int) !=(b1.length:Int))
 (some ((false,()),()))
 ((qPA qMK (a0,b1,false,0,())).bind fun y1=>
 cond (Ex.same y1.1 (Ex.exit 0))
 (some ((true,()),()))
 (cond (Ex.same y1.1 Ex.ret)
 (some ((y1.2.2.2.1,()),()))
 (none)))
def qRH (x:(List Nod)×Bool×(List Vr)×(List (qBs×qCA))×Int×Bool×Int×Unit):Option (Ex×((List Nod)×Bool×(List Vr)×(List (qBs×qCA))×Int×Bool×Int×Unit)):=
 let t0:=x.1
 let t2:=x.2.1
 let vars3:=x.2.2.1
 let funcs4:=x.2.2.2.1
 let i5:=x.2.2.2.2.1
 let known6:=x.2.2.2.2.2.1
 let k7:=x.2.2.2.2.2.2.1
 cond (decide (k7 < (vars3.length:Int)))
 (grd (decide (0<=k7)&&decide (k7 < vars3.length)) (
 grd (decide (k7.toNat < vars3.length)) (
 grd (decide (0<=i5)&&decide (i5 < t0.length)) (
 cond (((vars3.getD k7.toNat zVr).1)==((((t0.getD i5.toNat qPE).2).2).1))
 (grd (decide (0<=k7)&&decide (k7 < vars3.length)) (
 grd (decide (k7.toNat < vars3.length)) (
 grd (decide (0<=i5)&&decide (i5 < t0.length)) (
 cond (((vars3.getD k7.toNat zVr).2) !=(((t0.getD i5.toNat qPE).2).1))
 (some (Ex.ret,(t0,false,vars3,funcs4,i5,true,k7,())))
 (some (Ex.normal,(t0,t2,vars3,funcs4,i5,true,qI (k7+1),())))))))
 (some (Ex.normal,(t0,t2,vars3,funcs4,i5,known6,qI (k7+1),())))))))
 (some (Ex.exit 3,(t0,t2,vars3,funcs4,i5,known6,k7,())))
def qAI (x:(List Nod)×Bool×(List Vr)×(List (qBs×qCA))×Int×(qBs×qCA)×Bool×Int×Unit):Option (Ex×((List Nod)×Bool×(List Vr)×(List (qBs×qCA))×Int×(qBs×qCA)×Bool×Int×Unit)):=
 let t0:=x.1
 let t2:=x.2.1
 let vars3:=x.2.2.1
 let funcs4:=x.2.2.2.1
 let i5:=x.2.2.2.2.1
 let f8:=x.2.2.2.2.2.1
 let known9:=x.2.2.2.2.2.2.1
 let k10:=x.2.2.2.2.2.2.2.1
 cond (decide (k10 < (funcs4.length:Int)))
 (grd (decide (0<=k10)&&decide (k10 < funcs4.length)) (
 grd (decide (k10.toNat < funcs4.length)) (
 cond (((funcs4.getD k10.toNat (([]:qBs),([]:List Int),(0:Int))).1)==f8.1)
 (grd (decide (0<=k10)&&decide (k10 < funcs4.length)) (
 grd (decide (k10.toNat < funcs4.length)) (
 cond ((((funcs4.getD k10.toNat (([]:qBs),([]:List Int),(0:Int))).2).2) !=f8.2.2)
 (some (Ex.ret,(t0,false,vars3,funcs4,i5,f8,true,k10,())))
 (grd (decide (0<=k10)&&decide (k10 < funcs4.length)) (
 grd (decide (k10.toNat < funcs4.length)) (
 (qWS (((funcs4.getD k10.toNat (([]:qBs),([]:List Int),(0:Int))).2).1) f8.2.1).bind fun r1=>
 cond (!r1.1.1)
 (some (Ex.ret,(t0,false,vars3,funcs4,i5,f8,true,k10,())))
 (some (Ex.normal,(t0,t2,vars3,funcs4,i5,f8,true,qI (k10+1),())))))))))
 (some (Ex.normal,(t0,t2,vars3,funcs4,i5,f8,known9,qI (k10+1),()))))))
 (some (Ex.exit 5,(t0,t2,vars3,funcs4,i5,f8,known9,k10,())))
def qNH (x:(List Nod)×Bool×(List Vr)×(List (qBs×qCA))×Int×Unit):Option (Ex×((List Nod)×Bool×(List Vr)×(List (qBs×qCA))×Int×Unit)):=
 let t0:=x.1
 let t2:=x.2.1
 let vars3:=x.2.2.1
 let funcs4:=x.2.2.2.1
 let i5:=x.2.2.2.2.1
 cond (decide (i5 < (t0.length:Int)))
 (grd (decide (0<=i5)&&decide (i5 < t0.length)) (
 cond (((t0.getD i5.toNat qPE).1)==4)
 ((qPA qRH (t0,t2,vars3,funcs4,i5,false,0,())).bind fun y1=>
 cond (Ex.same y1.1 (Ex.exit 3))
 (cond (!y1.2.2.2.2.2.2.1)
 (grd (decide (0<=y1.2.2.2.2.2.1)&&decide (y1.2.2.2.2.2.1 < y1.2.1.length)) (grd (decide (0<=y1.2.2.2.2.2.1)&&decide (y1.2.2.2.2.2.1 < y1.2.1.length)) (grd (decide (y1.2.2.2.1.length+([((((y1.2.1.getD y1.2.2.2.2.2.1.toNat qPE).2).2).1,((y1.2.1.getD y1.2.2.2.2.2.1.toNat qPE).2).1)]:List Vr).length<=qKF)) (some (Ex.normal,(y1.2.1,y1.2.2.1,y1.2.2.2.1++([((((y1.2.1.getD y1.2.2.2.2.2.1.toNat qPE).2).2).1,((y1.2.1.getD y1.2.2.2.2.2.1.toNat qPE).2).1)]:List Vr),y1.2.2.2.2.1,qI (y1.2.2.2.2.2.1+1),()))))))
 (some (Ex.normal,(y1.2.1,y1.2.2.1,y1.2.2.2.1,y1.2.2.2.2.1,qI (y1.2.2.2.2.2.1+1),()))))
 (cond (Ex.same y1.1 Ex.ret)
 (some (Ex.ret,(y1.2.1,y1.2.2.1,y1.2.2.2.1,y1.2.2.2.2.1,y1.2.2.2.2.2.1,())))
 (none)))
 (cond (((t0.getD i5.toNat qPE).1)==5)
 ((qDf t0 i5).bind fun r2=>
 (qPA qAI (t0,t2,vars3,funcs4,i5,r2.1.1,false,0,())).bind fun y3=>
 cond (Ex.same y3.1 (Ex.exit 5))
 (cond (!y3.2.2.2.2.2.2.2.1)
 (grd (decide (y3.2.2.2.2.1.length+([y3.2.2.2.2.2.2.1]:List (qBs×qCA)).length<=qKF)) (some (Ex.normal,(y3.2.1,y3.2.2.1,y3.2.2.2.1,y3.2.2.2.2.1++([y3.2.2.2.2.2.2.1]:List (qBs×qCA)),qI (y3.2.2.2.2.2.1+1),()))))
 (some (Ex.normal,(y3.2.1,y3.2.2.1,y3.2.2.2.1,y3.2.2.2.2.1,qI (y3.2.2.2.2.2.1+1),()))))
 (cond (Ex.same y3.1 Ex.ret)
 (some (Ex.ret,(y3.2.1,y3.2.2.1,y3.2.2.2.1,y3.2.2.2.2.1,y3.2.2.2.2.2.1,())))
 (none)))
 (some (Ex.normal,(t0,t2,vars3,funcs4,qI (i5+1),()))))))
 (some (Ex.exit 0,(t0,t2,vars3,funcs4,i5,())))
def qPH (x:Bool×(List Vr)×(List (qBs×qCA))×Int×Int×Unit):Option (Ex×(Bool×(List Vr)×(List (qBs×qCA))×Int×Int×Unit)):=
 let t2:=x.1
 let vars3:=x.2.1
 let funcs4:=x.2.2.1
 let i11:=x.2.2.2.1
 let k12:=x.2.2.2.2.1
 cond (decide (k12 < (funcs4.length:Int)))
 (grd (decide (0<=i11)&&decide (i11 < vars3.length)) (
 grd (decide (i11.toNat < vars3.length)) (
 grd (decide (0<=k12)&&decide (k12 < funcs4.length)) (
 grd (decide (k12.toNat < funcs4.length)) (
 cond (((vars3.getD i11.toNat zVr).1)==((funcs4.getD k12.toNat (([]:qBs),([]:List Int),(0:Int))).1))
 (some (Ex.ret,(false,vars3,funcs4,i11,k12,())))
 (some (Ex.normal,(t2,vars3,funcs4,i11,qI (k12+1),()))))))))
 (some (Ex.exit 9,(t2,vars3,funcs4,i11,k12,())))
def qNG (x:Bool×(List Vr)×(List (qBs×qCA))×Int×Unit):Option (Ex×(Bool×(List Vr)×(List (qBs×qCA))×Int×Unit)):=
 let t2:=x.1
 let vars3:=x.2.1
 let funcs4:=x.2.2.1
 let i11:=x.2.2.2.1
 cond (decide (i11 < (vars3.length:Int)))
 ((qPA qPH (t2,vars3,funcs4,i11,0,())).bind fun y1=>
 cond (Ex.same y1.1 (Ex.exit 9))
 (some (Ex.normal,(y1.2.1,y1.2.2.1,y1.2.2.2.1,qI (y1.2.2.2.2.1+1),())))
 (cond (Ex.same y1.1 Ex.ret)
 (some (Ex.ret,(y1.2.1,y1.2.2.1,y1.2.2.2.1,y1.2.2.2.2.1,())))
 (none)))
 (some (Ex.exit 7,(t2,vars3,funcs4,i11,())))
def qSa (t0:List Nod):Option ((Bool×Unit)×Unit):=
 (qPA qNH (t0,false,([]:List Vr),([]:List (qBs×qCA)),0,())).bind fun y1=>
 cond (Ex.same y1.1 (Ex.exit 0))
 ((qPA qNG (y1.2.2.1,y1.2.2.2.1,y1.2.2.2.2.1,0,())).bind fun y2=>
 cond (Ex.same y2.1 (Ex.exit 7))
 (some ((true,()),()))
 (cond (Ex.same y2.1 Ex.ret)
 (some ((y2.2.1,()),()))
 (none)))
 (cond (Ex.same y1.1 Ex.ret)
 (some ((y1.2.2.1,()),()))
 (none))
def qWa (t0:List Nod):Option ((Int×Unit)×Unit):=
 cond (decide ((t0.length:Int) > (20000:Int)))
 (some ((0,()),()))
 ((qHb big t0 0 0).bind fun r1=>
 cond (r1.1.1 !=(t0.length:Int))
 (some ((0,()),()))
 (cond (r1.1.2.1==0)
 (some ((0,()),()))
 ((qSa t0).bind fun r2=>
 cond (!r2.1.1)
 (some ((0,()),()))
 (some ((r1.1.2.1,()),())))))
def qPQ (t0:List Nod):Option ((Bool×Unit)×Unit):=
 (qWa t0).bind fun r1=>
 some ((decide (r1.1.1 > (0:Int)),()),())
def qVy (a0:qBs):Option ((qBs×Unit)×Unit):=
 (qFH a0).bind fun r1=>
 cond (!r1.1.2.1)
 (some ((([]:qBs),()),()))
 (cond (!r1.1.1.1)
 ((qBB (!(r1.1.1.2.1==([48]:qBs)),r1.1.1.2.1,r1.1.1.2.2)).bind fun r2=>
 some ((r2.1.1,()),()))
 ((qBB (false,r1.1.1.2.1,r1.1.1.2.2)).bind fun r3=>
 some ((r3.1.1,()),())))
def qVM (x:qBs×qBs×(List Int)×Int×Int×Unit):Option (Ex×(qBs×qBs×(List Int)×Int×Int×Unit)):=
 let a0:=x.1
 let b1:=x.2.1
 let out5:=x.2.2.1
 let i6:=x.2.2.2.1
 let j7:=x.2.2.2.2.1
 cond (decide (j7 < (b1.length:Int)))
 (grd (decide (0<=qI ((qI (i6+j7))+1))&&decide (qI ((qI (i6+j7))+1) < out5.length)) (grd (decide ((qI ((qI (i6+j7))+1)).toNat < out5.length)) (grd (decide (0<=i6)&&decide (i6 < a0.length)) (grd (decide (0<=j7)&&decide (j7 < b1.length)) (grd (decide (0<=qI ((qI (i6+j7))+1))&&decide (qI ((qI (i6+j7))+1) < out5.length)) (grd (decide ((qI ((qI (i6+j7))+1)).toNat < out5.length)) (some (Ex.normal,(a0,b1,out5.set ((qI ((qI (i6+j7))+1)).toNat) (qI ((out5.getD ((qI ((qI (i6+j7))+1)).toNat) (0:Int))+(qI ((qI (IntKind.u8.wrap (((a0.getD i6.toNat 0).toNat:Int) - (48:Int)))) * (qI (IntKind.u8.wrap (((b1.getD j7.toNat 0).toNat:Int) - (48:Int)))))))),i6,qI (j7+1),())))))))))
 (some (Ex.exit 2,(a0,b1,out5,i6,j7,())))
def qMQ (x:qBs×qBs×(List Int)×Int×Unit):Option (Ex×(qBs×qBs×(List Int)×Int×Unit)):=
 let a0:=x.1
 let b1:=x.2.1
 let out5:=x.2.2.1
 let i6:=x.2.2.2.1
 cond (decide (i6 < (a0.length:Int)))
 ((qPA qVM (a0,b1,out5,i6,0,())).bind fun y1=>
 cond (Ex.same y1.1 (Ex.exit 2))
 (some (Ex.normal,(y1.2.1,y1.2.2.1,y1.2.2.2.1,qI (y1.2.2.2.2.1+1),())))
 (none))
 (some (Ex.exit 0,(a0,b1,out5,i6,())))
def qDO (x:(List Int)×(List Int)×Int×Int×Unit):Option (Ex×((List Int)×(List Int)×Int×Int×Unit)):=
 let out5:=x.1
 let s8:=x.2.1
 let carry9:=x.2.2.1
 let k10:=x.2.2.2.1
 cond (decide (k10>=0))
 (grd (decide (0<=k10)&&decide (k10 < out5.length)) (grd (decide (k10.toNat < out5.length)) (grd ((10:Int) !=0) (grd (decide (0<=k10)&&decide (k10 < s8.length)) (grd (decide (k10.toNat < s8.length)) (grd ((10:Int) !=0) (some (Ex.normal,(out5,s8.set k10.toNat (IntKind.u8.wrap (qI ((48:Int)+((qI ((out5.getD k10.toNat (0:Int))+carry9)).tmod 10)))),qI ((qI ((out5.getD k10.toNat (0:Int))+carry9)).tdiv 10),qI (k10 - (1:Int)),())))))))))
 (some (Ex.exit 4,(out5,s8,carry9,k10,())))
def qGN (a0:qBs) (b1:qBs):Option ((qBs×Unit)×Unit):=
 grd (decide (0<=qI ((a0.length:Int)+(b1.length:Int)))&&decide (qI ((a0.length:Int)+(b1.length:Int))<=qI ((a0.length:Int)+(b1.length:Int)))&&decide (qI ((a0.length:Int)+(b1.length:Int))<=qKF)) (
 (qPA qMQ (a0,b1,List.replicate (qI ((a0.length:Int)+(b1.length:Int))).toNat (0:Int),0,())).bind fun y1=>
 cond (Ex.same y1.1 (Ex.exit 0))
 (grd (decide (0<=(y1.2.2.2.1.length:Int))&&decide ((y1.2.2.2.1.length:Int)<=(y1.2.2.2.1.length:Int))&&decide ((y1.2.2.2.1.length:Int)<=qKF)) (
 (qPA qDO (y1.2.2.2.1,List.replicate (y1.2.2.2.1.length:Int).toNat (0:Int),0,qI ((y1.2.2.2.1.length:Int) - (1:Int)),())).bind fun y2=>
 cond (Ex.same y2.1 (Ex.exit 4))
 ((qVO (y2.2.2.1.map fun n=>UInt8.ofNat n.toNat)).bind fun r3=>
 some ((r3.1.1,()),()))
 (none)))
 (none))
def qVG (x:qBs×qBs×Int×(List Int)×Int×Int×Unit):Option (Ex×(qBs×qBs×Int×(List Int)×Int×Int×Unit)):=
 let a0:=x.1
 let b1:=x.2.1
 let n5:=x.2.2.1
 let out6:=x.2.2.2.1
 let carry7:=x.2.2.2.2.1
 let i8:=x.2.2.2.2.2.1
 cond (decide (i8 < n5))
 (cond (decide (i8 < (a0.length:Int)))
 (grd (decide (0<=qI ((qI ((a0.length:Int) - (1:Int))) - i8))&&decide (qI ((qI ((a0.length:Int) - (1:Int))) - i8) < a0.length)) (
 cond (decide (i8 < (b1.length:Int)))
 (grd (decide (0<=qI ((qI ((b1.length:Int) - (1:Int))) - i8))&&decide (qI ((qI ((b1.length:Int) - (1:Int))) - i8) < b1.length)) (grd ((10:Int) !=0) (grd (decide (0<=qI ((qI (n5 - (1:Int))) - i8))&&decide (qI ((qI (n5 - (1:Int))) - i8) < out6.length)) (grd (decide ((qI ((qI (n5 - (1:Int))) - i8)).toNat < out6.length)) (grd ((10:Int) !=0) (some (Ex.normal,(a0,b1,n5,out6.set ((qI ((qI (n5 - (1:Int))) - i8)).toNat) (IntKind.u8.wrap (qI ((48:Int)+((qI ((qI (carry7+(qI (IntKind.u8.wrap (((a0.getD (qI ((qI ((a0.length:Int) - (1:Int))) - i8)).toNat 0).toNat:Int) - (48:Int))))))+(qI (IntKind.u8.wrap (((b1.getD (qI ((qI ((b1.length:Int) - (1:Int))) - i8)).toNat 0).toNat:Int) - (48:Int)))))).tmod 10)))),qI ((qI ((qI (carry7+(qI (IntKind.u8.wrap (((a0.getD (qI ((qI ((a0.length:Int) - (1:Int))) - i8)).toNat 0).toNat:Int) - (48:Int))))))+(qI (IntKind.u8.wrap (((b1.getD (qI ((qI ((b1.length:Int) - (1:Int))) - i8)).toNat 0).toNat:Int) - (48:Int)))))).tdiv 10),qI (i8+1),()))))))))
 (grd ((10:Int) !=0) (grd (decide (0<=qI ((qI (n5 - (1:Int))) - i8))&&decide (qI ((qI (n5 - (1:Int))) - i8) < out6.length)) (grd (decide ((qI ((qI (n5 - (1:Int))) - i8)).toNat < out6.length)) (grd ((10:Int) !=0) (some (Ex.normal,(a0,b1,n5,out6.set ((qI ((qI (n5 - (1:Int))) - i8)).toNat) (IntKind.u8.wrap (qI ((48:Int)+((qI (carry7+(qI (IntKind.u8.wrap (((a0.getD (qI ((qI ((a0.length:Int) - (1:Int))) - i8)).toNat 0).toNat:Int) - (48:Int)))))).tmod 10)))),qI ((qI (carry7+(qI (IntKind.u8.wrap (((a0.getD (qI ((qI ((a0.length:Int) - (1:Int))) - i8)).toNat 0).toNat:Int) - (48:Int)))))).tdiv 10),qI (i8+1),())))))))))
 (cond (decide (i8 < (b1.length:Int)))
 (grd (decide (0<=qI ((qI ((b1.length:Int) - (1:Int))) - i8))&&decide (qI ((qI ((b1.length:Int) - (1:Int))) - i8) < b1.length)) (grd ((10:Int) !=0) (grd (decide (0<=qI ((qI (n5 - (1:Int))) - i8))&&decide (qI ((qI (n5 - (1:Int))) - i8) < out6.length)) (grd (decide ((qI ((qI (n5 - (1:Int))) - i8)).toNat < out6.length)) (grd ((10:Int) !=0) (some (Ex.normal,(a0,b1,n5,out6.set ((qI ((qI (n5 - (1:Int))) - i8)).toNat) (IntKind.u8.wrap (qI ((48:Int)+((qI (carry7+(qI (IntKind.u8.wrap (((b1.getD (qI ((qI ((b1.length:Int) - (1:Int))) - i8)).toNat 0).toNat:Int) - (48:Int)))))).tmod 10)))),qI ((qI (carry7+(qI (IntKind.u8.wrap (((b1.getD (qI ((qI ((b1.length:Int) - (1:Int))) - i8)).toNat 0).toNat:Int) - (48:Int)))))).tdiv 10),qI (i8+1),()))))))))
 (grd ((10:Int) !=0) (grd (decide (0<=qI ((qI (n5 - (1:Int))) - i8))&&decide (qI ((qI (n5 - (1:Int))) - i8) < out6.length)) (grd (decide ((qI ((qI (n5 - (1:Int))) - i8)).toNat < out6.length)) (grd ((10:Int) !=0) (some (Ex.normal,(a0,b1,n5,out6.set ((qI ((qI (n5 - (1:Int))) - i8)).toNat) (IntKind.u8.wrap (qI ((48:Int)+(carry7.tmod 10)))),qI (carry7.tdiv 10),qI (i8+1),())))))))))
 (some (Ex.exit 0,(a0,b1,n5,out6,carry7,i8,())))
def qGb (a0:qBs) (b1:qBs):Option ((qBs×Unit)×Unit):=
 grd (decide (0<=qI ((qSc (a0.length:Int) (b1.length:Int))+1))&&decide (qI ((qSc (a0.length:Int) (b1.length:Int))+1)<=qI ((qSc (a0.length:Int) (b1.length:Int))+1))&&decide (qI ((qSc (a0.length:Int) (b1.length:Int))+1)<=qKF)) (
 (qPA qVG (a0,b1,qI ((qSc (a0.length:Int) (b1.length:Int))+1),List.replicate (qI ((qSc (a0.length:Int) (b1.length:Int))+1)).toNat (0:Int),0,0,())).bind fun y1=>
 cond (Ex.same y1.1 (Ex.exit 0))
 ((qVO (y1.2.2.2.2.1.map fun n=>UInt8.ofNat n.toNat)).bind fun r2=>
 some ((r2.1.1,()),()))
 (none))
def qWz (a0:qBs) (b1:qBs):Option ((qBs×Unit)×Unit):=
 (qFH a0).bind fun r1=>
 (qFH b1).bind fun r2=>
 cond (!r1.1.2.1)
 (some ((([]:qBs),()),()))
 (cond (!r2.1.2.1)
 (some ((([]:qBs),()),()))
 ((qGN r1.1.1.2.1 r2.1.1.2.2).bind fun r3=>
 (qGN r2.1.1.2.1 r1.1.1.2.2).bind fun r4=>
 (qGN r1.1.1.2.2 r2.1.1.2.2).bind fun r5=>
 cond (r1.1.1.1==r2.1.1.1)
 ((qGb r3.1.1 r4.1.1).bind fun r6=>
 (qPI r1.1.1.1 r6.1.1 r5.1.1).bind fun r7=>
 (qBB (r7.1.1.1,r7.1.1.2.1,r7.1.1.2.2)).bind fun r8=>
 some ((r8.1.1,()),()))
 ((qJb r3.1.1 r4.1.1).bind fun r9=>
 cond (decide (r9.1.1>=0))
 ((qRW r3.1.1 r4.1.1).bind fun r10=>
 (qPI r1.1.1.1 r10.1.1 r5.1.1).bind fun r11=>
 (qBB (r11.1.1.1,r11.1.1.2.1,r11.1.1.2.2)).bind fun r12=>
 some ((r12.1.1,()),()))
 ((qRW r4.1.1 r3.1.1).bind fun r13=>
 (qPI r2.1.1.1 r13.1.1 r5.1.1).bind fun r14=>
 (qBB (r14.1.1.1,r14.1.1.2.1,r14.1.1.2.2)).bind fun r15=>
 some ((r15.1.1,()),())))))
def qPae (a0:qBs) (b1:qBs):Option ((qBs×Unit)×Unit):=
 (qVy b1).bind fun r1=>
 (qWz a0 r1.1.1).bind fun r2=>
 some ((r2.1.1,()),())
def qWb (a0:qBs) (b1:qBs):Option ((Int×Unit)×Unit):=
 (qDN a0).bind fun r1=>
 cond (!r1.1.1)
 (some ((0,()),()))
 ((qDN b1).bind fun r2=>
 cond (!r2.1.1)
 (some ((0,()),()))
 ((qPae a0 b1).bind fun r3=>
 (qQd r3.1.1).bind fun r4=>
 some ((r4.1.1,()),())))
def qUC (x:Val×Bool×Int×Unit):Option (Ex×(Val×Bool×Int×Unit)):=
 let v1:=x.1
 let t2:=x.2.1
 let i3:=x.2.2.1
 cond (decide (i3 < (v1.2.2.2.1.length:Int)))
 (grd (decide (0<=i3)&&decide (i3 < v1.2.2.2.1.length)) (
 (qRF (v1.2.2.2.1.getD i3.toNat ([]:qBs))).bind fun r1=>
 cond (!r1.1.1)
 (some (Ex.ret,(v1,false,i3,())))
 (grd (decide (0<=i3)&&decide (i3 < v1.2.2.2.2.length)) (
 (qRF (v1.2.2.2.2.getD i3.toNat ([]:qBs))).bind fun r2=>
 cond (!r2.1.1)
 (some (Ex.ret,(v1,false,i3,())))
 (grd (decide (0<=i3)&&decide (i3 < v1.2.2.2.2.length)) (
 cond ((v1.2.2.2.2.getD i3.toNat ([]:qBs))==v1.2.2.1)
 (some (Ex.ret,(v1,false,i3,())))
 (cond (decide (i3 > (0:Int)))
 (grd (decide (0<=qI (i3 - (1:Int)))&&decide (qI (i3 - (1:Int)) < v1.2.2.2.1.length)) (
 grd (decide (0<=i3)&&decide (i3 < v1.2.2.2.1.length)) (
 (qWb (v1.2.2.2.1.getD (qI (i3 - (1:Int))).toNat ([]:qBs)) (v1.2.2.2.1.getD i3.toNat ([]:qBs))).bind fun r3=>
 cond (decide (r3.1.1>=0))
 (some (Ex.ret,(v1,false,i3,())))
 (some (Ex.normal,(v1,t2,qI (i3+1),()))))))
 (some (Ex.normal,(v1,t2,qI (i3+1),()))))))))))
 (some (Ex.exit 1,(v1,t2,i3,())))
def qTF (v0:Val):Option ((Bool×Unit)×Unit):=
 cond (v0.1 !=(4:Int))
 (cond (decide ((v0.2.2.2.1.length:Int) > (0:Int)))
 (some ((false,()),()))
 (cond (decide ((v0.2.2.2.2.length:Int) > (0:Int)))
 (some ((false,()),()))
 (cond (v0.1 !=(1:Int))
 (cond (v0.2.1)
 (some ((false,()),()))
 (cond (v0.1==1)
 (some ((v0.2.2.1==([]:qBs),()),()))
 (cond (v0.1==2)
 ((qRF v0.2.2.1).bind fun r1=>
 some ((r1.1.1,()),()))
 (cond (v0.1==3)
 ((qDN v0.2.2.1).bind fun r2=>
 some ((r2.1.1,()),()))
 (cond (v0.1==4)
 ((qRF v0.2.2.1).bind fun r3=>
 cond (!r3.1.1)
 (some ((false,()),()))
 (cond ((v0.2.2.2.1.length:Int) !=(v0.2.2.2.2.length:Int))
 (some ((false,()),()))
 ((qPA qUC (v0,false,0,())).bind fun y4=>
 cond (Ex.same y4.1 (Ex.exit 1))
 (some ((true,()),()))
 (cond (Ex.same y4.1 Ex.ret)
 (some ((y4.2.2.1,()),()))
 (none)))))
 (some ((false,()),())))))))
 (cond (v0.1==1)
 (some ((v0.2.2.1==([]:qBs),()),()))
 (cond (v0.1==2)
 ((qRF v0.2.2.1).bind fun r5=>
 some ((r5.1.1,()),()))
 (cond (v0.1==3)
 ((qDN v0.2.2.1).bind fun r6=>
 some ((r6.1.1,()),()))
 (cond (v0.1==4)
 ((qRF v0.2.2.1).bind fun r7=>
 cond (!r7.1.1)
 (some ((false,()),()))
 (cond ((v0.2.2.2.1.length:Int) !=(v0.2.2.2.2.length:Int))
 (some ((false,()),()))
 ((qPA qUC (v0,false,0,())).bind fun y8=>
 cond (Ex.same y8.1 (Ex.exit 1))
 (some ((true,()),()))
 (cond (Ex.same y8.1 Ex.ret)
 (some ((y8.2.2.1,()),()))
 (none)))))
 (some ((false,()),())))))))))
 (cond (v0.1 !=(1:Int))
 (cond (v0.2.1)
 (some ((false,()),()))
 (cond (v0.1==1)
 (some ((v0.2.2.1==([]:qBs),()),()))
 (cond (v0.1==2)
 ((qRF v0.2.2.1).bind fun r9=>
 some ((r9.1.1,()),()))
 (cond (v0.1==3)
 ((qDN v0.2.2.1).bind fun r10=>
 some ((r10.1.1,()),()))
 (cond (v0.1==4)
 ((qRF v0.2.2.1).bind fun r11=>
 cond (!r11.1.1)
 (some ((false,()),()))
 (cond ((v0.2.2.2.1.length:Int) !=(v0.2.2.2.2.length:Int))
 (some ((false,()),()))
 ((qPA qUC (v0,false,0,())).bind fun y12=>
 cond (Ex.same y12.1 (Ex.exit 1))
 (some ((true,()),()))
 (cond (Ex.same y12.1 Ex.ret)
 (some ((y12.2.2.1,()),()))
 (none)))))
 (some ((false,()),())))))))
 (cond (v0.1==1)
 (some ((v0.2.2.1==([]:qBs),()),()))
 (cond (v0.1==2)
 ((qRF v0.2.2.1).bind fun r13=>
 some ((r13.1.1,()),()))
 (cond (v0.1==3)
 ((qDN v0.2.2.1).bind fun r14=>
 some ((r14.1.1,()),()))
 (cond (v0.1==4)
 ((qRF v0.2.2.1).bind fun r15=>
 cond (!r15.1.1)
 (some ((false,()),()))
 (cond ((v0.2.2.2.1.length:Int) !=(v0.2.2.2.2.length:Int))
 (some ((false,()),()))
 ((qPA qUC (v0,false,0,())).bind fun y16=>
 cond (Ex.same y16.1 (Ex.exit 1))
 (some ((true,()),()))
 (cond (Ex.same y16.1 Ex.ret)
 (some ((y16.2.2.1,()),()))
 (none)))))
 (some ((false,()),())))))))
def qST (x:Interp×Bool×Int×Int×Unit):Option (Ex×(Interp×Bool×Int×Int×Unit)):=
 let f1:=x.1
 let t2:=x.2.1
 let i3:=x.2.2.1
 let k4:=x.2.2.2.1
 grd (decide (0<=i3)&&decide (i3 < f1.2.1.length)) (
 cond (decide (k4 < ((f1.2.1.getD i3.toNat ([]:List Val)).length:Int)))
 (grd (decide (0<=i3)&&decide (i3 < f1.2.1.length)) (
 grd (decide (0<=k4)&&decide (k4 < (f1.2.1.getD i3.toNat ([]:List Val)).length)) (
 (qTF ((f1.2.1.getD i3.toNat ([]:List Val)).getD k4.toNat qND)).bind fun r1=>
 cond (!r1.1.1)
 (some (Ex.ret,(f1,false,i3,k4,())))
 (some (Ex.normal,(f1,t2,i3,qI (k4+1),()))))))
 (some (Ex.exit 2,(f1,t2,i3,k4,()))))
def qVT (x:Interp×Bool×Int×Unit):Option (Ex×(Interp×Bool×Int×Unit)):=
 let f1:=x.1
 let t2:=x.2.1
 let i3:=x.2.2.1
 cond (decide (i3 < (f1.2.1.length:Int)))
 (grd (decide (0<=i3)&&decide (i3 < f1.2.2.1.length)) (
 (qTF (f1.2.2.1.getD i3.toNat qND)).bind fun r1=>
 cond (!r1.1.1)
 (some (Ex.ret,(f1,false,i3,())))
 ((qPA qST (f1,t2,i3,0,())).bind fun y2=>
 cond (Ex.same y2.1 (Ex.exit 2))
 (some (Ex.normal,(y2.2.1,y2.2.2.1,qI (y2.2.2.2.1+1),())))
 (cond (Ex.same y2.1 Ex.ret)
 (some (Ex.ret,(y2.2.1,y2.2.2.1,y2.2.2.2.1,())))
 (none)))))
 (some (Ex.exit 0,(f1,t2,i3,())))
def qRa (f0:Interp):Option ((Bool×Unit)×Unit):=
 cond ((f0.2.1.length:Int) !=(f0.2.2.1.length:Int))
 (some ((false,()),()))
 ((qTF f0.2.2.2).bind fun r1=>
 cond (!r1.1.1)
 (some ((false,()),()))
 ((qPA qVT (f0,false,0,())).bind fun y2=>
 cond (Ex.same y2.1 (Ex.exit 0))
 (some ((true,()),()))
 (cond (Ex.same y2.1 Ex.ret)
 (some ((y2.2.2.1,()),()))
 (none))))
def qRO (b0:Bool):Option ((Val×Unit)×Unit):=
 some (((1,b0,([]:qBs),([]:List qBs),([]:List qBs)),()),())
def qGJ (x:(List qBs)×(List qBs)×Bool×Int×Unit):Option (Ex×((List qBs)×(List qBs)×Bool×Int×Unit)):=
 let a0:=x.1
 let b1:=x.2.1
 let t4:=x.2.2.1
 let i5:=x.2.2.2.1
 cond (decide (i5 < (a0.length:Int)))
 (grd (decide (0<=i5)&&decide (i5 < a0.length)) (
 grd (decide (0<=i5)&&decide (i5 < b1.length)) (
 cond (!((a0.getD i5.toNat ([]:qBs))==(b1.getD i5.toNat ([]:qBs))))
 (some (Ex.ret,(a0,b1,false,i5,())))
 (some (Ex.normal,(a0,b1,t4,qI (i5+1),()))))))
 (some (Ex.exit 0,(a0,b1,t4,i5,())))
def qNN (a0:List qBs) (b1:List qBs):Option ((Bool×Unit)×Unit):=
 cond ((a0.length:Int) !=(b1.length:Int))
 (some ((false,()),()))
 ((qPA qGJ (a0,b1,false,0,())).bind fun y1=>
 cond (Ex.same y1.1 (Ex.exit 0))
 (some ((true,()),()))
 (cond (Ex.same y1.1 Ex.ret)
 (some ((y1.2.2.2.1,()),()))
 (none)))
def qWI (a0:Val) (b1:Val):Option ((Bool×Unit)×Unit):=
 cond (a0.1==b1.1)
 (cond (a0.2.1==b1.2.1)
 (cond (a0.2.2.1==b1.2.2.1)
 ((qNN a0.2.2.2.1 b1.2.2.2.1).bind fun r1=>
 cond (r1.1.1)
 ((qNN a0.2.2.2.2 b1.2.2.2.2).bind fun r2=>
 some ((r2.1.1,()),()))
 (some ((false,()),())))
 (some ((false,()),())))
 (some ((false,()),())))
 (some ((false,()),()))
def qAU (x:(List Val)×(List Val)×Bool×Int×Unit):Option (Ex×((List Val)×(List Val)×Bool×Int×Unit)):=
 let a0:=x.1
 let b1:=x.2.1
 let t4:=x.2.2.1
 let i5:=x.2.2.2.1
 cond (decide (i5 < (a0.length:Int)))
 (grd (decide (0<=i5)&&decide (i5 < a0.length)) (
 grd (decide (0<=i5)&&decide (i5 < b1.length)) (
 (qWI (a0.getD i5.toNat qND) (b1.getD i5.toNat qND)).bind fun r1=>
 cond (!r1.1.1)
 (some (Ex.ret,(a0,b1,false,i5,())))
 (some (Ex.normal,(a0,b1,t4,qI (i5+1),()))))))
 (some (Ex.exit 0,(a0,b1,t4,i5,())))
def qAb (a0:List Val) (b1:List Val):Option ((Bool×Unit)×Unit):=
 cond ((a0.length:Int) !=(b1.length:Int))
 (some ((false,()),()))
 ((qPA qAU (a0,b1,false,0,())).bind fun y1=>
 cond (Ex.same y1.1 (Ex.exit 0))
 (some ((true,()),()))
 (cond (Ex.same y1.1 Ex.ret)
 (some ((y1.2.2.2.1,()),()))
 (none)))
def qAP (x:((List Nod)×(List qEK)×List Interp)×(List Val)×Nod×Val×Int×Interp×Val×Int×Unit):Option (Ex×(((List Nod)×(List qEK)×List Interp)×(List Val)×Nod×Val×Int×Interp×Val×Int×Unit)):=
 let x0:=x.1
 let args2:=x.2.1
 let n4:=x.2.2.1
 let t6:=x.2.2.2.1
 let i8:=x.2.2.2.2.1
 let f9:=x.2.2.2.2.2.1
 let v10:=x.2.2.2.2.2.2.1
 let k11:=x.2.2.2.2.2.2.2.1
 cond (decide (k11>=0))
 (grd (decide (0<=k11)&&decide (k11 < f9.2.1.length)) (
 (qAb (f9.2.1.getD k11.toNat ([]:List Val)) args2).bind fun r1=>
 cond (r1.1.1)
 (grd (decide (0<=k11)&&decide (k11 < f9.2.2.1.length)) (some (Ex.normal,(x0,args2,n4,t6,i8,f9,f9.2.2.1.getD k11.toNat qND,qI (k11 - (1:Int)),()))))
 (some (Ex.normal,(x0,args2,n4,t6,i8,f9,v10,qI (k11 - (1:Int)),())))))
 (some (Ex.exit 2,(x0,args2,n4,t6,i8,f9,v10,k11,())))
def qBK (x:((List Nod)×(List qEK)×List Interp)×(List Val)×Nod×Val×Int×Int×Unit):Option (Ex×(((List Nod)×(List qEK)×List Interp)×(List Val)×Nod×Val×Int×Int×Unit)):=
 let x0:=x.1
 let args2:=x.2.1
 let n4:=x.2.2.1
 let t6:=x.2.2.2.1
 let t7:=x.2.2.2.2.1
 let i8:=x.2.2.2.2.2.1
 cond (decide (i8 < (x0.2.2.length:Int)))
 (grd (decide (0<=i8)&&decide (i8 < x0.2.2.length)) (
 cond (!(((x0.2.2.getD i8.toNat qQH).1)==n4.2.2.1))
 (some (Ex.normal,(x0,args2,n4,t6,t7,qI (i8+1),())))
 ((qPA qAP (x0,args2,n4,t6,i8,x0.2.2.getD i8.toNat qQH,(((x0.2.2.getD i8.toNat qQH).2).2).2,qI (((((x0.2.2.getD i8.toNat qQH).2).1).length:Int) - (1:Int)),())).bind fun y1=>
 cond (Ex.same y1.1 (Ex.exit 2))
 (cond (y1.2.2.2.2.2.2.2.1.1 !=y1.2.2.2.1.2.1)
 (some (Ex.ret,(y1.2.1,y1.2.2.1,y1.2.2.2.1,((0:Int),false,([]:qBs),([]:List qBs),([]:List qBs)),3,y1.2.2.2.2.2.1,())))
 (some (Ex.ret,(y1.2.1,y1.2.2.1,y1.2.2.2.1,y1.2.2.2.2.2.2.2.1,0,y1.2.2.2.2.2.1,()))))
 (none))))
 (some (Ex.exit 0,(x0,args2,n4,t6,t7,i8,())))
def qKJ (x0:(List Nod)×(List qEK)×List Interp) (n1:Nod) (args2:List Val):Option ((Val×Int×Unit)×(((List Nod)×(List qEK)×List Interp)×Unit)):=
 (qPA qBK (x0,args2,n1,((0:Int),false,([]:qBs),([]:List qBs),([]:List qBs)),0,0,())).bind fun y1=>
 cond (Ex.same y1.1 (Ex.exit 0))
 (some ((((0:Int),false,([]:qBs),([]:List qBs),([]:List qBs)),4,()),y1.2.1,()))
 (cond (Ex.same y1.1 Ex.ret)
 (some ((y1.2.2.2.2.1,y1.2.2.2.2.2.1,()),y1.2.1,()))
 (none))
def qIr (a0:qBs) (b1:qBs):Option ((qBs×Unit)×Unit):=
 (qFH a0).bind fun r1=>
 (qFH b1).bind fun r2=>
 cond (!r1.1.2.1)
 (some ((([]:qBs),()),()))
 (cond (!r2.1.2.1)
 (some ((([]:qBs),()),()))
 ((qGN r1.1.1.2.1 r2.1.1.2.1).bind fun r3=>
 (qGN r1.1.1.2.2 r2.1.1.2.2).bind fun r4=>
 (qPI (!(r1.1.1.1==r2.1.1.1)) r3.1.1 r4.1.1).bind fun r5=>
 (qBB (r5.1.1.1,r5.1.1.2.1,r5.1.1.2.2)).bind fun r6=>
 some ((r6.1.1,()),())))
def qEac (a0:qBs):Option ((qBs×Unit)×Unit):=
 (qDN a0).bind fun r1=>
 cond (!r1.1.1)
 (some ((([]:qBs),()),()))
 (some ((a0,()),()))
def qNam (a0:qBs):Option ((qBs×Unit)×Unit):=
 (qQd a0).bind fun r1=>
 cond (decide (r1.1.1 < (0:Int)))
 ((qVy a0).bind fun r2=>
 some ((r2.1.1,()),()))
 ((qEac a0).bind fun r3=>
 some ((r3.1.1,()),()))
def qZab (a0:qBs) (b1:qBs):Option ((qBs×Unit)×Unit):=
 (qFH a0).bind fun r1=>
 (qFH b1).bind fun r2=>
 cond (!r1.1.2.1)
 (some ((([]:qBs),()),()))
 (cond (!r2.1.2.1)
 (some ((([]:qBs),()),()))
 (cond (r2.1.1.2.1==([48]:qBs))
 (some ((([]:qBs),()),()))
 ((qGN r1.1.1.2.1 r2.1.1.2.2).bind fun r3=>
 (qGN r1.1.1.2.2 r2.1.1.2.1).bind fun r4=>
 (qPI (!(r1.1.1.1==r2.1.1.1)) r3.1.1 r4.1.1).bind fun r5=>
 (qBB (r5.1.1.1,r5.1.1.2.1,r5.1.1.2.2)).bind fun r6=>
 some ((r6.1.1,()),()))))
def qXm (a0:qBs):Option ((qBs×Unit)×Unit):=
 (qFH a0).bind fun r1=>
 cond (!r1.1.2.1)
 (some ((([]:qBs),()),()))
 ((qTS r1.1.1.2.1 r1.1.1.2.2).bind fun r2=>
 cond (r1.1.1.1)
 (cond (!(r2.1.2.1==([48]:qBs)))
 ((qGb r2.1.1 ([49]:qBs)).bind fun r3=>
 cond (r1.1.1.1)
 ((qBB (!(r3.1.1==([48]:qBs)),r3.1.1,([49]:qBs))).bind fun r4=>
 some ((r4.1.1,()),()))
 ((qBB (false,r3.1.1,([49]:qBs))).bind fun r5=>
 some ((r5.1.1,()),())))
 (cond (r1.1.1.1)
 ((qBB (!(r2.1.1==([48]:qBs)),r2.1.1,([49]:qBs))).bind fun r6=>
 some ((r6.1.1,()),()))
 ((qBB (false,r2.1.1,([49]:qBs))).bind fun r7=>
 some ((r7.1.1,()),()))))
 (cond (r1.1.1.1)
 ((qBB (!(r2.1.1==([48]:qBs)),r2.1.1,([49]:qBs))).bind fun r8=>
 some ((r8.1.1,()),()))
 ((qBB (false,r2.1.1,([49]:qBs))).bind fun r9=>
 some ((r9.1.1,()),()))))
def qSs (a0:qBs) (b1:qBs):Option ((qBs×Unit)×Unit):=
 (qRF a0).bind fun r1=>
 cond (!r1.1.1)
 (some ((([]:qBs),()),()))
 ((qRF b1).bind fun r2=>
 cond (!r2.1.1)
 (some ((([]:qBs),()),()))
 (cond (b1==([48]:qBs))
 (some ((([]:qBs),()),()))
 ((qNam b1).bind fun r3=>
 (qZab a0 r3.1.1).bind fun r4=>
 (qXm r4.1.1).bind fun r5=>
 (qQd b1).bind fun r6=>
 cond (decide (r6.1.1 < (0:Int)))
 ((qVy r5.1.1).bind fun r7=>
 some ((r7.1.1,()),()))
 (some ((r5.1.1,()),())))))
def qWag (a0:qBs) (b1:qBs):Option ((qBs×Unit)×Unit):=
 (qSs a0 b1).bind fun r1=>
 cond (r1.1.1==([]:qBs))
 (some ((([]:qBs),()),()))
 ((qSs a0 b1).bind fun r2=>
 (qIr b1 r2.1.1).bind fun r3=>
 (qPae a0 r3.1.1).bind fun r4=>
 some ((r4.1.1,()),()))
def qBY (x:qBs×Val×qBs×Int×Unit):Option (Ex×(qBs×Val×qBs×Int×Unit)):=
 let index1:=x.1
 let a2:=x.2.1
 let t4:=x.2.2.1
 let i5:=x.2.2.2.1
 cond (decide (i5 < (a2.2.2.2.1.length:Int)))
 (grd (decide (0<=i5)&&decide (i5 < a2.2.2.2.1.length)) (
 cond ((a2.2.2.2.1.getD i5.toNat ([]:qBs))==index1)
 (grd (decide (0<=i5)&&decide (i5 < a2.2.2.2.2.length)) (some (Ex.ret,(index1,a2,a2.2.2.2.2.getD i5.toNat ([]:qBs),i5,()))))
 (some (Ex.normal,(index1,a2,t4,qI (i5+1),())))))
 (some (Ex.exit 0,(index1,a2,t4,i5,())))
def r_At (a0:Val) (index1:qBs):Option ((qBs×Unit)×Unit):=
 cond (a0.1 !=(4:Int))
 (some ((([]:qBs),()),()))
 ((qTF a0).bind fun r1=>
 cond (!r1.1.1)
 (some ((([]:qBs),()),()))
 ((qRF index1).bind fun r2=>
 cond (!r2.1.1)
 (some ((([]:qBs),()),()))
 ((qPA qBY (index1,a0,([]:qBs),0,())).bind fun y3=>
 cond (Ex.same y3.1 (Ex.exit 0))
 (some ((y3.2.2.1.2.2.1,()),()))
 (cond (Ex.same y3.1 Ex.ret)
 (some ((y3.2.2.2.1,()),()))
 (none)))))
def qKC (x:qBs×qBs×Val×Val×(Int×Bool×qBs×(List qBs)×List qBs)×Bool×Int×Unit):Option (Ex×(qBs×qBs×Val×Val×(Int×Bool×qBs×(List qBs)×List qBs)×Bool×Int×Unit)):=
 let index1:=x.1
 let num2:=x.2.1
 let a3:=x.2.2.1
 let t6:=x.2.2.2.1
 let out8:=x.2.2.2.2.1
 let put9:=x.2.2.2.2.2.1
 let i10:=x.2.2.2.2.2.2.1
 cond (decide (i10<=(a3.2.2.2.1.length:Int)))
 (cond (!put9)
 (cond (i10==(a3.2.2.2.1.length:Int))
 (cond (!(num2==a3.2.2.1))
 (grd (decide (out8.2.2.2.1.length+([index1]:List qBs).length<=qKF)) (
 grd (decide (out8.2.2.2.2.length+([num2]:List qBs).length<=qKF)) (
 cond (decide (i10 < (a3.2.2.2.1.length:Int)))
 (grd (decide (0<=i10)&&decide (i10 < a3.2.2.2.1.length)) (
 cond (!((a3.2.2.2.1.getD i10.toNat ([]:qBs))==index1))
 (grd (decide (0<=i10)&&decide (i10 < a3.2.2.2.1.length)) (grd (decide ((out8.2.2.2.1++([index1]:List qBs)).length+([a3.2.2.2.1.getD i10.toNat ([]:qBs)]:List qBs).length<=qKF)) (grd (decide (0<=i10)&&decide (i10 < a3.2.2.2.2.length)) (grd (decide ((out8.2.2.2.2++([num2]:List qBs)).length+([a3.2.2.2.2.getD i10.toNat ([]:qBs)]:List qBs).length<=qKF)) (some (Ex.normal,(index1,num2,a3,t6,(out8.1,out8.2.1,out8.2.2.1,(out8.2.2.2.1++([index1]:List qBs))++([a3.2.2.2.1.getD i10.toNat ([]:qBs)]:List qBs),(out8.2.2.2.2++([num2]:List qBs))++([a3.2.2.2.2.getD i10.toNat ([]:qBs)]:List qBs)),true,qI (i10+1),())))))))
 (some (Ex.normal,(index1,num2,a3,t6,(out8.1,out8.2.1,out8.2.2.1,out8.2.2.2.1++([index1]:List qBs),out8.2.2.2.2++([num2]:List qBs)),true,qI (i10+1),())))))
 (some (Ex.normal,(index1,num2,a3,t6,(out8.1,out8.2.1,out8.2.2.1,out8.2.2.2.1++([index1]:List qBs),out8.2.2.2.2++([num2]:List qBs)),true,qI (i10+1),()))))))
 (cond (decide (i10 < (a3.2.2.2.1.length:Int)))
 (grd (decide (0<=i10)&&decide (i10 < a3.2.2.2.1.length)) (
 cond (!((a3.2.2.2.1.getD i10.toNat ([]:qBs))==index1))
 (grd (decide (0<=i10)&&decide (i10 < a3.2.2.2.1.length)) (grd (decide (out8.2.2.2.1.length+([a3.2.2.2.1.getD i10.toNat ([]:qBs)]:List qBs).length<=qKF)) (grd (decide (0<=i10)&&decide (i10 < a3.2.2.2.2.length)) (grd (decide (out8.2.2.2.2.length+([a3.2.2.2.2.getD i10.toNat ([]:qBs)]:List qBs).length<=qKF)) (some (Ex.normal,(index1,num2,a3,t6,(out8.1,out8.2.1,out8.2.2.1,out8.2.2.2.1++([a3.2.2.2.1.getD i10.toNat ([]:qBs)]:List qBs),out8.2.2.2.2++([a3.2.2.2.2.getD i10.toNat ([]:qBs)]:List qBs)),true,qI (i10+1),())))))))
 (some (Ex.normal,(index1,num2,a3,t6,out8,true,qI (i10+1),())))))
 (some (Ex.normal,(index1,num2,a3,t6,out8,true,qI (i10+1),())))))
 (grd (decide (0<=i10)&&decide (i10 < a3.2.2.2.1.length)) (
 (qWb (a3.2.2.2.1.getD i10.toNat ([]:qBs)) index1).bind fun r1=>
 cond (decide (r1.1.1>=0))
 (cond (!(num2==a3.2.2.1))
 (grd (decide (out8.2.2.2.1.length+([index1]:List qBs).length<=qKF)) (
 grd (decide (out8.2.2.2.2.length+([num2]:List qBs).length<=qKF)) (
 cond (decide (i10 < (a3.2.2.2.1.length:Int)))
 (grd (decide (0<=i10)&&decide (i10 < a3.2.2.2.1.length)) (
 cond (!((a3.2.2.2.1.getD i10.toNat ([]:qBs))==index1))
 (grd (decide (0<=i10)&&decide (i10 < a3.2.2.2.1.length)) (grd (decide ((out8.2.2.2.1++([index1]:List qBs)).length+([a3.2.2.2.1.getD i10.toNat ([]:qBs)]:List qBs).length<=qKF)) (grd (decide (0<=i10)&&decide (i10 < a3.2.2.2.2.length)) (grd (decide ((out8.2.2.2.2++([num2]:List qBs)).length+([a3.2.2.2.2.getD i10.toNat ([]:qBs)]:List qBs).length<=qKF)) (some (Ex.normal,(index1,num2,a3,t6,(out8.1,out8.2.1,out8.2.2.1,(out8.2.2.2.1++([index1]:List qBs))++([a3.2.2.2.1.getD i10.toNat ([]:qBs)]:List qBs),(out8.2.2.2.2++([num2]:List qBs))++([a3.2.2.2.2.getD i10.toNat ([]:qBs)]:List qBs)),true,qI (i10+1),())))))))
 (some (Ex.normal,(index1,num2,a3,t6,(out8.1,out8.2.1,out8.2.2.1,out8.2.2.2.1++([index1]:List qBs),out8.2.2.2.2++([num2]:List qBs)),true,qI (i10+1),())))))
 (some (Ex.normal,(index1,num2,a3,t6,(out8.1,out8.2.1,out8.2.2.1,out8.2.2.2.1++([index1]:List qBs),out8.2.2.2.2++([num2]:List qBs)),true,qI (i10+1),()))))))
 (cond (decide (i10 < (a3.2.2.2.1.length:Int)))
 (grd (decide (0<=i10)&&decide (i10 < a3.2.2.2.1.length)) (
 cond (!((a3.2.2.2.1.getD i10.toNat ([]:qBs))==index1))
 (grd (decide (0<=i10)&&decide (i10 < a3.2.2.2.1.length)) (grd (decide (out8.2.2.2.1.length+([a3.2.2.2.1.getD i10.toNat ([]:qBs)]:List qBs).length<=qKF)) (grd (decide (0<=i10)&&decide (i10 < a3.2.2.2.2.length)) (grd (decide (out8.2.2.2.2.length+([a3.2.2.2.2.getD i10.toNat ([]:qBs)]:List qBs).length<=qKF)) (some (Ex.normal,(index1,num2,a3,t6,(out8.1,out8.2.1,out8.2.2.1,out8.2.2.2.1++([a3.2.2.2.1.getD i10.toNat ([]:qBs)]:List qBs),out8.2.2.2.2++([a3.2.2.2.2.getD i10.toNat ([]:qBs)]:List qBs)),true,qI (i10+1),())))))))
 (some (Ex.normal,(index1,num2,a3,t6,out8,true,qI (i10+1),())))))
 (some (Ex.normal,(index1,num2,a3,t6,out8,true,qI (i10+1),())))))
 (cond (decide (i10 < (a3.2.2.2.1.length:Int)))
 (grd (decide (0<=i10)&&decide (i10 < a3.2.2.2.1.length)) (
 cond (!((a3.2.2.2.1.getD i10.toNat ([]:qBs))==index1))
 (grd (decide (0<=i10)&&decide (i10 < a3.2.2.2.1.length)) (grd (decide (out8.2.2.2.1.length+([a3.2.2.2.1.getD i10.toNat ([]:qBs)]:List qBs).length<=qKF)) (grd (decide (0<=i10)&&decide (i10 < a3.2.2.2.2.length)) (grd (decide (out8.2.2.2.2.length+([a3.2.2.2.2.getD i10.toNat ([]:qBs)]:List qBs).length<=qKF)) (some (Ex.normal,(index1,num2,a3,t6,(out8.1,out8.2.1,out8.2.2.1,out8.2.2.2.1++([a3.2.2.2.1.getD i10.toNat ([]:qBs)]:List qBs),out8.2.2.2.2++([a3.2.2.2.2.getD i10.toNat ([]:qBs)]:List qBs)),put9,qI (i10+1),())))))))
 (some (Ex.normal,(index1,num2,a3,t6,out8,put9,qI (i10+1),())))))
 (some (Ex.normal,(index1,num2,a3,t6,out8,put9,qI (i10+1),())))))))
 (cond (decide (i10 < (a3.2.2.2.1.length:Int)))
 (grd (decide (0<=i10)&&decide (i10 < a3.2.2.2.1.length)) (
 cond (!((a3.2.2.2.1.getD i10.toNat ([]:qBs))==index1))
 (grd (decide (0<=i10)&&decide (i10 < a3.2.2.2.1.length)) (grd (decide (out8.2.2.2.1.length+([a3.2.2.2.1.getD i10.toNat ([]:qBs)]:List qBs).length<=qKF)) (grd (decide (0<=i10)&&decide (i10 < a3.2.2.2.2.length)) (grd (decide (out8.2.2.2.2.length+([a3.2.2.2.2.getD i10.toNat ([]:qBs)]:List qBs).length<=qKF)) (some (Ex.normal,(index1,num2,a3,t6,(out8.1,out8.2.1,out8.2.2.1,out8.2.2.2.1++([a3.2.2.2.1.getD i10.toNat ([]:qBs)]:List qBs),out8.2.2.2.2++([a3.2.2.2.2.getD i10.toNat ([]:qBs)]:List qBs)),put9,qI (i10+1),())))))))
 (some (Ex.normal,(index1,num2,a3,t6,out8,put9,qI (i10+1),())))))
 (some (Ex.normal,(index1,num2,a3,t6,out8,put9,qI (i10+1),())))))
 (some (Ex.exit 0,(index1,num2,a3,t6,out8,put9,i10,())))
def qAg (a0:Val) (index1:qBs) (num2:qBs):Option ((Val×Int×Unit)×Unit):=
 cond (a0.1 !=(4:Int))
 (some ((((0:Int),false,([]:qBs),([]:List qBs),([]:List qBs)),1,()),()))
 ((qTF a0).bind fun r1=>
 cond (!r1.1.1)
 (some ((((0:Int),false,([]:qBs),([]:List qBs),([]:List qBs)),1,()),()))
 ((qRF index1).bind fun r2=>
 cond (!r2.1.1)
 (some ((((0:Int),false,([]:qBs),([]:List qBs),([]:List qBs)),1,()),()))
 ((qRF num2).bind fun r3=>
 cond (!r3.1.1)
 (some ((((0:Int),false,([]:qBs),([]:List qBs),([]:List qBs)),1,()),()))
 ((qPA qKC (index1,num2,a0,((0:Int),false,([]:qBs),([]:List qBs),([]:List qBs)),(a0.1,false,a0.2.2.1,([]:List qBs),([]:List qBs)),false,0,())).bind fun y4=>
 cond (Ex.same y4.1 (Ex.exit 0))
 (some ((y4.2.2.2.2.2.1,0,()),()))
 (none)))))
def qFN (x:Int×(List Val)×Val×Int×Unit):Option (Ex×(Int×(List Val)×Val×Int×Unit)):=
 let op0:=x.1
 let a1:=x.2.1
 let t4:=x.2.2.1
 let i5:=x.2.2.2.1
 cond (decide (i5 < (a1.length:Int)))
 (grd (decide (0<=i5)&&decide (i5 < a1.length)) (
 cond ((((a1.getD i5.toNat qND).2).1)==(op0==8))
 ((qRO (op0==8)).bind fun r1=>
 some (Ex.ret,(op0,a1,r1.1.1,i5,())))
 (some (Ex.normal,(op0,a1,t4,qI (i5+1),())))))
 (some (Ex.exit 1,(op0,a1,t4,i5,())))
def qBh (op0:Int) (a1:List Val):Option ((Val×Unit)×Unit):=
 cond (op0==6)
 (grd (decide (0<=(0:Int))&&decide ((0:Int) < a1.length)) (
 (qRO (!(((a1.getD (0:Int).toNat qND).2).1))).bind fun r1=>
 some ((r1.1.1,()),())))
 (cond (op0==9)
 (grd (decide (0<=(0:Int))&&decide ((0:Int) < a1.length)) (
 cond (!(((a1.getD (0:Int).toNat qND).2).1))
 ((qRO true).bind fun r2=>
 some ((r2.1.1,()),()))
 (grd (decide (0<=(1:Int))&&decide ((1:Int) < a1.length)) (
 (qRO (((a1.getD (1:Int).toNat qND).2).1)).bind fun r3=>
 some ((r3.1.1,()),())))))
 ((qPA qFN (op0,a1,((0:Int),false,([]:qBs),([]:List qBs),([]:List qBs)),0,())).bind fun y4=>
 cond (Ex.same y4.1 (Ex.exit 1))
 ((qRO (y4.2.1==7)).bind fun r5=>
 some ((r5.1.1,()),()))
 (cond (Ex.same y4.1 Ex.ret)
 (some ((y4.2.2.2.1,()),()))
 (none))))
def qKD (x:((List Nod)×(List qEK)×List Interp)×Nod×Val×Int×Int×Unit):Option (Ex×(((List Nod)×(List qEK)×List Interp)×Nod×Val×Int×Int×Unit)):=
 let x0:=x.1
 let n4:=x.2.1
 let t6:=x.2.2.1
 let t7:=x.2.2.2.1
 let i8:=x.2.2.2.2.1
 cond (decide (i8 < (x0.2.1.length:Int)))
 (grd (decide (0<=i8)&&decide (i8 < x0.2.1.length)) (
 cond (((x0.2.1.getD i8.toNat qJU).1)==n4.2.2.1)
 (grd (decide (0<=i8)&&decide (i8 < x0.2.1.length)) (
 cond ((((x0.2.1.getD i8.toNat qJU).2).1) !=n4.2.1)
 (some (Ex.ret,(x0,n4,((0:Int),false,([]:qBs),([]:List qBs),([]:List qBs)),3,i8,())))
 (grd (decide (0<=i8)&&decide (i8 < x0.2.1.length)) (some (Ex.ret,(x0,n4,(x0.2.1.getD i8.toNat qJU).2,0,i8,()))))))
 (some (Ex.normal,(x0,n4,t6,t7,qI (i8+1),())))))
 (some (Ex.exit 1,(x0,n4,t6,t7,i8,())))
def qMF (x:((List Nod)×(List qEK)×List Interp)×(List Val)×Val×qBs×Int×Unit):Option (Ex×(((List Nod)×(List qEK)×List Interp)×(List Val)×Val×qBs×Int×Unit)):=
 let x0:=x.1
 let a2:=x.2.1
 let t6:=x.2.2.1
 let s9:=x.2.2.2.1
 let i10:=x.2.2.2.2.1
 cond (decide (i10 < (a2.length:Int)))
 (grd (decide (0<=i10)&&decide (i10 < a2.length)) (
 (qWz s9 ((((a2.getD i10.toNat qND).2).2).1)).bind fun r1=>
 some (Ex.normal,(x0,a2,t6,r1.1.1,qI (i10+1),()))))
 (some (Ex.exit 3,(x0,a2,t6,s9,i10,())))
def qKE (x0:(List Nod)×(List qEK)×List Interp) (n1:Nod) (a2:List Val):Option ((Val×Int×Unit)×(((List Nod)×(List qEK)×List Interp)×Unit)):=
 cond (n1.1==1)
 ((qRO (n1.1==1)).bind fun r1=>
 some ((r1.1.1,0,()),x0,()))
 (cond (n1.1==2)
 ((qRO (n1.1==1)).bind fun r2=>
 some ((r2.1.1,0,()),x0,()))
 (cond (n1.1==3)
 (some (((n1.2.1,false,n1.2.2.2.1,([]:List qBs),([]:List qBs)),0,()),x0,()))
 (cond (n1.1==4)
 ((qPA qKD (x0,n1,((0:Int),false,([]:qBs),([]:List qBs),([]:List qBs)),0,0,())).bind fun y3=>
 cond (Ex.same y3.1 (Ex.exit 1))
 (some ((((0:Int),false,([]:qBs),([]:List qBs),([]:List qBs)),7,()),y3.2.1,()))
 (cond (Ex.same y3.1 Ex.ret)
 (some ((y3.2.2.2.1,y3.2.2.2.2.1,()),y3.2.1,()))
 (none)))
 (cond (n1.1==5)
 ((qKJ x0 n1 a2).bind fun r4=>
 some ((r4.1.1,r4.1.2.1,()),r4.2.1,()))
 (cond (n1.1==10)
 (grd (decide (0<=(0:Int))&&decide ((0:Int) < a2.length)) (
 cond (((a2.getD (0:Int).toNat qND).2).1)
 (grd (decide (0<=(1:Int))&&decide ((1:Int) < a2.length)) (some ((a2.getD (1:Int).toNat qND,0,()),x0,())))
 (grd (decide (0<=(2:Int))&&decide ((2:Int) < a2.length)) (some ((a2.getD (2:Int).toNat qND,0,()),x0,())))))
 (cond (n1.1==11)
 (grd (decide (0<=(0:Int))&&decide ((0:Int) < a2.length)) (
 grd (decide (0<=(1:Int))&&decide ((1:Int) < a2.length)) (
 (qWI (a2.getD (0:Int).toNat qND) (a2.getD (1:Int).toNat qND)).bind fun r5=>
 (qRO r5.1.1).bind fun r6=>
 some ((r6.1.1,0,()),x0,()))))
 (cond (n1.1==12)
 (grd (decide (0<=(0:Int))&&decide ((0:Int) < a2.length)) (
 grd (decide (0<=(1:Int))&&decide ((1:Int) < a2.length)) (
 (qWb ((((a2.getD (0:Int).toNat qND).2).2).1) ((((a2.getD (1:Int).toNat qND).2).2).1)).bind fun r7=>
 (qRO (decide (r7.1.1<=0))).bind fun r8=>
 some ((r8.1.1,0,()),x0,()))))
 (cond (n1.1==13)
 (grd (decide (0<=(0:Int))&&decide ((0:Int) < a2.length)) (
 grd (decide (0<=(1:Int))&&decide ((1:Int) < a2.length)) (
 (qWb ((((a2.getD (0:Int).toNat qND).2).2).1) ((((a2.getD (1:Int).toNat qND).2).2).1)).bind fun r9=>
 (qRO (decide (r9.1.1 < (0:Int)))).bind fun r10=>
 some ((r10.1.1,0,()),x0,()))))
 (cond (n1.1==14)
 ((qPA qMF (x0,a2,((0:Int),false,([]:qBs),([]:List qBs),([]:List qBs)),([48]:qBs),0,())).bind fun y11=>
 cond (Ex.same y11.1 (Ex.exit 3))
 (grd (decide (0<=(0:Int))&&decide ((0:Int) < y11.2.2.1.length)) (some ((((y11.2.2.1.getD (0:Int).toNat qND).1,false,y11.2.2.2.2.1,([]:List qBs),([]:List qBs)),0,()),y11.2.1,())))
 (none))
 (cond (n1.1==15)
 (grd (decide (0<=(0:Int))&&decide ((0:Int) < a2.length)) (
 grd (decide (0<=(0:Int))&&decide ((0:Int) < a2.length)) (
 grd (decide (0<=(1:Int))&&decide ((1:Int) < a2.length)) (
 (qIr ((((a2.getD (0:Int).toNat qND).2).2).1) ((((a2.getD (1:Int).toNat qND).2).2).1)).bind fun r12=>
 some ((((a2.getD (0:Int).toNat qND).1,false,r12.1.1,([]:List qBs),([]:List qBs)),0,()),x0,())))))
 (cond (n1.1==16)
 (grd (decide (0<=(0:Int))&&decide ((0:Int) < a2.length)) (
 (qSs ((((a2.getD (0:Int).toNat qND).2).2).1) n1.2.2.2.1).bind fun r13=>
 some (((2,false,r13.1.1,([]:List qBs),([]:List qBs)),0,()),x0,())))
 (cond (n1.1==17)
 (grd (decide (0<=(0:Int))&&decide ((0:Int) < a2.length)) (
 (qWag ((((a2.getD (0:Int).toNat qND).2).2).1) n1.2.2.2.1).bind fun r14=>
 some (((2,false,r14.1.1,([]:List qBs),([]:List qBs)),0,()),x0,())))
 (cond (n1.1==18)
 (grd (decide (0<=(0:Int))&&decide ((0:Int) < a2.length)) (
 grd (decide (0<=(1:Int))&&decide ((1:Int) < a2.length)) (
 (r_At (a2.getD (0:Int).toNat qND) ((((a2.getD (1:Int).toNat qND).2).2).1)).bind fun r15=>
 some (((2,false,r15.1.1,([]:List qBs),([]:List qBs)),0,()),x0,()))))
 (cond (n1.1==19)
 (grd (decide (0<=(0:Int))&&decide ((0:Int) < a2.length)) (
 grd (decide (0<=(1:Int))&&decide ((1:Int) < a2.length)) (
 grd (decide (0<=(2:Int))&&decide ((2:Int) < a2.length)) (
 (qAg (a2.getD (0:Int).toNat qND) ((((a2.getD (1:Int).toNat qND).2).2).1) ((((a2.getD (2:Int).toNat qND).2).2).1)).bind fun r16=>
 some ((r16.1.1,r16.1.2.1,()),x0,())))))
 (cond (n1.1==20)
 (grd (decide (0<=(0:Int))&&decide ((0:Int) < a2.length)) (some (((4,false,(((a2.getD (0:Int).toNat qND).2).2).1,([]:List qBs),([]:List qBs)),0,()),x0,())))
 ((qBh n1.1 a2).bind fun r17=>
 some ((r17.1.1,0,()),x0,())))))))))))))))))
def qOC (qKaE:((List Nod)×(List qEK)×List Interp)->Int->Option ((Val×Int×Int×Unit)×(((List Nod)×(List qEK)×List Interp)×Unit))) (x:((List Nod)×(List qEK)×List Interp)×Int×Val×Int×Int×Nod×(List Val)×Int×Unit):Option (Ex×(((List Nod)×(List qEK)×List Interp)×Int×Val×Int×Int×Nod×(List Val)×Int×Unit)):=
 let x0:=x.1
 let i1:=x.2.1
 let t4:=x.2.2.1
 let t5:=x.2.2.2.1
 let t6:=x.2.2.2.2.1
 let n7:=x.2.2.2.2.2.1
 let a8:=x.2.2.2.2.2.2.1
 let k9:=x.2.2.2.2.2.2.2.1
 cond (decide (k9 < n7.2.2.2.2))
 ((qKaE x0 i1).bind fun r1=>
 cond (r1.1.2.2.1 !=(0:Int))
 (some (Ex.ret,(r1.2.1,i1,((0:Int),false,([]:qBs),([]:List qBs),([]:List qBs)),0,r1.1.2.2.1,n7,a8,k9,())))
 (grd (decide (a8.length+([r1.1.1]:List Val).length<=qKF)) (some (Ex.normal,(r1.2.1,r1.1.2.1,t4,t5,t6,n7,a8++([r1.1.1]:List Val),qI (k9+1),())))))
 (some (Ex.exit 0,(x0,i1,t4,t5,t6,n7,a8,k9,())))
def qMI (qKaE:((List Nod)×(List qEK)×List Interp)->Int->Option ((Val×Int×Int×Unit)×(((List Nod)×(List qEK)×List Interp)×Unit))) (x0:(List Nod)×(List qEK)×List Interp) (i1:Int):Option ((Val×Int×Int×Unit)×(((List Nod)×(List qEK)×List Interp)×Unit)):=
 grd (decide (0<=i1)&&decide (i1 < x0.1.length)) (
 (qPA (qOC qKaE) (x0,qI (i1+1),((0:Int),false,([]:qBs),([]:List qBs),([]:List qBs)),0,0,x0.1.getD i1.toNat qPE,([]:List Val),0,())).bind fun y1=>
 cond (Ex.same y1.1 (Ex.exit 0))
 ((qKE y1.2.1 y1.2.2.2.2.2.2.1 y1.2.2.2.2.2.2.2.1).bind fun r2=>
 some ((r2.1.1,y1.2.2.1,r2.1.2.1,()),r2.2.1,()))
 (cond (Ex.same y1.1 Ex.ret)
 (some ((y1.2.2.2.1,y1.2.2.2.2.1,y1.2.2.2.2.2.1,()),y1.2.1,()))
 (none)))
def qLE:Nat->((List Nod)×(List qEK)×List Interp)->Int->Option ((Val×Int×Int×Unit)×(((List Nod)×(List qEK)×List Interp)×Unit))
 |0=>fun _ _=>none
 |n+1=>qMI (qLE n)
def qLY (v0:Val):Option ((Val×Unit)×Unit):=
 grd (decide (v0.2.2.2.1.length<=qKF)) (grd (decide (v0.2.2.2.2.length<=qKF)) (some ((v0,()),())))
def qOV (x:(List Nod)×(List qEK)×(List Interp)×Val×Int×Int×Unit):Option (Ex×((List Nod)×(List qEK)×(List Interp)×Val×Int×Int×Unit)):=
 let t0:=x.1
 let env1:=x.2.1
 let fns2:=x.2.2.1
 let t6:=x.2.2.2.1
 let t7:=x.2.2.2.2.1
 let i8:=x.2.2.2.2.2.1
 cond (decide (i8 < (env1.length:Int)))
 (grd (decide (0<=i8)&&decide (i8 < env1.length)) (
 (qTF ((env1.getD i8.toNat qJU).2)).bind fun r1=>
 cond (!r1.1.1)
 (some (Ex.ret,(t0,env1,fns2,((0:Int),false,([]:qBs),([]:List qBs),([]:List qBs)),1,i8,())))
 (some (Ex.normal,(t0,env1,fns2,t6,t7,qI (i8+1),())))))
 (some (Ex.exit 0,(t0,env1,fns2,t6,t7,i8,())))
def qCi (x:(List Nod)×(List qEK)×(List Interp)×Val×Int×Int×Unit):Option (Ex×((List Nod)×(List qEK)×(List Interp)×Val×Int×Int×Unit)):=
 let t0:=x.1
 let env1:=x.2.1
 let fns2:=x.2.2.1
 let t6:=x.2.2.2.1
 let t7:=x.2.2.2.2.1
 let i9:=x.2.2.2.2.2.1
 cond (decide (i9 < (fns2.length:Int)))
 (grd (decide (0<=i9)&&decide (i9 < fns2.length)) (
 (qRa (fns2.getD i9.toNat qQH)).bind fun r1=>
 cond (!r1.1.1)
 (some (Ex.ret,(t0,env1,fns2,((0:Int),false,([]:qBs),([]:List qBs),([]:List qBs)),1,i9,())))
 (some (Ex.normal,(t0,env1,fns2,t6,t7,qI (i9+1),())))))
 (some (Ex.exit 2,(t0,env1,fns2,t6,t7,i9,())))
def qKq (t0:List Nod) (env1:List qEK) (fns2:List Interp):Option ((Val×Int×Unit)×Unit):=
 (qPQ t0).bind fun r1=>
 cond (!r1.1.1)
 (some ((((0:Int),false,([]:qBs),([]:List qBs),([]:List qBs)),1,()),()))
 ((qPA qOV (t0,env1,fns2,((0:Int),false,([]:qBs),([]:List qBs),([]:List qBs)),0,0,())).bind fun y2=>
 cond (Ex.same y2.1 (Ex.exit 0))
 ((qPA qCi (y2.2.1,y2.2.2.1,y2.2.2.2.1,y2.2.2.2.2.1,y2.2.2.2.2.2.1,0,())).bind fun y3=>
 cond (Ex.same y3.1 (Ex.exit 2))
 ((qLE big (y3.2.1,y3.2.2.1,y3.2.2.2.1) 0).bind fun r4=>
 cond (r4.1.2.2.1 !=(0:Int))
 (some ((((0:Int),false,([]:qBs),([]:List qBs),([]:List qBs)),r4.1.2.2.1,()),()))
 ((qLY r4.1.1).bind fun r5=>
 some ((r5.1.1,0,()),())))
 (cond (Ex.same y3.1 Ex.ret)
 (some ((y3.2.2.2.2.1,y3.2.2.2.2.2.1,()),()))
 (none)))
 (cond (Ex.same y2.1 Ex.ret)
 (some ((y2.2.2.2.2.1,y2.2.2.2.2.2.1,()),()))
 (none)))
def qUs (t0:List Nod) (env1:List qEK) (fns2:List Interp):Option ((Bool×Unit)×Unit):=
 (qXj t0 env1 fns2).bind fun r1=>
 cond (r1.1.2.1==0)
 (cond (r1.1.1.1==1)
 (some ((r1.1.1.2.1,()),()))
 (some ((false,()),())))
 (some ((false,()),()))
def qJr (t0:List Nod) (env1:List qEK) (fns2:List Interp):Option ((Bool×Unit)×Unit):=
 (qKq t0 env1 fns2).bind fun r1=>
 cond (r1.1.2.1==0)
 (cond (r1.1.1.1==1)
 (some ((r1.1.1.2.1,()),()))
 (some ((false,()),())))
 (some ((false,()),()))
def qNQ (t0:List Nod) (env1:List qEK) (fns2:List Interp):Option ((Bool×Unit)×Unit):=
 (qXj t0 env1 fns2).bind fun r1=>
 (qKq t0 env1 fns2).bind fun r2=>
 cond (r1.1.2.1==r2.1.2.1)
 ((qWI r1.1.1 r2.1.1).bind fun r3=>
 cond (r3.1.1)
 ((qUs t0 env1 fns2).bind fun r4=>
 (qJr t0 env1 fns2).bind fun r5=>
 some ((r4.1.1==r5.1.1,()),()))
 (some ((false,()),())))
 (some ((false,()),()))
def qIam (l0:List Int):Option ((qCA×Unit)×Unit):=
 grd (decide (0<=minA (l0.length:Int) (400:Int))&&decide (minA (l0.length:Int) (400:Int)<=l0.length)) (some (((l0.take (minA (l0.length:Int) (400:Int)).toNat,(0:Int)),()),()))
def qNac:Option (((List Vr)×Unit)×Unit):=
 some ((([(([120]:qBs),2),(([121]:qBs),2),(([122]:qBs),3),(([119]:qBs),3),(([112]:qBs),1),(([98]:qBs),1),(([97]:qBs),4),(([99]:qBs),4)]:List Vr),()),())
def qFaj (v0:Int) (n1:Int):Option ((Int×Unit)×Unit):=
 grd ((qU (n1)) !=0) (some ((qI ((qU (v0)).tmod (qU (n1))),()),()))
def qHA (c0:qCA) (n1:Int):Option ((Int×Unit)×(qCA×Unit)):=
 cond (decide (c0.2>=(c0.1.length:Int)))
 (some ((0,()),(c0.1,c0.2),()))
 (grd (decide (0<=qI ((qI (c0.2+1)) - (1:Int)))&&decide (qI ((qI (c0.2+1)) - (1:Int)) < c0.1.length)) (
 (qFaj (c0.1.getD (qI ((qI (c0.2+1)) - (1:Int))).toNat (0:Int)) n1).bind fun r1=>
 some ((r1.1.1,()),(c0.1,qI (c0.2+1)),())))
def qHL (x:Int×qBs×Int×Unit):Option (Ex×(Int×qBs×Int×Unit)):=
 let n0:=x.1
 let s3:=x.2.1
 let v4:=x.2.2.1
 cond (v4 !=(0:Int))
 (grd ((10:Int) !=0) (
 cond (decide ((v4.tmod 10) < (0:Int)))
 (grd (decide ((([IntKind.u8.wrap (qI ((48:Int)+(qI (0 - (v4.tmod 10)))))]:List Int).map fun n=>UInt8.ofNat n.toNat).length+s3.length<=qGP)) (grd ((10:Int) !=0) (some (Ex.normal,(n0,(([IntKind.u8.wrap (qI ((48:Int)+(qI (0 - (v4.tmod 10)))))]:List Int).map fun n=>UInt8.ofNat n.toNat)++s3,qI (v4.tdiv 10),())))))
 (grd (decide ((([IntKind.u8.wrap (qI ((48:Int)+(v4.tmod 10)))]:List Int).map fun n=>UInt8.ofNat n.toNat).length+s3.length<=qGP)) (grd ((10:Int) !=0) (some (Ex.normal,(n0,(([IntKind.u8.wrap (qI ((48:Int)+(v4.tmod 10)))]:List Int).map fun n=>UInt8.ofNat n.toNat)++s3,qI (v4.tdiv 10),())))))))
 (cond (s3==([]:qBs))
 (grd ((10:Int) !=0) (
 cond (decide ((v4.tmod 10) < (0:Int)))
 (grd (decide ((([IntKind.u8.wrap (qI ((48:Int)+(qI (0 - (v4.tmod 10)))))]:List Int).map fun n=>UInt8.ofNat n.toNat).length+s3.length<=qGP)) (grd ((10:Int) !=0) (some (Ex.normal,(n0,(([IntKind.u8.wrap (qI ((48:Int)+(qI (0 - (v4.tmod 10)))))]:List Int).map fun n=>UInt8.ofNat n.toNat)++s3,qI (v4.tdiv 10),())))))
 (grd (decide ((([IntKind.u8.wrap (qI ((48:Int)+(v4.tmod 10)))]:List Int).map fun n=>UInt8.ofNat n.toNat).length+s3.length<=qGP)) (grd ((10:Int) !=0) (some (Ex.normal,(n0,(([IntKind.u8.wrap (qI ((48:Int)+(v4.tmod 10)))]:List Int).map fun n=>UInt8.ofNat n.toNat)++s3,qI (v4.tdiv 10),())))))))
 (some (Ex.exit 0,(n0,s3,v4,()))))
def qQG (n0:Int):Option ((qBs×Unit)×Unit):=
 (qPA qHL (n0,([]:qBs),n0,())).bind fun y1=>
 cond (Ex.same y1.1 (Ex.exit 0))
 (cond (decide (y1.2.1 < (0:Int)))
 (grd (decide (([45]:qBs).length+y1.2.2.1.length<=qGP)) (some ((([45]:qBs)++y1.2.2.1,()),())))
 (some ((y1.2.2.1,()),())))
 (none)
def qIF (c0:qCA) (sort1:Int):Option ((Val×Unit)×(qCA×Unit)):=
 cond (sort1==1)
 ((qHA c0 2).bind fun r1=>
 some (((sort1,r1.1.1==1,([]:qBs),([]:List qBs),([]:List qBs)),()),r1.2.1,()))
 (cond (sort1==4)
 ((qHA c0 3).bind fun r2=>
 (qQG r2.1.1).bind fun r3=>
 (qHA r2.2.1 3).bind fun r4=>
 (qQG r4.1.1).bind fun r5=>
 (qHA r4.2.1 3).bind fun r6=>
 (qQG r6.1.1).bind fun r7=>
 (qAg (sort1,false,r3.1.1,([]:List qBs),([]:List qBs)) r5.1.1 r7.1.1).bind fun r8=>
 some ((r8.1.1,()),r6.2.1,()))
 ((qHA c0 6).bind fun r9=>
 (qQG (qI (r9.1.1 - (2:Int)))).bind fun r10=>
 some (((sort1,false,r10.1.1,([]:List qBs),([]:List qBs)),()),r9.2.1,())))
def qAm (b0:Bool):Option (((List Nod)×Unit)×Unit):=
 cond (b0)
 (some ((([(1,(0:Int),([]:qBs),([]:qBs),(0:Int))]:List Nod),()),()))
 (some ((([(2,(0:Int),([]:qBs),([]:qBs),(0:Int))]:List Nod),()),()))
def qJH (x:Val×(List Nod)×Int×(List Nod)×Int×Unit):Option (Ex×(Val×(List Nod)×Int×(List Nod)×Int×Unit)):=
 let v1:=x.1
 let t2:=x.2.1
 let t3:=x.2.2.1
 let t4:=x.2.2.2.1
 let i5:=x.2.2.2.2.1
 cond (decide (i5 < (v1.2.2.2.1.length:Int)))
 (cond (decide ((t4.length:Int) > (20000:Int)))
 (some (Ex.ret,(v1,([]:List Nod),6,t4,i5,())))
 (grd (decide (0<=i5)&&decide (i5 < v1.2.2.2.1.length)) (
 (qXO 2 (v1.2.2.2.1.getD i5.toNat ([]:qBs))).bind fun r1=>
 grd (decide (0<=i5)&&decide (i5 < v1.2.2.2.2.length)) (
 (qXO 2 (v1.2.2.2.2.getD i5.toNat ([]:qBs))).bind fun r2=>
 (qFd (19,(0:Int),([]:qBs),([]:qBs),(0:Int)) ([t4,r1.1.1,r2.1.1]:List (List Nod))).bind fun r3=>
 some (Ex.normal,(v1,t2,t3,r3.1.1,qI (i5+1),()))))))
 (some (Ex.exit 1,(v1,t2,t3,t4,i5,())))
def qIJ (v0:Val):Option (((List Nod)×Int×Unit)×Unit):=
 (qTF v0).bind fun r1=>
 cond (!r1.1.1)
 (some ((([]:List Nod),1,()),()))
 (cond (v0.1==1)
 ((qAm v0.2.1).bind fun r2=>
 some ((r2.1.1,0,()),()))
 (cond (v0.1==2)
 ((qXO v0.1 v0.2.2.1).bind fun r3=>
 some ((r3.1.1,0,()),()))
 (cond (v0.1==3)
 ((qXO v0.1 v0.2.2.1).bind fun r4=>
 some ((r4.1.1,0,()),()))
 ((qXO 2 v0.2.2.1).bind fun r5=>
 (qFd (20,(0:Int),([]:qBs),([]:qBs),(0:Int)) ([r5.1.1]:List (List Nod))).bind fun r6=>
 (qPA qJH (v0,([]:List Nod),0,r6.1.1,0,())).bind fun y7=>
 cond (Ex.same y7.1 (Ex.exit 1))
 ((qPQ y7.2.2.2.2.1).bind fun r8=>
 cond (!r8.1.1)
 (some ((([]:List Nod),6,()),()))
 (some ((y7.2.2.2.2.1,0,()),())))
 (cond (Ex.same y7.1 Ex.ret)
 (some ((y7.2.2.1,y7.2.2.2.1,()),()))
 (none))))))
def qQD (x:qCA×Int×(List Vr)×(List Vr)×Int×Unit):Option (Ex×(qCA×Int×(List Vr)×(List Vr)×Int×Unit)):=
 let c0:=x.1
 let sort1:=x.2.1
 let vars2:=x.2.2.1
 let l7:=x.2.2.2.1
 let i8:=x.2.2.2.2.1
 cond (decide (i8 < (vars2.length:Int)))
 (grd (decide (0<=i8)&&decide (i8 < vars2.length)) (
 cond (((vars2.getD i8.toNat zVr).2)==sort1)
 (grd (decide (0<=i8)&&decide (i8 < vars2.length)) (grd (decide (l7.length+([vars2.getD i8.toNat zVr]:List Vr).length<=qKF)) (some (Ex.normal,(c0,sort1,vars2,l7++([vars2.getD i8.toNat zVr]:List Vr),qI (i8+1),())))))
 (some (Ex.normal,(c0,sort1,vars2,l7,qI (i8+1),())))))
 (some (Ex.exit 0,(c0,sort1,vars2,l7,i8,())))
def qEB (c0:qCA) (sort1:Int) (vars2:List Vr):Option (((List Nod)×Unit)×(qCA×Unit)):=
 (qPA qQD (c0,sort1,vars2,([]:List Vr),0,())).bind fun y1=>
 cond (Ex.same y1.1 (Ex.exit 0))
 (cond ((y1.2.2.2.2.1.length:Int)==0)
 ((qIF y1.2.1 y1.2.2.1).bind fun r2=>
 (qIJ r2.1.1).bind fun r3=>
 some ((r3.1.1,()),r2.2.1,()))
 ((qHA y1.2.1 (y1.2.2.2.2.1.length:Int)).bind fun r4=>
 grd (decide (0<=r4.1.1)&&decide (r4.1.1 < y1.2.2.2.2.1.length)) (grd (decide (r4.1.1.toNat < y1.2.2.2.2.1.length)) (some ((([(4,y1.2.2.1,(y1.2.2.2.2.1.getD r4.1.1.toNat zVr).1,([]:qBs),(0:Int))]:List Nod),()),r4.2.1,())))))
 (none)
def qLN (c0:qCA):Option ((Bool×Unit)×(qCA×Unit)):=
 some ((decide (c0.2 < (c0.1.length:Int)),()),c0,())
def qEe (o0:Int) (l1:List (List Nod)):Option (((List Nod)×Unit)×Unit):=
 (qFd (o0,(0:Int),([]:qBs),([]:qBs),(0:Int)) l1).bind fun r1=>
 some ((r1.1.1,()),())
def qVE (c0:qCA):Option ((qBs×Unit)×(qCA×Unit)):=
 (qHA (c0.1,c0.2) 8).bind fun r1=>
 cond (r1.1.1==6)
 ((qHA (r1.2.1.1,r1.2.1.2) 2001).bind fun r2=>
 (qQG (qI (r2.1.1 - (1000:Int)))).bind fun r3=>
 some ((r3.1.1,()),(r2.2.1.1,r2.2.1.2),()))
 (cond (r1.1.1==7)
 ((qHA (r1.2.1.1,r1.2.1.2) 1099511627776).bind fun r4=>
 (qQG (qI (r4.1.1 - (549755813888:Int)))).bind fun r5=>
 (qHA (r4.2.1.1,r4.2.1.2) 1099511627776).bind fun r6=>
 (qQG r6.1.1).bind fun r7=>
 (qIr r5.1.1 r7.1.1).bind fun r8=>
 some ((r8.1.1,()),(r6.2.1.1,r6.2.1.2),()))
 ((qHA (r1.2.1.1,r1.2.1.2) 9).bind fun r9=>
 (qQG (qI (r9.1.1 - (4:Int)))).bind fun r10=>
 some ((r10.1.1,()),(r9.2.1.1,r9.2.1.2),())))
def qTK (c0:qCA):Option ((qBs×Unit)×(qCA×Unit)):=
 (qVE (c0.1,c0.2)).bind fun r1=>
 (qHA (r1.2.1.1,r1.2.1.2) 4).bind fun r2=>
 (qQG (qI ((1:Int)+r2.1.1))).bind fun r3=>
 (qZab r1.1.1 r3.1.1).bind fun r4=>
 some ((r4.1.1,()),(r2.2.1.1,r2.2.1.2),())
def qQF (c0:qCA) (sort1:Int):Option ((qBs×Unit)×(qCA×Unit)):=
 cond (sort1==2)
 ((qVE c0).bind fun r1=>
 some ((r1.1.1,()),r1.2.1,()))
 ((qTK c0).bind fun r2=>
 some ((r2.1.1,()),r2.2.1,()))
def qJG (qGaE:qCA->Int->Int->List Vr->Option (((List Nod)×Unit)×(qCA×Unit))) (qFaE:qCA->Int->List Vr->Option (((List Nod)×Unit)×(qCA×Unit))) (qJaE:qCA->Int->Int->List Vr->Option (((List Nod)×Unit)×(qCA×Unit))) (qHaE:qCA->Int->Int->List Vr->Option (((List Nod)×Unit)×(qCA×Unit))) (qIaE:qCA->Int->List Vr->Option (((List Nod)×Unit)×(qCA×Unit))) (c0:qCA) (sort1:Int) (depth2:Int) (vars3:List Vr):Option (((List Nod)×Unit)×(qCA×Unit)):=
 cond (decide (depth2<=0))
 ((qHA c0 3).bind fun r1=>
 cond (r1.1.1==0)
 ((qIF r1.2.1 sort1).bind fun r2=>
 (qIJ r2.1.1).bind fun r3=>
 some ((r3.1.1,()),r2.2.1,()))
 ((qEB r1.2.1 sort1 vars3).bind fun r4=>
 some ((r4.1.1,()),r4.2.1,())))
 ((qLN c0).bind fun r5=>
 cond (!r5.1.1)
 ((qHA r5.2.1 3).bind fun r6=>
 cond (r6.1.1==0)
 ((qIF r6.2.1 sort1).bind fun r7=>
 (qIJ r7.1.1).bind fun r8=>
 some ((r8.1.1,()),r7.2.1,()))
 ((qEB r6.2.1 sort1 vars3).bind fun r9=>
 some ((r9.1.1,()),r9.2.1,())))
 (cond (sort1==1)
 ((qFaE r5.2.1 depth2 vars3).bind fun r10=>
 some ((r10.1.1,()),r10.2.1,()))
 (cond (sort1==4)
 ((qHA r5.2.1 5).bind fun r11=>
 cond (r11.1.1==0)
 ((qGaE r11.2.1 2 (qI (depth2 - (1:Int))) vars3).bind fun r12=>
 (qEe 20 ([r12.1.1]:List (List Nod))).bind fun r13=>
 some ((r13.1.1,()),r12.2.1,()))
 (cond (r11.1.1==1)
 ((qGaE r11.2.1 4 (qI (depth2 - (1:Int))) vars3).bind fun r14=>
 (qGaE r14.2.1 2 (qI (depth2 - (1:Int))) vars3).bind fun r15=>
 (qGaE r15.2.1 2 (qI (depth2 - (1:Int))) vars3).bind fun r16=>
 (qEe 19 ([r14.1.1,r15.1.1,r16.1.1]:List (List Nod))).bind fun r17=>
 some ((r17.1.1,()),r16.2.1,()))
 (cond (r11.1.1==2)
 ((qGaE r11.2.1 4 (qI (depth2 - (1:Int))) vars3).bind fun r18=>
 (qGaE r18.2.1 2 (qI (depth2 - (1:Int))) vars3).bind fun r19=>
 (qGaE r19.2.1 2 (qI (depth2 - (1:Int))) vars3).bind fun r20=>
 (qEe 19 ([r18.1.1,r19.1.1,r20.1.1]:List (List Nod))).bind fun r21=>
 some ((r21.1.1,()),r20.2.1,()))
 (cond (r11.1.1==3)
 ((qJaE r11.2.1 sort1 depth2 vars3).bind fun r22=>
 some ((r22.1.1,()),r22.2.1,()))
 ((qEB r11.2.1 sort1 vars3).bind fun r23=>
 some ((r23.1.1,()),r23.2.1,()))))))
 ((qHaE r5.2.1 sort1 depth2 vars3).bind fun r24=>
 some ((r24.1.1,()),r24.2.1,())))))
def qSB (qGaE:qCA->Int->Int->List Vr->Option (((List Nod)×Unit)×(qCA×Unit))) (qFaE:qCA->Int->List Vr->Option (((List Nod)×Unit)×(qCA×Unit))) (qJaE:qCA->Int->Int->List Vr->Option (((List Nod)×Unit)×(qCA×Unit))) (qHaE:qCA->Int->Int->List Vr->Option (((List Nod)×Unit)×(qCA×Unit))) (qIaE:qCA->Int->List Vr->Option (((List Nod)×Unit)×(qCA×Unit))) (x:qCA×Int×(List Vr)×(List (List Nod))×Int×Unit):Option (Ex×(qCA×Int×(List Vr)×(List (List Nod))×Int×Unit)):=
 let c0:=x.1
 let depth1:=x.2.1
 let vars2:=x.2.2.1
 let l7:=x.2.2.2.1
 let n8:=x.2.2.2.2.1
 cond (decide (n8 > (0:Int)))
 ((qFaE c0 (qI (depth1 - (1:Int))) vars2).bind fun r1=>
 grd (decide (l7.length+([r1.1.1]:List (List Nod)).length<=qKF)) (some (Ex.normal,(r1.2.1,depth1,vars2,l7++([r1.1.1]:List (List Nod)),qI (n8 - (1:Int)),()))))
 (some (Ex.exit 1,(c0,depth1,vars2,l7,n8,())))
def qWE (qGaE:qCA->Int->Int->List Vr->Option (((List Nod)×Unit)×(qCA×Unit))) (qFaE:qCA->Int->List Vr->Option (((List Nod)×Unit)×(qCA×Unit))) (qJaE:qCA->Int->Int->List Vr->Option (((List Nod)×Unit)×(qCA×Unit))) (qHaE:qCA->Int->Int->List Vr->Option (((List Nod)×Unit)×(qCA×Unit))) (qIaE:qCA->Int->List Vr->Option (((List Nod)×Unit)×(qCA×Unit))) (c0:qCA) (depth1:Int) (vars2:List Vr):Option (((List Nod)×Unit)×(qCA×Unit)):=
 cond (decide (depth1<=0))
 ((qIaE c0 0 vars2).bind fun r1=>
 some ((r1.1.1,()),r1.2.1,()))
 ((qLN c0).bind fun r2=>
 cond (!r2.1.1)
 ((qIaE r2.2.1 0 vars2).bind fun r3=>
 some ((r3.1.1,()),r3.2.1,()))
 ((qHA r2.2.1 12).bind fun r4=>
 cond (r4.1.1==0)
 ((qFaE r4.2.1 (qI (depth1 - (1:Int))) vars2).bind fun r5=>
 (qEe 6 ([r5.1.1]:List (List Nod))).bind fun r6=>
 some ((r6.1.1,()),r5.2.1,()))
 (cond (r4.1.1==1)
 ((qFaE r4.2.1 (qI (depth1 - (1:Int))) vars2).bind fun r7=>
 (qEe 6 ([r7.1.1]:List (List Nod))).bind fun r8=>
 some ((r8.1.1,()),r7.2.1,()))
 (cond (r4.1.1==2)
 ((qHA r4.2.1 4).bind fun r9=>
 (qPA (qSB qGaE qFaE qJaE qHaE qIaE) (r9.2.1,depth1,vars2,([]:List (List Nod)),r9.1.1,())).bind fun y10=>
 cond (Ex.same y10.1 (Ex.exit 1))
 ((qHA y10.2.1 2).bind fun r11=>
 (qEe (qI ((7:Int)+r11.1.1)) y10.2.2.2.2.1).bind fun r12=>
 some ((r12.1.1,()),r11.2.1,()))
 (none))
 (cond (r4.1.1==3)
 ((qHA r4.2.1 4).bind fun r13=>
 (qPA (qSB qGaE qFaE qJaE qHaE qIaE) (r13.2.1,depth1,vars2,([]:List (List Nod)),r13.1.1,())).bind fun y14=>
 cond (Ex.same y14.1 (Ex.exit 1))
 ((qHA y14.2.1 2).bind fun r15=>
 (qEe (qI ((7:Int)+r15.1.1)) y14.2.2.2.2.1).bind fun r16=>
 some ((r16.1.1,()),r15.2.1,()))
 (none))
 (cond (r4.1.1==4)
 ((qHA r4.2.1 4).bind fun r17=>
 (qPA (qSB qGaE qFaE qJaE qHaE qIaE) (r17.2.1,depth1,vars2,([]:List (List Nod)),r17.1.1,())).bind fun y18=>
 cond (Ex.same y18.1 (Ex.exit 1))
 ((qHA y18.2.1 2).bind fun r19=>
 (qEe (qI ((7:Int)+r19.1.1)) y18.2.2.2.2.1).bind fun r20=>
 some ((r20.1.1,()),r19.2.1,()))
 (none))
 (cond (r4.1.1==5)
 ((qHA r4.2.1 4).bind fun r21=>
 (qPA (qSB qGaE qFaE qJaE qHaE qIaE) (r21.2.1,depth1,vars2,([]:List (List Nod)),r21.1.1,())).bind fun y22=>
 cond (Ex.same y22.1 (Ex.exit 1))
 ((qHA y22.2.1 2).bind fun r23=>
 (qEe (qI ((7:Int)+r23.1.1)) y22.2.2.2.2.1).bind fun r24=>
 some ((r24.1.1,()),r23.2.1,()))
 (none))
 (cond (r4.1.1==6)
 ((qFaE r4.2.1 (qI (depth1 - (1:Int))) vars2).bind fun r25=>
 (qFaE r25.2.1 (qI (depth1 - (1:Int))) vars2).bind fun r26=>
 (qEe 9 ([r25.1.1,r26.1.1]:List (List Nod))).bind fun r27=>
 some ((r27.1.1,()),r26.2.1,()))
 (cond (r4.1.1==7)
 ((qJaE r4.2.1 1 depth1 vars2).bind fun r28=>
 some ((r28.1.1,()),r28.2.1,()))
 (cond (r4.1.1==8)
 ((qFaE r4.2.1 (qI (depth1 - (1:Int))) vars2).bind fun r29=>
 (qFaE r29.2.1 (qI (depth1 - (1:Int))) vars2).bind fun r30=>
 (qEe 11 ([r29.1.1,r30.1.1]:List (List Nod))).bind fun r31=>
 some ((r31.1.1,()),r30.2.1,()))
 ((qIaE r4.2.1 (qI (depth1 - (1:Int))) vars2).bind fun r32=>
 some ((r32.1.1,()),r32.2.1,()))))))))))))
def qEM (qGaE:qCA->Int->Int->List Vr->Option (((List Nod)×Unit)×(qCA×Unit))) (qFaE:qCA->Int->List Vr->Option (((List Nod)×Unit)×(qCA×Unit))) (qJaE:qCA->Int->Int->List Vr->Option (((List Nod)×Unit)×(qCA×Unit))) (qHaE:qCA->Int->Int->List Vr->Option (((List Nod)×Unit)×(qCA×Unit))) (qIaE:qCA->Int->List Vr->Option (((List Nod)×Unit)×(qCA×Unit))) (c0:qCA) (sort1:Int) (depth2:Int) (vars3:List Vr):Option (((List Nod)×Unit)×(qCA×Unit)):=
 (qFaE c0 (qI (depth2 - (1:Int))) vars3).bind fun r1=>
 (qGaE r1.2.1 sort1 (qI (depth2 - (1:Int))) vars3).bind fun r2=>
 (qGaE r2.2.1 sort1 (qI (depth2 - (1:Int))) vars3).bind fun r3=>
 (qEe 10 ([r1.1.1,r2.1.1,r3.1.1]:List (List Nod))).bind fun r4=>
 some ((r4.1.1,()),r3.2.1,())
def qHE (qGaE:qCA->Int->Int->List Vr->Option (((List Nod)×Unit)×(qCA×Unit))) (qFaE:qCA->Int->List Vr->Option (((List Nod)×Unit)×(qCA×Unit))) (qJaE:qCA->Int->Int->List Vr->Option (((List Nod)×Unit)×(qCA×Unit))) (qHaE:qCA->Int->Int->List Vr->Option (((List Nod)×Unit)×(qCA×Unit))) (qIaE:qCA->Int->List Vr->Option (((List Nod)×Unit)×(qCA×Unit))) (x:qCA×Int×Int×(List Vr)×(List (List Nod))×Int×Unit):Option (Ex×(qCA×Int×Int×(List Vr)×(List (List Nod))×Int×Unit)):=
 let c0:=x.1
 let sort1:=x.2.1
 let depth2:=x.2.2.1
 let vars3:=x.2.2.2.1
 let l10:=x.2.2.2.2.1
 let n11:=x.2.2.2.2.2.1
 cond (decide (n11 > (0:Int)))
 ((qGaE c0 sort1 (qI (depth2 - (1:Int))) vars3).bind fun r1=>
 grd (decide (l10.length+([r1.1.1]:List (List Nod)).length<=qKF)) (some (Ex.normal,(r1.2.1,sort1,depth2,vars3,l10++([r1.1.1]:List (List Nod)),qI (n11 - (1:Int)),()))))
 (some (Ex.exit 1,(c0,sort1,depth2,vars3,l10,n11,())))
def qDG (qGaE:qCA->Int->Int->List Vr->Option (((List Nod)×Unit)×(qCA×Unit))) (qFaE:qCA->Int->List Vr->Option (((List Nod)×Unit)×(qCA×Unit))) (qJaE:qCA->Int->Int->List Vr->Option (((List Nod)×Unit)×(qCA×Unit))) (qHaE:qCA->Int->Int->List Vr->Option (((List Nod)×Unit)×(qCA×Unit))) (qIaE:qCA->Int->List Vr->Option (((List Nod)×Unit)×(qCA×Unit))) (c0:qCA) (sort1:Int) (depth2:Int) (vars3:List Vr):Option (((List Nod)×Unit)×(qCA×Unit)):=
 (qHA c0 10).bind fun r1=>
 cond (decide (r1.1.1 < (3:Int)))
 ((qGaE r1.2.1 sort1 (qI (depth2 - (1:Int))) vars3).bind fun r2=>
 (qHA r2.2.1 3).bind fun r3=>
 (qPA (qHE qGaE qFaE qJaE qHaE qIaE) (r3.2.1,sort1,depth2,vars3,([r2.1.1]:List (List Nod)),r3.1.1,())).bind fun y4=>
 cond (Ex.same y4.1 (Ex.exit 1))
 ((qEe 14 y4.2.2.2.2.2.1).bind fun r5=>
 some ((r5.1.1,()),y4.2.1,()))
 (none))
 (cond (decide (r1.1.1 < (5:Int)))
 ((qQF r1.2.1 sort1).bind fun r6=>
 (qXO sort1 r6.1.1).bind fun r7=>
 (qGaE r6.2.1 sort1 (qI (depth2 - (1:Int))) vars3).bind fun r8=>
 (qEe 15 ([r7.1.1,r8.1.1]:List (List Nod))).bind fun r9=>
 some ((r9.1.1,()),r8.2.1,()))
 (cond (r1.1.1==5)
 ((qJaE r1.2.1 sort1 depth2 vars3).bind fun r10=>
 some ((r10.1.1,()),r10.2.1,()))
 (cond (r1.1.1==6)
 (cond (sort1==2)
 ((qHA r1.2.1 2).bind fun r11=>
 (qHA r11.2.1 5).bind fun r12=>
 (qQG (qI ((1:Int)+r12.1.1))).bind fun r13=>
 (qGaE r12.2.1 sort1 (qI (depth2 - (1:Int))) vars3).bind fun r14=>
 (qFd (qI ((16:Int)+r11.1.1),(0:Int),([]:qBs),r13.1.1,(0:Int)) ([r14.1.1]:List (List Nod))).bind fun r15=>
 some ((r15.1.1,()),r14.2.1,()))
 (cond (r1.1.1==7)
 (cond (sort1==2)
 ((qGaE r1.2.1 4 (qI (depth2 - (1:Int))) vars3).bind fun r16=>
 (qGaE r16.2.1 sort1 (qI (depth2 - (1:Int))) vars3).bind fun r17=>
 (qEe 18 ([r16.1.1,r17.1.1]:List (List Nod))).bind fun r18=>
 some ((r18.1.1,()),r17.2.1,()))
 (cond (r1.1.1==8)
 ((qQF r1.2.1 sort1).bind fun r19=>
 (qXO sort1 r19.1.1).bind fun r20=>
 some ((r20.1.1,()),r19.2.1,()))
 ((qEB r1.2.1 sort1 vars3).bind fun r21=>
 some ((r21.1.1,()),r21.2.1,()))))
 (cond (r1.1.1==8)
 ((qQF r1.2.1 sort1).bind fun r22=>
 (qXO sort1 r22.1.1).bind fun r23=>
 some ((r23.1.1,()),r22.2.1,()))
 ((qEB r1.2.1 sort1 vars3).bind fun r24=>
 some ((r24.1.1,()),r24.2.1,())))))
 (cond (r1.1.1==7)
 (cond (sort1==2)
 ((qGaE r1.2.1 4 (qI (depth2 - (1:Int))) vars3).bind fun r25=>
 (qGaE r25.2.1 sort1 (qI (depth2 - (1:Int))) vars3).bind fun r26=>
 (qEe 18 ([r25.1.1,r26.1.1]:List (List Nod))).bind fun r27=>
 some ((r27.1.1,()),r26.2.1,()))
 (cond (r1.1.1==8)
 ((qQF r1.2.1 sort1).bind fun r28=>
 (qXO sort1 r28.1.1).bind fun r29=>
 some ((r29.1.1,()),r28.2.1,()))
 ((qEB r1.2.1 sort1 vars3).bind fun r30=>
 some ((r30.1.1,()),r30.2.1,()))))
 (cond (r1.1.1==8)
 ((qQF r1.2.1 sort1).bind fun r31=>
 (qXO sort1 r31.1.1).bind fun r32=>
 some ((r32.1.1,()),r31.2.1,()))
 ((qEB r1.2.1 sort1 vars3).bind fun r33=>
 some ((r33.1.1,()),r33.2.1,())))))))
def qSK (qGaE:qCA->Int->Int->List Vr->Option (((List Nod)×Unit)×(qCA×Unit))) (qFaE:qCA->Int->List Vr->Option (((List Nod)×Unit)×(qCA×Unit))) (qJaE:qCA->Int->Int->List Vr->Option (((List Nod)×Unit)×(qCA×Unit))) (qHaE:qCA->Int->Int->List Vr->Option (((List Nod)×Unit)×(qCA×Unit))) (qIaE:qCA->Int->List Vr->Option (((List Nod)×Unit)×(qCA×Unit))) (c0:qCA) (depth1:Int) (vars2:List Vr):Option (((List Nod)×Unit)×(qCA×Unit)):=
 (qHA c0 5).bind fun r1=>
 grd (decide (0<=r1.1.1)&&decide (r1.1.1 < ([2,2,3,4,1]:List Int).length)) (
 cond ((([2,2,3,4,1]:List Int).getD r1.1.1.toNat (0:Int))==1)
 ((qHA r1.2.1 3).bind fun r2=>
 cond (r2.1.1==0)
 ((qHA r2.2.1 2).bind fun r3=>
 (qAm (r3.1.1==1)).bind fun r4=>
 some ((r4.1.1,()),r3.2.1,()))
 ((qEB r2.2.1 (([2,2,3,4,1]:List Int).getD r1.1.1.toNat (0:Int)) vars2).bind fun r5=>
 some ((r5.1.1,()),r5.2.1,())))
 (cond ((([2,2,3,4,1]:List Int).getD r1.1.1.toNat (0:Int)) !=(4:Int))
 ((qHA r1.2.1 3).bind fun r6=>
 (qGaE r6.2.1 (([2,2,3,4,1]:List Int).getD r1.1.1.toNat (0:Int)) depth1 vars2).bind fun r7=>
 (qGaE r7.2.1 (([2,2,3,4,1]:List Int).getD r1.1.1.toNat (0:Int)) depth1 vars2).bind fun r8=>
 (qEe (qI ((11:Int)+r6.1.1)) ([r7.1.1,r8.1.1]:List (List Nod))).bind fun r9=>
 some ((r9.1.1,()),r8.2.1,()))
 ((qGaE r1.2.1 (([2,2,3,4,1]:List Int).getD r1.1.1.toNat (0:Int)) depth1 vars2).bind fun r10=>
 (qGaE r10.2.1 (([2,2,3,4,1]:List Int).getD r1.1.1.toNat (0:Int)) depth1 vars2).bind fun r11=>
 (qEe 11 ([r10.1.1,r11.1.1]:List (List Nod))).bind fun r12=>
 some ((r12.1.1,()),r11.2.1,()))))
def qIA:Nat->(qCA->Int->Int->List Vr->Option (((List Nod)×Unit)×(qCA×Unit)))×(qCA->Int->List Vr->Option (((List Nod)×Unit)×(qCA×Unit)))×(qCA->Int->Int->List Vr->Option (((List Nod)×Unit)×(qCA×Unit)))×(qCA->Int->Int->List Vr->Option (((List Nod)×Unit)×(qCA×Unit)))×(qCA->Int->List Vr->Option (((List Nod)×Unit)×(qCA×Unit)))
 |0=>(fun _ _ _ _=>none,fun _ _ _=>none,fun _ _ _ _=>none,fun _ _ _ _=>none,fun _ _ _=>none)
 |n+1=>(qJG (qIA n).1 (qIA n).2.1 (qIA n).2.2.1 (qIA n).2.2.2.1 (qIA n).2.2.2.2,qWE (qIA n).1 (qIA n).2.1 (qIA n).2.2.1 (qIA n).2.2.2.1 (qIA n).2.2.2.2,qEM (qIA n).1 (qIA n).2.1 (qIA n).2.2.1 (qIA n).2.2.2.1 (qIA n).2.2.2.2,qDG (qIA n).1 (qIA n).2.1 (qIA n).2.2.1 (qIA n).2.2.2.1 (qIA n).2.2.2.2,qSK (qIA n).1 (qIA n).2.1 (qIA n).2.2.1 (qIA n).2.2.2.1 (qIA n).2.2.2.2)
def qFB (n:Nat):qCA->Int->Int->List Vr->Option (((List Nod)×Unit)×(qCA×Unit)):=(qIA n).1
def qRA (n:Nat):qCA->Int->List Vr->Option (((List Nod)×Unit)×(qCA×Unit)):=(qIA n).2.1
def qAC (n:Nat):qCA->Int->Int->List Vr->Option (((List Nod)×Unit)×(qCA×Unit)):=(qIA n).2.2.1
def qSA (n:Nat):qCA->Int->Int->List Vr->Option (((List Nod)×Unit)×(qCA×Unit)):=(qIA n).2.2.2.1
def qLB (n:Nat):qCA->Int->List Vr->Option (((List Nod)×Unit)×(qCA×Unit)):=(qIA n).2.2.2.2
def qEH (x:(List Nod)×(List qEK)×(List Int)×Bool×Int×Unit):Option (Ex×((List Nod)×(List qEK)×(List Int)×Bool×Int×Unit)):=
 let t0:=x.1
 let env1:=x.2.1
 let l2:=x.2.2.1
 let t6:=x.2.2.2.1
 let i7:=x.2.2.2.2.1
 cond (decide (i7 < (t0.length:Int)))
 (grd (decide (0<=i7)&&decide (i7 < t0.length)) (
 cond (decide ((((((t0.getD i7.toNat qPE).2).2).1).length:Int) > (50:Int)))
 (qVU.bind fun r1=>
 some (Ex.ret,(t0,env1,l2,r1.1.1,i7,())))
 (grd (decide (0<=i7)&&decide (i7 < t0.length)) (
 cond (decide (((((((t0.getD i7.toNat qPE).2).2).2).1).length:Int) > (50:Int)))
 (qVU.bind fun r2=>
 some (Ex.ret,(t0,env1,l2,r2.1.1,i7,())))
 (some (Ex.normal,(t0,env1,l2,t6,qI (i7+1),())))))))
 (some (Ex.exit 0,(t0,env1,l2,t6,i7,())))
def qAF (x:(List Nod)×(List qEK)×(List Int)×Bool×Int×Unit):Option (Ex×((List Nod)×(List qEK)×(List Int)×Bool×Int×Unit)):=
 let t0:=x.1
 let env1:=x.2.1
 let l2:=x.2.2.1
 let t6:=x.2.2.2.1
 let i8:=x.2.2.2.2.1
 cond (decide (i8 < (env1.length:Int)))
 (grd (decide (0<=i8)&&decide (i8 < env1.length)) (
 (qUf ((env1.getD i8.toNat qJU).2)).bind fun r1=>
 cond (!r1.1.1)
 (qVU.bind fun r2=>
 some (Ex.ret,(t0,env1,l2,r2.1.1,i8,())))
 (some (Ex.normal,(t0,env1,l2,t6,qI (i8+1),())))))
 (some (Ex.exit 2,(t0,env1,l2,t6,i8,())))
def qHN (t0:List Nod) (env1:List qEK) (l2:List Int):Option ((Bool×Unit)×Unit):=
 cond (decide ((t0.length:Int) > (15:Int)))
 (qVU.bind fun r1=>
 some ((r1.1.1,()),()))
 (cond (decide ((env1.length:Int) > (5:Int)))
 (qVU.bind fun r2=>
 some ((r2.1.1,()),()))
 ((qPA qEH (t0,env1,l2,false,0,())).bind fun y3=>
 cond (Ex.same y3.1 (Ex.exit 0))
 ((qPA qAF (y3.2.1,y3.2.2.1,y3.2.2.2.1,y3.2.2.2.2.1,0,())).bind fun y4=>
 cond (Ex.same y4.1 (Ex.exit 2))
 ((qNQ y4.2.1 y4.2.2.1 ([]:List Interp)).bind fun r5=>
 cond (r5.1.1)
 ((qIam y4.2.2.2.1).bind fun r6=>
 qNac.bind fun r7=>
 (qRA big r6.1.1 2 r7.1.1).bind fun r8=>
 (qNQ r8.1.1 y4.2.2.1 ([]:List Interp)).bind fun r9=>
 cond (r9.1.1)
 (qVU.bind fun r10=>
 some ((r10.1.1,()),()))
 (some ((false,()),())))
 (some ((false,()),())))
 (cond (Ex.same y4.1 Ex.ret)
 (some ((y4.2.2.2.2.1,()),()))
 (none)))
 (cond (Ex.same y3.1 Ex.ret)
 (some ((y3.2.2.2.2.1,()),()))
 (none))))
end
end Go.AM.Num
end
