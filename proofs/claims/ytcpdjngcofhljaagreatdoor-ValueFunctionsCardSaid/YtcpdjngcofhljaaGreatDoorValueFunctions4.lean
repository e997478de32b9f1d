/- Law ValueFunctions: a part of its proof. No conditions. -/
import Derived.Test.YtcpdjngcofhljaaGreatDoorValueFunctions3
set_option linter.unusedSimpArgs false
set_option linter.unusedVariables false
section
namespace Go.AM.Num
set_option maxRecDepth 100000
noncomputable section
def BB:Nat:=2 ^ 64
@[reducible] def BI : GT := (.pair .str (.int .i64))
abbrev Vr:=qBs×Int
abbrev Cb:Vr:=(([]:qBs),(0:Int))
@[reducible] def Eb : GT := (.pair (.int .i64) (.int .i64))
abbrev Bt:=Int×Int
@[reducible] def Bb : GT := (.pair (.sl (.int .i64)) (.int .i64))
abbrev Af:=(List Int)×Int
@[reducible] def I4 : GT := (.pair .bool (.pair .str .str))
abbrev HK:=Bool×qBs×qBs
@[reducible] def CR : GT := (.pair .bool (.pair (.sl (.int .u32)) (.sl (.int .u32))))
abbrev Rt:=Bool×(List Int)×List Int
@[reducible] def AE : GT := (.pair (.int .i64) (.pair (.int .i64) (.pair .str BI)))
abbrev Ac:=Int×Int×qBs×Vr
abbrev Az:Ac:=((0:Int),(0:Int),([]:qBs),([]:qBs),(0:Int))
@[reducible] def Au : GT := (.pair (.int .i64) (.pair .bool (.pair .str (.pair (.sl .str) (.sl .str)))))
abbrev Ae:=Int×Bool×qBs×(List qBs)×List qBs
abbrev zVal:Ae:=((0:Int),false,([]:qBs),([]:List qBs),([]:List qBs))
@[reducible] def Cj : GT := (.pair .str Au)
abbrev AN:=qBs×Ae
abbrev DO:AN:=(([]:qBs),(0:Int),false,([]:qBs),([]:List qBs),([]:List qBs))
@[reducible] def DD : GT := (.pair (.sl AE) (.sl (.pair (.int .i64) Eb)))
abbrev Bf:=(List Ac)×List (Int×Bt)
abbrev BW:Bf:=(([]:List Ac),([]:List (Int×Bt)))
@[reducible] def Bx : GT := (.pair .str (.pair (.sl (.sl Au)) (.pair (.sl Au) Au)))
abbrev Interp:=qBs×(List (List Ae))×(List Ae)×Ae
abbrev Cd:Interp:=(([]:qBs),([]:List (List Ae)),([]:List Ae),(0:Int),false,([]:qBs),([]:List qBs),([]:List qBs))
@[reducible] def L8 : GT := (.pair (.sl AE) (.pair (.int .i64) (.pair (.map Au) (.map Bx))))
abbrev Co:=(List Ac)×Int×(List (qBs×Ae))×List (qBs×Interp)
def J' (l0:List Int):Option ((Af×Unit)×Unit):=
 Aa (decide (0<=Ga (l0.length:Int) (400:Int))&&decide (Ga (l0.length:Int) (400:Int)<=l0.length)) (some (((l0.take (Ga (l0.length:Int) (400:Int)).toNat,(0:Int)),()),()))
def Nr:Option (((List Vr)×Unit)×Unit):=
 some ((([(([120]:qBs),2),(([121]:qBs),2),(([122]:qBs),3),(([119]:qBs),3),(([112]:qBs),1),(([98]:qBs),1),(([97]:qBs),4),(([99]:qBs),4)]:List Vr),()),())
def ME (v0:Int) (n1:Int):Option ((Int×Unit)×Unit):=
 Aa ((qU (n1)) !=0) (some ((qI ((qU (v0)).tmod (qU (n1))),()),()))
def AW (c0:Af) (n1:Int):Option ((Int×Unit)×(Af×Unit)):=
 cond (decide (c0.2>=(c0.1.length:Int)))
 (some ((0,()),(c0.1,c0.2),()))
 (Aa (decide (0<=qI ((qI (c0.2+1)) - (1:Int)))&&decide (qI ((qI (c0.2+1)) - (1:Int)) < c0.1.length)) (
 (ME (c0.1.getD (qI ((qI (c0.2+1)) - (1:Int))).toNat (0:Int)) n1).bind fun r1=>
 some ((r1.1.1,()),(c0.1,qI (c0.2+1)),())))
def IT (x:Int×qBs×Int×Unit):Option (Ex×(Int×qBs×Int×Unit)):=
 let n0:=x.1
 let s3:=x.2.1
 let v4:=x.2.2.1
 cond (v4 !=(0:Int))
 (Aa ((10:Int) !=0) (
 cond (decide ((v4.tmod 10) < (0:Int)))
 (Aa (decide ((([IntKind.u8.wrap (qI ((48:Int)+(qI (0 - (v4.tmod 10)))))]:List Int).map fun n=>UInt8.ofNat n.toNat).length+s3.length<=A6)) (Aa ((10:Int) !=0) (some (Ex.normal,(n0,(([IntKind.u8.wrap (qI ((48:Int)+(qI (0 - (v4.tmod 10)))))]:List Int).map fun n=>UInt8.ofNat n.toNat)++s3,qI (v4.tdiv 10),())))))
 (Aa (decide ((([IntKind.u8.wrap (qI ((48:Int)+(v4.tmod 10)))]:List Int).map fun n=>UInt8.ofNat n.toNat).length+s3.length<=A6)) (Aa ((10:Int) !=0) (some (Ex.normal,(n0,(([IntKind.u8.wrap (qI ((48:Int)+(v4.tmod 10)))]:List Int).map fun n=>UInt8.ofNat n.toNat)++s3,qI (v4.tdiv 10),())))))))
 (cond (s3==([]:qBs))
 (Aa ((10:Int) !=0) (
 cond (decide ((v4.tmod 10) < (0:Int)))
 (Aa (decide ((([IntKind.u8.wrap (qI ((48:Int)+(qI (0 - (v4.tmod 10)))))]:List Int).map fun n=>UInt8.ofNat n.toNat).length+s3.length<=A6)) (Aa ((10:Int) !=0) (some (Ex.normal,(n0,(([IntKind.u8.wrap (qI ((48:Int)+(qI (0 - (v4.tmod 10)))))]:List Int).map fun n=>UInt8.ofNat n.toNat)++s3,qI (v4.tdiv 10),())))))
 (Aa (decide ((([IntKind.u8.wrap (qI ((48:Int)+(v4.tmod 10)))]:List Int).map fun n=>UInt8.ofNat n.toNat).length+s3.length<=A6)) (Aa ((10:Int) !=0) (some (Ex.normal,(n0,(([IntKind.u8.wrap (qI ((48:Int)+(v4.tmod 10)))]:List Int).map fun n=>UInt8.ofNat n.toNat)++s3,qI (v4.tdiv 10),())))))))
 (some (Ex.exit 0,(n0,s3,v4,()))))
def DG (n0:Int):Option ((qBs×Unit)×Unit):=
 (Am IT (n0,([]:qBs),n0,())).bind fun y1=>
 cond (Ex.same y1.1 (Ex.exit 0))
 (cond (decide (y1.2.1 < (0:Int)))
 (Aa (decide (([45]:qBs).length+y1.2.2.1.length<=A6)) (some ((([45]:qBs)++y1.2.2.1,()),())))
 (some ((y1.2.2.1,()),())))
 (none)
def Hl (x:qBs×Bool×Int×Unit):Option (Ex×(qBs×Bool×Int×Unit)):=
 let s0:=x.1
 let t2:=x.2.1
 let i3:=x.2.2.1
 cond (decide (i3 < (s0.length:Int)))
 (Aa (decide (0<=i3)&&decide (i3 < s0.length)) (
 cond (decide (((s0.getD i3.toNat 0).toNat:Int) < (48:Int)))
 (some (Ex.ret,(s0,false,i3,())))
 (Aa (decide (0<=i3)&&decide (i3 < s0.length)) (
 cond (decide (((s0.getD i3.toNat 0).toNat:Int) > (57:Int)))
 (some (Ex.ret,(s0,false,i3,())))
 (some (Ex.normal,(s0,t2,qI (i3+1),())))))))
 (some (Ex.exit 0,(s0,t2,i3,())))
def EV (s0:qBs):Option ((Bool×Unit)×Unit):=
 (Am Hl (s0,false,0,())).bind fun y1=>
 cond (Ex.same y1.1 (Ex.exit 0))
 (some ((!(y1.2.1==([]:qBs)),()),()))
 (cond (Ex.same y1.1 Ex.ret)
 (some ((y1.2.2.1,()),()))
 (none))
def Ja (x:qBs×Unit):Option (Ex×(qBs×Unit)):=
 let s0:=x.1
 cond (decide ((s0.length:Int) > (1:Int)))
 (Aa (decide (0<=(0:Int))&&decide ((0:Int) < s0.length)) (
 cond (((s0.getD (0:Int).toNat 0).toNat:Int)==48)
 (Aa (decide (0<=(1:Int))&&decide ((1:Int)<=s0.length)) (some (Ex.normal,(s0.drop (1:Int).toNat,()))))
 (some (Ex.exit 0,(s0,())))))
 (some (Ex.exit 0,(s0,())))
def Dm (s0:qBs):Option ((qBs×Unit)×Unit):=
 (Am Ja (s0,())).bind fun y1=>
 cond (Ex.same y1.1 (Ex.exit 0))
 (some ((y1.2.1,()),()))
 (none)
def Kx (a0:qBs) (b1:qBs):Option ((Int×Unit)×Unit):=
 cond (decide ((a0.length:Int) < (b1.length:Int)))
 (some ((-1,()),()))
 (cond ((a0.length:Int)==(b1.length:Int))
 (cond (Gc a0 b1)
 (some ((-1,()),()))
 (cond (a0==b1)
 (some ((0,()),()))
 (some ((1,()),()))))
 (cond (a0==b1)
 (some ((0,()),()))
 (some ((1,()),()))))
def Fg (x:qBs×qBs×(List Int)×Int×Int×Unit):Option (Ex×(qBs×qBs×(List Int)×Int×Int×Unit)):=
 let a0:=x.1
 let b1:=x.2.1
 let out5:=x.2.2.1
 let borrow6:=x.2.2.2.1
 let i7:=x.2.2.2.2.1
 cond (decide (i7 < (a0.length:Int)))
 (Aa (decide (0<=qI ((qI ((a0.length:Int) - (1:Int))) - i7))&&decide (qI ((qI ((a0.length:Int) - (1:Int))) - i7) < a0.length)) (
 cond (decide (i7 < (b1.length:Int)))
 (Aa (decide (0<=qI ((qI ((b1.length:Int) - (1:Int))) - i7))&&decide (qI ((qI ((b1.length:Int) - (1:Int))) - i7) < b1.length)) (
 cond (decide ((qI ((qI ((qI (IntKind.u8.wrap (((a0.getD (qI ((qI ((a0.length:Int) - (1:Int))) - i7)).toNat 0).toNat:Int) - (48:Int)))) - borrow6)) - (qI (IntKind.u8.wrap (((b1.getD (qI ((qI ((b1.length:Int) - (1:Int))) - i7)).toNat 0).toNat:Int) - (48:Int)))))) < (0:Int)))
 (Aa (decide (0<=qI ((qI ((a0.length:Int) - (1:Int))) - i7))&&decide (qI ((qI ((a0.length:Int) - (1:Int))) - i7) < out5.length)) (Aa (decide ((qI ((qI ((a0.length:Int) - (1:Int))) - i7)).toNat < out5.length)) (some (Ex.normal,(a0,b1,out5.set ((qI ((qI ((a0.length:Int) - (1:Int))) - i7)).toNat) (IntKind.u8.wrap (qI ((48:Int)+(qI ((qI ((qI ((qI (IntKind.u8.wrap (((a0.getD (qI ((qI ((a0.length:Int) - (1:Int))) - i7)).toNat 0).toNat:Int) - (48:Int)))) - borrow6)) - (qI (IntKind.u8.wrap (((b1.getD (qI ((qI ((b1.length:Int) - (1:Int))) - i7)).toNat 0).toNat:Int) - (48:Int))))))+10))))),1,qI (i7+1),())))))
 (Aa (decide (0<=qI ((qI ((a0.length:Int) - (1:Int))) - i7))&&decide (qI ((qI ((a0.length:Int) - (1:Int))) - i7) < out5.length)) (Aa (decide ((qI ((qI ((a0.length:Int) - (1:Int))) - i7)).toNat < out5.length)) (some (Ex.normal,(a0,b1,out5.set ((qI ((qI ((a0.length:Int) - (1:Int))) - i7)).toNat) (IntKind.u8.wrap (qI ((48:Int)+(qI ((qI ((qI (IntKind.u8.wrap (((a0.getD (qI ((qI ((a0.length:Int) - (1:Int))) - i7)).toNat 0).toNat:Int) - (48:Int)))) - borrow6)) - (qI (IntKind.u8.wrap (((b1.getD (qI ((qI ((b1.length:Int) - (1:Int))) - i7)).toNat 0).toNat:Int) - (48:Int))))))))),0,qI (i7+1),())))))))
 (cond (decide ((qI ((qI (IntKind.u8.wrap (((a0.getD (qI ((qI ((a0.length:Int) - (1:Int))) - i7)).toNat 0).toNat:Int) - (48:Int)))) - borrow6)) < (0:Int)))
 (Aa (decide (0<=qI ((qI ((a0.length:Int) - (1:Int))) - i7))&&decide (qI ((qI ((a0.length:Int) - (1:Int))) - i7) < out5.length)) (Aa (decide ((qI ((qI ((a0.length:Int) - (1:Int))) - i7)).toNat < out5.length)) (some (Ex.normal,(a0,b1,out5.set ((qI ((qI ((a0.length:Int) - (1:Int))) - i7)).toNat) (IntKind.u8.wrap (qI ((48:Int)+(qI ((qI ((qI (IntKind.u8.wrap (((a0.getD (qI ((qI ((a0.length:Int) - (1:Int))) - i7)).toNat 0).toNat:Int) - (48:Int)))) - borrow6))+10))))),1,qI (i7+1),())))))
 (Aa (decide (0<=qI ((qI ((a0.length:Int) - (1:Int))) - i7))&&decide (qI ((qI ((a0.length:Int) - (1:Int))) - i7) < out5.length)) (Aa (decide ((qI ((qI ((a0.length:Int) - (1:Int))) - i7)).toNat < out5.length)) (some (Ex.normal,(a0,b1,out5.set ((qI ((qI ((a0.length:Int) - (1:Int))) - i7)).toNat) (IntKind.u8.wrap (qI ((48:Int)+(qI ((qI (IntKind.u8.wrap (((a0.getD (qI ((qI ((a0.length:Int) - (1:Int))) - i7)).toNat 0).toNat:Int) - (48:Int)))) - borrow6))))),0,qI (i7+1),()))))))))
 (some (Ex.exit 0,(a0,b1,out5,borrow6,i7,())))
def Jo (a0:qBs) (b1:qBs):Option ((qBs×Unit)×Unit):=
 Aa (decide (0<=(a0.length:Int))&&decide ((a0.length:Int)<=(a0.length:Int))&&decide ((a0.length:Int)<=Av)) (
 (Am Fg (a0,b1,List.replicate (a0.length:Int).toNat (0:Int),0,0,())).bind fun y1=>
 cond (Ex.same y1.1 (Ex.exit 0))
 ((Dm (y1.2.2.2.1.map fun n=>UInt8.ofNat n.toNat)).bind fun r2=>
 some ((r2.1.1,()),()))
 (none))
def JJ (x:qBs×qBs×(List Int)×qBs×Int×Int×Unit):Option (Ex×(qBs×qBs×(List Int)×qBs×Int×Int×Unit)):=
 let a0:=x.1
 let b1:=x.2.1
 let q6:=x.2.2.1
 let r7:=x.2.2.2.1
 let i8:=x.2.2.2.2.1
 let d9:=x.2.2.2.2.2.1
 (Kx r7 b1).bind fun r1=>
 cond (decide (r1.1.1>=0))
 ((Jo r7 b1).bind fun r2=>
 some (Ex.normal,(a0,b1,q6,r2.1.1,i8,IntKind.u8.wrap (d9+1),())))
 (some (Ex.exit 2,(a0,b1,q6,r7,i8,d9,())))
def JY (x:qBs×qBs×(List Int)×qBs×Int×Unit):Option (Ex×(qBs×qBs×(List Int)×qBs×Int×Unit)):=
 let a0:=x.1
 let b1:=x.2.1
 let q6:=x.2.2.1
 let r7:=x.2.2.2.1
 let i8:=x.2.2.2.2.1
 cond (decide (i8 < (a0.length:Int)))
 (Aa (decide (0<=i8)&&decide (i8<=qI (i8+1))&&decide (qI (i8+1)<=a0.length)) (
 Aa (decide (r7.length+((a0.take (qI (i8+1)).toNat).drop i8.toNat).length<=A6)) (
 (Dm (r7++((a0.take (qI (i8+1)).toNat).drop i8.toNat))).bind fun r1=>
 (Am JJ (a0,b1,q6,r1.1.1,i8,48,())).bind fun y2=>
 cond (Ex.same y2.1 (Ex.exit 2))
 (Aa (decide (0<=y2.2.2.2.2.2.1)&&decide (y2.2.2.2.2.2.1 < y2.2.2.2.1.length)) (Aa (decide (y2.2.2.2.2.2.1.toNat < y2.2.2.2.1.length)) (some (Ex.normal,(y2.2.1,y2.2.2.1,y2.2.2.2.1.set y2.2.2.2.2.2.1.toNat y2.2.2.2.2.2.2.1,y2.2.2.2.2.1,qI (y2.2.2.2.2.2.1+1),())))))
 (none))))
 (some (Ex.exit 0,(a0,b1,q6,r7,i8,())))
def Ig (a0:qBs) (b1:qBs):Option ((qBs×qBs×Unit)×Unit):=
 Aa (decide (0<=(a0.length:Int))&&decide ((a0.length:Int)<=(a0.length:Int))&&decide ((a0.length:Int)<=Av)) (
 (Am JY (a0,b1,List.replicate (a0.length:Int).toNat (0:Int),([48]:qBs),0,())).bind fun y1=>
 cond (Ex.same y1.1 (Ex.exit 0))
 ((Dm (y1.2.2.2.1.map fun n=>UInt8.ofNat n.toNat)).bind fun r2=>
 some ((r2.1.1,y1.2.2.2.2.1,()),()))
 (none))
def Mr (x:qBs×qBs×Unit):Option (Ex×(qBs×qBs×Unit)):=
 let a0:=x.1
 let b1:=x.2.1
 cond (!(b1==([48]:qBs)))
 ((Ig a0 b1).bind fun r1=>
 some (Ex.normal,(b1,r1.1.2.1,())))
 (some (Ex.exit 0,(a0,b1,())))
def Ns (a0:qBs) (b1:qBs):Option ((qBs×Unit)×Unit):=
 (Am Mr (a0,b1,())).bind fun y1=>
 cond (Ex.same y1.1 (Ex.exit 0))
 (some ((y1.2.1,()),()))
 (none)
def DH (neg0:Bool) (num1:qBs) (den2:qBs):Option ((HK×Unit)×Unit):=
 (Ns num1 den2).bind fun r1=>
 (Ig num1 r1.1.1).bind fun r2=>
 (Ig den2 r1.1.1).bind fun r3=>
 cond (neg0)
 (some (((!(r2.1.1==([48]:qBs)),r2.1.1,r3.1.1),()),()))
 (some (((false,r2.1.1,r3.1.1),()),()))
def B5 (x0:HK):Option ((qBs×Unit)×Unit):=
 cond (x0.1)
 (Aa (decide (([45]:qBs).length+x0.2.1.length<=A6)) (
 cond (!(x0.2.2==([49]:qBs)))
 (Aa (decide (([47]:qBs).length+x0.2.2.length<=A6)) (Aa (decide ((([45]:qBs)++x0.2.1).length+(([47]:qBs)++x0.2.2).length<=A6)) (some (((([45]:qBs)++x0.2.1)++(([47]:qBs)++x0.2.2),()),()))))
 (some ((([45]:qBs)++x0.2.1,()),()))))
 (cond (!(x0.2.2==([49]:qBs)))
 (Aa (decide (([47]:qBs).length+x0.2.2.length<=A6)) (Aa (decide (x0.2.1.length+(([47]:qBs)++x0.2.2).length<=A6)) (some ((x0.2.1++(([47]:qBs)++x0.2.2),()),()))))
 (some ((x0.2.1,()),())))
def FD (x:qBs×HK×HK×qBs×Int×Unit):Option (Ex×(qBs×HK×HK×qBs×Int×Unit)):=
 let a0:=x.1
 let t2:=x.2.1
 let x4:=x.2.2.1
 let s5:=x.2.2.2.1
 let i6:=x.2.2.2.2.1
 cond (decide (i6 < (s5.length:Int)))
 (Aa (decide (0<=i6)&&decide (i6 < s5.length)) (
 cond (((s5.getD i6.toNat 0).toNat:Int)==47)
 (Aa (decide (0<=qI (i6+1))&&decide (qI (i6+1)<=s5.length)) (Aa (decide (0<=i6)&&decide (i6<=s5.length)) (some (Ex.exit 0,(a0,(t2.1,t2.2.1,t2.2.2),(x4.1,x4.2.1,s5.drop (qI (i6+1)).toNat),s5.take i6.toNat,i6,())))))
 (some (Ex.normal,(a0,(t2.1,t2.2.1,t2.2.2),(x4.1,x4.2.1,x4.2.2),s5,qI (i6+1),())))))
 (some (Ex.exit 0,(a0,(t2.1,t2.2.1,t2.2.2),(x4.1,x4.2.1,x4.2.2),s5,i6,())))
def CB (a0:qBs):Option ((HK×Bool×Unit)×Unit):=
 cond (!(a0==([]:qBs)))
 (Aa (decide (0<=(0:Int))&&decide ((0:Int) < a0.length)) (
 cond (((a0.getD (0:Int).toNat 0).toNat:Int)==45)
 (Aa (decide (0<=(1:Int))&&decide ((1:Int)<=a0.length)) (
 (Am FD (a0,(false,([]:qBs),([]:qBs)),(true,([]:qBs),([49]:qBs)),a0.drop (1:Int).toNat,0,())).bind fun y1=>
 cond (Ex.same y1.1 (Ex.exit 0))
 ((EV y1.2.2.2.2.1).bind fun r2=>
 cond (!r2.1.1)
 (some (((false,([]:qBs),([]:qBs)),false,()),()))
 ((EV y1.2.2.2.1.2.2).bind fun r3=>
 cond (!r3.1.1)
 (some (((false,([]:qBs),([]:qBs)),false,()),()))
 (cond (y1.2.2.2.1.2.2==([48]:qBs))
 (some (((false,([]:qBs),([]:qBs)),false,()),()))
 ((Dm y1.2.2.2.2.1).bind fun r4=>
 cond (!(r4.1.1==y1.2.2.2.2.1))
 (some (((false,([]:qBs),([]:qBs)),false,()),()))
 ((Dm y1.2.2.2.1.2.2).bind fun r5=>
 cond (!(r5.1.1==y1.2.2.2.1.2.2))
 (some (((false,([]:qBs),([]:qBs)),false,()),()))
 ((DH y1.2.2.2.1.1 y1.2.2.2.2.1 y1.2.2.2.1.2.2).bind fun r6=>
 (B5 (r6.1.1.1,r6.1.1.2.1,r6.1.1.2.2)).bind fun r7=>
 cond (!(r7.1.1==y1.2.1))
 (some (((false,([]:qBs),([]:qBs)),false,()),()))
 (some (((y1.2.2.2.1.1,y1.2.2.2.2.1,y1.2.2.2.1.2.2),true,()),()))))))))
 (none)))
 ((Am FD (a0,(false,([]:qBs),([]:qBs)),(false,([]:qBs),([49]:qBs)),a0,0,())).bind fun y8=>
 cond (Ex.same y8.1 (Ex.exit 0))
 ((EV y8.2.2.2.2.1).bind fun r9=>
 cond (!r9.1.1)
 (some (((false,([]:qBs),([]:qBs)),false,()),()))
 ((EV y8.2.2.2.1.2.2).bind fun r10=>
 cond (!r10.1.1)
 (some (((false,([]:qBs),([]:qBs)),false,()),()))
 (cond (y8.2.2.2.1.2.2==([48]:qBs))
 (some (((false,([]:qBs),([]:qBs)),false,()),()))
 ((Dm y8.2.2.2.2.1).bind fun r11=>
 cond (!(r11.1.1==y8.2.2.2.2.1))
 (some (((false,([]:qBs),([]:qBs)),false,()),()))
 ((Dm y8.2.2.2.1.2.2).bind fun r12=>
 cond (!(r12.1.1==y8.2.2.2.1.2.2))
 (some (((false,([]:qBs),([]:qBs)),false,()),()))
 ((DH y8.2.2.2.1.1 y8.2.2.2.2.1 y8.2.2.2.1.2.2).bind fun r13=>
 (B5 (r13.1.1.1,r13.1.1.2.1,r13.1.1.2.2)).bind fun r14=>
 cond (!(r14.1.1==y8.2.1))
 (some (((false,([]:qBs),([]:qBs)),false,()),()))
 (some (((y8.2.2.2.1.1,y8.2.2.2.2.1,y8.2.2.2.1.2.2),true,()),()))))))))
 (none))))
 ((Am FD (a0,(false,([]:qBs),([]:qBs)),(false,([]:qBs),([49]:qBs)),a0,0,())).bind fun y15=>
 cond (Ex.same y15.1 (Ex.exit 0))
 ((EV y15.2.2.2.2.1).bind fun r16=>
 cond (!r16.1.1)
 (some (((false,([]:qBs),([]:qBs)),false,()),()))
 ((EV y15.2.2.2.1.2.2).bind fun r17=>
 cond (!r17.1.1)
 (some (((false,([]:qBs),([]:qBs)),false,()),()))
 (cond (y15.2.2.2.1.2.2==([48]:qBs))
 (some (((false,([]:qBs),([]:qBs)),false,()),()))
 ((Dm y15.2.2.2.2.1).bind fun r18=>
 cond (!(r18.1.1==y15.2.2.2.2.1))
 (some (((false,([]:qBs),([]:qBs)),false,()),()))
 ((Dm y15.2.2.2.1.2.2).bind fun r19=>
 cond (!(r19.1.1==y15.2.2.2.1.2.2))
 (some (((false,([]:qBs),([]:qBs)),false,()),()))
 ((DH y15.2.2.2.1.1 y15.2.2.2.2.1 y15.2.2.2.1.2.2).bind fun r20=>
 (B5 (r20.1.1.1,r20.1.1.2.1,r20.1.1.2.2)).bind fun r21=>
 cond (!(r21.1.1==y15.2.1))
 (some (((false,([]:qBs),([]:qBs)),false,()),()))
 (some (((y15.2.2.2.1.1,y15.2.2.2.2.1,y15.2.2.2.1.2.2),true,()),()))))))))
 (none))
def B7 (a0:qBs):Option ((Bool×Unit)×Unit):=
 (CB a0).bind fun r1=>
 cond (r1.1.2.1)
 (some ((r1.1.1.2.2==([49]:qBs),()),()))
 (some ((false,()),()))
def D0 (a0:qBs):Option ((Bool×Unit)×Unit):=
 (CB a0).bind fun r1=>
 some ((r1.1.2.1,()),())
def IS (a0:qBs):Option ((qBs×Unit)×Unit):=
 (CB a0).bind fun r1=>
 cond (!r1.1.2.1)
 (some ((([]:qBs),()),()))
 (cond (!r1.1.1.1)
 ((B5 (!(r1.1.1.2.1==([48]:qBs)),r1.1.1.2.1,r1.1.1.2.2)).bind fun r2=>
 some ((r2.1.1,()),()))
 ((B5 (false,r1.1.1.2.1,r1.1.1.2.2)).bind fun r3=>
 some ((r3.1.1,()),())))
def Jk (x:qBs×qBs×(List Int)×Int×Int×Unit):Option (Ex×(qBs×qBs×(List Int)×Int×Int×Unit)):=
 let a0:=x.1
 let b1:=x.2.1
 let out5:=x.2.2.1
 let i6:=x.2.2.2.1
 let j7:=x.2.2.2.2.1
 cond (decide (j7 < (b1.length:Int)))
 (Aa (decide (0<=qI ((qI (i6+j7))+1))&&decide (qI ((qI (i6+j7))+1) < out5.length)) (Aa (decide ((qI ((qI (i6+j7))+1)).toNat < out5.length)) (Aa (decide (0<=i6)&&decide (i6 < a0.length)) (Aa (decide (0<=j7)&&decide (j7 < b1.length)) (Aa (decide (0<=qI ((qI (i6+j7))+1))&&decide (qI ((qI (i6+j7))+1) < out5.length)) (Aa (decide ((qI ((qI (i6+j7))+1)).toNat < out5.length)) (some (Ex.normal,(a0,b1,out5.set ((qI ((qI (i6+j7))+1)).toNat) (qI ((out5.getD ((qI ((qI (i6+j7))+1)).toNat) (0:Int))+(qI ((qI (IntKind.u8.wrap (((a0.getD i6.toNat 0).toNat:Int) - (48:Int)))) * (qI (IntKind.u8.wrap (((b1.getD j7.toNat 0).toNat:Int) - (48:Int)))))))),i6,qI (j7+1),())))))))))
 (some (Ex.exit 2,(a0,b1,out5,i6,j7,())))
def Kk (x:qBs×qBs×(List Int)×Int×Unit):Option (Ex×(qBs×qBs×(List Int)×Int×Unit)):=
 let a0:=x.1
 let b1:=x.2.1
 let out5:=x.2.2.1
 let i6:=x.2.2.2.1
 cond (decide (i6 < (a0.length:Int)))
 ((Am Jk (a0,b1,out5,i6,0,())).bind fun y1=>
 cond (Ex.same y1.1 (Ex.exit 2))
 (some (Ex.normal,(y1.2.1,y1.2.2.1,y1.2.2.2.1,qI (y1.2.2.2.2.1+1),())))
 (none))
 (some (Ex.exit 0,(a0,b1,out5,i6,())))
def Ke (x:(List Int)×(List Int)×Int×Int×Unit):Option (Ex×((List Int)×(List Int)×Int×Int×Unit)):=
 let out5:=x.1
 let s8:=x.2.1
 let carry9:=x.2.2.1
 let k10:=x.2.2.2.1
 cond (decide (k10>=0))
 (Aa (decide (0<=k10)&&decide (k10 < out5.length)) (Aa (decide (k10.toNat < out5.length)) (Aa ((10:Int) !=0) (Aa (decide (0<=k10)&&decide (k10 < s8.length)) (Aa (decide (k10.toNat < s8.length)) (Aa ((10:Int) !=0) (some (Ex.normal,(out5,s8.set k10.toNat (IntKind.u8.wrap (qI ((48:Int)+((qI ((out5.getD k10.toNat (0:Int))+carry9)).tmod 10)))),qI ((qI ((out5.getD k10.toNat (0:Int))+carry9)).tdiv 10),qI (k10 - (1:Int)),())))))))))
 (some (Ex.exit 4,(out5,s8,carry9,k10,())))
def E4 (a0:qBs) (b1:qBs):Option ((qBs×Unit)×Unit):=
 Aa (decide (0<=qI ((a0.length:Int)+(b1.length:Int)))&&decide (qI ((a0.length:Int)+(b1.length:Int))<=qI ((a0.length:Int)+(b1.length:Int)))&&decide (qI ((a0.length:Int)+(b1.length:Int))<=Av)) (
 (Am Kk (a0,b1,List.replicate (qI ((a0.length:Int)+(b1.length:Int))).toNat (0:Int),0,())).bind fun y1=>
 cond (Ex.same y1.1 (Ex.exit 0))
 (Aa (decide (0<=(y1.2.2.2.1.length:Int))&&decide ((y1.2.2.2.1.length:Int)<=(y1.2.2.2.1.length:Int))&&decide ((y1.2.2.2.1.length:Int)<=Av)) (
 (Am Ke (y1.2.2.2.1,List.replicate (y1.2.2.2.1.length:Int).toNat (0:Int),0,qI ((y1.2.2.2.1.length:Int) - (1:Int)),())).bind fun y2=>
 cond (Ex.same y2.1 (Ex.exit 4))
 ((Dm (y2.2.2.1.map fun n=>UInt8.ofNat n.toNat)).bind fun r3=>
 some ((r3.1.1,()),()))
 (none)))
 (none))
def E_ (x:qBs×qBs×Int×(List Int)×Int×Int×Unit):Option (Ex×(qBs×qBs×Int×(List Int)×Int×Int×Unit)):=
 let a0:=x.1
 let b1:=x.2.1
 let n5:=x.2.2.1
 let out6:=x.2.2.2.1
 let carry7:=x.2.2.2.2.1
 let i8:=x.2.2.2.2.2.1
 cond (decide (i8 < n5))
 (cond (decide (i8 < (a0.length:Int)))
 (Aa (decide (0<=qI ((qI ((a0.length:Int) - (1:Int))) - i8))&&decide (qI ((qI ((a0.length:Int) - (1:Int))) - i8) < a0.length)) (
 cond (decide (i8 < (b1.length:Int)))
 (Aa (decide (0<=qI ((qI ((b1.length:Int) - (1:Int))) - i8))&&decide (qI ((qI ((b1.length:Int) - (1:Int))) - i8) < b1.length)) (Aa ((10:Int) !=0) (Aa (decide (0<=qI ((qI (n5 - (1:Int))) - i8))&&decide (qI ((qI (n5 - (1:Int))) - i8) < out6.length)) (Aa (decide ((qI ((qI (n5 - (1:Int))) - i8)).toNat < out6.length)) (Aa ((10:Int) !=0) (some (Ex.normal,(a0,b1,n5,out6.set ((qI ((qI (n5 - (1:Int))) - i8)).toNat) (IntKind.u8.wrap (qI ((48:Int)+((qI ((qI (carry7+(qI (IntKind.u8.wrap (((a0.getD (qI ((qI ((a0.length:Int) - (1:Int))) - i8)).toNat 0).toNat:Int) - (48:Int))))))+(qI (IntKind.u8.wrap (((b1.getD (qI ((qI ((b1.length:Int) - (1:Int))) - i8)).toNat 0).toNat:Int) - (48:Int)))))).tmod 10)))),qI ((qI ((qI (carry7+(qI (IntKind.u8.wrap (((a0.getD (qI ((qI ((a0.length:Int) - (1:Int))) - i8)).toNat 0).toNat:Int) - (48:Int))))))+(qI (IntKind.u8.wrap (((b1.getD (qI ((qI ((b1.length:Int) - (1:Int))) - i8)).toNat 0).toNat:Int) - (48:Int)))))).tdiv 10),qI (i8+1),()))))))))
 (Aa ((10:Int) !=0) (Aa (decide (0<=qI ((qI (n5 - (1:Int))) - i8))&&decide (qI ((qI (n5 - (1:Int))) - i8) < out6.length)) (Aa (decide ((qI ((qI (n5 - (1:Int))) - i8)).toNat < out6.length)) (Aa ((10:Int) !=0) (some (Ex.normal,(a0,b1,n5,out6.set ((qI ((qI (n5 - (1:Int))) - i8)).toNat) (IntKind.u8.wrap (qI ((48:Int)+((qI (carry7+(qI (IntKind.u8.wrap (((a0.getD (qI ((qI ((a0.length:Int) - (1:Int))) - i8)).toNat 0).toNat:Int) - (48:Int)))))).tmod 10)))),qI ((qI (carry7+(qI (IntKind.u8.wrap (((a0.getD (qI ((qI ((a0.length:Int) - (1:Int))) - i8)).toNat 0).toNat:Int) - (48:Int)))))).tdiv 10),qI (i8+1),())))))))))
 (cond (decide (i8 < (b1.length:Int)))
 (Aa (decide (0<=qI ((qI ((b1.length:Int) - (1:Int))) - i8))&&decide (qI ((qI ((b1.length:Int) - (1:Int))) - i8) < b1.length)) (Aa ((10:Int) !=0) (Aa (decide (0<=qI ((qI (n5 - (1:Int))) - i8))&&decide (qI ((qI (n5 - (1:Int))) - i8) < out6.length)) (Aa (decide ((qI ((qI (n5 - (1:Int))) - i8)).toNat < out6.length)) (Aa ((10:Int) !=0) (some (Ex.normal,(a0,b1,n5,out6.set ((qI ((qI (n5 - (1:Int))) - i8)).toNat) (IntKind.u8.wrap (qI ((48:Int)+((qI (carry7+(qI (IntKind.u8.wrap (((b1.getD (qI ((qI ((b1.length:Int) - (1:Int))) - i8)).toNat 0).toNat:Int) - (48:Int)))))).tmod 10)))),qI ((qI (carry7+(qI (IntKind.u8.wrap (((b1.getD (qI ((qI ((b1.length:Int) - (1:Int))) - i8)).toNat 0).toNat:Int) - (48:Int)))))).tdiv 10),qI (i8+1),()))))))))
 (Aa ((10:Int) !=0) (Aa (decide (0<=qI ((qI (n5 - (1:Int))) - i8))&&decide (qI ((qI (n5 - (1:Int))) - i8) < out6.length)) (Aa (decide ((qI ((qI (n5 - (1:Int))) - i8)).toNat < out6.length)) (Aa ((10:Int) !=0) (some (Ex.normal,(a0,b1,n5,out6.set ((qI ((qI (n5 - (1:Int))) - i8)).toNat) (IntKind.u8.wrap (qI ((48:Int)+(carry7.tmod 10)))),qI (carry7.tdiv 10),qI (i8+1),())))))))))
 (some (Ex.exit 0,(a0,b1,n5,out6,carry7,i8,())))
def Kv (a0:qBs) (b1:qBs):Option ((qBs×Unit)×Unit):=
 Aa (decide (0<=qI ((BS (a0.length:Int) (b1.length:Int))+1))&&decide (qI ((BS (a0.length:Int) (b1.length:Int))+1)<=qI ((BS (a0.length:Int) (b1.length:Int))+1))&&decide (qI ((BS (a0.length:Int) (b1.length:Int))+1)<=Av)) (
 (Am E_ (a0,b1,qI ((BS (a0.length:Int) (b1.length:Int))+1),List.replicate (qI ((BS (a0.length:Int) (b1.length:Int))+1)).toNat (0:Int),0,0,())).bind fun y1=>
 cond (Ex.same y1.1 (Ex.exit 0))
 ((Dm (y1.2.2.2.2.1.map fun n=>UInt8.ofNat n.toNat)).bind fun r2=>
 some ((r2.1.1,()),()))
 (none))
def JQ (a0:qBs) (b1:qBs):Option ((qBs×Unit)×Unit):=
 (CB a0).bind fun r1=>
 (CB b1).bind fun r2=>
 cond (!r1.1.2.1)
 (some ((([]:qBs),()),()))
 (cond (!r2.1.2.1)
 (some ((([]:qBs),()),()))
 ((E4 r1.1.1.2.1 r2.1.1.2.2).bind fun r3=>
 (E4 r2.1.1.2.1 r1.1.1.2.2).bind fun r4=>
 (E4 r1.1.1.2.2 r2.1.1.2.2).bind fun r5=>
 cond (r1.1.1.1==r2.1.1.1)
 ((Kv r3.1.1 r4.1.1).bind fun r6=>
 (DH r1.1.1.1 r6.1.1 r5.1.1).bind fun r7=>
 (B5 (r7.1.1.1,r7.1.1.2.1,r7.1.1.2.2)).bind fun r8=>
 some ((r8.1.1,()),()))
 ((Kx r3.1.1 r4.1.1).bind fun r9=>
 cond (decide (r9.1.1>=0))
 ((Jo r3.1.1 r4.1.1).bind fun r10=>
 (DH r1.1.1.1 r10.1.1 r5.1.1).bind fun r11=>
 (B5 (r11.1.1.1,r11.1.1.2.1,r11.1.1.2.2)).bind fun r12=>
 some ((r12.1.1,()),()))
 ((Jo r4.1.1 r3.1.1).bind fun r13=>
 (DH r2.1.1.1 r13.1.1 r5.1.1).bind fun r14=>
 (B5 (r14.1.1.1,r14.1.1.2.1,r14.1.1.2.2)).bind fun r15=>
 some ((r15.1.1,()),())))))
def KI (a0:qBs) (b1:qBs):Option ((qBs×Unit)×Unit):=
 (IS b1).bind fun r1=>
 (JQ a0 r1.1.1).bind fun r2=>
 some ((r2.1.1,()),())
def GA (a0:qBs):Option ((Int×Unit)×Unit):=
 (CB a0).bind fun r1=>
 cond (!r1.1.2.1)
 (some ((0,()),()))
 (cond (r1.1.1.2.1==([48]:qBs))
 (some ((0,()),()))
 (cond (r1.1.1.1)
 (some ((-1,()),()))
 (some ((1,()),()))))
def DP (a0:qBs) (b1:qBs):Option ((Int×Unit)×Unit):=
 (D0 a0).bind fun r1=>
 cond (!r1.1.1)
 (some ((0,()),()))
 ((D0 b1).bind fun r2=>
 cond (!r2.1.1)
 (some ((0,()),()))
 ((KI a0 b1).bind fun r3=>
 (GA r3.1.1).bind fun r4=>
 some ((r4.1.1,()),())))
def Fe (x:Ae×Bool×Int×Unit):Option (Ex×(Ae×Bool×Int×Unit)):=
 let v1:=x.1
 let t2:=x.2.1
 let i3:=x.2.2.1
 cond (decide (i3 < (v1.2.2.2.1.length:Int)))
 (Aa (decide (0<=i3)&&decide (i3 < v1.2.2.2.1.length)) (
 (B7 (v1.2.2.2.1.getD i3.toNat ([]:qBs))).bind fun r1=>
 cond (!r1.1.1)
 (some (Ex.ret,(v1,false,i3,())))
 (Aa (decide (0<=i3)&&decide (i3 < v1.2.2.2.2.length)) (
 (B7 (v1.2.2.2.2.getD i3.toNat ([]:qBs))).bind fun r2=>
 cond (!r2.1.1)
 (some (Ex.ret,(v1,false,i3,())))
 (Aa (decide (0<=i3)&&decide (i3 < v1.2.2.2.2.length)) (
 cond ((v1.2.2.2.2.getD i3.toNat ([]:qBs))==v1.2.2.1)
 (some (Ex.ret,(v1,false,i3,())))
 (cond (decide (i3 > (0:Int)))
 (Aa (decide (0<=qI (i3 - (1:Int)))&&decide (qI (i3 - (1:Int)) < v1.2.2.2.1.length)) (
 Aa (decide (0<=i3)&&decide (i3 < v1.2.2.2.1.length)) (
 (DP (v1.2.2.2.1.getD (qI (i3 - (1:Int))).toNat ([]:qBs)) (v1.2.2.2.1.getD i3.toNat ([]:qBs))).bind fun r3=>
 cond (decide (r3.1.1>=0))
 (some (Ex.ret,(v1,false,i3,())))
 (some (Ex.normal,(v1,t2,qI (i3+1),()))))))
 (some (Ex.normal,(v1,t2,qI (i3+1),()))))))))))
 (some (Ex.exit 1,(v1,t2,i3,())))
def Fh (v0:Ae):Option ((Bool×Unit)×Unit):=
 cond (v0.1 !=(4:Int))
 (cond (decide ((v0.2.2.2.1.length:Int) > (0:Int)))
 (some ((false,()),()))
 (cond (decide ((v0.2.2.2.2.length:Int) > (0:Int)))
 (some ((false,()),()))
 (cond (v0.1 !=(1:Int))
 (cond (v0.2.1)
 (some ((false,()),()))
 (cond (v0.1==1)
 (some ((v0.2.2.1==([]:qBs),()),()))
 (cond (v0.1==2)
 ((B7 v0.2.2.1).bind fun r1=>
 some ((r1.1.1,()),()))
 (cond (v0.1==3)
 ((D0 v0.2.2.1).bind fun r2=>
 some ((r2.1.1,()),()))
 (cond (v0.1==4)
 ((B7 v0.2.2.1).bind fun r3=>
 cond (!r3.1.1)
 (some ((false,()),()))
 (cond ((v0.2.2.2.1.length:Int) !=(v0.2.2.2.2.length:Int))
 (some ((false,()),()))
 ((Am Fe (v0,false,0,())).bind fun y4=>
 cond (Ex.same y4.1 (Ex.exit 1))
 (some ((true,()),()))
 (cond (Ex.same y4.1 Ex.ret)
 (some ((y4.2.2.1,()),()))
 (none)))))
 (some ((false,()),())))))))
 (cond (v0.1==1)
 (some ((v0.2.2.1==([]:qBs),()),()))
 (cond (v0.1==2)
 ((B7 v0.2.2.1).bind fun r5=>
 some ((r5.1.1,()),()))
 (cond (v0.1==3)
 ((D0 v0.2.2.1).bind fun r6=>
 some ((r6.1.1,()),()))
 (cond (v0.1==4)
 ((B7 v0.2.2.1).bind fun r7=>
 cond (!r7.1.1)
 (some ((false,()),()))
 (cond ((v0.2.2.2.1.length:Int) !=(v0.2.2.2.2.length:Int))
 (some ((false,()),()))
 ((Am Fe (v0,false,0,())).bind fun y8=>
 cond (Ex.same y8.1 (Ex.exit 1))
 (some ((true,()),()))
 (cond (Ex.same y8.1 Ex.ret)
 (some ((y8.2.2.1,()),()))
 (none)))))
 (some ((false,()),())))))))))
 (cond (v0.1 !=(1:Int))
 (cond (v0.2.1)
 (some ((false,()),()))
 (cond (v0.1==1)
 (some ((v0.2.2.1==([]:qBs),()),()))
 (cond (v0.1==2)
 ((B7 v0.2.2.1).bind fun r9=>
 some ((r9.1.1,()),()))
 (cond (v0.1==3)
 ((D0 v0.2.2.1).bind fun r10=>
 some ((r10.1.1,()),()))
 (cond (v0.1==4)
 ((B7 v0.2.2.1).bind fun r11=>
 cond (!r11.1.1)
 (some ((false,()),()))
 (cond ((v0.2.2.2.1.length:Int) !=(v0.2.2.2.2.length:Int))
 (some ((false,()),()))
 ((Am Fe (v0,false,0,())).bind fun y12=>
 cond (Ex.same y12.1 (Ex.exit 1))
 (some ((true,()),()))
 (cond (Ex.same y12.1 Ex.ret)
 (some ((y12.2.2.1,()),()))
 (none)))))
 (some ((false,()),())))))))
 (cond (v0.1==1)
 (some ((v0.2.2.1==([]:qBs),()),()))
 (cond (v0.1==2)
 ((B7 v0.2.2.1).bind fun r13=>
 some ((r13.1.1,()),()))
 (cond (v0.1==3)
 ((D0 v0.2.2.1).bind fun r14=>
 some ((r14.1.1,()),()))
 (cond (v0.1==4)
 ((B7 v0.2.2.1).bind fun r15=>
 cond (!r15.1.1)
 (some ((false,()),()))
 (cond ((v0.2.2.2.1.length:Int) !=(v0.2.2.2.2.length:Int))
 (some ((false,()),()))
 ((Am Fe (v0,false,0,())).bind fun y16=>
 cond (Ex.same y16.1 (Ex.exit 1))
 (some ((true,()),()))
 (cond (Ex.same y16.1 Ex.ret)
 (some ((y16.2.2.1,()),()))
 (none)))))
 (some ((false,()),())))))))
def Cy (x:qBs×qBs×Ae×Ae×(Int×Bool×qBs×(List qBs)×List qBs)×Bool×Int×Unit):Option (Ex×(qBs×qBs×Ae×Ae×(Int×Bool×qBs×(List qBs)×List qBs)×Bool×Int×Unit)):=
 let index1:=x.1
 let num2:=x.2.1
 let a3:=x.2.2.1
 let t6:=x.2.2.2.1
 let out8:=x.2.2.2.2.1
 let put9:=x.2.2.2.2.2.1
 let i10:=x.2.2.2.2.2.2.1
 cond (decide (i10<=(a3.2.2.2.1.length:Int)))
 (cond (!put9)
 (cond (i10==(a3.2.2.2.1.length:Int))
 (cond (!(num2==a3.2.2.1))
 (Aa (decide (out8.2.2.2.1.length+([index1]:List qBs).length<=Av)) (
 Aa (decide (out8.2.2.2.2.length+([num2]:List qBs).length<=Av)) (
 cond (decide (i10 < (a3.2.2.2.1.length:Int)))
 (Aa (decide (0<=i10)&&decide (i10 < a3.2.2.2.1.length)) (
 cond (!((a3.2.2.2.1.getD i10.toNat ([]:qBs))==index1))
 (Aa (decide (0<=i10)&&decide (i10 < a3.2.2.2.1.length)) (Aa (decide ((out8.2.2.2.1++([index1]:List qBs)).length+([a3.2.2.2.1.getD i10.toNat ([]:qBs)]:List qBs).length<=Av)) (Aa (decide (0<=i10)&&decide (i10 < a3.2.2.2.2.length)) (Aa (decide ((out8.2.2.2.2++([num2]:List qBs)).length+([a3.2.2.2.2.getD i10.toNat ([]:qBs)]:List qBs).length<=Av)) (some (Ex.normal,(index1,num2,a3,t6,(out8.1,out8.2.1,out8.2.2.1,(out8.2.2.2.1++([index1]:List qBs))++([a3.2.2.2.1.getD i10.toNat ([]:qBs)]:List qBs),(out8.2.2.2.2++([num2]:List qBs))++([a3.2.2.2.2.getD i10.toNat ([]:qBs)]:List qBs)),true,qI (i10+1),())))))))
 (some (Ex.normal,(index1,num2,a3,t6,(out8.1,out8.2.1,out8.2.2.1,out8.2.2.2.1++([index1]:List qBs),out8.2.2.2.2++([num2]:List qBs)),true,qI (i10+1),())))))
 (some (Ex.normal,(index1,num2,a3,t6,(out8.1,out8.2.1,out8.2.2.1,out8.2.2.2.1++([index1]:List qBs),out8.2.2.2.2++([num2]:List qBs)),true,qI (i10+1),()))))))
 (cond (decide (i10 < (a3.2.2.2.1.length:Int)))
 (Aa (decide (0<=i10)&&decide (i10 < a3.2.2.2.1.length)) (
 cond (!((a3.2.2.2.1.getD i10.toNat ([]:qBs))==index1))
 (Aa (decide (0<=i10)&&decide (i10 < a3.2.2.2.1.length)) (Aa (decide (out8.2.2.2.1.length+([a3.2.2.2.1.getD i10.toNat ([]:qBs)]:List qBs).length<=Av)) (Aa (decide (0<=i10)&&decide (i10 < a3.2.2.2.2.length)) (Aa (decide (out8.2.2.2.2.length+([a3.2.2.2.2.getD i10.toNat ([]:qBs)]:List qBs).length<=Av)) (some (Ex.normal,(index1,num2,a3,t6,(out8.1,out8.2.1,out8.2.2.1,out8.2.2.2.1++([a3.2.2.2.1.getD i10.toNat ([]:qBs)]:List qBs),out8.2.2.2.2++([a3.2.2.2.2.getD i10.toNat ([]:qBs)]:List qBs)),true,qI (i10+1),())))))))
 (some (Ex.normal,(index1,num2,a3,t6,out8,true,qI (i10+1),())))))
 (some (Ex.normal,(index1,num2,a3,t6,out8,true,qI (i10+1),())))))
 (Aa (decide (0<=i10)&&decide (i10 < a3.2.2.2.1.length)) (
 (DP (a3.2.2.2.1.getD i10.toNat ([]:qBs)) index1).bind fun r1=>
 cond (decide (r1.1.1>=0))
 (cond (!(num2==a3.2.2.1))
 (Aa (decide (out8.2.2.2.1.length+([index1]:List qBs).length<=Av)) (
 Aa (decide (out8.2.2.2.2.length+([num2]:List qBs).length<=Av)) (
 cond (decide (i10 < (a3.2.2.2.1.length:Int)))
 (Aa (decide (0<=i10)&&decide (i10 < a3.2.2.2.1.length)) (
 cond (!((a3.2.2.2.1.getD i10.toNat ([]:qBs))==index1))
 (Aa (decide (0<=i10)&&decide (i10 < a3.2.2.2.1.length)) (Aa (decide ((out8.2.2.2.1++([index1]:List qBs)).length+([a3.2.2.2.1.getD i10.toNat ([]:qBs)]:List qBs).length<=Av)) (Aa (decide (0<=i10)&&decide (i10 < a3.2.2.2.2.length)) (Aa (decide ((out8.2.2.2.2++([num2]:List qBs)).length+([a3.2.2.2.2.getD i10.toNat ([]:qBs)]:List qBs).length<=Av)) (some (Ex.normal,(index1,num2,a3,t6,(out8.1,out8.2.1,out8.2.2.1,(out8.2.2.2.1++([index1]:List qBs))++([a3.2.2.2.1.getD i10.toNat ([]:qBs)]:List qBs),(out8.2.2.2.2++([num2]:List qBs))++([a3.2.2.2.2.getD i10.toNat ([]:qBs)]:List qBs)),true,qI (i10+1),())))))))
 (some (Ex.normal,(index1,num2,a3,t6,(out8.1,out8.2.1,out8.2.2.1,out8.2.2.2.1++([index1]:List qBs),out8.2.2.2.2++([num2]:List qBs)),true,qI (i10+1),())))))
 (some (Ex.normal,(index1,num2,a3,t6,(out8.1,out8.2.1,out8.2.2.1,out8.2.2.2.1++([index1]:List qBs),out8.2.2.2.2++([num2]:List qBs)),true,qI (i10+1),()))))))
 (cond (decide (i10 < (a3.2.2.2.1.length:Int)))
 (Aa (decide (0<=i10)&&decide (i10 < a3.2.2.2.1.length)) (
 cond (!((a3.2.2.2.1.getD i10.toNat ([]:qBs))==index1))
 (Aa (decide (0<=i10)&&decide (i10 < a3.2.2.2.1.length)) (Aa (decide (out8.2.2.2.1.length+([a3.2.2.2.1.getD i10.toNat ([]:qBs)]:List qBs).length<=Av)) (Aa (decide (0<=i10)&&decide (i10 < a3.2.2.2.2.length)) (Aa (decide (out8.2.2.2.2.length+([a3.2.2.2.2.getD i10.toNat ([]:qBs)]:List qBs).length<=Av)) (some (Ex.normal,(index1,num2,a3,t6,(out8.1,out8.2.1,out8.2.2.1,out8.2.2.2.1++([a3.2.2.2.1.getD i10.toNat ([]:qBs)]:List qBs),out8.2.2.2.2++([a3.2.2.2.2.getD i10.toNat ([]:qBs)]:List qBs)),true,qI (i10+1),())))))))
 (some (Ex.normal,(index1,num2,a3,t6,out8,true,qI (i10+1),())))))
 (some (Ex.normal,(index1,num2,a3,t6,out8,true,qI (i10+1),())))))
 (cond (decide (i10 < (a3.2.2.2.1.length:Int)))
 (Aa (decide (0<=i10)&&decide (i10 < a3.2.2.2.1.length)) (
 cond (!((a3.2.2.2.1.getD i10.toNat ([]:qBs))==index1))
 (Aa (decide (0<=i10)&&decide (i10 < a3.2.2.2.1.length)) (Aa (decide (out8.2.2.2.1.length+([a3.2.2.2.1.getD i10.toNat ([]:qBs)]:List qBs).length<=Av)) (Aa (decide (0<=i10)&&decide (i10 < a3.2.2.2.2.length)) (Aa (decide (out8.2.2.2.2.length+([a3.2.2.2.2.getD i10.toNat ([]:qBs)]:List qBs).length<=Av)) (some (Ex.normal,(index1,num2,a3,t6,(out8.1,out8.2.1,out8.2.2.1,out8.2.2.2.1++([a3.2.2.2.1.getD i10.toNat ([]:qBs)]:List qBs),out8.2.2.2.2++([a3.2.2.2.2.getD i10.toNat ([]:qBs)]:List qBs)),put9,qI (i10+1),())))))))
 (some (Ex.normal,(index1,num2,a3,t6,out8,put9,qI (i10+1),())))))
 (some (Ex.normal,(index1,num2,a3,t6,out8,put9,qI (i10+1),())))))))
 (cond (decide (i10 < (a3.2.2.2.1.length:Int)))
 (Aa (decide (0<=i10)&&decide (i10 < a3.2.2.2.1.length)) (
 cond (!((a3.2.2.2.1.getD i10.toNat ([]:qBs))==index1))
 (Aa (decide (0<=i10)&&decide (i10 < a3.2.2.2.1.length)) (Aa (decide (out8.2.2.2.1.length+([a3.2.2.2.1.getD i10.toNat ([]:qBs)]:List qBs).length<=Av)) (Aa (decide (0<=i10)&&decide (i10 < a3.2.2.2.2.length)) (Aa (decide (out8.2.2.2.2.length+([a3.2.2.2.2.getD i10.toNat ([]:qBs)]:List qBs).length<=Av)) (some (Ex.normal,(index1,num2,a3,t6,(out8.1,out8.2.1,out8.2.2.1,out8.2.2.2.1++([a3.2.2.2.1.getD i10.toNat ([]:qBs)]:List qBs),out8.2.2.2.2++([a3.2.2.2.2.getD i10.toNat ([]:qBs)]:List qBs)),put9,qI (i10+1),())))))))
 (some (Ex.normal,(index1,num2,a3,t6,out8,put9,qI (i10+1),())))))
 (some (Ex.normal,(index1,num2,a3,t6,out8,put9,qI (i10+1),())))))
 (some (Ex.exit 0,(index1,num2,a3,t6,out8,put9,i10,())))
def Jw (a0:Ae) (index1:qBs) (num2:qBs):Option ((Ae×Int×Unit)×Unit):=
 cond (a0.1 !=(4:Int))
 (some ((((0:Int),false,([]:qBs),([]:List qBs),([]:List qBs)),1,()),()))
 ((Fh a0).bind fun r1=>
 cond (!r1.1.1)
 (some ((((0:Int),false,([]:qBs),([]:List qBs),([]:List qBs)),1,()),()))
 ((B7 index1).bind fun r2=>
 cond (!r2.1.1)
 (some ((((0:Int),false,([]:qBs),([]:List qBs),([]:List qBs)),1,()),()))
 ((B7 num2).bind fun r3=>
 cond (!r3.1.1)
 (some ((((0:Int),false,([]:qBs),([]:List qBs),([]:List qBs)),1,()),()))
 ((Am Cy (index1,num2,a0,((0:Int),false,([]:qBs),([]:List qBs),([]:List qBs)),(a0.1,false,a0.2.2.1,([]:List qBs),([]:List qBs)),false,0,())).bind fun y4=>
 cond (Ex.same y4.1 (Ex.exit 0))
 (some ((y4.2.2.2.2.2.1,0,()),()))
 (none)))))
def CS (c0:Af) (sort1:Int):Option ((Ae×Unit)×(Af×Unit)):=
 cond (sort1==1)
 ((AW c0 2).bind fun r1=>
 some (((sort1,r1.1.1==1,([]:qBs),([]:List qBs),([]:List qBs)),()),r1.2.1,()))
 (cond (sort1==4)
 ((AW c0 3).bind fun r2=>
 (DG r2.1.1).bind fun r3=>
 (AW r2.2.1 3).bind fun r4=>
 (DG r4.1.1).bind fun r5=>
 (AW r4.2.1 3).bind fun r6=>
 (DG r6.1.1).bind fun r7=>
 (Jw (sort1,false,r3.1.1,([]:List qBs),([]:List qBs)) r5.1.1 r7.1.1).bind fun r8=>
 some ((r8.1.1,()),r6.2.1,()))
 ((AW c0 6).bind fun r9=>
 (DG (qI (r9.1.1 - (2:Int)))).bind fun r10=>
 some (((sort1,false,r10.1.1,([]:List qBs),([]:List qBs)),()),r9.2.1,())))
def OF (b0:Bool):Option (((List Ac)×Unit)×Unit):=
 cond (b0)
 (some ((([(1,(0:Int),([]:qBs),([]:qBs),(0:Int))]:List Ac),()),()))
 (some ((([(2,(0:Int),([]:qBs),([]:qBs),(0:Int))]:List Ac),()),()))
def CD (sort0:Int) (num1:qBs):Option (((List Ac)×Unit)×Unit):=
 some ((([(3,sort0,([]:qBs),num1,(0:Int))]:List Ac),()),())
def KB (x:(List (List Ac))×(List Ac)×Int×Unit):Option (Ex×((List (List Ac))×(List Ac)×Int×Unit)):=
 let kids1:=x.1
 let t5:=x.2.1
 let i6:=x.2.2.1
 cond (decide (i6 < (kids1.length:Int)))
 (Aa (decide (0<=i6)&&decide (i6 < kids1.length)) (Aa (decide (t5.length+(kids1.getD i6.toNat ([]:List Ac)).length<=Av)) (some (Ex.normal,(kids1,t5++(kids1.getD i6.toNat ([]:List Ac)),qI (i6+1),())))))
 (some (Ex.exit 0,(kids1,t5,i6,())))
def EG (n0:Ac) (kids1:List (List Ac)):Option (((List Ac)×Unit)×Unit):=
 (Am KB (kids1,([(n0.1,n0.2.1,n0.2.2.1,n0.2.2.2.1,(kids1.length:Int))]:List Ac),0,())).bind fun y1=>
 cond (Ex.same y1.1 (Ex.exit 0))
 (some ((y1.2.2.1,()),()))
 (none)
def Rh:Option (((List qBs)×Unit)×Unit):=
 some ((([([97,110,100]:qBs),([111,114]:qBs),([110,111,116]:qBs),([105,116,101]:qBs),([116,114,117,101]:qBs),([102,97,108,115,101]:qBs),([108,101,116]:qBs),([102,111,114,97,108,108]:qBs),([101,120,105,115,116,115]:qBs),([100,105,115,116,105,110,99,116]:qBs),([100,105,118]:qBs),([109,111,100]:qBs),([115,101,108,101,99,116]:qBs),([115,116,111,114,101]:qBs),([99,111,110,115,116]:qBs),([66,111,111,108]:qBs),([73,110,116]:qBs),([82,101,97,108]:qBs),([65,114,114,97,121]:qBs)]:List qBs),()),())
def Lp (x:(List qBs)×qBs×Bool×Int×Unit):Option (Ex×((List qBs)×qBs×Bool×Int×Unit)):=
 let l0:=x.1
 let s1:=x.2.1
 let t4:=x.2.2.1
 let i5:=x.2.2.2.1
 cond (decide (i5 < (l0.length:Int)))
 (Aa (decide (0<=i5)&&decide (i5 < l0.length)) (
 cond ((l0.getD i5.toNat ([]:qBs))==s1)
 (some (Ex.ret,(l0,s1,true,i5,())))
 (some (Ex.normal,(l0,s1,t4,qI (i5+1),())))))
 (some (Ex.exit 0,(l0,s1,t4,i5,())))
def My (l0:List qBs) (s1:qBs):Option ((Bool×Unit)×Unit):=
 (Am Lp (l0,s1,false,0,())).bind fun y1=>
 cond (Ex.same y1.1 (Ex.exit 0))
 (some ((false,()),()))
 (cond (Ex.same y1.1 Ex.ret)
 (some ((y1.2.2.2.1,()),()))
 (none))
def NZ (c0:Int):Option ((Bool×Unit)×Unit):=
 cond (decide (c0>=97))
 (cond (decide (c0<=122))
 (some ((true,()),()))
 (cond (decide (c0>=65))
 (some ((decide (c0<=90),()),()))
 (some ((false,()),()))))
 (cond (decide (c0>=65))
 (some ((decide (c0<=90),()),()))
 (some ((false,()),())))
def Mg (x:qBs×Bool×Int×Unit):Option (Ex×(qBs×Bool×Int×Unit)):=
 let s0:=x.1
 let t2:=x.2.1
 let i3:=x.2.2.1
 cond (decide (i3 < (s0.length:Int)))
 (Aa (decide (0<=i3)&&decide (i3 < s0.length)) (
 (NZ ((s0.getD i3.toNat 0).toNat:Int)).bind fun r1=>
 cond (r1.1.1)
 (some (Ex.normal,(s0,t2,qI (i3+1),())))
 (cond (((s0.getD i3.toNat 0).toNat:Int)==95)
 (some (Ex.normal,(s0,t2,qI (i3+1),())))
 (cond (((s0.getD i3.toNat 0).toNat:Int)==36)
 (some (Ex.normal,(s0,t2,qI (i3+1),())))
 (cond (!(((s0.getD i3.toNat 0).toNat:Int)==33))
 (cond (i3==0)
 (some (Ex.ret,(s0,false,i3,())))
 (cond (decide (((s0.getD i3.toNat 0).toNat:Int) < (48:Int)))
 (cond (((s0.getD i3.toNat 0).toNat:Int) !=(46:Int))
 (cond (((s0.getD i3.toNat 0).toNat:Int) !=(64:Int))
 (some (Ex.ret,(s0,false,i3,())))
 (some (Ex.normal,(s0,t2,qI (i3+1),()))))
 (some (Ex.normal,(s0,t2,qI (i3+1),()))))
 (cond (decide (((s0.getD i3.toNat 0).toNat:Int) > (57:Int)))
 (cond (((s0.getD i3.toNat 0).toNat:Int) !=(46:Int))
 (cond (((s0.getD i3.toNat 0).toNat:Int) !=(64:Int))
 (some (Ex.ret,(s0,false,i3,())))
 (some (Ex.normal,(s0,t2,qI (i3+1),()))))
 (some (Ex.normal,(s0,t2,qI (i3+1),()))))
 (some (Ex.normal,(s0,t2,qI (i3+1),()))))))
 (some (Ex.normal,(s0,t2,qI (i3+1),()))))))))
 (some (Ex.exit 0,(s0,t2,i3,())))
def LB (s0:qBs):Option ((Bool×Unit)×Unit):=
 cond (s0==([]:qBs))
 (some ((false,()),()))
 (cond (decide ((s0.length:Int) > (40:Int)))
 (some ((false,()),()))
 (Rh.bind fun r1=>
 (My r1.1.1 s0).bind fun r2=>
 cond (r2.1.1)
 (some ((false,()),()))
 ((Am Mg (s0,false,0,())).bind fun y3=>
 cond (Ex.same y3.1 (Ex.exit 0))
 (some ((true,()),()))
 (cond (Ex.same y3.1 Ex.ret)
 (some ((y3.2.2.1,()),()))
 (none)))))
def NX (s0:Int):Option ((Bool×Unit)×Unit):=
 cond (decide (s0>=1))
 (some ((decide (s0<=4),()),()))
 (some ((false,()),()))
def OW (x0:Ac):Option ((Bool×Unit)×Unit):=
 cond (x0.1==3)
 (cond (x0.2.2.1==([]:qBs))
 (cond (x0.2.1==2)
 ((B7 x0.2.2.2.1).bind fun r1=>
 cond (r1.1.1)
 (some ((true,()),()))
 (cond (x0.2.1==3)
 ((D0 x0.2.2.2.1).bind fun r2=>
 some ((r2.1.1,()),()))
 (some ((false,()),()))))
 (cond (x0.2.1==3)
 ((D0 x0.2.2.2.1).bind fun r3=>
 some ((r3.1.1,()),()))
 (some ((false,()),()))))
 (some ((false,()),())))
 (cond (x0.1==4)
 (cond (x0.2.2.2.1==([]:qBs))
 ((LB x0.2.2.1).bind fun r4=>
 cond (r4.1.1)
 ((NX x0.2.1).bind fun r5=>
 some ((r5.1.1,()),()))
 (some ((false,()),())))
 (some ((false,()),())))
 (cond (x0.1==5)
 (cond (x0.2.2.2.1==([]:qBs))
 ((LB x0.2.2.1).bind fun r6=>
 cond (r6.1.1)
 ((NX x0.2.1).bind fun r7=>
 some ((r7.1.1,()),()))
 (some ((false,()),())))
 (some ((false,()),())))
 (cond (x0.1==16)
 (cond (x0.2.1==0)
 (cond (x0.2.2.1==([]:qBs))
 ((B7 x0.2.2.2.1).bind fun r8=>
 cond (r8.1.1)
 ((GA x0.2.2.2.1).bind fun r9=>
 some ((decide (r9.1.1 > (0:Int)),()),()))
 (some ((false,()),())))
 (some ((false,()),())))
 (some ((false,()),())))
 (cond (x0.1==17)
 (cond (x0.2.1==0)
 (cond (x0.2.2.1==([]:qBs))
 ((B7 x0.2.2.2.1).bind fun r10=>
 cond (r10.1.1)
 ((GA x0.2.2.2.1).bind fun r11=>
 some ((decide (r11.1.1 > (0:Int)),()),()))
 (some ((false,()),())))
 (some ((false,()),())))
 (some ((false,()),())))
 (cond (decide (x0.1>=1))
 (cond (decide (x0.1<=20))
 (cond (x0.2.1==0)
 (cond (x0.2.2.1==([]:qBs))
 (some ((x0.2.2.2.1==([]:qBs),()),()))
 (some ((false,()),())))
 (some ((false,()),())))
 (some ((false,()),())))
 (some ((false,()),())))))))
def J8 (op0:Int) (n1:Int):Option ((Bool×Unit)×Unit):=
 cond (op0==1)
 (some ((n1==0,()),()))
 (cond (op0==2)
 (some ((n1==0,()),()))
 (cond (op0==3)
 (some ((n1==0,()),()))
 (cond (op0==4)
 (some ((n1==0,()),()))
 (cond (op0==5)
 (cond (decide (n1>=1))
 (some ((decide (n1<=40),()),()))
 (some ((false,()),())))
 (cond (op0==6)
 (some ((n1==1,()),()))
 (cond (op0==16)
 (some ((n1==1,()),()))
 (cond (op0==17)
 (some ((n1==1,()),()))
 (cond (op0==20)
 (some ((n1==1,()),()))
 (cond (op0==7)
 (some ((decide (n1>=0),()),()))
 (cond (op0==8)
 (some ((decide (n1>=0),()),()))
 (cond (op0==10)
 (some ((n1==3,()),()))
 (cond (op0==19)
 (some ((n1==3,()),()))
 (cond (op0==14)
 (some ((decide (n1>=1),()),()))
 (some ((n1==2,()),())))))))))))))))
def Md (x:(List Int)×Int×Int×Int×Int×Unit):Option (Ex×((List Int)×Int×Int×Int×Int×Unit)):=
 let s0:=x.1
 let sort1:=x.2.1
 let out2:=x.2.2.1
 let t6:=x.2.2.2.1
 let i7:=x.2.2.2.2.1
 cond (decide (i7 < (s0.length:Int)))
 (Aa (decide (0<=i7)&&decide (i7 < s0.length)) (
 cond ((s0.getD i7.toNat (0:Int)) !=sort1)
 (some (Ex.ret,(s0,sort1,out2,0,i7,())))
 (some (Ex.normal,(s0,sort1,out2,t6,qI (i7+1),())))))
 (some (Ex.exit 0,(s0,sort1,out2,t6,i7,())))
def Dy (s0:List Int) (sort1:Int) (out2:Int):Option ((Int×Unit)×Unit):=
 (Am Md (s0,sort1,out2,0,0,())).bind fun y1=>
 cond (Ex.same y1.1 (Ex.exit 0))
 (some ((y1.2.2.2.1,()),()))
 (cond (Ex.same y1.1 Ex.ret)
 (some ((y1.2.2.2.2.1,()),()))
 (none))
def Mk (s0:Int):Option ((Bool×Unit)×Unit):=
 cond (s0==2)
 (some ((true,()),()))
 (some ((s0==3,()),()))
def Mm (x0:Ac) (first1:Int) (s2:List Int):Option ((Int×Unit)×Unit):=
 cond (x0.1==1)
 (some ((1,()),()))
 (cond (x0.1==2)
 (some ((1,()),()))
 (cond (x0.1==3)
 (some ((x0.2.1,()),()))
 (cond (x0.1==4)
 (some ((x0.2.1,()),()))
 (cond (x0.1==5)
 (some ((x0.2.1,()),()))
 (cond (x0.1==6)
 ((Dy s2 1 1).bind fun r1=>
 some ((r1.1.1,()),()))
 (cond (x0.1==7)
 ((Dy s2 1 1).bind fun r2=>
 some ((r2.1.1,()),()))
 (cond (x0.1==8)
 ((Dy s2 1 1).bind fun r3=>
 some ((r3.1.1,()),()))
 (cond (x0.1==9)
 ((Dy s2 1 1).bind fun r4=>
 some ((r4.1.1,()),()))
 (cond (x0.1==10)
 (Aa (decide (0<=(0:Int))&&decide ((0:Int) < s2.length)) (
 cond ((s2.getD (0:Int).toNat (0:Int))==1)
 (Aa (decide (0<=(1:Int))&&decide ((1:Int) < s2.length)) (
 Aa (decide (0<=(2:Int))&&decide ((2:Int) < s2.length)) (
 cond ((s2.getD (1:Int).toNat (0:Int))==(s2.getD (2:Int).toNat (0:Int)))
 (Aa (decide (0<=(1:Int))&&decide ((1:Int) < s2.length)) (some ((s2.getD (1:Int).toNat (0:Int),()),())))
 (some ((0,()),())))))
 (some ((0,()),()))))
 (cond (x0.1==11)
 (Aa (decide (0<=(0:Int))&&decide ((0:Int) < s2.length)) (
 (Dy s2 (s2.getD (0:Int).toNat (0:Int)) 1).bind fun r5=>
 some ((r5.1.1,()),())))
 (cond (x0.1==12)
 (Aa (decide (0<=(0:Int))&&decide ((0:Int) < s2.length)) (
 (Mk (s2.getD (0:Int).toNat (0:Int))).bind fun r6=>
 cond (r6.1.1)
 (Aa (decide (0<=(0:Int))&&decide ((0:Int) < s2.length)) (
 (Dy s2 (s2.getD (0:Int).toNat (0:Int)) 1).bind fun r7=>
 some ((r7.1.1,()),())))
 (some ((0,()),()))))
 (cond (x0.1==13)
 (Aa (decide (0<=(0:Int))&&decide ((0:Int) < s2.length)) (
 (Mk (s2.getD (0:Int).toNat (0:Int))).bind fun r8=>
 cond (r8.1.1)
 (Aa (decide (0<=(0:Int))&&decide ((0:Int) < s2.length)) (
 (Dy s2 (s2.getD (0:Int).toNat (0:Int)) 1).bind fun r9=>
 some ((r9.1.1,()),())))
 (some ((0,()),()))))
 (cond (x0.1==14)
 (Aa (decide (0<=(0:Int))&&decide ((0:Int) < s2.length)) (
 (Mk (s2.getD (0:Int).toNat (0:Int))).bind fun r10=>
 cond (r10.1.1)
 (Aa (decide (0<=(0:Int))&&decide ((0:Int) < s2.length)) (
 Aa (decide (0<=(0:Int))&&decide ((0:Int) < s2.length)) (
 (Dy s2 (s2.getD (0:Int).toNat (0:Int)) (s2.getD (0:Int).toNat (0:Int))).bind fun r11=>
 some ((r11.1.1,()),()))))
 (some ((0,()),()))))
 (cond (x0.1==15)
 (cond (first1==3)
 (Aa (decide (0<=(0:Int))&&decide ((0:Int) < s2.length)) (
 Aa (decide (0<=(0:Int))&&decide ((0:Int) < s2.length)) (
 (Dy s2 (s2.getD (0:Int).toNat (0:Int)) (s2.getD (0:Int).toNat (0:Int))).bind fun r12=>
 some ((r12.1.1,()),()))))
 (some ((0,()),())))
 (cond (x0.1==16)
 ((Dy s2 2 2).bind fun r13=>
 some ((r13.1.1,()),()))
 (cond (x0.1==17)
 ((Dy s2 2 2).bind fun r14=>
 some ((r14.1.1,()),()))
 (cond (x0.1==20)
 ((Dy s2 2 4).bind fun r15=>
 some ((r15.1.1,()),()))
 (cond (x0.1==18)
 (Aa (decide (0<=(0:Int))&&decide ((0:Int) < s2.length)) (
 cond ((s2.getD (0:Int).toNat (0:Int))==4)
 (Aa (decide (0<=(1:Int))&&decide ((1:Int) < s2.length)) (
 cond ((s2.getD (1:Int).toNat (0:Int))==2)
 (some ((2,()),()))
 (some ((0,()),()))))
 (some ((0,()),()))))
 (cond (x0.1==19)
 (Aa (decide (0<=(0:Int))&&decide ((0:Int) < s2.length)) (
 cond ((s2.getD (0:Int).toNat (0:Int))==4)
 (Aa (decide (0<=(1:Int))&&decide ((1:Int) < s2.length)) (
 cond ((s2.getD (1:Int).toNat (0:Int))==2)
 (Aa (decide (0<=(2:Int))&&decide ((2:Int) < s2.length)) (
 cond ((s2.getD (2:Int).toNat (0:Int))==2)
 (some ((4,()),()))
 (some ((0,()),()))))
 (some ((0,()),()))))
 (some ((0,()),()))))
 (some ((0,()),())))))))))))))))))))))
def G5 (AMR:List Ac->Int->Int->Option ((Int×Int×Unit)×Unit)) (x:(List Ac)×Int×Int×Int×Int×(List Int)×Int×Bool×Int×Unit):Option (Ex×((List Ac)×Int×Int×Int×Int×(List Int)×Int×Bool×Int×Unit)):=
 let t0:=x.1
 let i1:=x.2.1
 let depth2:=x.2.2.1
 let t6:=x.2.2.2.1
 let t7:=x.2.2.2.2.1
 let s8:=x.2.2.2.2.2.1
 let end9:=x.2.2.2.2.2.2.1
 let good10:=x.2.2.2.2.2.2.2.1
 let k11:=x.2.2.2.2.2.2.2.2.1
 Aa (decide (0<=i1)&&decide (i1 < t0.length)) (
 cond (decide (k11 < (((((t0.getD i1.toNat Az).2).2).2).2)))
 ((AMR t0 end9 (qI (depth2+1))).bind fun r1=>
 cond (decide (r1.1.1 < (0:Int)))
 (some (Ex.ret,(t0,i1,depth2,-1,0,s8,r1.1.1,good10,k11,())))
 (cond (good10)
 (Aa (decide (s8.length+([r1.1.2.1]:List Int).length<=Av)) (some (Ex.normal,(t0,i1,depth2,t6,t7,s8++([r1.1.2.1]:List Int),r1.1.1,decide (r1.1.2.1 > (0:Int)),qI (k11+1),()))))
 (Aa (decide (s8.length+([r1.1.2.1]:List Int).length<=Av)) (some (Ex.normal,(t0,i1,depth2,t6,t7,s8++([r1.1.2.1]:List Int),r1.1.1,false,qI (k11+1),()))))))
 (some (Ex.exit 0,(t0,i1,depth2,t6,t7,s8,end9,good10,k11,()))))
def Nu (AMR:List Ac->Int->Int->Option ((Int×Int×Unit)×Unit)) (t0:List Ac) (i1:Int) (depth2:Int):Option ((Int×Int×Unit)×Unit):=
 cond (decide (i1>=(t0.length:Int)))
 (some ((-1,0,()),()))
 (cond (decide (depth2 > (256:Int)))
 (some ((-1,0,()),()))
 (Aa (decide (0<=i1)&&decide (i1 < t0.length)) (
 (OW (t0.getD i1.toNat Az)).bind fun r1=>
 cond (!r1.1.1)
 (some ((-1,0,()),()))
 (Aa (decide (0<=i1)&&decide (i1 < t0.length)) (
 Aa (decide (0<=i1)&&decide (i1 < t0.length)) (
 (J8 ((t0.getD i1.toNat Az).1) (((((t0.getD i1.toNat Az).2).2).2).2)).bind fun r2=>
 cond (!r2.1.1)
 (some ((-1,0,()),()))
 (Aa (decide (0<=i1)&&decide (i1 < t0.length)) (
 cond (decide ((((((t0.getD i1.toNat Az).2).2).2).2) > (t0.length:Int)))
 (some ((-1,0,()),()))
 ((Am (G5 AMR) (t0,i1,depth2,0,0,([]:List Int),qI (i1+1),true,0,())).bind fun y3=>
 cond (Ex.same y3.1 (Ex.exit 0))
 (cond (!y3.2.2.2.2.2.2.2.2.1)
 (some ((y3.2.2.2.2.2.2.2.1,0,()),()))
 (cond (decide ((y3.2.2.2.2.2.2.1.length:Int) > (0:Int)))
 (Aa (decide (0<=qI (y3.2.2.1+1))&&decide (qI (y3.2.2.1+1) < y3.2.1.length)) (
 Aa (decide (0<=y3.2.2.1)&&decide (y3.2.2.1 < y3.2.1.length)) (
 (Mm (y3.2.1.getD y3.2.2.1.toNat Az) ((y3.2.1.getD (qI (y3.2.2.1+1)).toNat Az).1) y3.2.2.2.2.2.2.1).bind fun r4=>
 some ((y3.2.2.2.2.2.2.2.1,r4.1.1,()),()))))
 (Aa (decide (0<=y3.2.2.1)&&decide (y3.2.2.1 < y3.2.1.length)) (
 (Mm (y3.2.1.getD y3.2.2.1.toNat Az) 0 y3.2.2.2.2.2.2.1).bind fun r5=>
 some ((y3.2.2.2.2.2.2.2.1,r5.1.1,()),())))))
 (cond (Ex.same y3.1 Ex.ret)
 (some ((y3.2.2.2.2.1,y3.2.2.2.2.2.1,()),()))
 (none)))))))))))
def FU:Nat->List Ac->Int->Int->Option ((Int×Int×Unit)×Unit)
 |0=>fun _ _ _=>none
 |n+1=>Nu (FU n)
def I0 (x:(List Ac)×Int×(List Int)×Int×Int×Unit):Option (Ex×((List Ac)×Int×(List Int)×Int×Int×Unit)):=
 let t0:=x.1
 let i1:=x.2.1
 let out5:=x.2.2.1
 let at6:=x.2.2.2.1
 let k7:=x.2.2.2.2.1
 Aa (decide (0<=i1)&&decide (i1 < t0.length)) (
 cond (decide (k7 < (((((t0.getD i1.toNat Az).2).2).2).2)))
 ((FU BB t0 at6 0).bind fun r1=>
 Aa (decide (out5.length+([r1.1.2.1]:List Int).length<=Av)) (some (Ex.normal,(t0,i1,out5++([r1.1.2.1]:List Int),r1.1.1,qI (k7+1),()))))
 (some (Ex.exit 0,(t0,i1,out5,at6,k7,()))))
def M0 (t0:List Ac) (i1:Int):Option (((List Int)×Unit)×Unit):=
 (Am I0 (t0,i1,([]:List Int),qI (i1+1),0,())).bind fun y1=>
 cond (Ex.same y1.1 (Ex.exit 0))
 (some ((y1.2.2.2.1,()),()))
 (none)
def MM (t0:List Ac) (i1:Int):Option (((qBs×Af)×Unit)×Unit):=
 Aa (decide (0<=i1)&&decide (i1 < t0.length)) (
 (M0 t0 i1).bind fun r1=>
 Aa (decide (0<=i1)&&decide (i1 < t0.length)) (some ((((((t0.getD i1.toNat Az).2).2).1,r1.1.1,((t0.getD i1.toNat Az).2).1),()),())))
def Lf (x:(List Int)×(List Int)×Bool×Int×Unit):Option (Ex×((List Int)×(List Int)×Bool×Int×Unit)):=
 let a0:=x.1
 let b1:=x.2.1
 let t4:=x.2.2.1
 let i5:=x.2.2.2.1
 cond (decide (i5 < (a0.length:Int)))
 (Aa (decide (0<=i5)&&decide (i5 < a0.length)) (
 Aa (decide (0<=i5)&&decide (i5 < b1.length)) (
 cond ((a0.getD i5.toNat (0:Int)) !=(b1.getD i5.toNat (0:Int)))
 (some (Ex.ret,(a0,b1,false,i5,())))
 (some (Ex.normal,(a0,b1,t4,qI (i5+1),()))))))
 (some (Ex.exit 0,(a0,b1,t4,i5,())))
def ML (a0:List Int) (b1:List Int):Option ((Bool×Unit)×Unit):=
 cond ((a0.length:Int) !=(b1.length:Int))
 (some ((false,()),()))
 ((Am Lf (a0,b1,false,0,())).bind fun y1=>
 cond (Ex.same y1.1 (Ex.exit 0))
 (some ((true,()),()))
 (cond (Ex.same y1.1 Ex.ret)
 (some ((y1.2.2.2.1,()),()))
 (none)))
def HH (x:(List Ac)×Bool×(List Vr)×(List (qBs×Af))×Int×Bool×Int×Unit):Option (Ex×((List Ac)×Bool×(List Vr)×(List (qBs×Af))×Int×Bool×Int×Unit)):=
 let t0:=x.1
 let t2:=x.2.1
 let vars3:=x.2.2.1
 let funcs4:=x.2.2.2.1
 let i5:=x.2.2.2.2.1
 let known6:=x.2.2.2.2.2.1
 let k7:=x.2.2.2.2.2.2.1
 cond (decide (k7 < (vars3.length:Int)))
 (Aa (decide (0<=k7)&&decide (k7 < vars3.length)) (
 Aa (decide (k7.toNat < vars3.length)) (
 Aa (decide (0<=i5)&&decide (i5 < t0.length)) (
 cond (((vars3.getD k7.toNat Cb).1)==((((t0.getD i5.toNat Az).2).2).1))
 (Aa (decide (0<=k7)&&decide (k7 < vars3.length)) (
 Aa (decide (k7.toNat < vars3.length)) (
 Aa (decide (0<=i5)&&decide (i5 < t0.length)) (
 cond (((vars3.getD k7.toNat Cb).2) !=(((t0.getD i5.toNat Az).2).1))
 (some (Ex.ret,(t0,false,vars3,funcs4,i5,true,k7,())))
 (some (Ex.normal,(t0,t2,vars3,funcs4,i5,true,qI (k7+1),())))))))
 (some (Ex.normal,(t0,t2,vars3,funcs4,i5,known6,qI (k7+1),())))))))
 (some (Ex.exit 3,(t0,t2,vars3,funcs4,i5,known6,k7,())))
def Hw (x:(List Ac)×Bool×(List Vr)×(List (qBs×Af))×Int×(qBs×Af)×Bool×Int×Unit):Option (Ex×((List Ac)×Bool×(List Vr)×(List (qBs×Af))×Int×(qBs×Af)×Bool×Int×Unit)):=
 let t0:=x.1
 let t2:=x.2.1
 let vars3:=x.2.2.1
 let funcs4:=x.2.2.2.1
 let i5:=x.2.2.2.2.1
 let f8:=x.2.2.2.2.2.1
 let known9:=x.2.2.2.2.2.2.1
 let k10:=x.2.2.2.2.2.2.2.1
 cond (decide (k10 < (funcs4.length:Int)))
 (Aa (decide (0<=k10)&&decide (k10 < funcs4.length)) (
 Aa (decide (k10.toNat < funcs4.length)) (
 cond (((funcs4.getD k10.toNat (([]:qBs),([]:List Int),(0:Int))).1)==f8.1)
 (Aa (decide (0<=k10)&&decide (k10 < funcs4.length)) (
 Aa (decide (k10.toNat < funcs4.length)) (
 cond ((((funcs4.getD k10.toNat (([]:qBs),([]:List Int),(0:Int))).2).2) !=f8.2.2)
 (some (Ex.ret,(t0,false,vars3,funcs4,i5,f8,true,k10,())))
 (Aa (decide (0<=k10)&&decide (k10 < funcs4.length)) (
 Aa (decide (k10.toNat < funcs4.length)) (
 (ML (((funcs4.getD k10.toNat (([]:qBs),([]:List Int),(0:Int))).2).1) f8.2.1).bind fun r1=>
 cond (!r1.1.1)
 (some (Ex.ret,(t0,false,vars3,funcs4,i5,f8,true,k10,())))
 (some (Ex.normal,(t0,t2,vars3,funcs4,i5,f8,true,qI (k10+1),())))))))))
 (some (Ex.normal,(t0,t2,vars3,funcs4,i5,f8,known9,qI (k10+1),()))))))
 (some (Ex.exit 5,(t0,t2,vars3,funcs4,i5,f8,known9,k10,())))
def Gq (x:(List Ac)×Bool×(List Vr)×(List (qBs×Af))×Int×Unit):Option (Ex×((List Ac)×Bool×(List Vr)×(List (qBs×Af))×Int×Unit)):=
 let t0:=x.1
 let t2:=x.2.1
 let vars3:=x.2.2.1
 let funcs4:=x.2.2.2.1
 let i5:=x.2.2.2.2.1
 cond (decide (i5 < (t0.length:Int)))
 (Aa (decide (0<=i5)&&decide (i5 < t0.length)) (
 cond (((t0.getD i5.toNat Az).1)==4)
 ((Am HH (t0,t2,vars3,funcs4,i5,false,0,())).bind fun y1=>
 cond (Ex.same y1.1 (Ex.exit 3))
 (cond (!y1.2.2.2.2.2.2.1)
 (Aa (decide (0<=y1.2.2.2.2.2.1)&&decide (y1.2.2.2.2.2.1 < y1.2.1.length)) (Aa (decide (0<=y1.2.2.2.2.2.1)&&decide (y1.2.2.2.2.2.1 < y1.2.1.length)) (Aa (decide (y1.2.2.2.1.length+([((((y1.2.1.getD y1.2.2.2.2.2.1.toNat Az).2).2).1,((y1.2.1.getD y1.2.2.2.2.2.1.toNat Az).2).1)]:List Vr).length<=Av)) (some (Ex.normal,(y1.2.1,y1.2.2.1,y1.2.2.2.1++([((((y1.2.1.getD y1.2.2.2.2.2.1.toNat Az).2).2).1,((y1.2.1.getD y1.2.2.2.2.2.1.toNat Az).2).1)]:List Vr),y1.2.2.2.2.1,qI (y1.2.2.2.2.2.1+1),()))))))
 (some (Ex.normal,(y1.2.1,y1.2.2.1,y1.2.2.2.1,y1.2.2.2.2.1,qI (y1.2.2.2.2.2.1+1),()))))
 (cond (Ex.same y1.1 Ex.ret)
 (some (Ex.ret,(y1.2.1,y1.2.2.1,y1.2.2.2.1,y1.2.2.2.2.1,y1.2.2.2.2.2.1,())))
 (none)))
 (cond (((t0.getD i5.toNat Az).1)==5)
 ((MM t0 i5).bind fun r2=>
 (Am Hw (t0,t2,vars3,funcs4,i5,r2.1.1,false,0,())).bind fun y3=>
 cond (Ex.same y3.1 (Ex.exit 5))
 (cond (!y3.2.2.2.2.2.2.2.1)
 (Aa (decide (y3.2.2.2.2.1.length+([y3.2.2.2.2.2.2.1]:List (qBs×Af)).length<=Av)) (some (Ex.normal,(y3.2.1,y3.2.2.1,y3.2.2.2.1,y3.2.2.2.2.1++([y3.2.2.2.2.2.2.1]:List (qBs×Af)),qI (y3.2.2.2.2.2.1+1),()))))
 (some (Ex.normal,(y3.2.1,y3.2.2.1,y3.2.2.2.1,y3.2.2.2.2.1,qI (y3.2.2.2.2.2.1+1),()))))
 (cond (Ex.same y3.1 Ex.ret)
 (some (Ex.ret,(y3.2.1,y3.2.2.1,y3.2.2.2.1,y3.2.2.2.2.1,y3.2.2.2.2.2.1,())))
 (none)))
 (some (Ex.normal,(t0,t2,vars3,funcs4,qI (i5+1),()))))))
 (some (Ex.exit 0,(t0,t2,vars3,funcs4,i5,())))
def HB (x:Bool×(List Vr)×(List (qBs×Af))×Int×Int×Unit):Option (Ex×(Bool×(List Vr)×(List (qBs×Af))×Int×Int×Unit)):=
 let t2:=x.1
 let vars3:=x.2.1
 let funcs4:=x.2.2.1
 let i11:=x.2.2.2.1
 let k12:=x.2.2.2.2.1
 cond (decide (k12 < (funcs4.length:Int)))
 (Aa (decide (0<=i11)&&decide (i11 < vars3.length)) (
 Aa (decide (i11.toNat < vars3.length)) (
 Aa (decide (0<=k12)&&decide (k12 < funcs4.length)) (
 Aa (decide (k12.toNat < funcs4.length)) (
 cond (((vars3.getD i11.toNat Cb).1)==((funcs4.getD k12.toNat (([]:qBs),([]:List Int),(0:Int))).1))
 (some (Ex.ret,(false,vars3,funcs4,i11,k12,())))
 (some (Ex.normal,(t2,vars3,funcs4,i11,qI (k12+1),()))))))))
 (some (Ex.exit 9,(t2,vars3,funcs4,i11,k12,())))
def GI (x:Bool×(List Vr)×(List (qBs×Af))×Int×Unit):Option (Ex×(Bool×(List Vr)×(List (qBs×Af))×Int×Unit)):=
 let t2:=x.1
 let vars3:=x.2.1
 let funcs4:=x.2.2.1
 let i11:=x.2.2.2.1
 cond (decide (i11 < (vars3.length:Int)))
 ((Am HB (t2,vars3,funcs4,i11,0,())).bind fun y1=>
 cond (Ex.same y1.1 (Ex.exit 9))
 (some (Ex.normal,(y1.2.1,y1.2.2.1,y1.2.2.2.1,qI (y1.2.2.2.2.1+1),())))
 (cond (Ex.same y1.1 Ex.ret)
 (some (Ex.ret,(y1.2.1,y1.2.2.1,y1.2.2.2.1,y1.2.2.2.2.1,())))
 (none)))
 (some (Ex.exit 7,(t2,vars3,funcs4,i11,())))
def NP (t0:List Ac):Option ((Bool×Unit)×Unit):=
 (Am Gq (t0,false,([]:List Vr),([]:List (qBs×Af)),0,())).bind fun y1=>
 cond (Ex.same y1.1 (Ex.exit 0))
 ((Am GI (y1.2.2.1,y1.2.2.2.1,y1.2.2.2.2.1,0,())).bind fun y2=>
 cond (Ex.same y2.1 (Ex.exit 7))
 (some ((true,()),()))
 (cond (Ex.same y2.1 Ex.ret)
 (some ((y2.2.1,()),()))
 (none)))
 (cond (Ex.same y1.1 Ex.ret)
 (some ((y1.2.2.1,()),()))
 (none))
def Mh (t0:List Ac):Option ((Int×Unit)×Unit):=
 cond (decide ((t0.length:Int) > (20000:Int)))
 (some ((0,()),()))
 ((FU BB t0 0 0).bind fun r1=>
 cond (r1.1.1 !=(t0.length:Int))
 (some ((0,()),()))
 (cond (r1.1.2.1==0)
 (some ((0,()),()))
 ((NP t0).bind fun r2=>
 cond (!r2.1.1)
 (some ((0,()),()))
 (some ((r1.1.2.1,()),())))))
def K8 (t0:List Ac):Option ((Bool×Unit)×Unit):=
 (Mh t0).bind fun r1=>
 some ((decide (r1.1.1 > (0:Int)),()),())
def IH (x:Ae×(List Ac)×Int×(List Ac)×Int×Unit):Option (Ex×(Ae×(List Ac)×Int×(List Ac)×Int×Unit)):=
 let v1:=x.1
 let t2:=x.2.1
 let t3:=x.2.2.1
 let t4:=x.2.2.2.1
 let i5:=x.2.2.2.2.1
 cond (decide (i5 < (v1.2.2.2.1.length:Int)))
 (cond (decide ((t4.length:Int) > (20000:Int)))
 (some (Ex.ret,(v1,([]:List Ac),6,t4,i5,())))
 (Aa (decide (0<=i5)&&decide (i5 < v1.2.2.2.1.length)) (
 (CD 2 (v1.2.2.2.1.getD i5.toNat ([]:qBs))).bind fun r1=>
 Aa (decide (0<=i5)&&decide (i5 < v1.2.2.2.2.length)) (
 (CD 2 (v1.2.2.2.2.getD i5.toNat ([]:qBs))).bind fun r2=>
 (EG (19,(0:Int),([]:qBs),([]:qBs),(0:Int)) ([t4,r1.1.1,r2.1.1]:List (List Ac))).bind fun r3=>
 some (Ex.normal,(v1,t2,t3,r3.1.1,qI (i5+1),()))))))
 (some (Ex.exit 1,(v1,t2,t3,t4,i5,())))
def GV (v0:Ae):Option (((List Ac)×Int×Unit)×Unit):=
 (Fh v0).bind fun r1=>
 cond (!r1.1.1)
 (some ((([]:List Ac),1,()),()))
 (cond (v0.1==1)
 ((OF v0.2.1).bind fun r2=>
 some ((r2.1.1,0,()),()))
 (cond (v0.1==2)
 ((CD v0.1 v0.2.2.1).bind fun r3=>
 some ((r3.1.1,0,()),()))
 (cond (v0.1==3)
 ((CD v0.1 v0.2.2.1).bind fun r4=>
 some ((r4.1.1,0,()),()))
 ((CD 2 v0.2.2.1).bind fun r5=>
 (EG (20,(0:Int),([]:qBs),([]:qBs),(0:Int)) ([r5.1.1]:List (List Ac))).bind fun r6=>
 (Am IH (v0,([]:List Ac),0,r6.1.1,0,())).bind fun y7=>
 cond (Ex.same y7.1 (Ex.exit 1))
 ((K8 y7.2.2.2.2.1).bind fun r8=>
 cond (!r8.1.1)
 (some ((([]:List Ac),6,()),()))
 (some ((y7.2.2.2.2.1,0,()),())))
 (cond (Ex.same y7.1 Ex.ret)
 (some ((y7.2.2.1,y7.2.2.2.1,()),()))
 (none))))))
def JO (x:Af×Int×(List Vr)×(List Vr)×Int×Unit):Option (Ex×(Af×Int×(List Vr)×(List Vr)×Int×Unit)):=
 let c0:=x.1
 let sort1:=x.2.1
 let vars2:=x.2.2.1
 let l7:=x.2.2.2.1
 let i8:=x.2.2.2.2.1
 cond (decide (i8 < (vars2.length:Int)))
 (Aa (decide (0<=i8)&&decide (i8 < vars2.length)) (
 cond (((vars2.getD i8.toNat Cb).2)==sort1)
 (Aa (decide (0<=i8)&&decide (i8 < vars2.length)) (Aa (decide (l7.length+([vars2.getD i8.toNat Cb]:List Vr).length<=Av)) (some (Ex.normal,(c0,sort1,vars2,l7++([vars2.getD i8.toNat Cb]:List Vr),qI (i8+1),())))))
 (some (Ex.normal,(c0,sort1,vars2,l7,qI (i8+1),())))))
 (some (Ex.exit 0,(c0,sort1,vars2,l7,i8,())))
def DS (c0:Af) (sort1:Int) (vars2:List Vr):Option (((List Ac)×Unit)×(Af×Unit)):=
 (Am JO (c0,sort1,vars2,([]:List Vr),0,())).bind fun y1=>
 cond (Ex.same y1.1 (Ex.exit 0))
 (cond ((y1.2.2.2.2.1.length:Int)==0)
 ((CS y1.2.1 y1.2.2.1).bind fun r2=>
 (GV r2.1.1).bind fun r3=>
 some ((r3.1.1,()),r2.2.1,()))
 ((AW y1.2.1 (y1.2.2.2.2.1.length:Int)).bind fun r4=>
 Aa (decide (0<=r4.1.1)&&decide (r4.1.1 < y1.2.2.2.2.1.length)) (Aa (decide (r4.1.1.toNat < y1.2.2.2.2.1.length)) (some ((([(4,y1.2.2.1,(y1.2.2.2.2.1.getD r4.1.1.toNat Cb).1,([]:qBs),(0:Int))]:List Ac),()),r4.2.1,())))))
 (none)
def M7 (c0:Af):Option ((Bool×Unit)×(Af×Unit)):=
 some ((decide (c0.2 < (c0.1.length:Int)),()),c0,())
def B4 (o0:Int) (l1:List (List Ac)):Option (((List Ac)×Unit)×Unit):=
 (EG (o0,(0:Int),([]:qBs),([]:qBs),(0:Int)) l1).bind fun r1=>
 some ((r1.1.1,()),())
def Hz (a0:qBs) (b1:qBs):Option ((qBs×Unit)×Unit):=
 (CB a0).bind fun r1=>
 (CB b1).bind fun r2=>
 cond (!r1.1.2.1)
 (some ((([]:qBs),()),()))
 (cond (!r2.1.2.1)
 (some ((([]:qBs),()),()))
 ((E4 r1.1.1.2.1 r2.1.1.2.1).bind fun r3=>
 (E4 r1.1.1.2.2 r2.1.1.2.2).bind fun r4=>
 (DH (!(r1.1.1.1==r2.1.1.1)) r3.1.1 r4.1.1).bind fun r5=>
 (B5 (r5.1.1.1,r5.1.1.2.1,r5.1.1.2.2)).bind fun r6=>
 some ((r6.1.1,()),())))
def EK (c0:Af):Option ((qBs×Unit)×(Af×Unit)):=
 (AW (c0.1,c0.2) 8).bind fun r1=>
 cond (r1.1.1==6)
 ((AW (r1.2.1.1,r1.2.1.2) 2001).bind fun r2=>
 (DG (qI (r2.1.1 - (1000:Int)))).bind fun r3=>
 some ((r3.1.1,()),(r2.2.1.1,r2.2.1.2),()))
 (cond (r1.1.1==7)
 ((AW (r1.2.1.1,r1.2.1.2) 1099511627776).bind fun r4=>
 (DG (qI (r4.1.1 - (549755813888:Int)))).bind fun r5=>
 (AW (r4.2.1.1,r4.2.1.2) 1099511627776).bind fun r6=>
 (DG r6.1.1).bind fun r7=>
 (Hz r5.1.1 r7.1.1).bind fun r8=>
 some ((r8.1.1,()),(r6.2.1.1,r6.2.1.2),()))
 ((AW (r1.2.1.1,r1.2.1.2) 9).bind fun r9=>
 (DG (qI (r9.1.1 - (4:Int)))).bind fun r10=>
 some ((r10.1.1,()),(r9.2.1.1,r9.2.1.2),())))
def L0 (a0:qBs) (b1:qBs):Option ((qBs×Unit)×Unit):=
 (CB a0).bind fun r1=>
 (CB b1).bind fun r2=>
 cond (!r1.1.2.1)
 (some ((([]:qBs),()),()))
 (cond (!r2.1.2.1)
 (some ((([]:qBs),()),()))
 (cond (r2.1.1.2.1==([48]:qBs))
 (some ((([]:qBs),()),()))
 ((E4 r1.1.1.2.1 r2.1.1.2.2).bind fun r3=>
 (E4 r1.1.1.2.2 r2.1.1.2.1).bind fun r4=>
 (DH (!(r1.1.1.1==r2.1.1.1)) r3.1.1 r4.1.1).bind fun r5=>
 (B5 (r5.1.1.1,r5.1.1.2.1,r5.1.1.2.2)).bind fun r6=>
 some ((r6.1.1,()),()))))
def Oe (c0:Af):Option ((qBs×Unit)×(Af×Unit)):=
 (EK (c0.1,c0.2)).bind fun r1=>
 (AW (r1.2.1.1,r1.2.1.2) 4).bind fun r2=>
 (DG (qI ((1:Int)+r2.1.1))).bind fun r3=>
 (L0 r1.1.1 r3.1.1).bind fun r4=>
 some ((r4.1.1,()),(r2.2.1.1,r2.2.1.2),())
def EB (c0:Af) (sort1:Int):Option ((qBs×Unit)×(Af×Unit)):=
 cond (sort1==2)
 ((EK c0).bind fun r1=>
 some ((r1.1.1,()),r1.2.1,()))
 ((Oe c0).bind fun r2=>
 some ((r2.1.1,()),r2.2.1,()))
def Iw (AMM:Af->Int->Int->List Vr->Option (((List Ac)×Unit)×(Af×Unit))) (AML:Af->Int->List Vr->Option (((List Ac)×Unit)×(Af×Unit))) (AMP:Af->Int->Int->List Vr->Option (((List Ac)×Unit)×(Af×Unit))) (AMN:Af->Int->Int->List Vr->Option (((List Ac)×Unit)×(Af×Unit))) (AMO:Af->Int->List Vr->Option (((List Ac)×Unit)×(Af×Unit))) (c0:Af) (sort1:Int) (depth2:Int) (vars3:List Vr):Option (((List Ac)×Unit)×(Af×Unit)):=
 cond (decide (depth2<=0))
 ((AW c0 3).bind fun r1=>
 cond (r1.1.1==0)
 ((CS r1.2.1 sort1).bind fun r2=>
 (GV r2.1.1).bind fun r3=>
 some ((r3.1.1,()),r2.2.1,()))
 ((DS r1.2.1 sort1 vars3).bind fun r4=>
 some ((r4.1.1,()),r4.2.1,())))
 ((M7 c0).bind fun r5=>
 cond (!r5.1.1)
 ((AW r5.2.1 3).bind fun r6=>
 cond (r6.1.1==0)
 ((CS r6.2.1 sort1).bind fun r7=>
 (GV r7.1.1).bind fun r8=>
 some ((r8.1.1,()),r7.2.1,()))
 ((DS r6.2.1 sort1 vars3).bind fun r9=>
 some ((r9.1.1,()),r9.2.1,())))
 (cond (sort1==1)
 ((AML r5.2.1 depth2 vars3).bind fun r10=>
 some ((r10.1.1,()),r10.2.1,()))
 (cond (sort1==4)
 ((AW r5.2.1 5).bind fun r11=>
 cond (r11.1.1==0)
 ((AMM r11.2.1 2 (qI (depth2 - (1:Int))) vars3).bind fun r12=>
 (B4 20 ([r12.1.1]:List (List Ac))).bind fun r13=>
 some ((r13.1.1,()),r12.2.1,()))
 (cond (r11.1.1==1)
 ((AMM r11.2.1 4 (qI (depth2 - (1:Int))) vars3).bind fun r14=>
 (AMM r14.2.1 2 (qI (depth2 - (1:Int))) vars3).bind fun r15=>
 (AMM r15.2.1 2 (qI (depth2 - (1:Int))) vars3).bind fun r16=>
 (B4 19 ([r14.1.1,r15.1.1,r16.1.1]:List (List Ac))).bind fun r17=>
 some ((r17.1.1,()),r16.2.1,()))
 (cond (r11.1.1==2)
 ((AMM r11.2.1 4 (qI (depth2 - (1:Int))) vars3).bind fun r18=>
 (AMM r18.2.1 2 (qI (depth2 - (1:Int))) vars3).bind fun r19=>
 (AMM r19.2.1 2 (qI (depth2 - (1:Int))) vars3).bind fun r20=>
 (B4 19 ([r18.1.1,r19.1.1,r20.1.1]:List (List Ac))).bind fun r21=>
 some ((r21.1.1,()),r20.2.1,()))
 (cond (r11.1.1==3)
 ((AMP r11.2.1 sort1 depth2 vars3).bind fun r22=>
 some ((r22.1.1,()),r22.2.1,()))
 ((DS r11.2.1 sort1 vars3).bind fun r23=>
 some ((r23.1.1,()),r23.2.1,()))))))
 ((AMN r5.2.1 sort1 depth2 vars3).bind fun r24=>
 some ((r24.1.1,()),r24.2.1,())))))
def F6 (AMM:Af->Int->Int->List Vr->Option (((List Ac)×Unit)×(Af×Unit))) (AML:Af->Int->List Vr->Option (((List Ac)×Unit)×(Af×Unit))) (AMP:Af->Int->Int->List Vr->Option (((List Ac)×Unit)×(Af×Unit))) (AMN:Af->Int->Int->List Vr->Option (((List Ac)×Unit)×(Af×Unit))) (AMO:Af->Int->List Vr->Option (((List Ac)×Unit)×(Af×Unit))) (x:Af×Int×(List Vr)×(List (List Ac))×Int×Unit):Option (Ex×(Af×Int×(List Vr)×(List (List Ac))×Int×Unit)):=
 let c0:=x.1
 let depth1:=x.2.1
 let vars2:=x.2.2.1
 let l7:=x.2.2.2.1
 let n8:=x.2.2.2.2.1
 cond (decide (n8 > (0:Int)))
 ((AML c0 (qI (depth1 - (1:Int))) vars2).bind fun r1=>
 Aa (decide (l7.length+([r1.1.1]:List (List Ac)).length<=Av)) (some (Ex.normal,(r1.2.1,depth1,vars2,l7++([r1.1.1]:List (List Ac)),qI (n8 - (1:Int)),()))))
 (some (Ex.exit 1,(c0,depth1,vars2,l7,n8,())))
def Jv (AMM:Af->Int->Int->List Vr->Option (((List Ac)×Unit)×(Af×Unit))) (AML:Af->Int->List Vr->Option (((List Ac)×Unit)×(Af×Unit))) (AMP:Af->Int->Int->List Vr->Option (((List Ac)×Unit)×(Af×Unit))) (AMN:Af->Int->Int->List Vr->Option (((List Ac)×Unit)×(Af×Unit))) (AMO:Af->Int->List Vr->Option (((List Ac)×Unit)×(Af×Unit))) (c0:Af) (depth1:Int) (vars2:List Vr):Option (((List Ac)×Unit)×(Af×Unit)):=
 cond (decide (depth1<=0))
 ((AMO c0 0 vars2).bind fun r1=>
 some ((r1.1.1,()),r1.2.1,()))
 ((M7 c0).bind fun r2=>
 cond (!r2.1.1)
 ((AMO r2.2.1 0 vars2).bind fun r3=>
 some ((r3.1.1,()),r3.2.1,()))
 ((AW r2.2.1 12).bind fun r4=>
 cond (r4.1.1==0)
 ((AML r4.2.1 (qI (depth1 - (1:Int))) vars2).bind fun r5=>
 (B4 6 ([r5.1.1]:List (List Ac))).bind fun r6=>
 some ((r6.1.1,()),r5.2.1,()))
 (cond (r4.1.1==1)
 ((AML r4.2.1 (qI (depth1 - (1:Int))) vars2).bind fun r7=>
 (B4 6 ([r7.1.1]:List (List Ac))).bind fun r8=>
 some ((r8.1.1,()),r7.2.1,()))
 (cond (r4.1.1==2)
 ((AW r4.2.1 4).bind fun r9=>
 (Am (F6 AMM AML AMP AMN AMO) (r9.2.1,depth1,vars2,([]:List (List Ac)),r9.1.1,())).bind fun y10=>
 cond (Ex.same y10.1 (Ex.exit 1))
 ((AW y10.2.1 2).bind fun r11=>
 (B4 (qI ((7:Int)+r11.1.1)) y10.2.2.2.2.1).bind fun r12=>
 some ((r12.1.1,()),r11.2.1,()))
 (none))
 (cond (r4.1.1==3)
 ((AW r4.2.1 4).bind fun r13=>
 (Am (F6 AMM AML AMP AMN AMO) (r13.2.1,depth1,vars2,([]:List (List Ac)),r13.1.1,())).bind fun y14=>
 cond (Ex.same y14.1 (Ex.exit 1))
 ((AW y14.2.1 2).bind fun r15=>
 (B4 (qI ((7:Int)+r15.1.1)) y14.2.2.2.2.1).bind fun r16=>
 some ((r16.1.1,()),r15.2.1,()))
 (none))
 (cond (r4.1.1==4)
 ((AW r4.2.1 4).bind fun r17=>
 (Am (F6 AMM AML AMP AMN AMO) (r17.2.1,depth1,vars2,([]:List (List Ac)),r17.1.1,())).bind fun y18=>
 cond (Ex.same y18.1 (Ex.exit 1))
 ((AW y18.2.1 2).bind fun r19=>
 (B4 (qI ((7:Int)+r19.1.1)) y18.2.2.2.2.1).bind fun r20=>
 some ((r20.1.1,()),r19.2.1,()))
 (none))
 (cond (r4.1.1==5)
 ((AW r4.2.1 4).bind fun r21=>
 (Am (F6 AMM AML AMP AMN AMO) (r21.2.1,depth1,vars2,([]:List (List Ac)),r21.1.1,())).bind fun y22=>
 cond (Ex.same y22.1 (Ex.exit 1))
 ((AW y22.2.1 2).bind fun r23=>
 (B4 (qI ((7:Int)+r23.1.1)) y22.2.2.2.2.1).bind fun r24=>
 some ((r24.1.1,()),r23.2.1,()))
 (none))
 (cond (r4.1.1==6)
 ((AML r4.2.1 (qI (depth1 - (1:Int))) vars2).bind fun r25=>
 (AML r25.2.1 (qI (depth1 - (1:Int))) vars2).bind fun r26=>
 (B4 9 ([r25.1.1,r26.1.1]:List (List Ac))).bind fun r27=>
 some ((r27.1.1,()),r26.2.1,()))
 (cond (r4.1.1==7)
 ((AMP r4.2.1 1 depth1 vars2).bind fun r28=>
 some ((r28.1.1,()),r28.2.1,()))
 (cond (r4.1.1==8)
 ((AML r4.2.1 (qI (depth1 - (1:Int))) vars2).bind fun r29=>
 (AML r29.2.1 (qI (depth1 - (1:Int))) vars2).bind fun r30=>
 (B4 11 ([r29.1.1,r30.1.1]:List (List Ac))).bind fun r31=>
 some ((r31.1.1,()),r30.2.1,()))
 ((AMO r4.2.1 (qI (depth1 - (1:Int))) vars2).bind fun r32=>
 some ((r32.1.1,()),r32.2.1,()))))))))))))
def MA (AMM:Af->Int->Int->List Vr->Option (((List Ac)×Unit)×(Af×Unit))) (AML:Af->Int->List Vr->Option (((List Ac)×Unit)×(Af×Unit))) (AMP:Af->Int->Int->List Vr->Option (((List Ac)×Unit)×(Af×Unit))) (AMN:Af->Int->Int->List Vr->Option (((List Ac)×Unit)×(Af×Unit))) (AMO:Af->Int->List Vr->Option (((List Ac)×Unit)×(Af×Unit))) (c0:Af) (sort1:Int) (depth2:Int) (vars3:List Vr):Option (((List Ac)×Unit)×(Af×Unit)):=
 (AML c0 (qI (depth2 - (1:Int))) vars3).bind fun r1=>
 (AMM r1.2.1 sort1 (qI (depth2 - (1:Int))) vars3).bind fun r2=>
 (AMM r2.2.1 sort1 (qI (depth2 - (1:Int))) vars3).bind fun r3=>
 (B4 10 ([r1.1.1,r2.1.1,r3.1.1]:List (List Ac))).bind fun r4=>
 some ((r4.1.1,()),r3.2.1,())
def K7 (AMM:Af->Int->Int->List Vr->Option (((List Ac)×Unit)×(Af×Unit))) (AML:Af->Int->List Vr->Option (((List Ac)×Unit)×(Af×Unit))) (AMP:Af->Int->Int->List Vr->Option (((List Ac)×Unit)×(Af×Unit))) (AMN:Af->Int->Int->List Vr->Option (((List Ac)×Unit)×(Af×Unit))) (AMO:Af->Int->List Vr->Option (((List Ac)×Unit)×(Af×Unit))) (x:Af×Int×Int×(List Vr)×(List (List Ac))×Int×Unit):Option (Ex×(Af×Int×Int×(List Vr)×(List (List Ac))×Int×Unit)):=
 let c0:=x.1
 let sort1:=x.2.1
 let depth2:=x.2.2.1
 let vars3:=x.2.2.2.1
 let l10:=x.2.2.2.2.1
 let n11:=x.2.2.2.2.2.1
 cond (decide (n11 > (0:Int)))
 ((AMM c0 sort1 (qI (depth2 - (1:Int))) vars3).bind fun r1=>
 Aa (decide (l10.length+([r1.1.1]:List (List Ac)).length<=Av)) (some (Ex.normal,(r1.2.1,sort1,depth2,vars3,l10++([r1.1.1]:List (List Ac)),qI (n11 - (1:Int)),()))))
 (some (Ex.exit 1,(c0,sort1,depth2,vars3,l10,n11,())))
def Ox (AMM:Af->Int->Int->List Vr->Option (((List Ac)×Unit)×(Af×Unit))) (AML:Af->Int->List Vr->Option (((List Ac)×Unit)×(Af×Unit))) (AMP:Af->Int->Int->List Vr->Option (((List Ac)×Unit)×(Af×Unit))) (AMN:Af->Int->Int->List Vr->Option (((List Ac)×Unit)×(Af×Unit))) (AMO:Af->Int->List Vr->Option (((List Ac)×Unit)×(Af×Unit))) (c0:Af) (sort1:Int) (depth2:Int) (vars3:List Vr):Option (((List Ac)×Unit)×(Af×Unit)):=
 (AW c0 10).bind fun r1=>
 cond (decide (r1.1.1 < (3:Int)))
 ((AMM r1.2.1 sort1 (qI (depth2 - (1:Int))) vars3).bind fun r2=>
 (AW r2.2.1 3).bind fun r3=>
 (Am (K7 AMM AML AMP AMN AMO) (r3.2.1,sort1,depth2,vars3,([r2.1.1]:List (List Ac)),r3.1.1,())).bind fun y4=>
 cond (Ex.same y4.1 (Ex.exit 1))
 ((B4 14 y4.2.2.2.2.2.1).bind fun r5=>
 some ((r5.1.1,()),y4.2.1,()))
 (none))
 (cond (decide (r1.1.1 < (5:Int)))
 ((EB r1.2.1 sort1).bind fun r6=>
 (CD sort1 r6.1.1).bind fun r7=>
 (AMM r6.2.1 sort1 (qI (depth2 - (1:Int))) vars3).bind fun r8=>
 (B4 15 ([r7.1.1,r8.1.1]:List (List Ac))).bind fun r9=>
 some ((r9.1.1,()),r8.2.1,()))
 (cond (r1.1.1==5)
 ((AMP r1.2.1 sort1 depth2 vars3).bind fun r10=>
 some ((r10.1.1,()),r10.2.1,()))
 (cond (r1.1.1==6)
 (cond (sort1==2)
 ((AW r1.2.1 2).bind fun r11=>
 (AW r11.2.1 5).bind fun r12=>
 (DG (qI ((1:Int)+r12.1.1))).bind fun r13=>
 (AMM r12.2.1 sort1 (qI (depth2 - (1:Int))) vars3).bind fun r14=>
 (EG (qI ((16:Int)+r11.1.1),(0:Int),([]:qBs),r13.1.1,(0:Int)) ([r14.1.1]:List (List Ac))).bind fun r15=>
 some ((r15.1.1,()),r14.2.1,()))
 (cond (r1.1.1==7)
 (cond (sort1==2)
 ((AMM r1.2.1 4 (qI (depth2 - (1:Int))) vars3).bind fun r16=>
 (AMM r16.2.1 sort1 (qI (depth2 - (1:Int))) vars3).bind fun r17=>
 (B4 18 ([r16.1.1,r17.1.1]:List (List Ac))).bind fun r18=>
 some ((r18.1.1,()),r17.2.1,()))
 (cond (r1.1.1==8)
 ((EB r1.2.1 sort1).bind fun r19=>
 (CD sort1 r19.1.1).bind fun r20=>
 some ((r20.1.1,()),r19.2.1,()))
 ((DS r1.2.1 sort1 vars3).bind fun r21=>
 some ((r21.1.1,()),r21.2.1,()))))
 (cond (r1.1.1==8)
 ((EB r1.2.1 sort1).bind fun r22=>
 (CD sort1 r22.1.1).bind fun r23=>
 some ((r23.1.1,()),r22.2.1,()))
 ((DS r1.2.1 sort1 vars3).bind fun r24=>
 some ((r24.1.1,()),r24.2.1,())))))
 (cond (r1.1.1==7)
 (cond (sort1==2)
 ((AMM r1.2.1 4 (qI (depth2 - (1:Int))) vars3).bind fun r25=>
 (AMM r25.2.1 sort1 (qI (depth2 - (1:Int))) vars3).bind fun r26=>
 (B4 18 ([r25.1.1,r26.1.1]:List (List Ac))).bind fun r27=>
 some ((r27.1.1,()),r26.2.1,()))
 (cond (r1.1.1==8)
 ((EB r1.2.1 sort1).bind fun r28=>
 (CD sort1 r28.1.1).bind fun r29=>
 some ((r29.1.1,()),r28.2.1,()))
 ((DS r1.2.1 sort1 vars3).bind fun r30=>
 some ((r30.1.1,()),r30.2.1,()))))
 (cond (r1.1.1==8)
 ((EB r1.2.1 sort1).bind fun r31=>
 (CD sort1 r31.1.1).bind fun r32=>
 some ((r32.1.1,()),r31.2.1,()))
 ((DS r1.2.1 sort1 vars3).bind fun r33=>
 some ((r33.1.1,()),r33.2.1,())))))))
def Mv (AMM:Af->Int->Int->List Vr->Option (((List Ac)×Unit)×(Af×Unit))) (AML:Af->Int->List Vr->Option (((List Ac)×Unit)×(Af×Unit))) (AMP:Af->Int->Int->List Vr->Option (((List Ac)×Unit)×(Af×Unit))) (AMN:Af->Int->Int->List Vr->Option (((List Ac)×Unit)×(Af×Unit))) (AMO:Af->Int->List Vr->Option (((List Ac)×Unit)×(Af×Unit))) (c0:Af) (depth1:Int) (vars2:List Vr):Option (((List Ac)×Unit)×(Af×Unit)):=
 (AW c0 5).bind fun r1=>
 Aa (decide (0<=r1.1.1)&&decide (r1.1.1 < ([2,2,3,4,1]:List Int).length)) (
 cond ((([2,2,3,4,1]:List Int).getD r1.1.1.toNat (0:Int))==1)
 ((AW r1.2.1 3).bind fun r2=>
 cond (r2.1.1==0)
 ((AW r2.2.1 2).bind fun r3=>
 (OF (r3.1.1==1)).bind fun r4=>
 some ((r4.1.1,()),r3.2.1,()))
 ((DS r2.2.1 (([2,2,3,4,1]:List Int).getD r1.1.1.toNat (0:Int)) vars2).bind fun r5=>
 some ((r5.1.1,()),r5.2.1,())))
 (cond ((([2,2,3,4,1]:List Int).getD r1.1.1.toNat (0:Int)) !=(4:Int))
 ((AW r1.2.1 3).bind fun r6=>
 (AMM r6.2.1 (([2,2,3,4,1]:List Int).getD r1.1.1.toNat (0:Int)) depth1 vars2).bind fun r7=>
 (AMM r7.2.1 (([2,2,3,4,1]:List Int).getD r1.1.1.toNat (0:Int)) depth1 vars2).bind fun r8=>
 (B4 (qI ((11:Int)+r6.1.1)) ([r7.1.1,r8.1.1]:List (List Ac))).bind fun r9=>
 some ((r9.1.1,()),r8.2.1,()))
 ((AMM r1.2.1 (([2,2,3,4,1]:List Int).getD r1.1.1.toNat (0:Int)) depth1 vars2).bind fun r10=>
 (AMM r10.2.1 (([2,2,3,4,1]:List Int).getD r1.1.1.toNat (0:Int)) depth1 vars2).bind fun r11=>
 (B4 11 ([r10.1.1,r11.1.1]:List (List Ac))).bind fun r12=>
 some ((r12.1.1,()),r11.2.1,()))))
def BG:Nat->(Af->Int->Int->List Vr->Option (((List Ac)×Unit)×(Af×Unit)))×(Af->Int->List Vr->Option (((List Ac)×Unit)×(Af×Unit)))×(Af->Int->Int->List Vr->Option (((List Ac)×Unit)×(Af×Unit)))×(Af->Int->Int->List Vr->Option (((List Ac)×Unit)×(Af×Unit)))×(Af->Int->List Vr->Option (((List Ac)×Unit)×(Af×Unit)))
 |0=>(fun _ _ _ _=>none,fun _ _ _=>none,fun _ _ _ _=>none,fun _ _ _ _=>none,fun _ _ _=>none)
 |n+1=>(Iw (BG n).1 (BG n).2.1 (BG n).2.2.1 (BG n).2.2.2.1 (BG n).2.2.2.2,Jv (BG n).1 (BG n).2.1 (BG n).2.2.1 (BG n).2.2.2.1 (BG n).2.2.2.2,MA (BG n).1 (BG n).2.1 (BG n).2.2.1 (BG n).2.2.2.1 (BG n).2.2.2.2,Ox (BG n).1 (BG n).2.1 (BG n).2.2.1 (BG n).2.2.2.1 (BG n).2.2.2.2,Mv (BG n).1 (BG n).2.1 (BG n).2.2.1 (BG n).2.2.2.1 (BG n).2.2.2.2)
def Cu (n:Nat):Af->Int->Int->List Vr->Option (((List Ac)×Unit)×(Af×Unit)):=(BG n).1
def CY (n:Nat):Af->Int->List Vr->Option (((List Ac)×Unit)×(Af×Unit)):=(BG n).2.1
def Df (n:Nat):Af->Int->Int->List Vr->Option (((List Ac)×Unit)×(Af×Unit)):=(BG n).2.2.1
def C_ (n:Nat):Af->Int->Int->List Vr->Option (((List Ac)×Unit)×(Af×Unit)):=(BG n).2.2.2.1
def C9 (n:Nat):Af->Int->List Vr->Option (((List Ac)×Unit)×(Af×Unit)):=(BG n).2.2.2.2
def Mj (x:Af×Ae×Ae×Int×Unit):Option (Ex×(Af×Ae×Ae×Int×Unit)):=
 let c0:=x.1
 let t4:=x.2.1
 let v5:=x.2.2.1
 let n6:=x.2.2.2.1
 cond (decide (n6 > (0:Int)))
 ((EK c0).bind fun r1=>
 (EK r1.2.1).bind fun r2=>
 (Jw v5 r1.1.1 r2.1.1).bind fun r3=>
 some (Ex.normal,(r2.2.1,t4,r3.1.1,qI (n6 - (1:Int)),())))
 (some (Ex.exit 1,(c0,t4,v5,n6,())))
def I9 (c0:Af) (sort1:Int):Option ((Ae×Unit)×(Af×Unit)):=
 cond (sort1==1)
 ((AW c0 2).bind fun r1=>
 some (((sort1,r1.1.1==1,([]:qBs),([]:List qBs),([]:List qBs)),()),r1.2.1,()))
 (cond (sort1==4)
 ((EK c0).bind fun r2=>
 (AW r2.2.1 4).bind fun r3=>
 (Am Mj (r3.2.1,((0:Int),false,([]:qBs),([]:List qBs),([]:List qBs)),(sort1,false,r2.1.1,([]:List qBs),([]:List qBs)),r3.1.1,())).bind fun y4=>
 cond (Ex.same y4.1 (Ex.exit 1))
 (some ((y4.2.2.2.1,()),y4.2.1,()))
 (none))
 ((EB c0 sort1).bind fun r5=>
 some (((sort1,false,r5.1.1,([]:List qBs),([]:List qBs)),()),r5.2.1,())))
def Kj (x:Af×(List Vr)×(List Ae)×Int×Unit):Option (Ex×(Af×(List Vr)×(List Ae)×Int×Unit)):=
 let c0:=x.1
 let vars1:=x.2.1
 let out5:=x.2.2.1
 let i6:=x.2.2.2.1
 cond (decide (i6 < (vars1.length:Int)))
 (Aa (decide (0<=i6)&&decide (i6 < vars1.length)) (
 (I9 c0 ((vars1.getD i6.toNat Cb).2)).bind fun r1=>
 Aa (decide (out5.length+([r1.1.1]:List Ae).length<=Av)) (some (Ex.normal,(r1.2.1,vars1,out5++([r1.1.1]:List Ae),qI (i6+1),())))))
 (some (Ex.exit 0,(c0,vars1,out5,i6,())))
def Q0 (c0:Af) (vars1:List Vr):Option (((List Ae)×Unit)×(Af×Unit)):=
 (Am Kj (c0,vars1,([]:List Ae),0,())).bind fun y1=>
 cond (Ex.same y1.1 (Ex.exit 0))
 (some ((y1.2.2.2.1,()),y1.2.1,()))
 (none)
def KA (x:(List Vr)×(List Ae)×(List AN)×Int×Unit):Option (Ex×((List Vr)×(List Ae)×(List AN)×Int×Unit)):=
 let vars0:=x.1
 let vals1:=x.2.1
 let out5:=x.2.2.1
 let i6:=x.2.2.2.1
 cond (decide (i6 < (vars0.length:Int)))
 (Aa (decide (0<=i6)&&decide (i6 < vars0.length)) (Aa (decide (0<=i6)&&decide (i6 < vals1.length)) (Aa (decide (out5.length+([((vars0.getD i6.toNat Cb).1,vals1.getD i6.toNat zVal)]:List AN).length<=Av)) (some (Ex.normal,(vars0,vals1,out5++([((vars0.getD i6.toNat Cb).1,vals1.getD i6.toNat zVal)]:List AN),qI (i6+1),()))))))
 (some (Ex.exit 0,(vars0,vals1,out5,i6,())))
def Qi (vars0:List Vr) (vals1:List Ae):Option (((List AN)×Unit)×Unit):=
 (Am KA (vars0,vals1,([]:List AN),0,())).bind fun y1=>
 cond (Ex.same y1.1 (Ex.exit 0))
 (some ((y1.2.2.2.1,()),()))
 (none)
def OJ (c0:Af) (vars1:List Vr):Option (((List AN)×Unit)×(Af×Unit)):=
 (Q0 c0 vars1).bind fun r1=>
 (Qi vars1 r1.1.1).bind fun r2=>
 some ((r2.1.1,()),r1.2.1,())
def Jp (v0:Ae):Option ((Bool×Unit)×Unit):=
 cond ((v0.2.2.2.1.length:Int)==0)
 (some (((v0.2.2.2.2.length:Int)==0,()),()))
 (some ((false,()),()))
def FS (x:qBs×Bool×(List Int)×Int×Int×Unit):Option (Ex×(qBs×Bool×(List Int)×Int×Int×Unit)):=
 let s0:=x.1
 let t2:=x.2.1
 let t6:=x.2.2.1
 let t7:=x.2.2.2.1
 let t8:=x.2.2.2.2.1
 cond (decide (t8 < t7))
 (Aa (decide (0<=t8)&&decide (t8 < t6.length)) (
 cond (decide ((t6.getD t8.toNat (0:Int)) < (48:Int)))
 (some (Ex.ret,(s0,false,t6,t7,t8,())))
 (cond (decide ((t6.getD t8.toNat (0:Int)) > (57:Int)))
 (some (Ex.ret,(s0,false,t6,t7,t8,())))
 (some (Ex.normal,(s0,t2,t6,t7,qI (t8+1),()))))))
 (some (Ex.exit 0,(s0,t2,t6,t7,t8,())))
def Fa (s0:qBs):Option ((Bool×Unit)×Unit):=
 (Am FS (s0,false,s0.map fun b=>(b.toNat:Int),((s0.map fun b=>(b.toNat:Int)).length:Int),0,())).bind fun y1=>
 cond (Ex.same y1.1 (Ex.exit 0))
 (cond (y1.2.1==([48]:qBs))
 (some ((true,()),()))
 (cond (!(y1.2.1==([]:qBs)))
 (Aa (decide (0<=(0:Int))&&decide ((0:Int) < y1.2.1.length)) (some ((((y1.2.1.getD (0:Int).toNat 0).toNat:Int) !=(48:Int),()),())))
 (some ((false,()),()))))
 (cond (Ex.same y1.1 Ex.ret)
 (some ((y1.2.2.1,()),()))
 (none))
def CZ (a0:qBs):Option ((Bool×Unit)×Unit):=
 (strings_CutPrefix a0 ([45]:qBs)).bind fun r1=>
 (Fa r1.1.1).bind fun r2=>
 cond (r2.1.1)
 (cond (r1.1.2.1)
 (some ((!(r1.1.1==([48]:qBs)),()),()))
 (some ((true,()),())))
 (some ((false,()),()))
def L4 (x:Int×Int×Unit):Option (Ex×(Int×Int×Unit)):=
 let a0:=x.1
 let b1:=x.2.1
 cond (b1 !=(0:Int))
 (Aa (b1 !=0) (some (Ex.normal,(b1,a0.tmod b1,()))))
 (some (Ex.exit 0,(a0,b1,())))
def Hq (a0:Int) (b1:Int):Option ((Int×Unit)×Unit):=
 (Am L4 (a0,b1,())).bind fun y1=>
 cond (Ex.same y1.1 (Ex.exit 0))
 (some ((y1.2.1,()),()))
 (none)
def BU (a0:qBs):Option ((Bt×Bool×Unit)×Unit):=
 (strings_CutPrefix a0 ([45]:qBs)).bind fun r1=>
 (strings_Cut r1.1.1 ([47]:qBs)).bind fun r2=>
 cond (decide ((r2.1.1.length:Int) > (9:Int)))
 (some ((((0:Int),(0:Int)),false,()),()))
 (cond (decide ((r2.1.2.1.length:Int) > (9:Int)))
 (some ((((0:Int),(0:Int)),false,()),()))
 ((Fa r2.1.1).bind fun r3=>
 cond (!r3.1.1)
 (some ((((0:Int),(0:Int)),false,()),()))
 (cond (r2.1.1==([48]:qBs))
 (cond (r1.1.2.1)
 (some ((((0:Int),(0:Int)),false,()),()))
 (cond (r2.1.2.2.1)
 (some ((((0:Int),(0:Int)),false,()),()))
 ((Gy r2.1.1 10 64).bind fun r4=>
 cond (r2.1.2.2.1)
 ((Fa r2.1.2.1).bind fun r5=>
 cond (!r5.1.1)
 (some ((((0:Int),(0:Int)),false,()),()))
 ((Gy r2.1.2.1 10 64).bind fun r6=>
 cond (decide (r6.1.1 < (2:Int)))
 (some ((((0:Int),(0:Int)),false,()),()))
 ((Hq r4.1.1 r6.1.1).bind fun r7=>
 cond (r7.1.1 !=(1:Int))
 (some ((((0:Int),(0:Int)),false,()),()))
 (cond (r1.1.2.1)
 (some (((qI (0 - r4.1.1),r6.1.1),true,()),()))
 (some (((r4.1.1,r6.1.1),true,()),()))))))
 (cond (r1.1.2.1)
 (some (((qI (0 - r4.1.1),1),true,()),()))
 (some (((r4.1.1,1),true,()),()))))))
 ((Gy r2.1.1 10 64).bind fun r8=>
 cond (r2.1.2.2.1)
 ((Fa r2.1.2.1).bind fun r9=>
 cond (!r9.1.1)
 (some ((((0:Int),(0:Int)),false,()),()))
 ((Gy r2.1.2.1 10 64).bind fun r10=>
 cond (decide (r10.1.1 < (2:Int)))
 (some ((((0:Int),(0:Int)),false,()),()))
 ((Hq r8.1.1 r10.1.1).bind fun r11=>
 cond (r11.1.1 !=(1:Int))
 (some ((((0:Int),(0:Int)),false,()),()))
 (cond (r1.1.2.1)
 (some (((qI (0 - r8.1.1),r10.1.1),true,()),()))
 (some (((r8.1.1,r10.1.1),true,()),()))))))
 (cond (r1.1.2.1)
 (some (((qI (0 - r8.1.1),1),true,()),()))
 (some (((r8.1.1,1),true,()),())))))))
def Ez (x:(List Int)×Int×Unit):Option (Ex×((List Int)×Int×Unit)):=
 let a0:=x.1
 let n3:=x.2.1
 cond (decide (n3 > (0:Int)))
 (Aa (decide (0<=qI (n3 - (1:Int)))&&decide (qI (n3 - (1:Int)) < a0.length)) (
 cond ((a0.getD (qI (n3 - (1:Int))).toNat (0:Int))==0)
 (some (Ex.normal,(a0,qI (n3 - (1:Int)),())))
 (some (Ex.exit 0,(a0,n3,())))))
 (some (Ex.exit 0,(a0,n3,())))
def Eu (a0:List Int):Option (((List Int)×Unit)×Unit):=
 (Am Ez (a0,(a0.length:Int),())).bind fun y1=>
 cond (Ex.same y1.1 (Ex.exit 0))
 (Aa (decide (0<=y1.2.2.1)&&decide (y1.2.2.1<=y1.2.1.length)) (some ((y1.2.1.take y1.2.2.1.toNat,()),())))
 (none)
def Jd (x:qBs×(List Int)×Int×Int×(List Int)×Int×Int×Unit):Option (Ex×(qBs×(List Int)×Int×Int×(List Int)×Int×Int×Unit)):=
 let s0:=x.1
 let out3:=x.2.1
 let end4:=x.2.2.1
 let v5:=x.2.2.2.1
 let t20:=x.2.2.2.2.1
 let t21:=x.2.2.2.2.2.1
 let t22:=x.2.2.2.2.2.2.1
 cond (decide (t22 < t21))
 (Aa (decide (0<=t22)&&decide (t22 < t20.length)) (some (Ex.normal,(s0,out3,end4,IntKind.u32.wrap ((IntKind.u32.wrap (v5 * (10:Int)))+(IntKind.u32.wrap (IntKind.u8.wrap ((t20.getD t22.toNat (0:Int)) - (48:Int))))),t20,t21,qI (t22+1),()))))
 (some (Ex.exit 2,(s0,out3,end4,v5,t20,t21,t22,())))
def J6 (x:qBs×(List Int)×Int×Unit):Option (Ex×(qBs×(List Int)×Int×Unit)):=
 let s0:=x.1
 let out3:=x.2.1
 let end4:=x.2.2.1
 cond (decide (end4 > (0:Int)))
 (Aa (decide (0<=BS (qI (end4 - (9:Int))) (0:Int))&&decide (BS (qI (end4 - (9:Int))) (0:Int)<=end4)&&decide (end4<=s0.length)) (
 (Am Jd (s0,out3,end4,0,((s0.take end4.toNat).drop (BS (qI (end4 - (9:Int))) (0:Int)).toNat).map fun b=>(b.toNat:Int),((((s0.take end4.toNat).drop (BS (qI (end4 - (9:Int))) (0:Int)).toNat).map fun b=>(b.toNat:Int)).length:Int),0,())).bind fun y1=>
 cond (Ex.same y1.1 (Ex.exit 2))
 (Aa (decide (y1.2.2.1.length+([y1.2.2.2.2.1]:List Int).length<=Av)) (some (Ex.normal,(y1.2.1,y1.2.2.1++([y1.2.2.2.2.1]:List Int),qI (y1.2.2.2.1 - (9:Int)),()))))
 (none)))
 (some (Ex.exit 0,(s0,out3,end4,())))
def HE (s0:qBs):Option (((List Int)×Unit)×Unit):=
 (Am J6 (s0,([]:List Int),(s0.length:Int),())).bind fun y1=>
 cond (Ex.same y1.1 (Ex.exit 0))
 ((Eu y1.2.2.1).bind fun r2=>
 some ((r2.1.1,()),()))
 (none)
def Iy (x:(List Int)×(List Int)×Int×Int×Unit):Option (Ex×((List Int)×(List Int)×Int×Int×Unit)):=
 let a0:=x.1
 let b1:=x.2.1
 let t4:=x.2.2.1
 let i5:=x.2.2.2.1
 cond (decide (i5>=0))
 (Aa (decide (0<=i5)&&decide (i5 < a0.length)) (
 Aa (decide (0<=i5)&&decide (i5 < b1.length)) (
 cond ((a0.getD i5.toNat (0:Int)) !=(b1.getD i5.toNat (0:Int)))
 (Aa (decide (0<=i5)&&decide (i5 < a0.length)) (Aa (decide (0<=i5)&&decide (i5 < b1.length)) (some (Ex.ret,(a0,b1,qI ((qI (a0.getD i5.toNat (0:Int))) - (qI (b1.getD i5.toNat (0:Int)))),i5,())))))
 (some (Ex.normal,(a0,b1,t4,qI (i5 - (1:Int)),()))))))
 (some (Ex.exit 0,(a0,b1,t4,i5,())))
def If (a0:List Int) (b1:List Int):Option ((Int×Unit)×Unit):=
 cond ((a0.length:Int) !=(b1.length:Int))
 (some ((qI ((a0.length:Int) - (b1.length:Int)),()),()))
 ((Am Iy (a0,b1,0,qI ((a0.length:Int) - (1:Int)),())).bind fun y1=>
 cond (Ex.same y1.1 (Ex.exit 0))
 (some ((0,()),()))
 (cond (Ex.same y1.1 Ex.ret)
 (some ((y1.2.2.2.1,()),()))
 (none)))
def L' (x:(List Int)×Int×(List Int)×Int×Int×Unit):Option (Ex×((List Int)×Int×(List Int)×Int×Int×Unit)):=
 let a0:=x.1
 let b1:=x.2.1
 let q6:=x.2.2.1
 let rest7:=x.2.2.2.1
 let i8:=x.2.2.2.2.1
 cond (decide (i8>=0))
 (Aa (decide (0<=i8)&&decide (i8 < a0.length)) (Aa ((qU (b1)) !=0) (Aa ((qU (b1)) !=0) (Aa (decide (0<=i8)&&decide (i8 < q6.length)) (Aa (decide (i8.toNat < q6.length)) (some (Ex.normal,(a0,b1,q6.set i8.toNat (IntKind.u32.wrap (qU ((qU ((qU (rest7 * (1000000000:Int)))+(qU (a0.getD i8.toNat (0:Int))))).tdiv (qU (b1))))),(qU ((qU (rest7 * (1000000000:Int)))+(qU (a0.getD i8.toNat (0:Int))))).tmod (qU (b1)),qI (i8 - (1:Int)),()))))))))
 (some (Ex.exit 0,(a0,b1,q6,rest7,i8,())))
def IX (a0:List Int) (b1:Int):Option (((List Int)×(List Int)×Unit)×Unit):=
 Aa (decide (0<=(a0.length:Int))&&decide ((a0.length:Int)<=(a0.length:Int))&&decide ((a0.length:Int)<=Av)) (
 (Am L' (a0,b1,List.replicate (a0.length:Int).toNat (0:Int),0,qI ((a0.length:Int) - (1:Int)),())).bind fun y1=>
 cond (Ex.same y1.1 (Ex.exit 0))
 ((Eu y1.2.2.2.1).bind fun r2=>
 (Eu ([IntKind.u32.wrap (y1.2.2.2.2.1)]:List Int)).bind fun r3=>
 some ((r2.1.1,r3.1.1,()),()))
 (none))
def NM (x:(List Int)×Int×Unit):Option (Ex×((List Int)×Int×Unit)):=
 let a0:=x.1
 let n3:=x.2.1
 cond (decide (n3 > (0:Int)))
 (Aa (decide (0<=qI (n3 - (1:Int)))&&decide (qI (n3 - (1:Int)) < a0.length)) (
 Aa (decide ((qI (n3 - (1:Int))).toNat < a0.length)) (
 cond ((a0.getD ((qI (n3 - (1:Int))).toNat) (0:Int))==0)
 (some (Ex.normal,(a0,qI (n3 - (1:Int)),())))
 (some (Ex.exit 0,(a0,n3,()))))))
 (some (Ex.exit 0,(a0,n3,())))
def Oz (a0:List Int):Option ((Nat×Unit)×((List Int)×Unit)):=
 (Am NM (a0,(a0.length:Int),())).bind fun y1=>
 cond (Ex.same y1.1 (Ex.exit 0))
 (Aa (decide (0<=y1.2.2.1)&&decide (y1.2.2.1<=y1.2.1.length)) (some ((y1.2.2.1.toNat,()),y1.2.1,())))
 (none)
def Xf (x:(List Int)×(List Int)×Int×Int×Int×(List Int)×Int×Int×(List Int)×Int×Int×Unit):Option (Ex×((List Int)×(List Int)×Int×Int×Int×(List Int)×Int×Int×(List Int)×Int×Int×Unit)):=
 let b1:=x.1
 let out5:=x.2.1
 let i6:=x.2.2.1
 let x7:=x.2.2.2.1
 let carry8:=x.2.2.2.2.1
 let t18:=x.2.2.2.2.2.1
 let t19:=x.2.2.2.2.2.2.1
 let t20:=x.2.2.2.2.2.2.2.1
 let t25:=x.2.2.2.2.2.2.2.2.1
 let t26:=x.2.2.2.2.2.2.2.2.2.1
 let t27:=x.2.2.2.2.2.2.2.2.2.2.1
 cond (decide (t27 < t26))
 (Aa (decide (0<=t27)&&decide (t27 < t25.length)) (Aa (decide (0<=qI (i6+t27))&&decide (qI (i6+t27) < out5.length)) (Aa (decide ((qI (i6+t27)).toNat < out5.length)) (Aa ((1000000000:Int) !=0) (Aa ((1000000000:Int) !=0) (Aa (decide (0<=qI (i6+t27))&&decide (qI (i6+t27) < out5.length)) (Aa (decide ((qI (i6+t27)).toNat < out5.length)) (some (Ex.normal,(b1,out5.set ((qI (i6+t27)).toNat) (IntKind.u32.wrap ((qU ((qU ((qU (out5.getD ((qI (i6+t27)).toNat) (0:Int)))+(qU ((qU (x7)) * (qU (t25.getD t27.toNat (0:Int)))))))+carry8)).tmod 1000000000)),i6,x7,qU ((qU ((qU ((qU (out5.getD ((qI (i6+t27)).toNat) (0:Int)))+(qU ((qU (x7)) * (qU (t25.getD t27.toNat (0:Int)))))))+carry8)).tdiv 1000000000),t18,t19,t20,t25,t26,qI (t27+1),()))))))))))
 (some (Ex.exit 2,(b1,out5,i6,x7,carry8,t18,t19,t20,t25,t26,t27,())))
def QU (x:(List Int)×(List Int)×(List Int)×Int×Int×Unit):Option (Ex×((List Int)×(List Int)×(List Int)×Int×Int×Unit)):=
 let b1:=x.1
 let out5:=x.2.1
 let t18:=x.2.2.1
 let t19:=x.2.2.2.1
 let t20:=x.2.2.2.2.1
 cond (decide (t20 < t19))
 (Aa (decide (0<=t20)&&decide (t20 < t18.length)) (
 (Am Xf (b1,out5,t20,t18.getD t20.toNat (0:Int),0,t18,t19,t20,b1,(b1.length:Int),0,())).bind fun y1=>
 cond (Ex.same y1.1 (Ex.exit 2))
 (Aa (decide (0<=qI (y1.2.2.2.1+(y1.2.1.length:Int)))&&decide (qI (y1.2.2.2.1+(y1.2.1.length:Int)) < y1.2.2.1.length)) (Aa (decide ((qI (y1.2.2.2.1+(y1.2.1.length:Int))).toNat < y1.2.2.1.length)) (some (Ex.normal,(y1.2.1,y1.2.2.1.set ((qI (y1.2.2.2.1+(y1.2.1.length:Int))).toNat) (IntKind.u32.wrap (y1.2.2.2.2.2.1)),y1.2.2.2.2.2.2.1,y1.2.2.2.2.2.2.2.1,qI (y1.2.2.2.2.2.2.2.2.1+1),())))))
 (none)))
 (some (Ex.exit 0,(b1,out5,t18,t19,t20,())))
def LV (a0:List Int) (b1:List Int):Option (((List Int)×Unit)×Unit):=
 Aa (decide (0<=qI ((a0.length:Int)+(b1.length:Int)))&&decide (qI ((a0.length:Int)+(b1.length:Int))<=qI ((a0.length:Int)+(b1.length:Int)))&&decide (qI ((a0.length:Int)+(b1.length:Int))<=Av)) (
 (Am QU (b1,List.replicate (qI ((a0.length:Int)+(b1.length:Int))).toNat (0:Int),a0,(a0.length:Int),0,())).bind fun y1=>
 cond (Ex.same y1.1 (Ex.exit 0))
 ((Oz y1.2.2.1).bind fun r2=>
 some ((r2.2.1.take r2.1.1,()),()))
 (none))
def Fu (x:(List Int)×(List Int)×Int×Int×Int×Int×Int×Unit):Option (Ex×((List Int)×(List Int)×Int×Int×Int×Int×Int×Unit)):=
 let u0:=x.1
 let v1:=x.2.1
 let times2:=x.2.2.1
 let carry7:=x.2.2.2.1
 let borrow8:=x.2.2.2.2.1
 let t12:=x.2.2.2.2.2.1
 let t13:=x.2.2.2.2.2.2.1
 cond (decide (t13 < t12))
 (cond (decide (t13 < (v1.length:Int)))
 (Aa (decide (0<=t13)&&decide (t13 < v1.length)) (
 Aa (decide (0<=t13)&&decide (t13 < u0.length)) (
 Aa (decide (t13.toNat < u0.length)) (
 Aa ((1000000000:Int) !=0) (
 Aa ((1000000000:Int) !=0) (
 cond (decide ((qI ((qI ((qI (u0.getD t13.toNat (0:Int))) - borrow8)) - (qI ((qU (carry7+(qU (times2 * (qU (v1.getD t13.toNat (0:Int))))))).tmod 1000000000)))) < (0:Int)))
 (Aa (decide (0<=t13)&&decide (t13 < u0.length)) (Aa (decide (t13.toNat < u0.length)) (some (Ex.normal,(u0.set t13.toNat (IntKind.u32.wrap (qI ((qI ((qI ((qI (u0.getD t13.toNat (0:Int))) - borrow8)) - (qI ((qU (carry7+(qU (times2 * (qU (v1.getD t13.toNat (0:Int))))))).tmod 1000000000))))+1000000000))),v1,times2,qU ((qU (carry7+(qU (times2 * (qU (v1.getD t13.toNat (0:Int))))))).tdiv 1000000000),1,t12,qI (t13+1),())))))
 (Aa (decide (0<=t13)&&decide (t13 < u0.length)) (Aa (decide (t13.toNat < u0.length)) (some (Ex.normal,(u0.set t13.toNat (IntKind.u32.wrap (qI ((qI ((qI (u0.getD t13.toNat (0:Int))) - borrow8)) - (qI ((qU (carry7+(qU (times2 * (qU (v1.getD t13.toNat (0:Int))))))).tmod 1000000000))))),v1,times2,qU ((qU (carry7+(qU (times2 * (qU (v1.getD t13.toNat (0:Int))))))).tdiv 1000000000),0,t12,qI (t13+1),())))))))))))
 (Aa (decide (0<=t13)&&decide (t13 < u0.length)) (
 Aa (decide (t13.toNat < u0.length)) (
 Aa ((1000000000:Int) !=0) (
 Aa ((1000000000:Int) !=0) (
 cond (decide ((qI ((qI ((qI (u0.getD t13.toNat (0:Int))) - borrow8)) - (qI (carry7.tmod 1000000000)))) < (0:Int)))
 (Aa (decide (0<=t13)&&decide (t13 < u0.length)) (Aa (decide (t13.toNat < u0.length)) (some (Ex.normal,(u0.set t13.toNat (IntKind.u32.wrap (qI ((qI ((qI ((qI (u0.getD t13.toNat (0:Int))) - borrow8)) - (qI (carry7.tmod 1000000000))))+1000000000))),v1,times2,qU (carry7.tdiv 1000000000),1,t12,qI (t13+1),())))))
 (Aa (decide (0<=t13)&&decide (t13 < u0.length)) (Aa (decide (t13.toNat < u0.length)) (some (Ex.normal,(u0.set t13.toNat (IntKind.u32.wrap (qI ((qI ((qI (u0.getD t13.toNat (0:Int))) - borrow8)) - (qI (carry7.tmod 1000000000))))),v1,times2,qU (carry7.tdiv 1000000000),0,t12,qI (t13+1),())))))))))))
 (some (Ex.exit 0,(u0,v1,times2,carry7,borrow8,t12,t13,())))
def KM (u0:List Int) (v1:List Int) (times2:Int):Option ((Bool×Unit)×((List Int)×Unit)):=
 (Am Fu (u0,v1,times2,0,0,(u0.length:Int),0,())).bind fun y1=>
 cond (Ex.same y1.1 (Ex.exit 0))
 (some ((decide (y1.2.2.2.2.2.1 > (0:Int)),()),y1.2.1,()))
 (none)
def Hf (a0:List Int) (i1:Int):Option ((Int×Unit)×Unit):=
 cond (decide (i1>=(a0.length:Int)))
 (some ((0,()),()))
 (Aa (decide (0<=i1)&&decide (i1 < a0.length)) (some ((a0.getD i1.toNat (0:Int),()),())))
def K3 (x:(List Int)×(List Int)×Int×Int×Int×Unit):Option (Ex×((List Int)×(List Int)×Int×Int×Int×Unit)):=
 let u0:=x.1
 let v1:=x.2.1
 let carry4:=x.2.2.1
 let t8:=x.2.2.2.1
 let t9:=x.2.2.2.2.1
 cond (decide (t9 < t8))
 (Aa (decide (0<=t9)&&decide (t9 < u0.length)) (
 Aa (decide (t9.toNat < u0.length)) (
 (Hf v1 t9).bind fun r1=>
 Aa ((1000000000:Int) !=0) (Aa ((1000000000:Int) !=0) (Aa (decide (0<=t9)&&decide (t9 < u0.length)) (Aa (decide (t9.toNat < u0.length)) (some (Ex.normal,(u0.set t9.toNat ((IntKind.u32.wrap ((IntKind.u32.wrap ((u0.getD t9.toNat (0:Int))+r1.1.1))+carry4)).tmod 1000000000),v1,IntKind.u32.wrap ((IntKind.u32.wrap ((IntKind.u32.wrap ((u0.getD t9.toNat (0:Int))+r1.1.1))+carry4)).tdiv 1000000000),t8,qI (t9+1),())))))))))
 (some (Ex.exit 0,(u0,v1,carry4,t8,t9,())))
def Lq (u0:List Int) (v1:List Int):Option ((Unit)×((List Int)×Unit)):=
 (Am K3 (u0,v1,0,(u0.length:Int),0,())).bind fun y1=>
 cond (Ex.same y1.1 (Ex.exit 0))
 (some ((),y1.2.1,()))
 (none)
def EW (x:(List Int)×(List Int)×Int×Int×Int×Int×Unit):Option (Ex×((List Int)×(List Int)×Int×Int×Int×Int×Unit)):=
 let u0:=x.1
 let v1:=x.2.1
 let n5:=x.2.2.1
 let first7:=x.2.2.2.1
 let guess8:=x.2.2.2.2.1
 let rest9:=x.2.2.2.2.2.1
 cond (decide (guess8>=1000000000))
 (cond (decide ((qU (rest9+first7))>=1000000000))
 (some (Ex.exit 0,(u0,v1,n5,first7,qU (guess8 - (1:Int)),qU (rest9+first7),())))
 (some (Ex.normal,(u0,v1,n5,first7,qU (guess8 - (1:Int)),qU (rest9+first7),()))))
 (Aa (decide (0<=qI (n5 - (2:Int)))&&decide (qI (n5 - (2:Int)) < v1.length)) (
 Aa (decide (0<=qI (n5 - (2:Int)))&&decide (qI (n5 - (2:Int)) < u0.length)) (
 Aa (decide ((qI (n5 - (2:Int))).toNat < u0.length)) (
 cond (decide ((qU (guess8 * (qU (v1.getD (qI (n5 - (2:Int))).toNat (0:Int))))) > (qU ((qU (rest9 * (1000000000:Int)))+(qU (u0.getD ((qI (n5 - (2:Int))).toNat) (0:Int)))))))
 (cond (decide ((qU (rest9+first7))>=1000000000))
 (some (Ex.exit 0,(u0,v1,n5,first7,qU (guess8 - (1:Int)),qU (rest9+first7),())))
 (some (Ex.normal,(u0,v1,n5,first7,qU (guess8 - (1:Int)),qU (rest9+first7),()))))
 (some (Ex.exit 0,(u0,v1,n5,first7,guess8,rest9,())))))))
def Ka (u0:List Int) (v1:List Int):Option ((Int×Unit)×((List Int)×Unit)):=
 Aa (decide (0<=(v1.length:Int))&&decide ((v1.length:Int) < u0.length)) (
 Aa (decide ((v1.length:Int).toNat < u0.length)) (
 Aa (decide (0<=qI ((v1.length:Int) - (1:Int)))&&decide (qI ((v1.length:Int) - (1:Int)) < u0.length)) (
 Aa (decide ((qI ((v1.length:Int) - (1:Int))).toNat < u0.length)) (
 Aa (decide (0<=qI ((v1.length:Int) - (1:Int)))&&decide (qI ((v1.length:Int) - (1:Int)) < v1.length)) (
 Aa ((qU (v1.getD (qI ((v1.length:Int) - (1:Int))).toNat (0:Int))) !=0) (
 Aa ((qU (v1.getD (qI ((v1.length:Int) - (1:Int))).toNat (0:Int))) !=0) (
 (Am EW (u0,v1,(v1.length:Int),qU (v1.getD (qI ((v1.length:Int) - (1:Int))).toNat (0:Int)),qU ((qU ((qU ((qU (u0.getD ((v1.length:Int).toNat) (0:Int))) * (1000000000:Int)))+(qU (u0.getD ((qI ((v1.length:Int) - (1:Int))).toNat) (0:Int))))).tdiv (qU (v1.getD (qI ((v1.length:Int) - (1:Int))).toNat (0:Int)))),(qU ((qU ((qU (u0.getD ((v1.length:Int).toNat) (0:Int))) * (1000000000:Int)))+(qU (u0.getD ((qI ((v1.length:Int) - (1:Int))).toNat) (0:Int))))).tmod (qU (v1.getD (qI ((v1.length:Int) - (1:Int))).toNat (0:Int))),())).bind fun y1=>
 cond (Ex.same y1.1 (Ex.exit 0))
 ((KM y1.2.1 y1.2.2.1 y1.2.2.2.2.2.1).bind fun r2=>
 cond (r2.1.1)
 ((Lq r2.2.1 y1.2.2.1).bind fun r3=>
 some ((IntKind.u32.wrap (qU (y1.2.2.2.2.2.1 - (1:Int))),()),r3.2.1,()))
 (some ((IntKind.u32.wrap (y1.2.2.2.2.2.1),()),r2.2.1,())))
 (none))))))))
def JV (x:(List Int)×(List Int)×(List Int)×(List Int)×Unit):Option (Ex×((List Int)×(List Int)×(List Int)×(List Int)×Unit)):=
 let a0:=x.1
 let scale6:=x.2.1
 let u7:=x.2.2.1
 let v8:=x.2.2.2.1
 cond (decide ((u7.length:Int)<=(a0.length:Int)))
 (Aa (decide (u7.length+([0]:List Int).length<=Av)) (some (Ex.normal,(a0,scale6,u7++([0]:List Int),v8,()))))
 (some (Ex.exit 1,(a0,scale6,u7,v8,())))
def IA (x:(List Int)×(List Int)×(List Int)×(List Int)×Int×Unit):Option (Ex×((List Int)×(List Int)×(List Int)×(List Int)×Int×Unit)):=
 let scale6:=x.1
 let u7:=x.2.1
 let v8:=x.2.2.1
 let q9:=x.2.2.2.1
 let j10:=x.2.2.2.2.1
 cond (decide (j10>=0))
 (Aa (decide (0<=j10)&&decide (j10<=qI ((qI (j10+(v8.length:Int)))+1))&&decide (qI ((qI (j10+(v8.length:Int)))+1)<=u7.length)) (
 (Ka ((u7.drop j10.toNat).take ((qI ((qI (j10+(v8.length:Int)))+1)).toNat - j10.toNat)) v8).bind fun r1=>
 Aa (decide (0<=j10)&&decide (j10 < q9.length)) (Aa (decide (j10.toNat < q9.length)) (some (Ex.normal,(scale6,u7.take j10.toNat++r1.2.1++u7.drop (j10.toNat+((qI ((qI (j10+(v8.length:Int)))+1)).toNat - j10.toNat)),v8,q9.set j10.toNat r1.1.1,qI (j10 - (1:Int)),()))))))
 (some (Ex.exit 3,(scale6,u7,v8,q9,j10,())))
def G' (a0:List Int) (b1:List Int):Option (((List Int)×(List Int)×Unit)×Unit):=
 (If a0 b1).bind fun r1=>
 cond (decide (r1.1.1 < (0:Int)))
 (some ((([]:List Int),a0,()),()))
 (cond ((b1.length:Int)==1)
 (Aa (decide (0<=(0:Int))&&decide ((0:Int) < b1.length)) (
 (IX a0 (b1.getD (0:Int).toNat (0:Int))).bind fun r2=>
 some ((r2.1.1,r2.1.2.1,()),())))
 (Aa (decide (0<=qI ((b1.length:Int) - (1:Int)))&&decide (qI ((b1.length:Int) - (1:Int)) < b1.length)) (
 Aa ((qU ((qU (b1.getD (qI ((b1.length:Int) - (1:Int))).toNat (0:Int)))+1)) !=0) (
 (LV a0 ([IntKind.u32.wrap (qU ((1000000000:Int).tdiv (qU ((qU (b1.getD (qI ((b1.length:Int) - (1:Int))).toNat (0:Int)))+1))))]:List Int)).bind fun r3=>
 (LV b1 ([IntKind.u32.wrap (qU ((1000000000:Int).tdiv (qU ((qU (b1.getD (qI ((b1.length:Int) - (1:Int))).toNat (0:Int)))+1))))]:List Int)).bind fun r4=>
 (Am JV (a0,([IntKind.u32.wrap (qU ((1000000000:Int).tdiv (qU ((qU (b1.getD (qI ((b1.length:Int) - (1:Int))).toNat (0:Int)))+1))))]:List Int),r3.1.1,r4.1.1,())).bind fun y5=>
 cond (Ex.same y5.1 (Ex.exit 1))
 (Aa (decide (0<=qI ((y5.2.2.2.1.length:Int) - (y5.2.2.2.2.1.length:Int)))&&decide (qI ((y5.2.2.2.1.length:Int) - (y5.2.2.2.2.1.length:Int))<=qI ((y5.2.2.2.1.length:Int) - (y5.2.2.2.2.1.length:Int)))&&decide (qI ((y5.2.2.2.1.length:Int) - (y5.2.2.2.2.1.length:Int))<=Av)) (
 (Am IA (y5.2.2.1,y5.2.2.2.1,y5.2.2.2.2.1,List.replicate (qI ((y5.2.2.2.1.length:Int) - (y5.2.2.2.2.1.length:Int))).toNat (0:Int),qI (((List.replicate (qI ((y5.2.2.2.1.length:Int) - (y5.2.2.2.2.1.length:Int))).toNat (0:Int)).length:Int) - (1:Int)),())).bind fun y6=>
 cond (Ex.same y6.1 (Ex.exit 3))
 ((Eu y6.2.2.1).bind fun r7=>
 Aa (decide (0<=(0:Int))&&decide ((0:Int) < y6.2.1.length)) (
 (IX r7.1.1 (y6.2.1.getD (0:Int).toNat (0:Int))).bind fun r8=>
 (Eu y6.2.2.2.2.1).bind fun r9=>
 some ((r9.1.1,r8.1.1,()),())))
 (none)))
 (none)))))
def K9 (x:(List Int)×(List Int)×Unit):Option (Ex×((List Int)×(List Int)×Unit)):=
 let a0:=x.1
 let b1:=x.2.1
 cond (decide ((b1.length:Int) > (0:Int)))
 ((G' a0 b1).bind fun r1=>
 some (Ex.normal,(b1,r1.1.2.1,())))
 (some (Ex.exit 0,(a0,b1,())))
def Jr (a0:List Int) (b1:List Int):Option (((List Int)×Unit)×Unit):=
 (Am K9 (a0,b1,())).bind fun y1=>
 cond (Ex.same y1.1 (Ex.exit 0))
 (some ((y1.2.1,()),()))
 (none)
def Fo (a0:List Int):Option ((Bool×Unit)×Unit):=
 cond ((a0.length:Int)==1)
 (Aa (decide (0<=(0:Int))&&decide ((0:Int) < a0.length)) (some (((a0.getD (0:Int).toNat (0:Int))==1,()),())))
 (some ((false,()),()))
def BY (a0:qBs):Option ((Rt×Bool×Unit)×Unit):=
 (strings_CutPrefix a0 ([45]:qBs)).bind fun r1=>
 (strings_Cut r1.1.1 ([47]:qBs)).bind fun r2=>
 (Fa r2.1.1).bind fun r3=>
 cond (!r3.1.1)
 (some (((false,([]:List Int),([]:List Int)),false,()),()))
 (cond (r2.1.1==([48]:qBs))
 (cond (r1.1.2.1)
 (some (((false,([]:List Int),([]:List Int)),false,()),()))
 (cond (r2.1.2.2.1)
 (some (((false,([]:List Int),([]:List Int)),false,()),()))
 ((HE r2.1.1).bind fun r4=>
 cond (!r2.1.2.2.1)
 (some (((r1.1.2.1,r4.1.1,([1]:List Int)),true,()),()))
 ((Fa r2.1.2.1).bind fun r5=>
 cond (!r5.1.1)
 (some (((false,([]:List Int),([]:List Int)),false,()),()))
 (cond (r2.1.2.1==([48]:qBs))
 (some (((false,([]:List Int),([]:List Int)),false,()),()))
 (cond (r2.1.2.1==([49]:qBs))
 (some (((false,([]:List Int),([]:List Int)),false,()),()))
 ((HE r2.1.2.1).bind fun r6=>
 (Jr r4.1.1 r6.1.1).bind fun r7=>
 (Fo r7.1.1).bind fun r8=>
 some (((r1.1.2.1,r4.1.1,r6.1.1),r8.1.1,()),()))))))))
 ((HE r2.1.1).bind fun r9=>
 cond (!r2.1.2.2.1)
 (some (((r1.1.2.1,r9.1.1,([1]:List Int)),true,()),()))
 ((Fa r2.1.2.1).bind fun r10=>
 cond (!r10.1.1)
 (some (((false,([]:List Int),([]:List Int)),false,()),()))
 (cond (r2.1.2.1==([48]:qBs))
 (some (((false,([]:List Int),([]:List Int)),false,()),()))
 (cond (r2.1.2.1==([49]:qBs))
 (some (((false,([]:List Int),([]:List Int)),false,()),()))
 ((HE r2.1.2.1).bind fun r11=>
 (Jr r9.1.1 r11.1.1).bind fun r12=>
 (Fo r12.1.1).bind fun r13=>
 some (((r1.1.2.1,r9.1.1,r11.1.1),r13.1.1,()),())))))))
def Fl (a0:qBs):Option ((Bool×Unit)×Unit):=
 (BU a0).bind fun r1=>
 cond (r1.1.2.1)
 (some ((true,()),()))
 ((BY a0).bind fun r2=>
 some ((r2.1.2.1,()),()))
def F8 (a0:qBs):Option ((Int×Unit)×Unit):=
 (Fl a0).bind fun r1=>
 cond (!r1.1.1)
 (some ((0,()),()))
 (cond (a0==([48]:qBs))
 (some ((0,()),()))
 (Aa (decide (0<=(0:Int))&&decide ((0:Int) < a0.length)) (
 cond (((a0.getD (0:Int).toNat 0).toNat:Int)==45)
 (some ((-1,()),()))
 (some ((1,()),())))))
def Kq (a0:qBs):Option ((qBs×Unit)×Unit):=
 (F8 a0).bind fun r1=>
 cond (decide (r1.1.1 < (0:Int)))
 (Aa (decide (0<=(1:Int))&&decide ((1:Int)<=a0.length)) (some ((a0.drop (1:Int).toNat,()),())))
 ((F8 a0).bind fun r2=>
 cond (decide (r2.1.1 > (0:Int)))
 (Aa (decide (([45]:qBs).length+a0.length<=A6)) (some ((([45]:qBs)++a0,()),())))
 (cond (a0==([48]:qBs))
 (some ((a0,()),()))
 (some ((([]:qBs),()),()))))
def HF (n0:Int) (d1:Int):Option ((qBs×Unit)×Unit):=
 cond (decide (d1 < (0:Int)))
 ((Hq (BS (qI (0 - n0)) (qI (0 - (qI (0 - n0))))) (qI (0 - d1))).bind fun r1=>
 Aa (r1.1.1 !=0) (
 Aa (r1.1.1 !=0) (
 (FA (qI ((qI (0 - n0)).tdiv r1.1.1)) 10).bind fun r2=>
 cond (decide ((qI ((qI (0 - d1)).tdiv r1.1.1)) > (1:Int)))
 ((FA (qI ((qI (0 - d1)).tdiv r1.1.1)) 10).bind fun r3=>
 Aa (decide (([47]:qBs).length+r3.1.1.length<=A6)) (Aa (decide (r2.1.1.length+(([47]:qBs)++r3.1.1).length<=A6)) (some ((r2.1.1++(([47]:qBs)++r3.1.1),()),()))))
 (some ((r2.1.1,()),())))))
 ((Hq (BS n0 (qI (0 - n0))) d1).bind fun r4=>
 Aa (r4.1.1 !=0) (
 Aa (r4.1.1 !=0) (
 (FA (qI (n0.tdiv r4.1.1)) 10).bind fun r5=>
 cond (decide ((qI (d1.tdiv r4.1.1)) > (1:Int)))
 ((FA (qI (d1.tdiv r4.1.1)) 10).bind fun r6=>
 Aa (decide (([47]:qBs).length+r6.1.1.length<=A6)) (Aa (decide (r5.1.1.length+(([47]:qBs)++r6.1.1).length<=A6)) (some ((r5.1.1++(([47]:qBs)++r6.1.1),()),()))))
 (some ((r5.1.1,()),())))))
def Kr (x0:Bt) (y1:Bt):Option ((qBs×Unit)×Unit):=
 (HF (qI ((qI (x0.1 * y1.2))+(qI (y1.1 * x0.2)))) (qI (x0.2 * y1.2))).bind fun r1=>
 some ((r1.1.1,()),())
def IM (x:(List Int)×(List Int)×Int×Int×Int×(List Int)×Int×Int×(List Int)×Int×Int×Unit):Option (Ex×((List Int)×(List Int)×Int×Int×Int×(List Int)×Int×Int×(List Int)×Int×Int×Unit)):=
 let b1:=x.1
 let out5:=x.2.1
 let i6:=x.2.2.1
 let x7:=x.2.2.2.1
 let carry8:=x.2.2.2.2.1
 let t18:=x.2.2.2.2.2.1
 let t19:=x.2.2.2.2.2.2.1
 let t20:=x.2.2.2.2.2.2.2.1
 let t25:=x.2.2.2.2.2.2.2.2.1
 let t26:=x.2.2.2.2.2.2.2.2.2.1
 let t27:=x.2.2.2.2.2.2.2.2.2.2.1
 cond (decide (t27 < t26))
 (Aa (decide (0<=t27)&&decide (t27 < t25.length)) (Aa (decide (0<=qI (i6+t27))&&decide (qI (i6+t27) < out5.length)) (Aa (decide ((qI (i6+t27)).toNat < out5.length)) (Aa ((1000000000:Int) !=0) (Aa ((1000000000:Int) !=0) (Aa (decide (0<=qI (i6+t27))&&decide (qI (i6+t27) < out5.length)) (Aa (decide ((qI (i6+t27)).toNat < out5.length)) (some (Ex.normal,(b1,out5.set ((qI (i6+t27)).toNat) (IntKind.u32.wrap ((qU ((qU ((qU (out5.getD ((qI (i6+t27)).toNat) (0:Int)))+(qU ((qU (x7)) * (qU (t25.getD t27.toNat (0:Int)))))))+carry8)).tmod 1000000000)),i6,x7,qU ((qU ((qU ((qU (out5.getD ((qI (i6+t27)).toNat) (0:Int)))+(qU ((qU (x7)) * (qU (t25.getD t27.toNat (0:Int)))))))+carry8)).tdiv 1000000000),t18,t19,t20,t25,t26,qI (t27+1),()))))))))))
 (some (Ex.exit 2,(b1,out5,i6,x7,carry8,t18,t19,t20,t25,t26,t27,())))
def HY (x:(List Int)×(List Int)×(List Int)×Int×Int×Unit):Option (Ex×((List Int)×(List Int)×(List Int)×Int×Int×Unit)):=
 let b1:=x.1
 let out5:=x.2.1
 let t18:=x.2.2.1
 let t19:=x.2.2.2.1
 let t20:=x.2.2.2.2.1
 cond (decide (t20 < t19))
 (Aa (decide (0<=t20)&&decide (t20 < t18.length)) (
 (Am IM (b1,out5,t20,t18.getD t20.toNat (0:Int),0,t18,t19,t20,b1,(b1.length:Int),0,())).bind fun y1=>
 cond (Ex.same y1.1 (Ex.exit 2))
 (Aa (decide (0<=qI (y1.2.2.2.1+(y1.2.1.length:Int)))&&decide (qI (y1.2.2.2.1+(y1.2.1.length:Int)) < y1.2.2.1.length)) (Aa (decide ((qI (y1.2.2.2.1+(y1.2.1.length:Int))).toNat < y1.2.2.1.length)) (some (Ex.normal,(y1.2.1,y1.2.2.1.set ((qI (y1.2.2.2.1+(y1.2.1.length:Int))).toNat) (IntKind.u32.wrap (y1.2.2.2.2.2.1)),y1.2.2.2.2.2.2.1,y1.2.2.2.2.2.2.2.1,qI (y1.2.2.2.2.2.2.2.2.1+1),())))))
 (none)))
 (some (Ex.exit 0,(b1,out5,t18,t19,t20,())))
def Fz (a0:List Int) (b1:List Int):Option (((List Int)×Unit)×Unit):=
 Aa (decide (0<=qI ((a0.length:Int)+(b1.length:Int)))&&decide (qI ((a0.length:Int)+(b1.length:Int))<=qI ((a0.length:Int)+(b1.length:Int)))&&decide (qI ((a0.length:Int)+(b1.length:Int))<=Av)) (
 (Am HY (b1,List.replicate (qI ((a0.length:Int)+(b1.length:Int))).toNat (0:Int),a0,(a0.length:Int),0,())).bind fun y1=>
 cond (Ex.same y1.1 (Ex.exit 0))
 ((Eu y1.2.2.1).bind fun r2=>
 some ((r2.1.1,()),()))
 (none))
def L_ (x:(List Int)×(List Int)×(List Int)×Int×Int×Int×Unit):Option (Ex×((List Int)×(List Int)×(List Int)×Int×Int×Int×Unit)):=
 let a0:=x.1
 let b1:=x.2.1
 let out5:=x.2.2.1
 let carry6:=x.2.2.2.1
 let t20:=x.2.2.2.2.1
 let t21:=x.2.2.2.2.2.1
 cond (decide (t21 < t20))
 ((Hf a0 t21).bind fun r1=>
 (Hf b1 t21).bind fun r2=>
 Aa ((1000000000:Int) !=0) (Aa (decide (out5.length+([(IntKind.u32.wrap ((IntKind.u32.wrap (r1.1.1+r2.1.1))+carry6)).tmod 1000000000]:List Int).length<=Av)) (Aa ((1000000000:Int) !=0) (some (Ex.normal,(a0,b1,out5++([(IntKind.u32.wrap ((IntKind.u32.wrap (r1.1.1+r2.1.1))+carry6)).tmod 1000000000]:List Int),IntKind.u32.wrap ((IntKind.u32.wrap ((IntKind.u32.wrap (r1.1.1+r2.1.1))+carry6)).tdiv 1000000000),t20,qI (t21+1),()))))))
 (some (Ex.exit 0,(a0,b1,out5,carry6,t20,t21,())))
def Iu (a0:List Int) (b1:List Int):Option (((List Int)×Unit)×Unit):=
 Aa (decide (0<=(0:Int))&&decide ((0:Int)<=qI ((BS (a0.length:Int) (b1.length:Int))+1))&&decide (qI ((BS (a0.length:Int) (b1.length:Int))+1)<=Av)) (
 (Am L_ (a0,b1,List.replicate (0:Int).toNat (0:Int),0,BS (a0.length:Int) (b1.length:Int),0,())).bind fun y1=>
 cond (Ex.same y1.1 (Ex.exit 0))
 (Aa (decide (y1.2.2.2.1.length+([y1.2.2.2.2.1]:List Int).length<=Av)) (
 (Eu (y1.2.2.2.1++([y1.2.2.2.2.1]:List Int))).bind fun r2=>
 some ((r2.1.1,()),())))
 (none))
def Gv (neg0:Bool) (num1:List Int) (den2:List Int):Option ((Rt×Unit)×Unit):=
 (Jr num1 den2).bind fun r1=>
 (Fo r1.1.1).bind fun r2=>
 cond (!r2.1.1)
 ((G' num1 r1.1.1).bind fun r3=>
 (G' den2 r1.1.1).bind fun r4=>
 some (((neg0,r3.1.1,r4.1.1),()),()))
 (some (((neg0,num1,den2),()),()))
def Ju (x:(List Int)×(List Int)×(List Int)×Int×Int×Int×Unit):Option (Ex×((List Int)×(List Int)×(List Int)×Int×Int×Int×Unit)):=
 let a0:=x.1
 let b1:=x.2.1
 let out5:=x.2.2.1
 let borrow6:=x.2.2.2.1
 let t13:=x.2.2.2.2.1
 let t14:=x.2.2.2.2.2.1
 cond (decide (t14 < t13))
 (Aa (decide (0<=t14)&&decide (t14 < a0.length)) (
 (Hf b1 t14).bind fun r1=>
 cond (decide ((qI ((qI ((qI (a0.getD t14.toNat (0:Int))) - (qI (r1.1.1)))) - borrow6)) < (0:Int)))
 (Aa (decide (out5.length+([IntKind.u32.wrap (qI ((qI ((qI ((qI (a0.getD t14.toNat (0:Int))) - (qI (r1.1.1)))) - borrow6))+1000000000))]:List Int).length<=Av)) (some (Ex.normal,(a0,b1,out5++([IntKind.u32.wrap (qI ((qI ((qI ((qI (a0.getD t14.toNat (0:Int))) - (qI (r1.1.1)))) - borrow6))+1000000000))]:List Int),1,t13,qI (t14+1),()))))
 (Aa (decide (out5.length+([IntKind.u32.wrap (qI ((qI ((qI (a0.getD t14.toNat (0:Int))) - (qI (r1.1.1)))) - borrow6))]:List Int).length<=Av)) (some (Ex.normal,(a0,b1,out5++([IntKind.u32.wrap (qI ((qI ((qI (a0.getD t14.toNat (0:Int))) - (qI (r1.1.1)))) - borrow6))]:List Int),0,t13,qI (t14+1),()))))))
 (some (Ex.exit 0,(a0,b1,out5,borrow6,t13,t14,())))
def HZ (a0:List Int) (b1:List Int):Option (((List Int)×Unit)×Unit):=
 Aa (decide (0<=(0:Int))&&decide ((0:Int)<=(a0.length:Int))&&decide ((a0.length:Int)<=Av)) (
 (Am Ju (a0,b1,List.replicate (0:Int).toNat (0:Int),0,(a0.length:Int),0,())).bind fun y1=>
 cond (Ex.same y1.1 (Ex.exit 0))
 ((Eu y1.2.2.2.1).bind fun r2=>
 some ((r2.1.1,()),()))
 (none))
def MS (x0:Rt) (y1:Rt):Option ((Rt×Unit)×Unit):=
 (Fz x0.2.1 y1.2.2).bind fun r1=>
 (Fz y1.2.1 x0.2.2).bind fun r2=>
 (Fz x0.2.2 y1.2.2).bind fun r3=>
 cond (x0.1==y1.1)
 ((Iu r1.1.1 r2.1.1).bind fun r4=>
 (Gv x0.1 r4.1.1 r3.1.1).bind fun r5=>
 some (((r5.1.1.1,r5.1.1.2.1,r5.1.1.2.2),()),()))
 ((If r1.1.1 r2.1.1).bind fun r6=>
 cond (decide (r6.1.1>=0))
 ((HZ r1.1.1 r2.1.1).bind fun r7=>
 (Gv x0.1 r7.1.1 r3.1.1).bind fun r8=>
 some (((r8.1.1.1,r8.1.1.2.1,r8.1.1.2.2),()),()))
 ((HZ r2.1.1 r1.1.1).bind fun r9=>
 (Gv y1.1 r9.1.1 r3.1.1).bind fun r10=>
 some (((r10.1.1.1,r10.1.1.2.1,r10.1.1.2.2),()),())))
def Ed (b0:Unit×List Int) (s1:qBs):Option ((Int×Bool×Unit)×((Unit×List Int)×Unit)):=
 (Of ((),b0.2)).bind fun r1=>
 Aa (decide (r1.2.1.2.length+(s1.map fun c=>((c.toNat:Nat):Int)).length<=Av)) (some (((s1.length:Int),false,()),((),r1.2.1.2++(s1.map fun c=>((c.toNat:Nat):Int))),()))
def JA (v:Int) (i:Nat) (x:(Unit×List Int)×Unit):Option ((Unit×List Int)×Unit):=
 let b3:=x.1
 (JT (qU (v)) 10).bind fun r1=>
 Aa (decide (0<=(r1.1.1.length:Int))&&decide ((r1.1.1.length:Int)<=([48,48,48,48,48,48,48,48,48]:qBs).length)) (
 (Ed ((),b3.2) (([48,48,48,48,48,48,48,48,48]:qBs).drop (r1.1.1.length:Int).toNat)).bind fun r2=>
 (Ed ((),r2.2.1.2) r1.1.1).bind fun r3=>
 some (((),r3.2.1.2),()))
def N2 (y:(Unit×List Int)×Unit) (o:(Unit×List Int)×Unit):(Unit×List Int)×Unit:=(o.1,())
def Mx (y:(Unit×List Int)×Unit):(Unit×List Int)×Unit:=(y.1,())
def Hc (a0:List Int):Option ((qBs×Unit)×Unit):=
 cond ((a0.length:Int)==0)
 (some ((([48]:qBs),()),()))
 (Aa (decide (0<=qI ((a0.length:Int) - (1:Int)))&&decide (qI ((a0.length:Int) - (1:Int)) < a0.length)) (
 (JT (qU (a0.getD (qI ((a0.length:Int) - (1:Int))).toNat (0:Int))) 10).bind fun r1=>
 (Ed ((),([]:List Int)) r1.1.1).bind fun r2=>
 Aa (decide (0<=qI ((a0.length:Int) - (1:Int)))&&decide (qI ((a0.length:Int) - (1:Int))<=a0.length)) (
 Aa (decide ((a0.take (qI ((a0.length:Int) - (1:Int))).toNat).length<=Av)) (((foldO (fun p y=>(JA p.1 p.2 y).bind fun o=>some (N2 y o)) (a0.take (qI ((a0.length:Int) - (1:Int))).toNat).zipIdx.reverse (((),r2.2.1.2),())).bind fun y=>some ((),Mx y)).bind fun y3=>
 (Mn ((),y3.2.1.2)).bind fun r4=>
 some ((r4.1.1,()),())))))
def GG (x0:Rt):Option ((qBs×Unit)×Unit):=
 (Hc x0.2.1).bind fun r1=>
 cond (x0.1)
 (cond (decide ((x0.2.1.length:Int) > (0:Int)))
 (Aa (decide (([45]:qBs).length+r1.1.1.length<=A6)) (
 (Fo x0.2.2).bind fun r2=>
 cond (!r2.1.1)
 ((Hc x0.2.2).bind fun r3=>
 Aa (decide (([47]:qBs).length+r3.1.1.length<=A6)) (Aa (decide ((([45]:qBs)++r1.1.1).length+(([47]:qBs)++r3.1.1).length<=A6)) (some (((([45]:qBs)++r1.1.1)++(([47]:qBs)++r3.1.1),()),()))))
 (some ((([45]:qBs)++r1.1.1,()),()))))
 ((Fo x0.2.2).bind fun r4=>
 cond (!r4.1.1)
 ((Hc x0.2.2).bind fun r5=>
 Aa (decide (([47]:qBs).length+r5.1.1.length<=A6)) (Aa (decide (r1.1.1.length+(([47]:qBs)++r5.1.1).length<=A6)) (some ((r1.1.1++(([47]:qBs)++r5.1.1),()),()))))
 (some ((r1.1.1,()),()))))
 ((Fo x0.2.2).bind fun r6=>
 cond (!r6.1.1)
 ((Hc x0.2.2).bind fun r7=>
 Aa (decide (([47]:qBs).length+r7.1.1.length<=A6)) (Aa (decide (r1.1.1.length+(([47]:qBs)++r7.1.1).length<=A6)) (some ((r1.1.1++(([47]:qBs)++r7.1.1),()),()))))
 (some ((r1.1.1,()),())))
def LM (x0:Rt) (y1:Rt):Option ((qBs×Unit)×Unit):=
 (MS (x0.1,x0.2.1,x0.2.2) (y1.1,y1.2.1,y1.2.2)).bind fun r1=>
 (GG (r1.1.1.1,r1.1.1.2.1,r1.1.1.2.2)).bind fun r2=>
 some ((r2.1.1,()),())
def JL (a0:qBs) (b1:qBs) (small2:Unit) (all3:Unit):Option ((qBs×Unit)×Unit):=
 (BU a0).bind fun r1=>
 (BU b1).bind fun r2=>
 cond (r1.1.2.1)
 (cond (r2.1.2.1)
 ((Kr (r1.1.1.1,r1.1.1.2) (r2.1.1.1,r2.1.1.2)).bind fun r3=>
 some ((r3.1.1,()),()))
 ((BY a0).bind fun r4=>
 (BY b1).bind fun r5=>
 cond (!r4.1.2.1)
 (some ((([]:qBs),()),()))
 (cond (!r5.1.2.1)
 (some ((([]:qBs),()),()))
 ((LM (r4.1.1.1,r4.1.1.2.1,r4.1.1.2.2) (r5.1.1.1,r5.1.1.2.1,r5.1.1.2.2)).bind fun r6=>
 some ((r6.1.1,()),())))))
 ((BY a0).bind fun r7=>
 (BY b1).bind fun r8=>
 cond (!r7.1.2.1)
 (some ((([]:qBs),()),()))
 (cond (!r8.1.2.1)
 (some ((([]:qBs),()),()))
 ((LM (r7.1.1.1,r7.1.1.2.1,r7.1.1.2.2) (r8.1.1.1,r8.1.1.2.1,r8.1.1.2.2)).bind fun r9=>
 some ((r9.1.1,()),()))))
def JM (a0:qBs) (b1:qBs):Option ((qBs×Unit)×Unit):=
 (JL a0 b1 () ()).bind fun r1=>
 some ((r1.1.1,()),())
def LH (a0:qBs) (b1:qBs):Option ((qBs×Unit)×Unit):=
 (Kq b1).bind fun r1=>
 (JM a0 r1.1.1).bind fun r2=>
 some ((r2.1.1,()),())
def Db (a0:qBs) (b1:qBs):Option ((Int×Unit)×Unit):=
 (LH a0 b1).bind fun r1=>
 (F8 r1.1.1).bind fun r2=>
 some ((r2.1.1,()),())
def Ki (x:Ae×Bool×(List qBs)×Int×Int×Unit):Option (Ex×(Ae×Bool×(List qBs)×Int×Int×Unit)):=
 let v1:=x.1
 let t2:=x.2.1
 let t13:=x.2.2.1
 let t14:=x.2.2.2.1
 let t15:=x.2.2.2.2.1
 cond (decide (t15 < t14))
 (Aa (decide (0<=t15)&&decide (t15 < t13.length)) (
 (CZ (t13.getD t15.toNat ([]:qBs))).bind fun r1=>
 cond (!r1.1.1)
 (some (Ex.ret,(v1,false,t13,t14,t15,())))
 (Aa (decide (0<=t15)&&decide (t15 < v1.2.2.2.2.length)) (
 (CZ (v1.2.2.2.2.getD t15.toNat ([]:qBs))).bind fun r2=>
 cond (!r2.1.1)
 (some (Ex.ret,(v1,false,t13,t14,t15,())))
 (Aa (decide (0<=t15)&&decide (t15 < v1.2.2.2.2.length)) (
 cond ((v1.2.2.2.2.getD t15.toNat ([]:qBs))==v1.2.2.1)
 (some (Ex.ret,(v1,false,t13,t14,t15,())))
 (cond (decide (t15 > (0:Int)))
 (Aa (decide (0<=qI (t15 - (1:Int)))&&decide (qI (t15 - (1:Int)) < v1.2.2.2.1.length)) (
 (Db (v1.2.2.2.1.getD (qI (t15 - (1:Int))).toNat ([]:qBs)) (t13.getD t15.toNat ([]:qBs))).bind fun r3=>
 cond (decide (r3.1.1>=0))
 (some (Ex.ret,(v1,false,t13,t14,t15,())))
 (some (Ex.normal,(v1,t2,t13,t14,qI (t15+1),())))))
 (some (Ex.normal,(v1,t2,t13,t14,qI (t15+1),()))))))))))
 (some (Ex.exit 0,(v1,t2,t13,t14,t15,())))
def NC (v0:Ae):Option ((Bool×Unit)×Unit):=
 cond ((v0.2.2.2.1.length:Int) !=(v0.2.2.2.2.length:Int))
 (some ((false,()),()))
 ((Am Ki (v0,false,v0.2.2.2.1,(v0.2.2.2.1.length:Int),0,())).bind fun y1=>
 cond (Ex.same y1.1 (Ex.exit 0))
 (some ((true,()),()))
 (cond (Ex.same y1.1 Ex.ret)
 (some ((y1.2.2.1,()),()))
 (none)))
def Gs (v0:Ae):Option ((Bool×Unit)×Unit):=
 cond (v0.1==1)
 (cond (v0.2.2.1==([]:qBs))
 ((Jp v0).bind fun r1=>
 some ((r1.1.1,()),()))
 (some ((false,()),())))
 (cond (v0.1==2)
 (cond (!v0.2.1)
 ((CZ v0.2.2.1).bind fun r2=>
 cond (r2.1.1)
 ((Jp v0).bind fun r3=>
 some ((r3.1.1,()),()))
 (some ((false,()),())))
 (some ((false,()),())))
 (cond (v0.1==3)
 (cond (!v0.2.1)
 ((Fl v0.2.2.1).bind fun r4=>
 cond (r4.1.1)
 ((Jp v0).bind fun r5=>
 some ((r5.1.1,()),()))
 (some ((false,()),())))
 (some ((false,()),())))
 (cond (v0.1==4)
 (cond (!v0.2.1)
 ((CZ v0.2.2.1).bind fun r6=>
 cond (r6.1.1)
 ((NC v0).bind fun r7=>
 some ((r7.1.1,()),()))
 (some ((false,()),())))
 (some ((false,()),())))
 (some ((false,()),())))))
def Gi (x:(List (qBs×Ae))×Bool×(List (qBs×Ae))×(List AN)×Int×Int×Unit):Option (Ex×((List (qBs×Ae))×Bool×(List (qBs×Ae))×(List AN)×Int×Int×Unit)):=
 let t2:=x.1
 let t3:=x.2.1
 let out4:=x.2.2.1
 let t10:=x.2.2.2.1
 let t11:=x.2.2.2.2.1
 let t12:=x.2.2.2.2.2.1
 cond (decide (t12 < t11))
 (Aa (decide (0<=t12)&&decide (t12 < t10.length)) (
 (Gs ((t10.getD t12.toNat DO).2)).bind fun r1=>
 cond (!r1.1.1)
 (some (Ex.ret,(([]:List (qBs×Ae)),false,out4,t10,t11,t12,())))
 (cond (!((AK ((t10.getD t12.toNat DO).1) out4).isSome))
 (some (Ex.normal,(t2,t3,BQ ((t10.getD t12.toNat DO).1) ((t10.getD t12.toNat DO).2) out4,t10,t11,qI (t12+1),())))
 (some (Ex.normal,(t2,t3,out4,t10,t11,qI (t12+1),()))))))
 (some (Ex.exit 0,(t2,t3,out4,t10,t11,t12,())))
def Kh (env0:List AN):Option (((List (qBs×Ae))×Bool×Unit)×Unit):=
 (Am Gi (([]:List (qBs×Ae)),false,([]:List (qBs×Ae)),env0,(env0.length:Int),0,())).bind fun y1=>
 cond (Ex.same y1.1 (Ex.exit 0))
 (some ((y1.2.2.2.1,true,()),()))
 (cond (Ex.same y1.1 Ex.ret)
 (some ((y1.2.1,y1.2.2.1,()),()))
 (none))
def P8 (v0:Ae):Option ((Bool×Unit)×Unit):=
 (Gs v0).bind fun r1=>
 some ((!r1.1.1,()),())
def KP (x:(List Ae)×Unit×Int×Int×Int×Unit):Option (Ex×((List Ae)×Unit×Int×Int×Int×Unit)):=
 let s0:=x.1
 let f1:=x.2.1
 let t4:=x.2.2.1
 let t7:=x.2.2.2.1
 let t8:=x.2.2.2.2.1
 cond (decide (t8 < t7))
 (Aa (decide (0<=t8)&&decide (t8 < s0.length)) (
 (P8 (s0.getD t8.toNat zVal)).bind fun r1=>
 cond (r1.1.1)
 (some (Ex.ret,(s0,(),t8,t7,t8,())))
 (some (Ex.normal,(s0,(),t4,t7,qI (t8+1),())))))
 (some (Ex.exit 0,(s0,(),t4,t7,t8,())))
def O' (s0:List Ae) (f1:Unit):Option ((Int×Unit)×Unit):=
 (Am KP (s0,(),0,(s0.length:Int),0,())).bind fun y1=>
 cond (Ex.same y1.1 (Ex.exit 0))
 (some ((-1,()),()))
 (cond (Ex.same y1.1 Ex.ret)
 (some ((y1.2.2.2.1,()),()))
 (none))
def Qw (s0:List Ae) (f1:Unit):Option ((Bool×Unit)×Unit):=
 (O' s0 ()).bind fun r1=>
 some ((decide (r1.1.1>=0),()),())
def Kp (l0:List Ae):Option ((Bool×Unit)×Unit):=
 (Qw l0 ()).bind fun r1=>
 some ((!r1.1.1,()),())
def Qj (l0:List Ae):Option ((Bool×Unit)×Unit):=
 (Kp l0).bind fun r1=>
 some ((!r1.1.1,()),())
def J0 (x:(List (List Ae))×Unit×Int×Int×Int×Unit):Option (Ex×((List (List Ae))×Unit×Int×Int×Int×Unit)):=
 let s0:=x.1
 let f1:=x.2.1
 let t4:=x.2.2.1
 let t7:=x.2.2.2.1
 let t8:=x.2.2.2.2.1
 cond (decide (t8 < t7))
 (Aa (decide (0<=t8)&&decide (t8 < s0.length)) (
 (Qj (s0.getD t8.toNat ([]:List Ae))).bind fun r1=>
 cond (r1.1.1)
 (some (Ex.ret,(s0,(),t8,t7,t8,())))
 (some (Ex.normal,(s0,(),t4,t7,qI (t8+1),())))))
 (some (Ex.exit 0,(s0,(),t4,t7,t8,())))
def P0 (s0:List (List Ae)) (f1:Unit):Option ((Int×Unit)×Unit):=
 (Am J0 (s0,(),0,(s0.length:Int),0,())).bind fun y1=>
 cond (Ex.same y1.1 (Ex.exit 0))
 (some ((-1,()),()))
 (cond (Ex.same y1.1 Ex.ret)
 (some ((y1.2.2.2.1,()),()))
 (none))
def OH (s0:List (List Ae)) (f1:Unit):Option ((Bool×Unit)×Unit):=
 (P0 s0 ()).bind fun r1=>
 some ((decide (r1.1.1>=0),()),())
def Gb (x:(List (qBs×Interp))×Bool×(List (qBs×Interp))×(List Interp)×Int×Int×Unit):Option (Ex×((List (qBs×Interp))×Bool×(List (qBs×Interp))×(List Interp)×Int×Int×Unit)):=
 let t2:=x.1
 let t3:=x.2.1
 let out4:=x.2.2.1
 let t10:=x.2.2.2.1
 let t11:=x.2.2.2.2.1
 let t12:=x.2.2.2.2.2.1
 cond (decide (t12 < t11))
 (Aa (decide (0<=t12)&&decide (t12 < t10.length)) (
 cond (((((t10.getD t12.toNat Cd).2).1).length:Int) !=(((((t10.getD t12.toNat Cd).2).2).1).length:Int))
 (some (Ex.ret,(([]:List (qBs×Interp)),false,out4,t10,t11,t12,())))
 ((Kp ((((t10.getD t12.toNat Cd).2).2).1)).bind fun r1=>
 cond (!r1.1.1)
 (some (Ex.ret,(([]:List (qBs×Interp)),false,out4,t10,t11,t12,())))
 ((Gs ((((t10.getD t12.toNat Cd).2).2).2)).bind fun r2=>
 cond (!r2.1.1)
 (some (Ex.ret,(([]:List (qBs×Interp)),false,out4,t10,t11,t12,())))
 ((OH (((t10.getD t12.toNat Cd).2).1) ()).bind fun r3=>
 cond (r3.1.1)
 (some (Ex.ret,(([]:List (qBs×Interp)),false,out4,t10,t11,t12,())))
 (cond (!((AK ((t10.getD t12.toNat Cd).1) out4).isSome))
 (some (Ex.normal,(t2,t3,BQ ((t10.getD t12.toNat Cd).1) (t10.getD t12.toNat Cd) out4,t10,t11,qI (t12+1),())))
 (some (Ex.normal,(t2,t3,out4,t10,t11,qI (t12+1),())))))))))
 (some (Ex.exit 0,(t2,t3,out4,t10,t11,t12,())))
def LR (fns0:List Interp):Option (((List (qBs×Interp))×Bool×Unit)×Unit):=
 (Am Gb (([]:List (qBs×Interp)),false,([]:List (qBs×Interp)),fns0,(fns0.length:Int),0,())).bind fun y1=>
 cond (Ex.same y1.1 (Ex.exit 0))
 (some ((y1.2.2.2.1,true,()),()))
 (cond (Ex.same y1.1 Ex.ret)
 (some ((y1.2.1,y1.2.2.1,()),()))
 (none))
def NL (sort0:Int) (a1:qBs):Option ((Bool×Unit)×Unit):=
 cond (sort0==2)
 ((CZ a1).bind fun r1=>
 cond (r1.1.1)
 (some ((true,()),()))
 (cond (sort0==3)
 ((Fl a1).bind fun r2=>
 some ((r2.1.1,()),()))
 (some ((false,()),()))))
 (cond (sort0==3)
 ((Fl a1).bind fun r3=>
 some ((r3.1.1,()),()))
 (some ((false,()),())))
def KC (s0:Int):Option ((Bool×Unit)×Unit):=
 cond (decide (s0>=1))
 (some ((decide (s0<=4),()),()))
 (some ((false,()),()))
def J_ (c0:Int):Option ((Bool×Unit)×Unit):=
 cond (decide (c0>=97))
 (cond (decide (c0<=122))
 (some ((true,()),()))
 (cond (decide (c0>=65))
 (cond (decide (c0<=90))
 (some ((true,()),()))
 (cond (c0==95)
 (some ((true,()),()))
 (cond (c0==36)
 (some ((true,()),()))
 (some ((c0==33,()),())))))
 (cond (c0==95)
 (some ((true,()),()))
 (cond (c0==36)
 (some ((true,()),()))
 (some ((c0==33,()),()))))))
 (cond (decide (c0>=65))
 (cond (decide (c0<=90))
 (some ((true,()),()))
 (cond (c0==95)
 (some ((true,()),()))
 (cond (c0==36)
 (some ((true,()),()))
 (some ((c0==33,()),())))))
 (cond (c0==95)
 (some ((true,()),()))
 (cond (c0==36)
 (some ((true,()),()))
 (some ((c0==33,()),())))))
def PR (s0:qBs):Option ((Bool×Unit)×Unit):=
 cond (s0==([97,110,100]:qBs))
 (some ((true,()),()))
 (cond (s0==([111,114]:qBs))
 (some ((true,()),()))
 (cond (s0==([110,111,116]:qBs))
 (some ((true,()),()))
 (cond (s0==([105,116,101]:qBs))
 (some ((true,()),()))
 (cond (s0==([116,114,117,101]:qBs))
 (some ((true,()),()))
 (cond (s0==([102,97,108,115,101]:qBs))
 (some ((true,()),()))
 (cond (s0==([108,101,116]:qBs))
 (some ((true,()),()))
 (cond (s0==([102,111,114,97,108,108]:qBs))
 (some ((true,()),()))
 (cond (s0==([101,120,105,115,116,115]:qBs))
 (some ((true,()),()))
 (cond (s0==([100,105,115,116,105,110,99,116]:qBs))
 (some ((true,()),()))
 (cond (s0==([100,105,118]:qBs))
 (some ((true,()),()))
 (cond (s0==([109,111,100]:qBs))
 (some ((true,()),()))
 (cond (s0==([115,101,108,101,99,116]:qBs))
 (some ((true,()),()))
 (cond (s0==([115,116,111,114,101]:qBs))
 (some ((true,()),()))
 (cond (s0==([99,111,110,115,116]:qBs))
 (some ((true,()),()))
 (cond (s0==([66,111,111,108]:qBs))
 (some ((true,()),()))
 (cond (s0==([73,110,116]:qBs))
 (some ((true,()),()))
 (cond (s0==([82,101,97,108]:qBs))
 (some ((true,()),()))
 (cond (s0==([65,114,114,97,121]:qBs))
 (some ((true,()),()))
 (some ((false,()),()))))))))))))))))))))
def KG (x:qBs×Bool×Int×Int×Unit):Option (Ex×(qBs×Bool×Int×Int×Unit)):=
 let s0:=x.1
 let t2:=x.2.1
 let t23:=x.2.2.1
 let t24:=x.2.2.2.1
 cond (decide (t24 < t23))
 (Aa (decide (0<=t24)&&decide (t24 < s0.length)) (
 (J_ ((s0.getD t24.toNat 0).toNat:Int)).bind fun r1=>
 cond (!r1.1.1)
 (cond (decide (((s0.getD t24.toNat 0).toNat:Int)>=48))
 (cond (!(decide (((s0.getD t24.toNat 0).toNat:Int)<=57)))
 (cond (((s0.getD t24.toNat 0).toNat:Int) !=(46:Int))
 (cond (((s0.getD t24.toNat 0).toNat:Int) !=(64:Int))
 (some (Ex.ret,(s0,false,t23,t24,())))
 (some (Ex.normal,(s0,t2,t23,qI (t24+1),()))))
 (some (Ex.normal,(s0,t2,t23,qI (t24+1),()))))
 (some (Ex.normal,(s0,t2,t23,qI (t24+1),()))))
 (cond (((s0.getD t24.toNat 0).toNat:Int) !=(46:Int))
 (cond (((s0.getD t24.toNat 0).toNat:Int) !=(64:Int))
 (some (Ex.ret,(s0,false,t23,t24,())))
 (some (Ex.normal,(s0,t2,t23,qI (t24+1),()))))
 (some (Ex.normal,(s0,t2,t23,qI (t24+1),())))))
 (some (Ex.normal,(s0,t2,t23,qI (t24+1),())))))
 (some (Ex.exit 0,(s0,t2,t23,t24,())))
def Le (s0:qBs):Option ((Bool×Unit)×Unit):=
 cond (s0==([]:qBs))
 (some ((false,()),()))
 (cond (decide ((s0.length:Int) > (40:Int)))
 (some ((false,()),()))
 (Aa (decide (0<=(0:Int))&&decide ((0:Int) < s0.length)) (
 (J_ ((s0.getD (0:Int).toNat 0).toNat:Int)).bind fun r1=>
 cond (!r1.1.1)
 (some ((false,()),()))
 ((PR s0).bind fun r2=>
 cond (r2.1.1)
 (some ((false,()),()))
 ((Am KG (s0,false,(s0.length:Int),0,())).bind fun y3=>
 cond (Ex.same y3.1 (Ex.exit 0))
 (some ((true,()),()))
 (cond (Ex.same y3.1 Ex.ret)
 (some ((y3.2.2.1,()),()))
 (none)))))))
def NO (n0:Ac):Option ((Bool×Unit)×Unit):=
 cond (n0.1==3)
 (cond (n0.2.2.1==([]:qBs))
 ((NL n0.2.1 n0.2.2.2.1).bind fun r1=>
 some ((r1.1.1,()),()))
 (some ((false,()),())))
 (cond (n0.1==4)
 ((KC n0.2.1).bind fun r2=>
 cond (r2.1.1)
 ((Le n0.2.2.1).bind fun r3=>
 cond (r3.1.1)
 (some ((n0.2.2.2.1==([]:qBs),()),()))
 (some ((false,()),())))
 (some ((false,()),())))
 (cond (n0.1==5)
 ((KC n0.2.1).bind fun r4=>
 cond (r4.1.1)
 ((Le n0.2.2.1).bind fun r5=>
 cond (r5.1.1)
 (some ((n0.2.2.2.1==([]:qBs),()),()))
 (some ((false,()),())))
 (some ((false,()),())))
 (cond (n0.1==16)
 (cond (n0.2.1==0)
 (cond (n0.2.2.1==([]:qBs))
 ((CZ n0.2.2.2.1).bind fun r6=>
 cond (r6.1.1)
 ((F8 n0.2.2.2.1).bind fun r7=>
 some ((decide (r7.1.1 > (0:Int)),()),()))
 (some ((false,()),())))
 (some ((false,()),())))
 (some ((false,()),())))
 (cond (n0.1==17)
 (cond (n0.2.1==0)
 (cond (n0.2.2.1==([]:qBs))
 ((CZ n0.2.2.2.1).bind fun r8=>
 cond (r8.1.1)
 ((F8 n0.2.2.2.1).bind fun r9=>
 some ((decide (r9.1.1 > (0:Int)),()),()))
 (some ((false,()),())))
 (some ((false,()),())))
 (some ((false,()),())))
 (cond (decide (n0.1>=1))
 (cond (decide (n0.1<=20))
 (cond (n0.2.1==0)
 (cond (n0.2.2.1==([]:qBs))
 (some ((n0.2.2.2.1==([]:qBs),()),()))
 (some ((false,()),())))
 (some ((false,()),())))
 (some ((false,()),())))
 (some ((false,()),())))))))
def KZ (op0:Int) (n1:Int):Option ((Bool×Unit)×Unit):=
 cond (op0==1)
 (some ((n1==0,()),()))
 (cond (op0==2)
 (some ((n1==0,()),()))
 (cond (op0==3)
 (some ((n1==0,()),()))
 (cond (op0==4)
 (some ((n1==0,()),()))
 (cond (op0==5)
 (cond (decide (n1>=1))
 (some ((decide (n1<=40),()),()))
 (some ((false,()),())))
 (cond (op0==6)
 (some ((n1==1,()),()))
 (cond (op0==16)
 (some ((n1==1,()),()))
 (cond (op0==17)
 (some ((n1==1,()),()))
 (cond (op0==20)
 (some ((n1==1,()),()))
 (cond (op0==7)
 (some ((true,()),()))
 (cond (op0==8)
 (some ((true,()),()))
 (cond (op0==14)
 (some ((decide (n1>=1),()),()))
 (cond (op0==10)
 (some ((n1==3,()),()))
 (cond (op0==19)
 (some ((n1==3,()),()))
 (some ((n1==2,()),())))))))))))))))
def PQ (x0:Int) (a1:Option Int):Option ((Bool×Unit)×Unit):=
 Aa (a1.isSome) (some ((x0 !=(a1.getD (0:Int)),()),()))
def LD (x:(List Int)×(Option Int)×Int×Int×Int×Unit):Option (Ex×((List Int)×(Option Int)×Int×Int×Int×Unit)):=
 let s0:=x.1
 let f1:=x.2.1
 let t4:=x.2.2.1
 let t7:=x.2.2.2.1
 let t8:=x.2.2.2.2.1
 cond (decide (t8 < t7))
 (Aa (decide (0<=t8)&&decide (t8 < s0.length)) (
 (PQ (s0.getD t8.toNat (0:Int)) f1).bind fun r1=>
 cond (r1.1.1)
 (some (Ex.ret,(s0,f1,t8,t7,t8,())))
 (some (Ex.normal,(s0,f1,t4,t7,qI (t8+1),())))))
 (some (Ex.exit 0,(s0,f1,t4,t7,t8,())))
def QF (s0:List Int) (f1:Option Int):Option ((Int×Unit)×Unit):=
 (Am LD (s0,f1,0,(s0.length:Int),0,())).bind fun y1=>
 cond (Ex.same y1.1 (Ex.exit 0))
 (some ((-1,()),()))
 (cond (Ex.same y1.1 Ex.ret)
 (some ((y1.2.2.2.1,()),()))
 (none))
def Pk (s0:List Int) (f1:Option Int):Option ((Bool×Unit)×Unit):=
 (QF s0 f1).bind fun r1=>
 some ((decide (r1.1.1>=0),()),())
def DB (sorts0:List Int) (s1:Int):Option ((Bool×Unit)×Unit):=
 (Pk sorts0 (some s1)).bind fun r1=>
 some ((!r1.1.1,()),())
def BX (is0:Bool) (sort1:Int):Option ((Int×Unit)×Unit):=
 cond (is0)
 (some ((sort1,()),()))
 (some ((0,()),()))
def Hb (s0:Int):Option ((Bool×Unit)×Unit):=
 cond (s0==2)
 (some ((true,()),()))
 (some ((s0==3,()),()))
def On (n0:Ac) (sorts1:List Int):Option ((Int×Unit)×Unit):=
 cond (n0.1==3)
 (some ((n0.2.1,()),()))
 (cond (n0.1==4)
 (some ((n0.2.1,()),()))
 (cond (n0.1==5)
 (some ((n0.2.1,()),()))
 (cond (n0.1==1)
 ((DB sorts1 1).bind fun r1=>
 (BX r1.1.1 1).bind fun r2=>
 some ((r2.1.1,()),()))
 (cond (n0.1==2)
 ((DB sorts1 1).bind fun r3=>
 (BX r3.1.1 1).bind fun r4=>
 some ((r4.1.1,()),()))
 (cond (n0.1==6)
 ((DB sorts1 1).bind fun r5=>
 (BX r5.1.1 1).bind fun r6=>
 some ((r6.1.1,()),()))
 (cond (n0.1==7)
 ((DB sorts1 1).bind fun r7=>
 (BX r7.1.1 1).bind fun r8=>
 some ((r8.1.1,()),()))
 (cond (n0.1==8)
 ((DB sorts1 1).bind fun r9=>
 (BX r9.1.1 1).bind fun r10=>
 some ((r10.1.1,()),()))
 (cond (n0.1==9)
 ((DB sorts1 1).bind fun r11=>
 (BX r11.1.1 1).bind fun r12=>
 some ((r12.1.1,()),()))
 (cond (n0.1==10)
 (Aa (decide (0<=(0:Int))&&decide ((0:Int) < sorts1.length)) (
 cond ((sorts1.getD (0:Int).toNat (0:Int))==1)
 (Aa (decide (0<=(1:Int))&&decide ((1:Int) < sorts1.length)) (
 Aa (decide (0<=(2:Int))&&decide ((2:Int) < sorts1.length)) (
 Aa (decide (0<=(1:Int))&&decide ((1:Int) < sorts1.length)) (
 (BX ((sorts1.getD (1:Int).toNat (0:Int))==(sorts1.getD (2:Int).toNat (0:Int))) (sorts1.getD (1:Int).toNat (0:Int))).bind fun r13=>
 some ((r13.1.1,()),())))))
 (Aa (decide (0<=(1:Int))&&decide ((1:Int) < sorts1.length)) (
 (BX false (sorts1.getD (1:Int).toNat (0:Int))).bind fun r14=>
 some ((r14.1.1,()),())))))
 (cond (n0.1==11)
 (Aa (decide (0<=(0:Int))&&decide ((0:Int) < sorts1.length)) (
 Aa (decide (0<=(1:Int))&&decide ((1:Int) < sorts1.length)) (
 (BX ((sorts1.getD (0:Int).toNat (0:Int))==(sorts1.getD (1:Int).toNat (0:Int))) 1).bind fun r15=>
 some ((r15.1.1,()),()))))
 (cond (n0.1==12)
 (Aa (decide (0<=(0:Int))&&decide ((0:Int) < sorts1.length)) (
 (Hb (sorts1.getD (0:Int).toNat (0:Int))).bind fun r16=>
 cond (r16.1.1)
 (Aa (decide (0<=(0:Int))&&decide ((0:Int) < sorts1.length)) (
 (DB sorts1 (sorts1.getD (0:Int).toNat (0:Int))).bind fun r17=>
 (BX r17.1.1 1).bind fun r18=>
 some ((r18.1.1,()),())))
 ((BX false 1).bind fun r19=>
 some ((r19.1.1,()),()))))
 (cond (n0.1==13)
 (Aa (decide (0<=(0:Int))&&decide ((0:Int) < sorts1.length)) (
 (Hb (sorts1.getD (0:Int).toNat (0:Int))).bind fun r20=>
 cond (r20.1.1)
 (Aa (decide (0<=(0:Int))&&decide ((0:Int) < sorts1.length)) (
 (DB sorts1 (sorts1.getD (0:Int).toNat (0:Int))).bind fun r21=>
 (BX r21.1.1 1).bind fun r22=>
 some ((r22.1.1,()),())))
 ((BX false 1).bind fun r23=>
 some ((r23.1.1,()),()))))
 (cond (n0.1==14)
 (Aa (decide (0<=(0:Int))&&decide ((0:Int) < sorts1.length)) (
 (Hb (sorts1.getD (0:Int).toNat (0:Int))).bind fun r24=>
 cond (r24.1.1)
 (Aa (decide (0<=(0:Int))&&decide ((0:Int) < sorts1.length)) (
 (DB sorts1 (sorts1.getD (0:Int).toNat (0:Int))).bind fun r25=>
 Aa (decide (0<=(0:Int))&&decide ((0:Int) < sorts1.length)) (
 (BX r25.1.1 (sorts1.getD (0:Int).toNat (0:Int))).bind fun r26=>
 some ((r26.1.1,()),()))))
 (Aa (decide (0<=(0:Int))&&decide ((0:Int) < sorts1.length)) (
 (BX false (sorts1.getD (0:Int).toNat (0:Int))).bind fun r27=>
 some ((r27.1.1,()),())))))
 (cond (n0.1==15)
 (Aa (decide (0<=(0:Int))&&decide ((0:Int) < sorts1.length)) (
 (Hb (sorts1.getD (0:Int).toNat (0:Int))).bind fun r28=>
 cond (r28.1.1)
 (Aa (decide (0<=(0:Int))&&decide ((0:Int) < sorts1.length)) (
 (DB sorts1 (sorts1.getD (0:Int).toNat (0:Int))).bind fun r29=>
 Aa (decide (0<=(0:Int))&&decide ((0:Int) < sorts1.length)) (
 (BX r29.1.1 (sorts1.getD (0:Int).toNat (0:Int))).bind fun r30=>
 some ((r30.1.1,()),()))))
 (Aa (decide (0<=(0:Int))&&decide ((0:Int) < sorts1.length)) (
 (BX false (sorts1.getD (0:Int).toNat (0:Int))).bind fun r31=>
 some ((r31.1.1,()),())))))
 (cond (n0.1==16)
 (Aa (decide (0<=(0:Int))&&decide ((0:Int) < sorts1.length)) (
 (BX ((sorts1.getD (0:Int).toNat (0:Int))==2) 2).bind fun r32=>
 some ((r32.1.1,()),())))
 (cond (n0.1==17)
 (Aa (decide (0<=(0:Int))&&decide ((0:Int) < sorts1.length)) (
 (BX ((sorts1.getD (0:Int).toNat (0:Int))==2) 2).bind fun r33=>
 some ((r33.1.1,()),())))
 (cond (n0.1==18)
 (Aa (decide (0<=(0:Int))&&decide ((0:Int) < sorts1.length)) (
 cond ((sorts1.getD (0:Int).toNat (0:Int))==4)
 (Aa (decide (0<=(1:Int))&&decide ((1:Int) < sorts1.length)) (
 (BX ((sorts1.getD (1:Int).toNat (0:Int))==2) 2).bind fun r34=>
 some ((r34.1.1,()),())))
 ((BX false 2).bind fun r35=>
 some ((r35.1.1,()),()))))
 (cond (n0.1==19)
 (Aa (decide (0<=(0:Int))&&decide ((0:Int) < sorts1.length)) (
 cond ((sorts1.getD (0:Int).toNat (0:Int))==4)
 (Aa (decide (0<=(1:Int))&&decide ((1:Int)<=sorts1.length)) (
 (DB (sorts1.drop (1:Int).toNat) 2).bind fun r36=>
 (BX r36.1.1 4).bind fun r37=>
 some ((r37.1.1,()),())))
 ((BX false 4).bind fun r38=>
 some ((r38.1.1,()),()))))
 (Aa (decide (0<=(0:Int))&&decide ((0:Int) < sorts1.length)) (
 (BX ((sorts1.getD (0:Int).toNat (0:Int))==2) 4).bind fun r39=>
 some ((r39.1.1,()),())))))))))))))))))))))
def JX (v:Int) (i:Nat) (x:((List Ac)×List (Int×Bt))×(Int×Bt)×(List Int)×Unit):Option (((List Ac)×List (Int×Bt))×(Int×Bt)×(List Int)×Unit):=
 let v4:=x.1
 let p9:=x.2.1
 let sorts10:=x.2.2.1
 Aa (decide (0<=v)&&decide (v < v4.2.length)) (Aa (decide (v.toNat < v4.2.length)) (Aa (decide (sorts10.length+([(v4.2.getD v.toNat ((0:Int),(0:Int),(0:Int))).1]:List Int).length<=Av)) (Aa (decide (0<=v)&&decide (v < v4.2.length)) (Aa (decide (v.toNat < v4.2.length)) (Aa (decide (0<=v)&&decide (v < v4.2.length)) (Aa (decide (v.toNat < v4.2.length)) (some (v4,(p9.1,BS p9.2.1 (qI ((((v4.2.getD v.toNat ((0:Int),(0:Int),(0:Int))).2).1)+1)),((v4.2.getD v.toNat ((0:Int),(0:Int),(0:Int))).2).2),sorts10++([(v4.2.getD v.toNat ((0:Int),(0:Int),(0:Int))).1]:List Int),()))))))))
def IN (y:((List Ac)×List (Int×Bt))×(Int×Bt)×(List Int)×Unit) (o:((List Ac)×List (Int×Bt))×(Int×Bt)×(List Int)×Unit):((List Ac)×List (Int×Bt))×(Int×Bt)×(List Int)×Unit:=(o.1,o.2.1,o.2.2.1,())
def Ni (y:((List Ac)×List (Int×Bt))×(Int×Bt)×(List Int)×Unit):((List Ac)×List (Int×Bt))×(Int×Bt)×(List Int)×Unit:=(y.1,y.2.1,y.2.2.1,())
def GX (x:(List Ac)×(Option Bf)×Bool×((List Ac)×List (Int×Bt))×(List Int)×Int×Unit):Option (Ex×((List Ac)×(Option Bf)×Bool×((List Ac)×List (Int×Bt))×(List Int)×Int×Unit)):=
 let t0:=x.1
 let t2:=x.2.1
 let t3:=x.2.2.1
 let v4:=x.2.2.2.1
 let roots5:=x.2.2.2.2.1
 let i6:=x.2.2.2.2.2.1
 cond (decide (i6>=0))
 (Aa (decide (0<=i6)&&decide (i6 < t0.length)) (
 cond (decide ((((((t0.getD i6.toNat Az).2).2).2).2) < (0:Int)))
 (some (Ex.ret,(t0,(none:Option Bf),false,v4,roots5,i6,())))
 (cond (decide ((((((t0.getD i6.toNat Az).2).2).2).2) > (roots5.length:Int)))
 (some (Ex.ret,(t0,(none:Option Bf),false,v4,roots5,i6,())))
 ((NO (t0.getD i6.toNat Az)).bind fun r1=>
 cond (!r1.1.1)
 (some (Ex.ret,(t0,(none:Option Bf),false,v4,roots5,i6,())))
 ((KZ ((t0.getD i6.toNat Az).1) (((((t0.getD i6.toNat Az).2).2).2).2)).bind fun r2=>
 cond (!r2.1.1)
 (some (Ex.ret,(t0,(none:Option Bf),false,v4,roots5,i6,())))
 (Aa (decide (0<=qI ((roots5.length:Int) - (((((t0.getD i6.toNat Az).2).2).2).2)))&&decide (qI ((roots5.length:Int) - (((((t0.getD i6.toNat Az).2).2).2).2))<=roots5.length)) (
 Aa (decide (((roots5.drop ((qI ((roots5.length:Int) - (((((t0.getD i6.toNat Az).2).2).2).2))).toNat)).take (roots5.length - (qI ((roots5.length:Int) - (((((t0.getD i6.toNat Az).2).2).2).2))).toNat)).length<=Av)) (((foldO (fun p y=>(JX p.1 p.2 y).bind fun o=>some (IN y o)) ((roots5.drop ((qI ((roots5.length:Int) - (((((t0.getD i6.toNat Az).2).2).2).2))).toNat)).take (roots5.length - (qI ((roots5.length:Int) - (((((t0.getD i6.toNat Az).2).2).2).2))).toNat)).zipIdx.reverse (v4,((0:Int),1,qI (i6+1)),([]:List Int),())).bind fun y=>some ((),Ni y)).bind fun y3=>
 (On (t0.getD i6.toNat Az) y3.2.2.2.1).bind fun r4=>
 cond (r4.1.1==0)
 (some (Ex.ret,(t0,(none:Option Bf),false,y3.2.1,roots5,i6,())))
 (cond (((t0.getD i6.toNat Az).1)==15)
 (Aa (decide (0<=qI (i6+1))&&decide (qI (i6+1) < t0.length)) (
 cond (((t0.getD (qI (i6+1)).toNat Az).1) !=(3:Int))
 (some (Ex.ret,(t0,(none:Option Bf),false,y3.2.1,roots5,i6,())))
 (Aa (decide (0<=i6)&&decide (i6 < y3.2.1.2.length)) (Aa (decide (i6.toNat < y3.2.1.2.length)) (Aa (decide (0<=qI ((roots5.length:Int) - (((((t0.getD i6.toNat Az).2).2).2).2)))&&decide (qI ((roots5.length:Int) - (((((t0.getD i6.toNat Az).2).2).2).2))<=roots5.length)) (Aa (decide (((qI ((roots5.length:Int) - (((((t0.getD i6.toNat Az).2).2).2).2))).toNat)+([i6]:List Int).length<=Av)) (some (Ex.normal,(t0,t2,t3,(y3.2.1.1,y3.2.1.2.set i6.toNat (r4.1.1,y3.2.2.1.2)),roots5.take ((qI ((roots5.length:Int) - (((((t0.getD i6.toNat Az).2).2).2).2))).toNat)++([i6]:List Int),qI (i6 - (1:Int)),())))))))))
 (Aa (decide (0<=i6)&&decide (i6 < y3.2.1.2.length)) (Aa (decide (i6.toNat < y3.2.1.2.length)) (Aa (decide (0<=qI ((roots5.length:Int) - (((((t0.getD i6.toNat Az).2).2).2).2)))&&decide (qI ((roots5.length:Int) - (((((t0.getD i6.toNat Az).2).2).2).2))<=roots5.length)) (Aa (decide (((qI ((roots5.length:Int) - (((((t0.getD i6.toNat Az).2).2).2).2))).toNat)+([i6]:List Int).length<=Av)) (some (Ex.normal,(t0,t2,t3,(y3.2.1.1,y3.2.1.2.set i6.toNat (r4.1.1,y3.2.2.1.2)),roots5.take ((qI ((roots5.length:Int) - (((((t0.getD i6.toNat Az).2).2).2).2))).toNat)++([i6]:List Int),qI (i6 - (1:Int)),()))))))))))))))))
 (some (Ex.exit 0,(t0,t2,t3,v4,roots5,i6,())))
def M_ (t0:List Ac):Option (((Option Bf)×Bool×Unit)×Unit):=
 Aa (decide (0<=(t0.length:Int))&&decide ((t0.length:Int)<=(t0.length:Int))&&decide ((t0.length:Int)<=Av)) (
 (Am GX (t0,(none:Option Bf),false,(t0,List.replicate (t0.length:Int).toNat ((0:Int),(0:Int),(0:Int))),([]:List Int),qI ((t0.length:Int) - (1:Int)),())).bind fun y1=>
 cond (Ex.same y1.1 (Ex.exit 0))
 (some ((some y1.2.2.2.2.1,(y1.2.2.2.2.2.1.length:Int)==1,()),()))
 (cond (Ex.same y1.1 Ex.ret)
 (some ((y1.2.2.1,y1.2.2.2.1,()),()))
 (none)))
def OT (v0:Option Bf):Option ((Bool×Unit)×Unit):=
 Aa (v0.isSome) (
 cond (decide ((((v0.getD BW).1).length:Int) > (20000:Int)))
 (some ((true,()),()))
 (Aa (v0.isSome) (Aa (decide (0<=(0:Int))&&decide ((0:Int) < ((v0.getD BW).2).length)) (some ((decide ((((((v0.getD BW).2).getD (0:Int).toNat ((0:Int),(0:Int),(0:Int))).2).1) > (257:Int)),()),())))))
def KO (x:(Option Bf)×(List Int)×Int×Int×Int×Unit):Option (Ex×((Option Bf)×(List Int)×Int×Int×Int×Unit)):=
 let v0:=x.1
 let out5:=x.2.1
 let at6:=x.2.2.1
 let t16:=x.2.2.2.1
 let t17:=x.2.2.2.2.1
 cond (decide (t17 < t16))
 (Aa (decide (out5.length+([at6]:List Int).length<=Av)) (Aa (v0.isSome) (Aa (decide (0<=at6)&&decide (at6 < ((v0.getD BW).2).length)) (some (Ex.normal,(v0,out5++([at6]:List Int),((((v0.getD BW).2).getD at6.toNat ((0:Int),(0:Int),(0:Int))).2).2,t16,qI (t17+1),()))))))
 (some (Ex.exit 0,(v0,out5,at6,t16,t17,())))
def KX (v0:Option Bf) (i1:Int):Option (((List Int)×Unit)×Unit):=
 Aa (v0.isSome) (
 Aa (decide (0<=i1)&&decide (i1 < ((v0.getD BW).1).length)) (
 (Am KO (v0,([]:List Int),qI (i1+1),((((((v0.getD BW).1).getD i1.toNat Az).2).2).2).2,0,())).bind fun y1=>
 cond (Ex.same y1.1 (Ex.exit 0))
 (some ((y1.2.2.1,()),()))
 (none)))
def t_view_signature_s3 (x:(Option Bf)×(qBs×Af)×(qBs×(List Int)×Int)×(List Int)×Int×Int×Unit):Option (Ex×((Option Bf)×(qBs×Af)×(qBs×(List Int)×Int)×(List Int)×Int×Int×Unit)):=
 let v0:=x.1
 let t4:=x.2.1
 let f5:=x.2.2.1
 let t27:=x.2.2.2.1
 let t28:=x.2.2.2.2.1
 let t29:=x.2.2.2.2.2.1
 cond (decide (t29 < t28))
 (Aa (decide (0<=t29)&&decide (t29 < t27.length)) (Aa (v0.isSome) (Aa (decide (0<=t27.getD t29.toNat (0:Int))&&decide (t27.getD t29.toNat (0:Int) < ((v0.getD BW).2).length)) (Aa (decide (f5.2.1.length+([(((v0.getD BW).2).getD (t27.getD t29.toNat (0:Int)).toNat ((0:Int),(0:Int),(0:Int))).1]:List Int).length<=Av)) (some (Ex.normal,(v0,t4,(f5.1,f5.2.1++([(((v0.getD BW).2).getD (t27.getD t29.toNat (0:Int)).toNat ((0:Int),(0:Int),(0:Int))).1]:List Int),f5.2.2),t27,t28,qI (t29+1),())))))))
 (some (Ex.exit 0,(v0,t4,f5,t27,t28,t29,())))
def Ny (v0:Option Bf) (i1:Int):Option (((qBs×Af)×Unit)×Unit):=
 Aa (v0.isSome) (
 Aa (decide (0<=i1)&&decide (i1 < ((v0.getD BW).1).length)) (
 Aa (v0.isSome) (
 Aa (decide (0<=i1)&&decide (i1 < ((v0.getD BW).1).length)) (
 (KX v0 i1).bind fun r1=>
 (Am t_view_signature_s3 (v0,(([]:qBs),([]:List Int),(0:Int)),((((((v0.getD BW).1).getD i1.toNat Az).2).2).1,([]:List Int),((((v0.getD BW).1).getD i1.toNat Az).2).1),r1.1.1,(r1.1.1.length:Int),0,())).bind fun y2=>
 cond (Ex.same y2.1 (Ex.exit 0))
 (some ((y2.2.2.2.1,()),()))
 (none)))))
def Ms (x:(List Int)×(List Int)×Bool×Int×Int×Unit):Option (Ex×((List Int)×(List Int)×Bool×Int×Int×Unit)):=
 let s10:=x.1
 let s21:=x.2.1
 let t4:=x.2.2.1
 let t12:=x.2.2.2.1
 let t13:=x.2.2.2.2.1
 cond (decide (t13 < t12))
 (Aa (decide (0<=t13)&&decide (t13 < s10.length)) (
 Aa (decide (0<=t13)&&decide (t13 < s21.length)) (
 cond ((s10.getD t13.toNat (0:Int)) !=(s21.getD t13.toNat (0:Int)))
 (some (Ex.ret,(s10,s21,false,t12,t13,())))
 (some (Ex.normal,(s10,s21,t4,t12,qI (t13+1),()))))))
 (some (Ex.exit 0,(s10,s21,t4,t12,t13,())))
def MQ (s10:List Int) (s21:List Int):Option ((Bool×Unit)×Unit):=
 cond ((s10.length:Int) !=(s21.length:Int))
 (some ((false,()),()))
 ((Am Ms (s10,s21,false,(s10.length:Int),0,())).bind fun y1=>
 cond (Ex.same y1.1 (Ex.exit 0))
 (some ((true,()),()))
 (cond (Ex.same y1.1 Ex.ret)
 (some ((y1.2.2.2.1,()),()))
 (none)))
def LP (f0:qBs×Af) (g1:qBs×Af):Option ((Bool×Unit)×Unit):=
 cond (f0.1==g1.1)
 (cond (f0.2.2==g1.2.2)
 ((MQ f0.2.1 g1.2.1).bind fun r1=>
 some ((r1.1.1,()),()))
 (some ((false,()),())))
 (some ((false,()),()))
def GO (x:(Option Bf)×(List Vr)×(List (qBs×Af))×Bool×(List (qBs×Vr))×(List (qBs×qBs×Af))×(List Vr)×(List (qBs×Af))×(List Ac)×Int×Int×Unit):Option (Ex×((Option Bf)×(List Vr)×(List (qBs×Af))×Bool×(List (qBs×Vr))×(List (qBs×qBs×Af))×(List Vr)×(List (qBs×Af))×(List Ac)×Int×Int×Unit)):=
 let v0:=x.1
 let t2:=x.2.1
 let t3:=x.2.2.1
 let t4:=x.2.2.2.1
 let vars5:=x.2.2.2.2.1
 let funcs6:=x.2.2.2.2.2.1
 let l7:=x.2.2.2.2.2.2.1
 let m8:=x.2.2.2.2.2.2.2.1
 let t25:=x.2.2.2.2.2.2.2.2.1
 let t26:=x.2.2.2.2.2.2.2.2.2.1
 let t27:=x.2.2.2.2.2.2.2.2.2.2.1
 cond (decide (t27 < t26))
 (Aa (decide (0<=t27)&&decide (t27 < t25.length)) (
 cond (((t25.getD t27.toNat Az).1)==4)
 (cond (!((AK ((((t25.getD t27.toNat Az).2).2).1) vars5).isSome))
 (Aa (decide (l7.length+([((((t25.getD t27.toNat Az).2).2).1,((t25.getD t27.toNat Az).2).1)]:List Vr).length<=Av)) (
 cond ((AK ((((t25.getD t27.toNat Az).2).2).1) funcs6).isSome)
 (some (Ex.ret,(v0,([]:List Vr),([]:List (qBs×Af)),false,BQ ((((t25.getD t27.toNat Az).2).2).1) ((((t25.getD t27.toNat Az).2).2).1,((t25.getD t27.toNat Az).2).1) vars5,funcs6,l7++([((((t25.getD t27.toNat Az).2).2).1,((t25.getD t27.toNat Az).2).1)]:List Vr),m8,t25,t26,t27,())))
 (cond ((((t25.getD t27.toNat Az).2).1) !=(((t25.getD t27.toNat Az).2).1))
 (some (Ex.ret,(v0,([]:List Vr),([]:List (qBs×Af)),false,BQ ((((t25.getD t27.toNat Az).2).2).1) ((((t25.getD t27.toNat Az).2).2).1,((t25.getD t27.toNat Az).2).1) vars5,funcs6,l7++([((((t25.getD t27.toNat Az).2).2).1,((t25.getD t27.toNat Az).2).1)]:List Vr),m8,t25,t26,t27,())))
 (some (Ex.normal,(v0,t2,t3,t4,BQ ((((t25.getD t27.toNat Az).2).2).1) ((((t25.getD t27.toNat Az).2).2).1,((t25.getD t27.toNat Az).2).1) vars5,funcs6,l7++([((((t25.getD t27.toNat Az).2).2).1,((t25.getD t27.toNat Az).2).1)]:List Vr),m8,t25,t26,qI (t27+1),()))))))
 (cond ((AK ((((t25.getD t27.toNat Az).2).2).1) funcs6).isSome)
 (some (Ex.ret,(v0,([]:List Vr),([]:List (qBs×Af)),false,vars5,funcs6,l7,m8,t25,t26,t27,())))
 (cond ((((AK ((((t25.getD t27.toNat Az).2).2).1) vars5).getD Cb).2) !=(((t25.getD t27.toNat Az).2).1))
 (some (Ex.ret,(v0,([]:List Vr),([]:List (qBs×Af)),false,vars5,funcs6,l7,m8,t25,t26,t27,())))
 (some (Ex.normal,(v0,t2,t3,t4,vars5,funcs6,l7,m8,t25,t26,qI (t27+1),()))))))
 (cond (((t25.getD t27.toNat Az).1)==5)
 ((Ny v0 t27).bind fun r1=>
 cond (!((AK ((((t25.getD t27.toNat Az).2).2).1) funcs6).isSome))
 (Aa (decide (m8.length+([r1.1.1]:List (qBs×Af)).length<=Av)) (
 cond ((AK ((((t25.getD t27.toNat Az).2).2).1) vars5).isSome)
 (some (Ex.ret,(v0,([]:List Vr),([]:List (qBs×Af)),false,vars5,BQ ((((t25.getD t27.toNat Az).2).2).1) r1.1.1 funcs6,l7,m8++([r1.1.1]:List (qBs×Af)),t25,t26,t27,())))
 ((LP r1.1.1 r1.1.1).bind fun r2=>
 cond (!r2.1.1)
 (some (Ex.ret,(v0,([]:List Vr),([]:List (qBs×Af)),false,vars5,BQ ((((t25.getD t27.toNat Az).2).2).1) r1.1.1 funcs6,l7,m8++([r1.1.1]:List (qBs×Af)),t25,t26,t27,())))
 (some (Ex.normal,(v0,t2,t3,t4,vars5,BQ ((((t25.getD t27.toNat Az).2).2).1) r1.1.1 funcs6,l7,m8++([r1.1.1]:List (qBs×Af)),t25,t26,qI (t27+1),()))))))
 (cond ((AK ((((t25.getD t27.toNat Az).2).2).1) vars5).isSome)
 (some (Ex.ret,(v0,([]:List Vr),([]:List (qBs×Af)),false,vars5,funcs6,l7,m8,t25,t26,t27,())))
 ((LP ((AK ((((t25.getD t27.toNat Az).2).2).1) funcs6).getD (([]:qBs),([]:List Int),(0:Int))) r1.1.1).bind fun r3=>
 cond (!r3.1.1)
 (some (Ex.ret,(v0,([]:List Vr),([]:List (qBs×Af)),false,vars5,funcs6,l7,m8,t25,t26,t27,())))
 (some (Ex.normal,(v0,t2,t3,t4,vars5,funcs6,l7,m8,t25,t26,qI (t27+1),()))))))
 (some (Ex.normal,(v0,t2,t3,t4,vars5,funcs6,l7,m8,t25,t26,qI (t27+1),()))))))
 (some (Ex.exit 0,(v0,t2,t3,t4,vars5,funcs6,l7,m8,t25,t26,t27,())))
def LZ (v0:Option Bf):Option (((List Vr)×(List (qBs×Af))×Bool×Unit)×Unit):=
 Aa (v0.isSome) (
 (Am GO (v0,([]:List Vr),([]:List (qBs×Af)),false,([]:List (qBs×Vr)),([]:List (qBs×qBs×Af)),([]:List Vr),([]:List (qBs×Af)),(v0.getD BW).1,(((v0.getD BW).1).length:Int),0,())).bind fun y1=>
 cond (Ex.same y1.1 (Ex.exit 0))
 (some ((y1.2.2.2.2.2.2.2.1,y1.2.2.2.2.2.2.2.2.1,true,()),()))
 (cond (Ex.same y1.1 Ex.ret)
 (some ((y1.2.2.1,y1.2.2.2.1,y1.2.2.2.2.1,()),()))
 (none)))
def Jx (t0:List Ac):Option (((Option Bf)×Bool×Unit)×Unit):=
 cond ((t0.length:Int)==0)
 (some (((none:Option Bf),false,()),()))
 (cond (decide ((t0.length:Int) > (20000:Int)))
 (some (((none:Option Bf),false,()),()))
 ((M_ t0).bind fun r1=>
 cond (!r1.1.2.1)
 (some (((none:Option Bf),false,()),()))
 ((OT r1.1.1).bind fun r2=>
 cond (r2.1.1)
 (some (((none:Option Bf),false,()),()))
 ((LZ r1.1.1).bind fun r3=>
 cond (!r3.1.2.2.1)
 (some (((none:Option Bf),false,()),()))
 (some ((r1.1.1,true,()),()))))))
def KR (t0:List Ac):Option ((Bool×Unit)×Unit):=
 (Jx t0).bind fun r1=>
 some ((r1.1.2.1,()),())
def PG (e0:Co) (n1:Ac):Option ((Ae×Int×Unit)×(Co×Unit)):=
 cond (!((AK n1.2.2.1 e0.2.2.1).isSome))
 (some ((((0:Int),false,([]:qBs),([]:List qBs),([]:List qBs)),7,()),e0,()))
 (cond ((((AK n1.2.2.1 e0.2.2.1).getD zVal).1) !=n1.2.1)
 (some ((((0:Int),false,([]:qBs),([]:List qBs),([]:List qBs)),3,()),e0,()))
 (some (((AK n1.2.2.1 e0.2.2.1).getD zVal,0,()),e0,())))
def K4 (x:(List qBs)×(List qBs)×Bool×Int×Int×Unit):Option (Ex×((List qBs)×(List qBs)×Bool×Int×Int×Unit)):=
 let s10:=x.1
 let s21:=x.2.1
 let t4:=x.2.2.1
 let t12:=x.2.2.2.1
 let t13:=x.2.2.2.2.1
 cond (decide (t13 < t12))
 (Aa (decide (0<=t13)&&decide (t13 < s10.length)) (
 Aa (decide (0<=t13)&&decide (t13 < s21.length)) (
 cond (!((s10.getD t13.toNat ([]:qBs))==(s21.getD t13.toNat ([]:qBs))))
 (some (Ex.ret,(s10,s21,false,t12,t13,())))
 (some (Ex.normal,(s10,s21,t4,t12,qI (t13+1),()))))))
 (some (Ex.exit 0,(s10,s21,t4,t12,t13,())))
def J3 (s10:List qBs) (s21:List qBs):Option ((Bool×Unit)×Unit):=
 cond ((s10.length:Int) !=(s21.length:Int))
 (some ((false,()),()))
 ((Am K4 (s10,s21,false,(s10.length:Int),0,())).bind fun y1=>
 cond (Ex.same y1.1 (Ex.exit 0))
 (some ((true,()),()))
 (cond (Ex.same y1.1 Ex.ret)
 (some ((y1.2.2.2.1,()),()))
 (none)))
def Hk (a0:Ae) (b1:Ae):Option ((Bool×Unit)×Unit):=
 cond (a0.1==b1.1)
 (cond (a0.2.1==b1.2.1)
 (cond (a0.2.2.1==b1.2.2.1)
 ((J3 a0.2.2.2.1 b1.2.2.2.1).bind fun r1=>
 cond (r1.1.1)
 ((J3 a0.2.2.2.2 b1.2.2.2.2).bind fun r2=>
 some ((r2.1.1,()),()))
 (some ((false,()),())))
 (some ((false,()),())))
 (some ((false,()),())))
 (some ((false,()),()))
def Lm (x:(List Ae)×Unit×Bool×(List Ae)×Int×Int×Unit):Option (Ex×((List Ae)×Unit×Bool×(List Ae)×Int×Int×Unit)):=
 let s21:=x.1
 let eq2:=x.2.1
 let t6:=x.2.2.1
 let t15:=x.2.2.2.1
 let t16:=x.2.2.2.2.1
 let t17:=x.2.2.2.2.2.1
 cond (decide (t17 < t16))
 (Aa (decide (0<=t17)&&decide (t17 < t15.length)) (
 Aa (decide (0<=t17)&&decide (t17 < s21.length)) (
 (Hk (t15.getD t17.toNat zVal) (s21.getD t17.toNat zVal)).bind fun r1=>
 cond (!r1.1.1)
 (some (Ex.ret,(s21,(),false,t15,t16,t17,())))
 (some (Ex.normal,(s21,(),t6,t15,t16,qI (t17+1),()))))))
 (some (Ex.exit 0,(s21,(),t6,t15,t16,t17,())))
def Nx (s10:List Ae) (s21:List Ae) (eq2:Unit):Option ((Bool×Unit)×Unit):=
 cond ((s10.length:Int) !=(s21.length:Int))
 (some ((false,()),()))
 ((Am Lm (s21,(),false,s10,(s10.length:Int),0,())).bind fun y1=>
 cond (Ex.same y1.1 (Ex.exit 0))
 (some ((true,()),()))
 (cond (Ex.same y1.1 Ex.ret)
 (some ((y1.2.2.2.1,()),()))
 (none)))
def Q4 (l0:List Ae) (a1:Option (List Ae)):Option ((Bool×Unit)×Unit):=
 Aa (a1.isSome) (
 (Nx l0 (a1.getD ([]:List Ae)) ()).bind fun r1=>
 some ((r1.1.1,()),()))
def J7 (x:(List (List Ae))×(Option (List Ae))×Int×Int×Int×Unit):Option (Ex×((List (List Ae))×(Option (List Ae))×Int×Int×Int×Unit)):=
 let s0:=x.1
 let f1:=x.2.1
 let t4:=x.2.2.1
 let t7:=x.2.2.2.1
 let t8:=x.2.2.2.2.1
 cond (decide (t8 < t7))
 (Aa (decide (0<=t8)&&decide (t8 < s0.length)) (
 (Q4 (s0.getD t8.toNat ([]:List Ae)) f1).bind fun r1=>
 cond (r1.1.1)
 (some (Ex.ret,(s0,f1,t8,t7,t8,())))
 (some (Ex.normal,(s0,f1,t4,t7,qI (t8+1),())))))
 (some (Ex.exit 0,(s0,f1,t4,t7,t8,())))
def Q9 (s0:List (List Ae)) (f1:Option (List Ae)):Option ((Int×Unit)×Unit):=
 (Am J7 (s0,f1,0,(s0.length:Int),0,())).bind fun y1=>
 cond (Ex.same y1.1 (Ex.exit 0))
 (some ((-1,()),()))
 (cond (Ex.same y1.1 Ex.ret)
 (some ((y1.2.2.2.1,()),()))
 (none))
def MW (e0:Co) (n1:Ac) (kids2:List Ae):Option ((Ae×Int×Unit)×(Co×Unit)):=
 cond (!((AK n1.2.2.1 e0.2.2.2).isSome))
 (some ((((0:Int),false,([]:qBs),([]:List qBs),([]:List qBs)),4,()),e0,()))
 ((Q9 ((((AK n1.2.2.1 e0.2.2.2).getD Cd).2).1) (some kids2)).bind fun r1=>
 cond (decide (r1.1.1>=0))
 (Aa (decide (0<=r1.1.1)&&decide (r1.1.1 < (((((AK n1.2.2.1 e0.2.2.2).getD Cd).2).2).1).length)) (
 cond ((((((((AK n1.2.2.1 e0.2.2.2).getD Cd).2).2).1).getD r1.1.1.toNat zVal).1) !=n1.2.1)
 (some ((((0:Int),false,([]:qBs),([]:List qBs),([]:List qBs)),3,()),e0,()))
 (some (((((((AK n1.2.2.1 e0.2.2.2).getD Cd).2).2).1).getD r1.1.1.toNat zVal,0,()),e0,()))))
 (cond (((((((AK n1.2.2.1 e0.2.2.2).getD Cd).2).2).2).1) !=n1.2.1)
 (some ((((0:Int),false,([]:qBs),([]:List qBs),([]:List qBs)),3,()),e0,()))
 (some ((((((AK n1.2.2.1 e0.2.2.2).getD Cd).2).2).2,0,()),e0,()))))
def Hh (v0:Ae):Option ((Bool×Unit)×Unit):=
 some ((!v0.2.1,()),())
def LU (x:(List Ae)×Unit×Int×Int×Int×Unit):Option (Ex×((List Ae)×Unit×Int×Int×Int×Unit)):=
 let s0:=x.1
 let f1:=x.2.1
 let t4:=x.2.2.1
 let t7:=x.2.2.2.1
 let t8:=x.2.2.2.2.1
 cond (decide (t8 < t7))
 (Aa (decide (0<=t8)&&decide (t8 < s0.length)) (
 (Hh (s0.getD t8.toNat zVal)).bind fun r1=>
 cond (r1.1.1)
 (some (Ex.ret,(s0,(),t8,t7,t8,())))
 (some (Ex.normal,(s0,(),t4,t7,qI (t8+1),())))))
 (some (Ex.exit 0,(s0,(),t4,t7,t8,())))
def QX (s0:List Ae) (f1:Unit):Option ((Int×Unit)×Unit):=
 (Am LU (s0,(),0,(s0.length:Int),0,())).bind fun y1=>
 cond (Ex.same y1.1 (Ex.exit 0))
 (some ((-1,()),()))
 (cond (Ex.same y1.1 Ex.ret)
 (some ((y1.2.2.2.1,()),()))
 (none))
def KY (s0:List Ae) (f1:Unit):Option ((Bool×Unit)×Unit):=
 (QX s0 ()).bind fun r1=>
 some ((decide (r1.1.1>=0),()),())
def Ef (is0:Bool):Option ((Ae×Unit)×Unit):=
 some (((1,is0,([]:qBs),([]:List qBs),([]:List qBs)),()),())
def Ic (v0:Ae):Option ((Bool×Unit)×Unit):=
 some ((v0.2.1,()),())
def LQ (x:(List Ae)×Unit×Int×Int×Int×Unit):Option (Ex×((List Ae)×Unit×Int×Int×Int×Unit)):=
 let s0:=x.1
 let f1:=x.2.1
 let t4:=x.2.2.1
 let t7:=x.2.2.2.1
 let t8:=x.2.2.2.2.1
 cond (decide (t8 < t7))
 (Aa (decide (0<=t8)&&decide (t8 < s0.length)) (
 (Ic (s0.getD t8.toNat zVal)).bind fun r1=>
 cond (r1.1.1)
 (some (Ex.ret,(s0,(),t8,t7,t8,())))
 (some (Ex.normal,(s0,(),t4,t7,qI (t8+1),())))))
 (some (Ex.exit 0,(s0,(),t4,t7,t8,())))
def QR (s0:List Ae) (f1:Unit):Option ((Int×Unit)×Unit):=
 (Am LQ (s0,(),0,(s0.length:Int),0,())).bind fun y1=>
 cond (Ex.same y1.1 (Ex.exit 0))
 (some ((-1,()),()))
 (cond (Ex.same y1.1 Ex.ret)
 (some ((y1.2.2.2.1,()),()))
 (none))
def K5 (s0:List Ae) (f1:Unit):Option ((Bool×Unit)×Unit):=
 (QR s0 ()).bind fun r1=>
 some ((decide (r1.1.1>=0),()),())
def Gp (sort0:Int) (a1:qBs):Option ((Ae×Unit)×Unit):=
 some (((sort0,false,a1,([]:List qBs),([]:List qBs)),()),())
def K' (x0:Bt) (y1:Bt):Option ((qBs×Unit)×Unit):=
 (HF (qI (x0.1 * y1.1)) (qI (x0.2 * y1.2))).bind fun r1=>
 some ((r1.1.1,()),())
def LN (x0:Rt) (y1:Rt):Option ((Rt×Unit)×Unit):=
 (Fz x0.2.1 y1.2.1).bind fun r1=>
 (Fz x0.2.2 y1.2.2).bind fun r2=>
 (Gv (!(x0.1==y1.1)) r1.1.1 r2.1.1).bind fun r3=>
 some (((r3.1.1.1,r3.1.1.2.1,r3.1.1.2.2),()),())
def Kl (x0:Rt) (y1:Rt):Option ((qBs×Unit)×Unit):=
 (LN (x0.1,x0.2.1,x0.2.2) (y1.1,y1.2.1,y1.2.2)).bind fun r1=>
 (GG (r1.1.1.1,r1.1.1.2.1,r1.1.1.2.2)).bind fun r2=>
 some ((r2.1.1,()),())
def JW (a0:qBs) (b1:qBs) (small2:Unit) (all3:Unit):Option ((qBs×Unit)×Unit):=
 (BU a0).bind fun r1=>
 (BU b1).bind fun r2=>
 cond (r1.1.2.1)
 (cond (r2.1.2.1)
 ((K' (r1.1.1.1,r1.1.1.2) (r2.1.1.1,r2.1.1.2)).bind fun r3=>
 some ((r3.1.1,()),()))
 ((BY a0).bind fun r4=>
 (BY b1).bind fun r5=>
 cond (!r4.1.2.1)
 (some ((([]:qBs),()),()))
 (cond (!r5.1.2.1)
 (some ((([]:qBs),()),()))
 ((Kl (r4.1.1.1,r4.1.1.2.1,r4.1.1.2.2) (r5.1.1.1,r5.1.1.2.1,r5.1.1.2.2)).bind fun r6=>
 some ((r6.1.1,()),())))))
 ((BY a0).bind fun r7=>
 (BY b1).bind fun r8=>
 cond (!r7.1.2.1)
 (some ((([]:qBs),()),()))
 (cond (!r8.1.2.1)
 (some ((([]:qBs),()),()))
 ((Kl (r7.1.1.1,r7.1.1.2.1,r7.1.1.2.2) (r8.1.1.1,r8.1.1.2.1,r8.1.1.2.2)).bind fun r9=>
 some ((r9.1.1,()),()))))
def Ks (a0:qBs) (b1:qBs):Option ((qBs×Unit)×Unit):=
 (JW a0 b1 () ()).bind fun r1=>
 some ((r1.1.1,()),())
def Ng (x0:Rt) (y1:Rt):Option ((Rt×Rt×Unit)×Unit):=
 (G' x0.2.1 y1.2.1).bind fun r1=>
 cond (x0.1)
 (cond (decide ((r1.1.2.1.length:Int) > (0:Int)))
 ((Iu r1.1.1 ([1]:List Int)).bind fun r2=>
 (HZ y1.2.1 r1.1.2.1).bind fun r3=>
 some (((!(x0.1==y1.1),r2.1.1,([1]:List Int)),(false,r3.1.1,([1]:List Int)),()),()))
 (some (((!(x0.1==y1.1),r1.1.1,([1]:List Int)),(false,r1.1.2.1,([1]:List Int)),()),())))
 (some (((!(x0.1==y1.1),r1.1.1,([1]:List Int)),(false,r1.1.2.1,([1]:List Int)),()),()))
def Li (a0:qBs) (b1:qBs):Option ((qBs×qBs×Unit)×Unit):=
 (CZ a0).bind fun r1=>
 cond (!r1.1.1)
 (some ((([]:qBs),([]:qBs),()),()))
 ((CZ b1).bind fun r2=>
 cond (!r2.1.1)
 (some ((([]:qBs),([]:qBs),()),()))
 (cond (b1==([48]:qBs))
 (some ((([]:qBs),([]:qBs),()),()))
 ((BY a0).bind fun r3=>
 (BY b1).bind fun r4=>
 (Ng (r3.1.1.1,r3.1.1.2.1,r3.1.1.2.2) (r4.1.1.1,r4.1.1.2.1,r4.1.1.2.2)).bind fun r5=>
 (GG (r5.1.1.1,r5.1.1.2.1,r5.1.1.2.2)).bind fun r6=>
 (GG (r5.1.2.1.1,r5.1.2.1.2.1,r5.1.2.1.2.2)).bind fun r7=>
 some ((r6.1.1,r7.1.1,()),()))))
def LC (a0:qBs) (b1:qBs):Option ((qBs×Unit)×Unit):=
 (Li a0 b1).bind fun r1=>
 some ((r1.1.1,()),())
def Kn (a0:qBs) (b1:qBs):Option ((qBs×Unit)×Unit):=
 (Li a0 b1).bind fun r1=>
 some ((r1.1.2.1,()),())
def Hp (x:(List qBs)×qBs×Unit×Int×Int×Int×Unit):Option (Ex×((List qBs)×qBs×Unit×Int×Int×Int×Unit)):=
 let x0:=x.1
 let target1:=x.2.1
 let cmp2:=x.2.2.1
 let n8:=x.2.2.2.1
 let i9:=x.2.2.2.2.1
 let j10:=x.2.2.2.2.2.1
 cond (decide (i9 < j10))
 (Aa (decide (0<=(1:Int))) (
 Aa (decide (0<=qI ((qU (qI (i9+j10))).fdiv (2 ^ min (1:Int).toNat IntKind.u64.bits)))&&decide (qI ((qU (qI (i9+j10))).fdiv (2 ^ min (1:Int).toNat IntKind.u64.bits)) < x0.length)) (
 (Db (x0.getD (qI ((qU (qI (i9+j10))).fdiv (2 ^ min (1:Int).toNat IntKind.u64.bits))).toNat ([]:qBs)) target1).bind fun r1=>
 cond (decide (r1.1.1 < (0:Int)))
 (some (Ex.normal,(x0,target1,(),n8,qI ((qI ((qU (qI (i9+j10))).fdiv (2 ^ min (1:Int).toNat IntKind.u64.bits)))+1),j10,())))
 (some (Ex.normal,(x0,target1,(),n8,i9,qI ((qU (qI (i9+j10))).fdiv (2 ^ min (1:Int).toNat IntKind.u64.bits)),()))))))
 (some (Ex.exit 0,(x0,target1,(),n8,i9,j10,())))
def Kt (x0:List qBs) (target1:qBs) (cmp2:Unit):Option ((Int×Bool×Unit)×Unit):=
 (Am Hp (x0,target1,(),(x0.length:Int),0,(x0.length:Int),())).bind fun y1=>
 cond (Ex.same y1.1 (Ex.exit 0))
 (cond (decide (y1.2.2.2.2.2.1 < y1.2.2.2.2.1))
 (Aa (decide (0<=y1.2.2.2.2.2.1)&&decide (y1.2.2.2.2.2.1 < y1.2.1.length)) (
 (Db (y1.2.1.getD y1.2.2.2.2.2.1.toNat ([]:qBs)) y1.2.2.1).bind fun r2=>
 some ((y1.2.2.2.2.2.1,r2.1.1==0,()),())))
 (some ((y1.2.2.2.2.2.1,false,()),())))
 (none)
def IQ (a0:Ae) (index1:qBs):Option ((Int×Bool×Unit)×Unit):=
 (Kt a0.2.2.2.1 index1 ()).bind fun r1=>
 some ((r1.1.1,r1.1.2.1,()),())
def Oh (a0:Ae) (index1:qBs):Option ((qBs×Unit)×Unit):=
 (IQ a0 index1).bind fun r1=>
 cond (r1.1.2.1)
 (Aa (decide (0<=r1.1.1)&&decide (r1.1.1 < a0.2.2.2.2.length)) (some ((a0.2.2.2.2.getD r1.1.1.toNat ([]:qBs),()),())))
 (some ((a0.2.2.1,()),()))
def IJ (v0:Ae):Option (((Int×Bool×qBs×(List qBs)×List qBs)×Unit)×Unit):=
 (N9 v0.2.2.2.1).bind fun r1=>
 (N9 v0.2.2.2.2).bind fun r2=>
 some (((v0.1,v0.2.1,v0.2.2.1,r1.1.1,r2.1.1),()),())
def IU (a0:Ae) (index1:qBs) (num2:qBs):Option ((Ae×Unit)×Unit):=
 (IJ a0).bind fun r1=>
 (IQ r1.1.1 index1).bind fun r2=>
 cond (r2.1.2.1)
 (cond (num2==r1.1.1.2.2.1)
 ((JZ r1.1.1.2.2.2.1 r2.1.1 (qI (r2.1.1+1))).bind fun r3=>
 (JZ r1.1.1.2.2.2.2 r2.1.1 (qI (r2.1.1+1))).bind fun r4=>
 some (((r1.1.1.1,r1.1.1.2.1,r1.1.1.2.2.1,r3.2.1.take r3.1.1,r4.2.1.take r4.1.1),()),()))
 (cond (r2.1.2.1)
 (Aa (decide (0<=r2.1.1)&&decide (r2.1.1 < r1.1.1.2.2.2.2.length)) (Aa (decide (r2.1.1.toNat < r1.1.1.2.2.2.2.length)) (some (((r1.1.1.1,r1.1.1.2.1,r1.1.1.2.2.1,r1.1.1.2.2.2.1,r1.1.1.2.2.2.2.set r2.1.1.toNat num2),()),()))))
 (cond (!(num2==r1.1.1.2.2.1))
 ((HI r1.1.1.2.2.2.1 r2.1.1 ([index1]:List qBs)).bind fun r5=>
 (HI r1.1.1.2.2.2.2 r2.1.1 ([num2]:List qBs)).bind fun r6=>
 some (((r1.1.1.1,r1.1.1.2.1,r1.1.1.2.2.1,r5.1.1,r6.1.1),()),()))
 (some ((r1.1.1,()),())))))
 (cond (r2.1.2.1)
 (Aa (decide (0<=r2.1.1)&&decide (r2.1.1 < r1.1.1.2.2.2.2.length)) (Aa (decide (r2.1.1.toNat < r1.1.1.2.2.2.2.length)) (some (((r1.1.1.1,r1.1.1.2.1,r1.1.1.2.2.1,r1.1.1.2.2.2.1,r1.1.1.2.2.2.2.set r2.1.1.toNat num2),()),()))))
 (cond (!(num2==r1.1.1.2.2.1))
 ((HI r1.1.1.2.2.2.1 r2.1.1 ([index1]:List qBs)).bind fun r7=>
 (HI r1.1.1.2.2.2.2 r2.1.1 ([num2]:List qBs)).bind fun r8=>
 some (((r1.1.1.1,r1.1.1.2.1,r1.1.1.2.2.1,r7.1.1,r8.1.1),()),()))
 (some ((r1.1.1,()),()))))
def Lk (x:(List Ae)×Ae×qBs×(List Ae)×Int×Int×Unit):Option (Ex×((List Ae)×Ae×qBs×(List Ae)×Int×Int×Unit)):=
 let l1:=x.1
 let t4:=x.2.1
 let sum5:=x.2.2.1
 let t19:=x.2.2.2.1
 let t20:=x.2.2.2.2.1
 let t21:=x.2.2.2.2.2.1
 cond (decide (t21 < t20))
 (Aa (decide (0<=t21)&&decide (t21 < t19.length)) (
 (JM sum5 ((((t19.getD t21.toNat zVal).2).2).1)).bind fun r1=>
 some (Ex.normal,(l1,t4,r1.1.1,t19,t20,qI (t21+1),()))))
 (some (Ex.exit 1,(l1,t4,sum5,t19,t20,t21,())))
def NQ (n0:Ac) (l1:List Ae):Option ((Ae×Unit)×Unit):=
 cond (n0.1==3)
 ((Gp n0.2.1 n0.2.2.2.1).bind fun r1=>
 some ((r1.1.1,()),()))
 (cond (n0.1==14)
 ((Am Lk (l1,((0:Int),false,([]:qBs),([]:List qBs),([]:List qBs)),([48]:qBs),l1,(l1.length:Int),0,())).bind fun y2=>
 cond (Ex.same y2.1 (Ex.exit 1))
 (Aa (decide (0<=(0:Int))&&decide ((0:Int) < y2.2.1.length)) (
 (Gp ((y2.2.1.getD (0:Int).toNat zVal).1) y2.2.2.2.1).bind fun r3=>
 some ((r3.1.1,()),())))
 (none))
 (cond (n0.1==15)
 (Aa (decide (0<=(0:Int))&&decide ((0:Int) < l1.length)) (
 Aa (decide (0<=(0:Int))&&decide ((0:Int) < l1.length)) (
 Aa (decide (0<=(1:Int))&&decide ((1:Int) < l1.length)) (
 (Ks ((((l1.getD (0:Int).toNat zVal).2).2).1) ((((l1.getD (1:Int).toNat zVal).2).2).1)).bind fun r4=>
 (Gp ((l1.getD (0:Int).toNat zVal).1) r4.1.1).bind fun r5=>
 some ((r5.1.1,()),())))))
 (cond (n0.1==16)
 (Aa (decide (0<=(0:Int))&&decide ((0:Int) < l1.length)) (
 (LC ((((l1.getD (0:Int).toNat zVal).2).2).1) n0.2.2.2.1).bind fun r6=>
 (Gp 2 r6.1.1).bind fun r7=>
 some ((r7.1.1,()),())))
 (cond (n0.1==17)
 (Aa (decide (0<=(0:Int))&&decide ((0:Int) < l1.length)) (
 (Kn ((((l1.getD (0:Int).toNat zVal).2).2).1) n0.2.2.2.1).bind fun r8=>
 (Gp 2 r8.1.1).bind fun r9=>
 some ((r9.1.1,()),())))
 (cond (n0.1==18)
 (Aa (decide (0<=(0:Int))&&decide ((0:Int) < l1.length)) (
 Aa (decide (0<=(1:Int))&&decide ((1:Int) < l1.length)) (
 (Oh (l1.getD (0:Int).toNat zVal) ((((l1.getD (1:Int).toNat zVal).2).2).1)).bind fun r10=>
 (Gp 2 r10.1.1).bind fun r11=>
 some ((r11.1.1,()),()))))
 (cond (n0.1==19)
 (Aa (decide (0<=(0:Int))&&decide ((0:Int) < l1.length)) (
 Aa (decide (0<=(1:Int))&&decide ((1:Int) < l1.length)) (
 Aa (decide (0<=(2:Int))&&decide ((2:Int) < l1.length)) (
 (IU (l1.getD (0:Int).toNat zVal) ((((l1.getD (1:Int).toNat zVal).2).2).1) ((((l1.getD (2:Int).toNat zVal).2).2).1)).bind fun r12=>
 some ((r12.1.1,()),())))))
 (Aa (decide (0<=(0:Int))&&decide ((0:Int) < l1.length)) (some (((4,false,(((l1.getD (0:Int).toNat zVal).2).2).1,([]:List qBs),([]:List qBs)),()),())))))))))
def LW (n0:Ac) (l1:List Ae):Option ((Ae×Unit)×Unit):=
 cond (n0.1==1)
 ((KY l1 ()).bind fun r1=>
 (Ef !r1.1.1).bind fun r2=>
 some ((r2.1.1,()),()))
 (cond (n0.1==7)
 ((KY l1 ()).bind fun r3=>
 (Ef !r3.1.1).bind fun r4=>
 some ((r4.1.1,()),()))
 (cond (n0.1==2)
 ((K5 l1 ()).bind fun r5=>
 (Ef r5.1.1).bind fun r6=>
 some ((r6.1.1,()),()))
 (cond (n0.1==8)
 ((K5 l1 ()).bind fun r7=>
 (Ef r7.1.1).bind fun r8=>
 some ((r8.1.1,()),()))
 (cond (n0.1==6)
 (Aa (decide (0<=(0:Int))&&decide ((0:Int) < l1.length)) (
 (Hh (l1.getD (0:Int).toNat zVal)).bind fun r9=>
 (Ef r9.1.1).bind fun r10=>
 some ((r10.1.1,()),())))
 (cond (n0.1==9)
 (Aa (decide (0<=(0:Int))&&decide ((0:Int) < l1.length)) (
 (Hh (l1.getD (0:Int).toNat zVal)).bind fun r11=>
 cond (r11.1.1)
 ((Ef true).bind fun r12=>
 some ((r12.1.1,()),()))
 (Aa (decide (0<=(1:Int))&&decide ((1:Int) < l1.length)) (
 (Ic (l1.getD (1:Int).toNat zVal)).bind fun r13=>
 (Ef r13.1.1).bind fun r14=>
 some ((r14.1.1,()),())))))
 (cond (n0.1==10)
 (Aa (decide (0<=(0:Int))&&decide ((0:Int) < l1.length)) (
 (Ic (l1.getD (0:Int).toNat zVal)).bind fun r15=>
 cond (r15.1.1)
 (Aa (decide (0<=(1:Int))&&decide ((1:Int) < l1.length)) (some ((l1.getD (1:Int).toNat zVal,()),())))
 (Aa (decide (0<=(2:Int))&&decide ((2:Int) < l1.length)) (some ((l1.getD (2:Int).toNat zVal,()),())))))
 (cond (n0.1==11)
 (Aa (decide (0<=(0:Int))&&decide ((0:Int) < l1.length)) (
 Aa (decide (0<=(1:Int))&&decide ((1:Int) < l1.length)) (
 (Hk (l1.getD (0:Int).toNat zVal) (l1.getD (1:Int).toNat zVal)).bind fun r16=>
 (Ef r16.1.1).bind fun r17=>
 some ((r17.1.1,()),()))))
 (cond (n0.1==12)
 (Aa (decide (0<=(0:Int))&&decide ((0:Int) < l1.length)) (
 Aa (decide (0<=(1:Int))&&decide ((1:Int) < l1.length)) (
 (Db ((((l1.getD (0:Int).toNat zVal).2).2).1) ((((l1.getD (1:Int).toNat zVal).2).2).1)).bind fun r18=>
 (Ef (decide (r18.1.1<=0))).bind fun r19=>
 some ((r19.1.1,()),()))))
 (cond (n0.1==13)
 (Aa (decide (0<=(0:Int))&&decide ((0:Int) < l1.length)) (
 Aa (decide (0<=(1:Int))&&decide ((1:Int) < l1.length)) (
 (Db ((((l1.getD (0:Int).toNat zVal).2).2).1) ((((l1.getD (1:Int).toNat zVal).2).2).1)).bind fun r20=>
 (Ef (decide (r20.1.1 < (0:Int)))).bind fun r21=>
 some ((r21.1.1,()),()))))
 ((NQ n0 l1).bind fun r22=>
 some ((r22.1.1,()),())))))))))))
def Fp (AMU:Co->Option ((Ae×Int×Unit)×(Co×Unit))) (x:Co×Ae×Int×Ac×(List Ae)×Int×Int×Unit):Option (Ex×(Co×Ae×Int×Ac×(List Ae)×Int×Int×Unit)):=
 let e0:=x.1
 let t2:=x.2.1
 let t3:=x.2.2.1
 let n4:=x.2.2.2.1
 let kids5:=x.2.2.2.2.1
 let t26:=x.2.2.2.2.2.1
 let t27:=x.2.2.2.2.2.2.1
 cond (decide (t27 < t26))
 ((AMU e0).bind fun r1=>
 cond (r1.1.2.1 !=(0:Int))
 (some (Ex.ret,(r1.2.1,((0:Int),false,([]:qBs),([]:List qBs),([]:List qBs)),r1.1.2.1,n4,kids5,t26,t27,())))
 (Aa (decide (kids5.length+([r1.1.1]:List Ae).length<=Av)) (some (Ex.normal,(r1.2.1,t2,t3,n4,kids5++([r1.1.1]:List Ae),t26,qI (t27+1),())))))
 (some (Ex.exit 0,(e0,t2,t3,n4,kids5,t26,t27,())))
def OC (AMU:Co->Option ((Ae×Int×Unit)×(Co×Unit))) (e0:Co):Option ((Ae×Int×Unit)×(Co×Unit)):=
 Aa (decide (0<=e0.2.1)&&decide (e0.2.1 < e0.1.length)) (
 (Am (Fp AMU) ((e0.1,qI (e0.2.1+1),e0.2.2),((0:Int),false,([]:qBs),([]:List qBs),([]:List qBs)),0,e0.1.getD e0.2.1.toNat Az,([]:List Ae),((((e0.1.getD e0.2.1.toNat Az).2).2).2).2,0,())).bind fun y1=>
 cond (Ex.same y1.1 (Ex.exit 0))
 (cond (y1.2.2.2.2.1.1==4)
 ((PG y1.2.1 y1.2.2.2.2.1).bind fun r2=>
 some ((r2.1.1,r2.1.2.1,()),r2.2.1,()))
 (cond (y1.2.2.2.2.1.1==5)
 ((MW y1.2.1 y1.2.2.2.2.1 y1.2.2.2.2.2.1).bind fun r3=>
 some ((r3.1.1,r3.1.2.1,()),r3.2.1,()))
 ((LW y1.2.2.2.2.1 y1.2.2.2.2.2.1).bind fun r4=>
 some ((r4.1.1,0,()),y1.2.1,()))))
 (cond (Ex.same y1.1 Ex.ret)
 (some ((y1.2.2.1,y1.2.2.2.1,()),y1.2.1,()))
 (none)))
def E7:Nat->Co->Option ((Ae×Int×Unit)×(Co×Unit))
 |0=>fun _=>none
 |n+1=>OC (E7 n)
def IV (t0:List Ac) (env1:List AN) (fns2:List Interp):Option ((Ae×Int×Unit)×Unit):=
 (Kh env1).bind fun r1=>
 (LR fns2).bind fun r2=>
 cond (!r1.1.2.1)
 (some ((((0:Int),false,([]:qBs),([]:List qBs),([]:List qBs)),1,()),()))
 (cond (!r2.1.2.1)
 (some ((((0:Int),false,([]:qBs),([]:List qBs),([]:List qBs)),1,()),()))
 ((KR t0).bind fun r3=>
 cond (!r3.1.1)
 (some ((((0:Int),false,([]:qBs),([]:List qBs),([]:List qBs)),1,()),()))
 ((E7 BB (t0,0,r1.1.1,r2.1.1)).bind fun r4=>
 cond (r4.1.2.1 !=(0:Int))
 (some ((((0:Int),false,([]:qBs),([]:List qBs),([]:List qBs)),r4.1.2.1,()),()))
 ((IJ r4.1.1).bind fun r5=>
 some ((r5.1.1,0,()),())))))
def Jl (x:Interp×Bool×Int×Int×Unit):Option (Ex×(Interp×Bool×Int×Int×Unit)):=
 let f1:=x.1
 let t2:=x.2.1
 let i3:=x.2.2.1
 let k4:=x.2.2.2.1
 Aa (decide (0<=i3)&&decide (i3 < f1.2.1.length)) (
 cond (decide (k4 < ((f1.2.1.getD i3.toNat ([]:List Ae)).length:Int)))
 (Aa (decide (0<=i3)&&decide (i3 < f1.2.1.length)) (
 Aa (decide (0<=k4)&&decide (k4 < (f1.2.1.getD i3.toNat ([]:List Ae)).length)) (
 (Fh ((f1.2.1.getD i3.toNat ([]:List Ae)).getD k4.toNat zVal)).bind fun r1=>
 cond (!r1.1.1)
 (some (Ex.ret,(f1,false,i3,k4,())))
 (some (Ex.normal,(f1,t2,i3,qI (k4+1),()))))))
 (some (Ex.exit 2,(f1,t2,i3,k4,()))))
def G4 (x:Interp×Bool×Int×Unit):Option (Ex×(Interp×Bool×Int×Unit)):=
 let f1:=x.1
 let t2:=x.2.1
 let i3:=x.2.2.1
 cond (decide (i3 < (f1.2.1.length:Int)))
 (Aa (decide (0<=i3)&&decide (i3 < f1.2.2.1.length)) (
 (Fh (f1.2.2.1.getD i3.toNat zVal)).bind fun r1=>
 cond (!r1.1.1)
 (some (Ex.ret,(f1,false,i3,())))
 ((Am Jl (f1,t2,i3,0,())).bind fun y2=>
 cond (Ex.same y2.1 (Ex.exit 2))
 (some (Ex.normal,(y2.2.1,y2.2.2.1,qI (y2.2.2.2.1+1),())))
 (cond (Ex.same y2.1 Ex.ret)
 (some (Ex.ret,(y2.2.1,y2.2.2.1,y2.2.2.2.1,())))
 (none)))))
 (some (Ex.exit 0,(f1,t2,i3,())))
def Nd (f0:Interp):Option ((Bool×Unit)×Unit):=
 cond ((f0.2.1.length:Int) !=(f0.2.2.1.length:Int))
 (some ((false,()),()))
 ((Fh f0.2.2.2).bind fun r1=>
 cond (!r1.1.1)
 (some ((false,()),()))
 ((Am G4 (f0,false,0,())).bind fun y2=>
 cond (Ex.same y2.1 (Ex.exit 0))
 (some ((true,()),()))
 (cond (Ex.same y2.1 Ex.ret)
 (some ((y2.2.2.1,()),()))
 (none))))
def Ej (b0:Bool):Option ((Ae×Unit)×Unit):=
 some (((1,b0,([]:qBs),([]:List qBs),([]:List qBs)),()),())
def LO (x:(List qBs)×(List qBs)×Bool×Int×Unit):Option (Ex×((List qBs)×(List qBs)×Bool×Int×Unit)):=
 let a0:=x.1
 let b1:=x.2.1
 let t4:=x.2.2.1
 let i5:=x.2.2.2.1
 cond (decide (i5 < (a0.length:Int)))
 (Aa (decide (0<=i5)&&decide (i5 < a0.length)) (
 Aa (decide (0<=i5)&&decide (i5 < b1.length)) (
 cond (!((a0.getD i5.toNat ([]:qBs))==(b1.getD i5.toNat ([]:qBs))))
 (some (Ex.ret,(a0,b1,false,i5,())))
 (some (Ex.normal,(a0,b1,t4,qI (i5+1),()))))))
 (some (Ex.exit 0,(a0,b1,t4,i5,())))
def LA (a0:List qBs) (b1:List qBs):Option ((Bool×Unit)×Unit):=
 cond ((a0.length:Int) !=(b1.length:Int))
 (some ((false,()),()))
 ((Am LO (a0,b1,false,0,())).bind fun y1=>
 cond (Ex.same y1.1 (Ex.exit 0))
 (some ((true,()),()))
 (cond (Ex.same y1.1 Ex.ret)
 (some ((y1.2.2.2.1,()),()))
 (none)))
def HC (a0:Ae) (b1:Ae):Option ((Bool×Unit)×Unit):=
 cond (a0.1==b1.1)
 (cond (a0.2.1==b1.2.1)
 (cond (a0.2.2.1==b1.2.2.1)
 ((LA a0.2.2.2.1 b1.2.2.2.1).bind fun r1=>
 cond (r1.1.1)
 ((LA a0.2.2.2.2 b1.2.2.2.2).bind fun r2=>
 some ((r2.1.1,()),()))
 (some ((false,()),())))
 (some ((false,()),())))
 (some ((false,()),())))
 (some ((false,()),()))
def KH (x:(List Ae)×(List Ae)×Bool×Int×Unit):Option (Ex×((List Ae)×(List Ae)×Bool×Int×Unit)):=
 let a0:=x.1
 let b1:=x.2.1
 let t4:=x.2.2.1
 let i5:=x.2.2.2.1
 cond (decide (i5 < (a0.length:Int)))
 (Aa (decide (0<=i5)&&decide (i5 < a0.length)) (
 Aa (decide (0<=i5)&&decide (i5 < b1.length)) (
 (HC (a0.getD i5.toNat zVal) (b1.getD i5.toNat zVal)).bind fun r1=>
 cond (!r1.1.1)
 (some (Ex.ret,(a0,b1,false,i5,())))
 (some (Ex.normal,(a0,b1,t4,qI (i5+1),()))))))
 (some (Ex.exit 0,(a0,b1,t4,i5,())))
def N0 (a0:List Ae) (b1:List Ae):Option ((Bool×Unit)×Unit):=
 cond ((a0.length:Int) !=(b1.length:Int))
 (some ((false,()),()))
 ((Am KH (a0,b1,false,0,())).bind fun y1=>
 cond (Ex.same y1.1 (Ex.exit 0))
 (some ((true,()),()))
 (cond (Ex.same y1.1 Ex.ret)
 (some ((y1.2.2.2.1,()),()))
 (none)))
def ID (x:((List Ac)×(List AN)×List Interp)×(List Ae)×Ac×Ae×Int×Interp×Ae×Int×Unit):Option (Ex×(((List Ac)×(List AN)×List Interp)×(List Ae)×Ac×Ae×Int×Interp×Ae×Int×Unit)):=
 let x0:=x.1
 let args2:=x.2.1
 let n4:=x.2.2.1
 let t6:=x.2.2.2.1
 let i8:=x.2.2.2.2.1
 let f9:=x.2.2.2.2.2.1
 let v10:=x.2.2.2.2.2.2.1
 let k11:=x.2.2.2.2.2.2.2.1
 cond (decide (k11>=0))
 (Aa (decide (0<=k11)&&decide (k11 < f9.2.1.length)) (
 (N0 (f9.2.1.getD k11.toNat ([]:List Ae)) args2).bind fun r1=>
 cond (r1.1.1)
 (Aa (decide (0<=k11)&&decide (k11 < f9.2.2.1.length)) (some (Ex.normal,(x0,args2,n4,t6,i8,f9,f9.2.2.1.getD k11.toNat zVal,qI (k11 - (1:Int)),()))))
 (some (Ex.normal,(x0,args2,n4,t6,i8,f9,v10,qI (k11 - (1:Int)),())))))
 (some (Ex.exit 2,(x0,args2,n4,t6,i8,f9,v10,k11,())))
def Gn (x:((List Ac)×(List AN)×List Interp)×(List Ae)×Ac×Ae×Int×Int×Unit):Option (Ex×(((List Ac)×(List AN)×List Interp)×(List Ae)×Ac×Ae×Int×Int×Unit)):=
 let x0:=x.1
 let args2:=x.2.1
 let n4:=x.2.2.1
 let t6:=x.2.2.2.1
 let t7:=x.2.2.2.2.1
 let i8:=x.2.2.2.2.2.1
 cond (decide (i8 < (x0.2.2.length:Int)))
 (Aa (decide (0<=i8)&&decide (i8 < x0.2.2.length)) (
 cond (!(((x0.2.2.getD i8.toNat Cd).1)==n4.2.2.1))
 (some (Ex.normal,(x0,args2,n4,t6,t7,qI (i8+1),())))
 ((Am ID (x0,args2,n4,t6,i8,x0.2.2.getD i8.toNat Cd,(((x0.2.2.getD i8.toNat Cd).2).2).2,qI (((((x0.2.2.getD i8.toNat Cd).2).1).length:Int) - (1:Int)),())).bind fun y1=>
 cond (Ex.same y1.1 (Ex.exit 2))
 (cond (y1.2.2.2.2.2.2.2.1.1 !=y1.2.2.2.1.2.1)
 (some (Ex.ret,(y1.2.1,y1.2.2.1,y1.2.2.2.1,((0:Int),false,([]:qBs),([]:List qBs),([]:List qBs)),3,y1.2.2.2.2.2.1,())))
 (some (Ex.ret,(y1.2.1,y1.2.2.1,y1.2.2.2.1,y1.2.2.2.2.2.2.2.1,0,y1.2.2.2.2.2.1,()))))
 (none))))
 (some (Ex.exit 0,(x0,args2,n4,t6,t7,i8,())))
def Mb (x0:(List Ac)×(List AN)×List Interp) (n1:Ac) (args2:List Ae):Option ((Ae×Int×Unit)×(((List Ac)×(List AN)×List Interp)×Unit)):=
 (Am Gn (x0,args2,n1,((0:Int),false,([]:qBs),([]:List qBs),([]:List qBs)),0,0,())).bind fun y1=>
 cond (Ex.same y1.1 (Ex.exit 0))
 (some ((((0:Int),false,([]:qBs),([]:List qBs),([]:List qBs)),4,()),y1.2.1,()))
 (cond (Ex.same y1.1 Ex.ret)
 (some ((y1.2.2.2.2.1,y1.2.2.2.2.2.1,()),y1.2.1,()))
 (none))
def Q5 (a0:qBs):Option ((qBs×Unit)×Unit):=
 (D0 a0).bind fun r1=>
 cond (!r1.1.1)
 (some ((([]:qBs),()),()))
 (some ((a0,()),()))
def MP (a0:qBs):Option ((qBs×Unit)×Unit):=
 (GA a0).bind fun r1=>
 cond (decide (r1.1.1 < (0:Int)))
 ((IS a0).bind fun r2=>
 some ((r2.1.1,()),()))
 ((Q5 a0).bind fun r3=>
 some ((r3.1.1,()),()))
def Ou (a0:qBs):Option ((qBs×Unit)×Unit):=
 (CB a0).bind fun r1=>
 cond (!r1.1.2.1)
 (some ((([]:qBs),()),()))
 ((Ig r1.1.1.2.1 r1.1.1.2.2).bind fun r2=>
 cond (r1.1.1.1)
 (cond (!(r2.1.2.1==([48]:qBs)))
 ((Kv r2.1.1 ([49]:qBs)).bind fun r3=>
 cond (r1.1.1.1)
 ((B5 (!(r3.1.1==([48]:qBs)),r3.1.1,([49]:qBs))).bind fun r4=>
 some ((r4.1.1,()),()))
 ((B5 (false,r3.1.1,([49]:qBs))).bind fun r5=>
 some ((r5.1.1,()),())))
 (cond (r1.1.1.1)
 ((B5 (!(r2.1.1==([48]:qBs)),r2.1.1,([49]:qBs))).bind fun r6=>
 some ((r6.1.1,()),()))
 ((B5 (false,r2.1.1,([49]:qBs))).bind fun r7=>
 some ((r7.1.1,()),()))))
 (cond (r1.1.1.1)
 ((B5 (!(r2.1.1==([48]:qBs)),r2.1.1,([49]:qBs))).bind fun r8=>
 some ((r8.1.1,()),()))
 ((B5 (false,r2.1.1,([49]:qBs))).bind fun r9=>
 some ((r9.1.1,()),()))))
def Hn (a0:qBs) (b1:qBs):Option ((qBs×Unit)×Unit):=
 (B7 a0).bind fun r1=>
 cond (!r1.1.1)
 (some ((([]:qBs),()),()))
 ((B7 b1).bind fun r2=>
 cond (!r2.1.1)
 (some ((([]:qBs),()),()))
 (cond (b1==([48]:qBs))
 (some ((([]:qBs),()),()))
 ((MP b1).bind fun r3=>
 (L0 a0 r3.1.1).bind fun r4=>
 (Ou r4.1.1).bind fun r5=>
 (GA b1).bind fun r6=>
 cond (decide (r6.1.1 < (0:Int)))
 ((IS r5.1.1).bind fun r7=>
 some ((r7.1.1,()),()))
 (some ((r5.1.1,()),())))))
def Me (a0:qBs) (b1:qBs):Option ((qBs×Unit)×Unit):=
 (Hn a0 b1).bind fun r1=>
 cond (r1.1.1==([]:qBs))
 (some ((([]:qBs),()),()))
 ((Hn a0 b1).bind fun r2=>
 (Hz b1 r2.1.1).bind fun r3=>
 (KI a0 r3.1.1).bind fun r4=>
 some ((r4.1.1,()),()))
def Il (x:qBs×Ae×qBs×Int×Unit):Option (Ex×(qBs×Ae×qBs×Int×Unit)):=
 let index1:=x.1
 let a2:=x.2.1
 let t4:=x.2.2.1
 let i5:=x.2.2.2.1
 cond (decide (i5 < (a2.2.2.2.1.length:Int)))
 (Aa (decide (0<=i5)&&decide (i5 < a2.2.2.2.1.length)) (
 cond ((a2.2.2.2.1.getD i5.toNat ([]:qBs))==index1)
 (Aa (decide (0<=i5)&&decide (i5 < a2.2.2.2.2.length)) (some (Ex.ret,(index1,a2,a2.2.2.2.2.getD i5.toNat ([]:qBs),i5,()))))
 (some (Ex.normal,(index1,a2,t4,qI (i5+1),())))))
 (some (Ex.exit 0,(index1,a2,t4,i5,())))
def Mz (a0:Ae) (index1:qBs):Option ((qBs×Unit)×Unit):=
 cond (a0.1 !=(4:Int))
 (some ((([]:qBs),()),()))
 ((Fh a0).bind fun r1=>
 cond (!r1.1.1)
 (some ((([]:qBs),()),()))
 ((B7 index1).bind fun r2=>
 cond (!r2.1.1)
 (some ((([]:qBs),()),()))
 ((Am Il (index1,a0,([]:qBs),0,())).bind fun y3=>
 cond (Ex.same y3.1 (Ex.exit 0))
 (some ((y3.2.2.1.2.2.1,()),()))
 (cond (Ex.same y3.1 Ex.ret)
 (some ((y3.2.2.2.1,()),()))
 (none)))))
def Hy (x:Int×(List Ae)×Ae×Int×Unit):Option (Ex×(Int×(List Ae)×Ae×Int×Unit)):=
 let op0:=x.1
 let a1:=x.2.1
 let t4:=x.2.2.1
 let i5:=x.2.2.2.1
 cond (decide (i5 < (a1.length:Int)))
 (Aa (decide (0<=i5)&&decide (i5 < a1.length)) (
 cond ((((a1.getD i5.toNat zVal).2).1)==(op0==8))
 ((Ej (op0==8)).bind fun r1=>
 some (Ex.ret,(op0,a1,r1.1.1,i5,())))
 (some (Ex.normal,(op0,a1,t4,qI (i5+1),())))))
 (some (Ex.exit 1,(op0,a1,t4,i5,())))
def J4 (op0:Int) (a1:List Ae):Option ((Ae×Unit)×Unit):=
 cond (op0==6)
 (Aa (decide (0<=(0:Int))&&decide ((0:Int) < a1.length)) (
 (Ej (!(((a1.getD (0:Int).toNat zVal).2).1))).bind fun r1=>
 some ((r1.1.1,()),())))
 (cond (op0==9)
 (Aa (decide (0<=(0:Int))&&decide ((0:Int) < a1.length)) (
 cond (!(((a1.getD (0:Int).toNat zVal).2).1))
 ((Ej true).bind fun r2=>
 some ((r2.1.1,()),()))
 (Aa (decide (0<=(1:Int))&&decide ((1:Int) < a1.length)) (
 (Ej (((a1.getD (1:Int).toNat zVal).2).1)).bind fun r3=>
 some ((r3.1.1,()),())))))
 ((Am Hy (op0,a1,((0:Int),false,([]:qBs),([]:List qBs),([]:List qBs)),0,())).bind fun y4=>
 cond (Ex.same y4.1 (Ex.exit 1))
 ((Ej (y4.2.1==7)).bind fun r5=>
 some ((r5.1.1,()),()))
 (cond (Ex.same y4.1 Ex.ret)
 (some ((y4.2.2.2.1,()),()))
 (none))))
def HN (x:((List Ac)×(List AN)×List Interp)×Ac×Ae×Int×Int×Unit):Option (Ex×(((List Ac)×(List AN)×List Interp)×Ac×Ae×Int×Int×Unit)):=
 let x0:=x.1
 let n4:=x.2.1
 let t6:=x.2.2.1
 let t7:=x.2.2.2.1
 let i8:=x.2.2.2.2.1
 cond (decide (i8 < (x0.2.1.length:Int)))
 (Aa (decide (0<=i8)&&decide (i8 < x0.2.1.length)) (
 cond (((x0.2.1.getD i8.toNat DO).1)==n4.2.2.1)
 (Aa (decide (0<=i8)&&decide (i8 < x0.2.1.length)) (
 cond ((((x0.2.1.getD i8.toNat DO).2).1) !=n4.2.1)
 (some (Ex.ret,(x0,n4,((0:Int),false,([]:qBs),([]:List qBs),([]:List qBs)),3,i8,())))
 (Aa (decide (0<=i8)&&decide (i8 < x0.2.1.length)) (some (Ex.ret,(x0,n4,(x0.2.1.getD i8.toNat DO).2,0,i8,()))))))
 (some (Ex.normal,(x0,n4,t6,t7,qI (i8+1),())))))
 (some (Ex.exit 1,(x0,n4,t6,t7,i8,())))
def L7 (x:((List Ac)×(List AN)×List Interp)×(List Ae)×Ae×qBs×Int×Unit):Option (Ex×(((List Ac)×(List AN)×List Interp)×(List Ae)×Ae×qBs×Int×Unit)):=
 let x0:=x.1
 let a2:=x.2.1
 let t6:=x.2.2.1
 let s9:=x.2.2.2.1
 let i10:=x.2.2.2.2.1
 cond (decide (i10 < (a2.length:Int)))
 (Aa (decide (0<=i10)&&decide (i10 < a2.length)) (
 (JQ s9 ((((a2.getD i10.toNat zVal).2).2).1)).bind fun r1=>
 some (Ex.normal,(x0,a2,t6,r1.1.1,qI (i10+1),()))))
 (some (Ex.exit 3,(x0,a2,t6,s9,i10,())))
def Gl (x0:(List Ac)×(List AN)×List Interp) (n1:Ac) (a2:List Ae):Option ((Ae×Int×Unit)×(((List Ac)×(List AN)×List Interp)×Unit)):=
 cond (n1.1==1)
 ((Ej (n1.1==1)).bind fun r1=>
 some ((r1.1.1,0,()),x0,()))
 (cond (n1.1==2)
 ((Ej (n1.1==1)).bind fun r2=>
 some ((r2.1.1,0,()),x0,()))
 (cond (n1.1==3)
 (some (((n1.2.1,false,n1.2.2.2.1,([]:List qBs),([]:List qBs)),0,()),x0,()))
 (cond (n1.1==4)
 ((Am HN (x0,n1,((0:Int),false,([]:qBs),([]:List qBs),([]:List qBs)),0,0,())).bind fun y3=>
 cond (Ex.same y3.1 (Ex.exit 1))
 (some ((((0:Int),false,([]:qBs),([]:List qBs),([]:List qBs)),7,()),y3.2.1,()))
 (cond (Ex.same y3.1 Ex.ret)
 (some ((y3.2.2.2.1,y3.2.2.2.2.1,()),y3.2.1,()))
 (none)))
 (cond (n1.1==5)
 ((Mb x0 n1 a2).bind fun r4=>
 some ((r4.1.1,r4.1.2.1,()),r4.2.1,()))
 (cond (n1.1==10)
 (Aa (decide (0<=(0:Int))&&decide ((0:Int) < a2.length)) (
 cond (((a2.getD (0:Int).toNat zVal).2).1)
 (Aa (decide (0<=(1:Int))&&decide ((1:Int) < a2.length)) (some ((a2.getD (1:Int).toNat zVal,0,()),x0,())))
 (Aa (decide (0<=(2:Int))&&decide ((2:Int) < a2.length)) (some ((a2.getD (2:Int).toNat zVal,0,()),x0,())))))
 (cond (n1.1==11)
 (Aa (decide (0<=(0:Int))&&decide ((0:Int) < a2.length)) (
 Aa (decide (0<=(1:Int))&&decide ((1:Int) < a2.length)) (
 (HC (a2.getD (0:Int).toNat zVal) (a2.getD (1:Int).toNat zVal)).bind fun r5=>
 (Ej r5.1.1).bind fun r6=>
 some ((r6.1.1,0,()),x0,()))))
 (cond (n1.1==12)
 (Aa (decide (0<=(0:Int))&&decide ((0:Int) < a2.length)) (
 Aa (decide (0<=(1:Int))&&decide ((1:Int) < a2.length)) (
 (DP ((((a2.getD (0:Int).toNat zVal).2).2).1) ((((a2.getD (1:Int).toNat zVal).2).2).1)).bind fun r7=>
 (Ej (decide (r7.1.1<=0))).bind fun r8=>
 some ((r8.1.1,0,()),x0,()))))
 (cond (n1.1==13)
 (Aa (decide (0<=(0:Int))&&decide ((0:Int) < a2.length)) (
 Aa (decide (0<=(1:Int))&&decide ((1:Int) < a2.length)) (
 (DP ((((a2.getD (0:Int).toNat zVal).2).2).1) ((((a2.getD (1:Int).toNat zVal).2).2).1)).bind fun r9=>
 (Ej (decide (r9.1.1 < (0:Int)))).bind fun r10=>
 some ((r10.1.1,0,()),x0,()))))
 (cond (n1.1==14)
 ((Am L7 (x0,a2,((0:Int),false,([]:qBs),([]:List qBs),([]:List qBs)),([48]:qBs),0,())).bind fun y11=>
 cond (Ex.same y11.1 (Ex.exit 3))
 (Aa (decide (0<=(0:Int))&&decide ((0:Int) < y11.2.2.1.length)) (some ((((y11.2.2.1.getD (0:Int).toNat zVal).1,false,y11.2.2.2.2.1,([]:List qBs),([]:List qBs)),0,()),y11.2.1,())))
 (none))
 (cond (n1.1==15)
 (Aa (decide (0<=(0:Int))&&decide ((0:Int) < a2.length)) (
 Aa (decide (0<=(0:Int))&&decide ((0:Int) < a2.length)) (
 Aa (decide (0<=(1:Int))&&decide ((1:Int) < a2.length)) (
 (Hz ((((a2.getD (0:Int).toNat zVal).2).2).1) ((((a2.getD (1:Int).toNat zVal).2).2).1)).bind fun r12=>
 some ((((a2.getD (0:Int).toNat zVal).1,false,r12.1.1,([]:List qBs),([]:List qBs)),0,()),x0,())))))
 (cond (n1.1==16)
 (Aa (decide (0<=(0:Int))&&decide ((0:Int) < a2.length)) (
 (Hn ((((a2.getD (0:Int).toNat zVal).2).2).1) n1.2.2.2.1).bind fun r13=>
 some (((2,false,r13.1.1,([]:List qBs),([]:List qBs)),0,()),x0,())))
 (cond (n1.1==17)
 (Aa (decide (0<=(0:Int))&&decide ((0:Int) < a2.length)) (
 (Me ((((a2.getD (0:Int).toNat zVal).2).2).1) n1.2.2.2.1).bind fun r14=>
 some (((2,false,r14.1.1,([]:List qBs),([]:List qBs)),0,()),x0,())))
 (cond (n1.1==18)
 (Aa (decide (0<=(0:Int))&&decide ((0:Int) < a2.length)) (
 Aa (decide (0<=(1:Int))&&decide ((1:Int) < a2.length)) (
 (Mz (a2.getD (0:Int).toNat zVal) ((((a2.getD (1:Int).toNat zVal).2).2).1)).bind fun r15=>
 some (((2,false,r15.1.1,([]:List qBs),([]:List qBs)),0,()),x0,()))))
 (cond (n1.1==19)
 (Aa (decide (0<=(0:Int))&&decide ((0:Int) < a2.length)) (
 Aa (decide (0<=(1:Int))&&decide ((1:Int) < a2.length)) (
 Aa (decide (0<=(2:Int))&&decide ((2:Int) < a2.length)) (
 (Jw (a2.getD (0:Int).toNat zVal) ((((a2.getD (1:Int).toNat zVal).2).2).1) ((((a2.getD (2:Int).toNat zVal).2).2).1)).bind fun r16=>
 some ((r16.1.1,r16.1.2.1,()),x0,())))))
 (cond (n1.1==20)
 (Aa (decide (0<=(0:Int))&&decide ((0:Int) < a2.length)) (some (((4,false,(((a2.getD (0:Int).toNat zVal).2).2).1,([]:List qBs),([]:List qBs)),0,()),x0,())))
 ((J4 n1.1 a2).bind fun r17=>
 some ((r17.1.1,0,()),x0,())))))))))))))))))
def G7 (AMQ:((List Ac)×(List AN)×List Interp)->Int->Option ((Ae×Int×Int×Unit)×(((List Ac)×(List AN)×List Interp)×Unit))) (x:((List Ac)×(List AN)×List Interp)×Int×Ae×Int×Int×Ac×(List Ae)×Int×Unit):Option (Ex×(((List Ac)×(List AN)×List Interp)×Int×Ae×Int×Int×Ac×(List Ae)×Int×Unit)):=
 let x0:=x.1
 let i1:=x.2.1
 let t4:=x.2.2.1
 let t5:=x.2.2.2.1
 let t6:=x.2.2.2.2.1
 let n7:=x.2.2.2.2.2.1
 let a8:=x.2.2.2.2.2.2.1
 let k9:=x.2.2.2.2.2.2.2.1
 cond (decide (k9 < n7.2.2.2.2))
 ((AMQ x0 i1).bind fun r1=>
 cond (r1.1.2.2.1 !=(0:Int))
 (some (Ex.ret,(r1.2.1,i1,((0:Int),false,([]:qBs),([]:List qBs),([]:List qBs)),0,r1.1.2.2.1,n7,a8,k9,())))
 (Aa (decide (a8.length+([r1.1.1]:List Ae).length<=Av)) (some (Ex.normal,(r1.2.1,r1.1.2.1,t4,t5,t6,n7,a8++([r1.1.1]:List Ae),qI (k9+1),())))))
 (some (Ex.exit 0,(x0,i1,t4,t5,t6,n7,a8,k9,())))
def OG (AMQ:((List Ac)×(List AN)×List Interp)->Int->Option ((Ae×Int×Int×Unit)×(((List Ac)×(List AN)×List Interp)×Unit))) (x0:(List Ac)×(List AN)×List Interp) (i1:Int):Option ((Ae×Int×Int×Unit)×(((List Ac)×(List AN)×List Interp)×Unit)):=
 Aa (decide (0<=i1)&&decide (i1 < x0.1.length)) (
 (Am (G7 AMQ) (x0,qI (i1+1),((0:Int),false,([]:qBs),([]:List qBs),([]:List qBs)),0,0,x0.1.getD i1.toNat Az,([]:List Ae),0,())).bind fun y1=>
 cond (Ex.same y1.1 (Ex.exit 0))
 ((Gl y1.2.1 y1.2.2.2.2.2.2.1 y1.2.2.2.2.2.2.2.1).bind fun r2=>
 some ((r2.1.1,y1.2.2.1,r2.1.2.1,()),r2.2.1,()))
 (cond (Ex.same y1.1 Ex.ret)
 (some ((y1.2.2.2.1,y1.2.2.2.2.1,y1.2.2.2.2.2.1,()),y1.2.1,()))
 (none)))
def GC:Nat->((List Ac)×(List AN)×List Interp)->Int->Option ((Ae×Int×Int×Unit)×(((List Ac)×(List AN)×List Interp)×Unit))
 |0=>fun _ _=>none
 |n+1=>OG (GC n)
def Rr (v0:Ae):Option ((Ae×Unit)×Unit):=
 Aa (decide (v0.2.2.2.1.length<=Av)) (Aa (decide (v0.2.2.2.2.length<=Av)) (some ((v0,()),())))
def J1 (x:(List Ac)×(List AN)×(List Interp)×Ae×Int×Int×Unit):Option (Ex×((List Ac)×(List AN)×(List Interp)×Ae×Int×Int×Unit)):=
 let t0:=x.1
 let env1:=x.2.1
 let fns2:=x.2.2.1
 let t6:=x.2.2.2.1
 let t7:=x.2.2.2.2.1
 let i8:=x.2.2.2.2.2.1
 cond (decide (i8 < (env1.length:Int)))
 (Aa (decide (0<=i8)&&decide (i8 < env1.length)) (
 (Fh ((env1.getD i8.toNat DO).2)).bind fun r1=>
 cond (!r1.1.1)
 (some (Ex.ret,(t0,env1,fns2,((0:Int),false,([]:qBs),([]:List qBs),([]:List qBs)),1,i8,())))
 (some (Ex.normal,(t0,env1,fns2,t6,t7,qI (i8+1),())))))
 (some (Ex.exit 0,(t0,env1,fns2,t6,t7,i8,())))
def Ku (x:(List Ac)×(List AN)×(List Interp)×Ae×Int×Int×Unit):Option (Ex×((List Ac)×(List AN)×(List Interp)×Ae×Int×Int×Unit)):=
 let t0:=x.1
 let env1:=x.2.1
 let fns2:=x.2.2.1
 let t6:=x.2.2.2.1
 let t7:=x.2.2.2.2.1
 let i9:=x.2.2.2.2.2.1
 cond (decide (i9 < (fns2.length:Int)))
 (Aa (decide (0<=i9)&&decide (i9 < fns2.length)) (
 (Nd (fns2.getD i9.toNat Cd)).bind fun r1=>
 cond (!r1.1.1)
 (some (Ex.ret,(t0,env1,fns2,((0:Int),false,([]:qBs),([]:List qBs),([]:List qBs)),1,i9,())))
 (some (Ex.normal,(t0,env1,fns2,t6,t7,qI (i9+1),())))))
 (some (Ex.exit 2,(t0,env1,fns2,t6,t7,i9,())))
def Mq (t0:List Ac) (env1:List AN) (fns2:List Interp):Option ((Ae×Int×Unit)×Unit):=
 (K8 t0).bind fun r1=>
 cond (!r1.1.1)
 (some ((((0:Int),false,([]:qBs),([]:List qBs),([]:List qBs)),1,()),()))
 ((Am J1 (t0,env1,fns2,((0:Int),false,([]:qBs),([]:List qBs),([]:List qBs)),0,0,())).bind fun y2=>
 cond (Ex.same y2.1 (Ex.exit 0))
 ((Am Ku (y2.2.1,y2.2.2.1,y2.2.2.2.1,y2.2.2.2.2.1,y2.2.2.2.2.2.1,0,())).bind fun y3=>
 cond (Ex.same y3.1 (Ex.exit 2))
 ((GC BB (y3.2.1,y3.2.2.1,y3.2.2.2.1) 0).bind fun r4=>
 cond (r4.1.2.2.1 !=(0:Int))
 (some ((((0:Int),false,([]:qBs),([]:List qBs),([]:List qBs)),r4.1.2.2.1,()),()))
 ((Rr r4.1.1).bind fun r5=>
 some ((r5.1.1,0,()),())))
 (cond (Ex.same y3.1 Ex.ret)
 (some ((y3.2.2.2.2.1,y3.2.2.2.2.2.1,()),()))
 (none)))
 (cond (Ex.same y2.1 Ex.ret)
 (some ((y2.2.2.2.2.1,y2.2.2.2.2.2.1,()),()))
 (none)))
def PB (t0:List Ac) (env1:List AN) (fns2:List Interp):Option ((Bool×Unit)×Unit):=
 (IV t0 env1 fns2).bind fun r1=>
 cond (r1.1.2.1==0)
 (cond (r1.1.1.1==1)
 (some ((r1.1.1.2.1,()),()))
 (some ((false,()),())))
 (some ((false,()),()))
def PI (t0:List Ac) (env1:List AN) (fns2:List Interp):Option ((Bool×Unit)×Unit):=
 (Mq t0 env1 fns2).bind fun r1=>
 cond (r1.1.2.1==0)
 (cond (r1.1.1.1==1)
 (some ((r1.1.1.2.1,()),()))
 (some ((false,()),())))
 (some ((false,()),()))
def Nv (t0:List Ac) (env1:List AN) (fns2:List Interp):Option ((Bool×Unit)×Unit):=
 (IV t0 env1 fns2).bind fun r1=>
 (Mq t0 env1 fns2).bind fun r2=>
 cond (r1.1.2.1==r2.1.2.1)
 ((HC r1.1.1 r2.1.1).bind fun r3=>
 cond (r3.1.1)
 ((PB t0 env1 fns2).bind fun r4=>
 (PI t0 env1 fns2).bind fun r5=>
 some ((r4.1.1==r5.1.1,()),()))
 (some ((false,()),())))
 (some ((false,()),()))
def VV (sort0:Int):Option ((Ae×Int×Unit)×Unit):=
 cond (sort0==1)
 (some (((sort0,false,([]:qBs),([]:List qBs),([]:List qBs)),0,()),()))
 (cond (sort0==2)
 (some (((sort0,false,([48]:qBs),([]:List qBs),([]:List qBs)),0,()),()))
 (cond (sort0==3)
 (some (((sort0,false,([48]:qBs),([]:List qBs),([]:List qBs)),0,()),()))
 (cond (sort0==4)
 (some (((sort0,false,([48]:qBs),([]:List qBs),([]:List qBs)),0,()),()))
 (some ((((0:Int),false,([]:qBs),([]:List qBs),([]:List qBs)),1,()),())))))
def Vu (v0:Ae):Option ((Bool×Unit)×Unit):=
 cond (v0.1==4)
 ((Gs v0).bind fun r1=>
 some ((r1.1.1,()),()))
 (some ((false,()),()))
def Rq (a0:Ae) (index1:qBs) (num2:qBs):Option ((Ae×Int×Unit)×Unit):=
 (Vu a0).bind fun r1=>
 cond (!r1.1.1)
 (some ((((0:Int),false,([]:qBs),([]:List qBs),([]:List qBs)),1,()),()))
 ((CZ index1).bind fun r2=>
 cond (!r2.1.1)
 (some ((((0:Int),false,([]:qBs),([]:List qBs),([]:List qBs)),1,()),()))
 ((CZ num2).bind fun r3=>
 cond (!r3.1.1)
 (some ((((0:Int),false,([]:qBs),([]:List qBs),([]:List qBs)),1,()),()))
 ((IU a0 index1 num2).bind fun r4=>
 some ((r4.1.1,0,()),()))))
def MF (a0:qBs):Option ((Ac×Unit)×Unit):=
 some (((3,2,([]:qBs),a0,(0:Int)),()),())
def SA (x:Ae×(List Ac)×Int×Int×Unit):Option (Ex×(Ae×(List Ac)×Int×Int×Unit)):=
 let v1:=x.1
 let t4:=x.2.1
 let t31:=x.2.2.1
 let t32:=x.2.2.2.1
 cond (decide (t32 < t31))
 (Aa (decide (t4.length+([(19,(0:Int),([]:qBs),([]:qBs),3)]:List Ac).length<=Av)) (some (Ex.normal,(v1,t4++([(19,(0:Int),([]:qBs),([]:qBs),3)]:List Ac),t31,qI (t32+1),()))))
 (some (Ex.exit 1,(v1,t4,t31,t32,())))
def T9 (x:Ae×(List Ac)×(List qBs)×Int×Int×Unit):Option (Ex×(Ae×(List Ac)×(List qBs)×Int×Int×Unit)):=
 let v1:=x.1
 let t4:=x.2.1
 let t47:=x.2.2.1
 let t48:=x.2.2.2.1
 let t49:=x.2.2.2.2.1
 cond (decide (t49 < t48))
 (Aa (decide (0<=t49)&&decide (t49 < t47.length)) (
 (MF (t47.getD t49.toNat ([]:qBs))).bind fun r1=>
 Aa (decide (0<=t49)&&decide (t49 < v1.2.2.2.2.length)) (
 (MF (v1.2.2.2.2.getD t49.toNat ([]:qBs))).bind fun r2=>
 Aa (decide (t4.length+([r1.1.1,r2.1.1]:List Ac).length<=Av)) (some (Ex.normal,(v1,t4++([r1.1.1,r2.1.1]:List Ac),t47,t48,qI (t49+1),()))))))
 (some (Ex.exit 3,(v1,t4,t47,t48,t49,())))
def W4 (v0:Ae):Option (((List Ac)×Int×Unit)×Unit):=
 (Gs v0).bind fun r1=>
 cond (!r1.1.1)
 (some ((([]:List Ac),1,()),()))
 (cond (v0.1==1)
 (cond (v0.2.1)
 (some ((([(1,(0:Int),([]:qBs),([]:qBs),(0:Int))]:List Ac),0,()),()))
 (some ((([(2,(0:Int),([]:qBs),([]:qBs),(0:Int))]:List Ac),0,()),())))
 (cond (v0.1==2)
 (some ((([(3,v0.1,([]:qBs),v0.2.2.1,(0:Int))]:List Ac),0,()),()))
 (cond (v0.1==3)
 (some ((([(3,v0.1,([]:qBs),v0.2.2.1,(0:Int))]:List Ac),0,()),()))
 ((Am SA (v0,([]:List Ac),(v0.2.2.2.1.length:Int),0,())).bind fun y2=>
 cond (Ex.same y2.1 (Ex.exit 1))
 ((MF y2.2.1.2.2.1).bind fun r3=>
 Aa (decide (y2.2.2.1.length+([(20,(0:Int),([]:qBs),([]:qBs),1),r3.1.1]:List Ac).length<=Av)) (
 (Am T9 (y2.2.1,y2.2.2.1++([(20,(0:Int),([]:qBs),([]:qBs),1),r3.1.1]:List Ac),y2.2.1.2.2.2.1,(y2.2.1.2.2.2.1.length:Int),0,())).bind fun y4=>
 cond (Ex.same y4.1 (Ex.exit 3))
 ((KR y4.2.2.1).bind fun r5=>
 cond (!r5.1.1)
 (some ((([]:List Ac),6,()),()))
 (some ((y4.2.2.1,0,()),())))
 (none)))
 (none)))))
def UZ (a0:qBs):Option ((qBs×Unit)×Unit):=
 (Fl a0).bind fun r1=>
 cond (!r1.1.1)
 (some ((([]:qBs),()),()))
 ((strings_Cut a0 ([47]:qBs)).bind fun r2=>
 some ((r2.1.1,()),()))
def Xo (a0:qBs):Option ((qBs×Unit)×Unit):=
 (Fl a0).bind fun r1=>
 cond (!r1.1.1)
 (some ((([]:qBs),()),()))
 ((strings_Cut a0 ([47]:qBs)).bind fun r2=>
 cond (r2.1.2.2.1)
 (some ((r2.1.2.1,()),()))
 (some ((([49]:qBs),()),())))
def XQ (AMS:Int->qBs->Option ((qBs×Unit)×Unit)) (sort0:Int) (a1:qBs):Option ((qBs×Unit)×Unit):=
 (F8 a1).bind fun r1=>
 cond (decide (r1.1.1 < (0:Int)))
 ((Kq a1).bind fun r2=>
 (AMS sort0 r2.1.1).bind fun r3=>
 Aa (decide (([40,45,32]:qBs).length+r3.1.1.length<=A6)) (Aa (decide ((([40,45,32]:qBs)++r3.1.1).length+([41]:qBs).length<=A6)) (some (((([40,45,32]:qBs)++r3.1.1)++([41]:qBs),()),()))))
 (cond (sort0==2)
 (some ((a1,()),()))
 ((CZ a1).bind fun r4=>
 cond (r4.1.1)
 (Aa (decide (a1.length+([46,48]:qBs).length<=A6)) (some ((a1++([46,48]:qBs),()),())))
 ((UZ a1).bind fun r5=>
 Aa (decide (([40,47,32]:qBs).length+r5.1.1.length<=A6)) (
 Aa (decide ((([40,47,32]:qBs)++r5.1.1).length+([46,48,32]:qBs).length<=A6)) (
 (Xo a1).bind fun r6=>
 Aa (decide (((([40,47,32]:qBs)++r5.1.1)++([46,48,32]:qBs)).length+r6.1.1.length<=A6)) (Aa (decide ((((([40,47,32]:qBs)++r5.1.1)++([46,48,32]:qBs))++r6.1.1).length+([46,48,41]:qBs).length<=A6)) (some (((((([40,47,32]:qBs)++r5.1.1)++([46,48,32]:qBs))++r6.1.1)++([46,48,41]:qBs),()),()))))))))
def Kz:Nat->Int->qBs->Option ((qBs×Unit)×Unit)
 |0=>fun _ _=>none
 |n+1=>XQ (Kz n)
def X1 (n0:Ac):Option ((qBs×Unit)×Unit):=
 cond (n0.1==6)
 (some ((([110,111,116]:qBs),()),()))
 (cond (n0.1==7)
 (some ((([97,110,100]:qBs),()),()))
 (cond (n0.1==8)
 (some ((([111,114]:qBs),()),()))
 (cond (n0.1==9)
 (some ((([61,62]:qBs),()),()))
 (cond (n0.1==10)
 (some ((([105,116,101]:qBs),()),()))
 (cond (n0.1==11)
 (some ((([61]:qBs),()),()))
 (cond (n0.1==12)
 (some ((([60,61]:qBs),()),()))
 (cond (n0.1==13)
 (some ((([60]:qBs),()),()))
 (cond (n0.1==14)
 (some ((([43]:qBs),()),()))
 (cond (n0.1==15)
 (some ((([42]:qBs),()),()))
 (cond (n0.1==16)
 (some ((([100,105,118]:qBs),()),()))
 (cond (n0.1==17)
 (some ((([109,111,100]:qBs),()),()))
 (cond (n0.1==18)
 (some ((([115,101,108,101,99,116]:qBs),()),()))
 (cond (n0.1==19)
 (some ((([115,116,111,114,101]:qBs),()),()))
 (cond (n0.1==20)
 (some ((([99,111,110,115,116]:qBs),()),()))
 (some ((n0.2.2.1,()),()))))))))))))))))
def NH (b0:Unit×List Int) (c1:Int):Option ((Bool×Unit)×((Unit×List Int)×Unit)):=
 (Of ((),b0.2)).bind fun r1=>
 Aa (decide (r1.2.1.2.length+([c1]:List Int).length<=Av)) (some ((false,()),((),r1.2.1.2++([c1]:List Int)),()))
def Ye (AMT:Option Bf->(Unit×List Int)->Int->Option ((Unit)×((Unit×List Int)×Unit))) (x:(Option Bf)×(Unit×List Int)×Ac×(List Int)×Int×Int×Unit):Option (Ex×((Option Bf)×(Unit×List Int)×Ac×(List Int)×Int×Int×Unit)):=
 let v0:=x.1
 let b1:=x.2.1
 let n6:=x.2.2.1
 let t25:=x.2.2.2.1
 let t26:=x.2.2.2.2.1
 let t27:=x.2.2.2.2.2.1
 cond (decide (t27 < t26))
 (Aa (decide (0<=t27)&&decide (t27 < t25.length)) (
 (NH ((),b1.2) 32).bind fun r1=>
 (AMT v0 ((),r1.2.1.2) (t25.getD t27.toNat (0:Int))).bind fun r2=>
 some (Ex.normal,(v0,((),r2.2.1.2),n6,t25,t26,qI (t27+1),()))))
 (some (Ex.exit 1,(v0,((),b1.2),n6,t25,t26,t27,())))
def UJ (AMT:Option Bf->(Unit×List Int)->Int->Option ((Unit)×((Unit×List Int)×Unit))) (v0:Option Bf) (b1:Unit×List Int) (i2:Int):Option ((Unit)×((Unit×List Int)×Unit)):=
 Aa (v0.isSome) (
 Aa (decide (0<=i2)&&decide (i2 < ((v0.getD BW).1).length)) (
 cond (((((v0.getD BW).1).getD i2.toNat Az).1)==1)
 ((Ed ((),b1.2) ([116,114,117,101]:qBs)).bind fun r1=>
 some ((),((),r1.2.1.2),()))
 (cond (((((v0.getD BW).1).getD i2.toNat Az).1)==2)
 ((Ed ((),b1.2) ([102,97,108,115,101]:qBs)).bind fun r2=>
 some ((),((),r2.2.1.2),()))
 (cond (((((v0.getD BW).1).getD i2.toNat Az).1)==3)
 ((Kz BB (((((v0.getD BW).1).getD i2.toNat Az).2).1) (((((((v0.getD BW).1).getD i2.toNat Az).2).2).2).1)).bind fun r3=>
 (Ed ((),b1.2) r3.1.1).bind fun r4=>
 some ((),((),r4.2.1.2),()))
 (cond (((((v0.getD BW).1).getD i2.toNat Az).1)==4)
 ((Ed ((),b1.2) ((((((v0.getD BW).1).getD i2.toNat Az).2).2).1)).bind fun r5=>
 some ((),((),r5.2.1.2),()))
 ((X1 (((v0.getD BW).1).getD i2.toNat Az)).bind fun r6=>
 Aa (decide (([40]:qBs).length+r6.1.1.length<=A6)) (
 (Ed ((),b1.2) (([40]:qBs)++r6.1.1)).bind fun r7=>
 (KX v0 i2).bind fun r8=>
 (Am (Ye AMT) (v0,((),r7.2.1.2),((v0.getD BW).1).getD i2.toNat Az,r8.1.1,(r8.1.1.length:Int),0,())).bind fun y9=>
 cond (Ex.same y9.1 (Ex.exit 1))
 (cond (!(y9.2.2.2.1.2.2.2.1==([]:qBs)))
 (Aa (decide (([32]:qBs).length+y9.2.2.2.1.2.2.2.1.length<=A6)) (
 (Ed ((),y9.2.2.1.2) (([32]:qBs)++y9.2.2.2.1.2.2.2.1)).bind fun r10=>
 (NH ((),r10.2.1.2) 41).bind fun r11=>
 some ((),((),r11.2.1.2),())))
 ((NH ((),y9.2.2.1.2) 41).bind fun r12=>
 some ((),((),r12.2.1.2),())))
 (none))))))))
def LG:Nat->Option Bf->(Unit×List Int)->Int->Option ((Unit)×((Unit×List Int)×Unit))
 |0=>fun _ _ _=>none
 |n+1=>UJ (LG n)
def Ty (t0:List Ac):Option ((qBs×Unit)×Unit):=
 (Jx t0).bind fun r1=>
 cond (!r1.1.2.1)
 (some ((([]:qBs),()),()))
 ((LG BB r1.1.1 ((),([]:List Int)) 0).bind fun r2=>
 (Mn ((),r2.2.1.2)).bind fun r3=>
 some ((r3.1.1,()),()))
def Y1 (v0:Ae):Option ((qBs×Unit)×Unit):=
 (W4 v0).bind fun r1=>
 cond (r1.1.2.1 !=(0:Int))
 (some ((([]:qBs),()),()))
 ((Ty r1.1.1).bind fun r2=>
 some ((r2.1.1,()),()))
def RX:Option ((Bool×Unit)×Unit):=
 (VV 4).bind fun r1=>
 (Rq r1.1.1 ([51]:qBs) ([55]:qBs)).bind fun r2=>
 (Rq r2.1.1 ([51]:qBs) ([48]:qBs)).bind fun r3=>
 (CD 2 ([45,55]:qBs)).bind fun r4=>
 (EG (16,(0:Int),([]:qBs),([50]:qBs),(0:Int)) ([r4.1.1]:List (List Ac))).bind fun r5=>
 (IV r5.1.1 ([]:List AN) ([]:List Interp)).bind fun r6=>
 cond (r1.1.2.1==0)
 (cond (r2.1.2.1==0)
 (cond (r3.1.2.1==0)
 (cond (r6.1.2.1==0)
 (cond ((r2.1.1.2.2.2.1.length:Int)==1)
 (Aa (decide (0<=(0:Int))&&decide ((0:Int) < r2.1.1.2.2.2.2.length)) (
 cond ((r2.1.1.2.2.2.2.getD (0:Int).toNat ([]:qBs))==([55]:qBs))
 ((Hk r3.1.1 r1.1.1).bind fun r7=>
 cond (r7.1.1)
 (cond (r6.1.1.2.2.1==([45,52]:qBs))
 ((Y1 (4,false,([49]:qBs),([([45,50]:qBs)]:List qBs),([([53]:qBs)]:List qBs))).bind fun r8=>
 some ((r8.1.1==([40,115,116,111,114,101,32,40,99,111,110,115,116,32,49,41,32,40,45,32,50,41,32,53,41]:qBs),()),()))
 (some ((false,()),())))
 (some ((false,()),())))
 (some ((false,()),()))))
 (some ((false,()),())))
 (some ((false,()),())))
 (some ((false,()),())))
 (some ((false,()),())))
 (some ((false,()),()))
def RJ (x:Bool×(List Ac)×Af×(List Interp)×Int×Unit):Option (Bool×(List Ac)×Af×(List Interp)×Int×(qBs×(List (List Ae))×(List Ae)×Ae)×Unit):=
 let odd2:=x.1
 let t9:=x.2.1
 let d10:=x.2.2.1
 let fns11:=x.2.2.2.1
 let n12:=x.2.2.2.2.1
 (AW d10 2).bind fun r1=>
 Aa (decide (0<=r1.1.1)&&decide (r1.1.1 < ([([102]:qBs),([103]:qBs)]:List qBs).length)) (
 (CS r1.2.1 2).bind fun r2=>
 some (odd2,t9,r2.2.1,fns11,n12,(([([102]:qBs),([103]:qBs)]:List qBs).getD r1.1.1.toNat ([]:qBs),([]:List (List Ae)),([]:List Ae),r2.1.1),()))
def LI (x:Bool×(List Ac)×Af×(List Interp)×Int×(qBs×(List (List Ae))×(List Ae)×Ae)×Int×Unit):Option (Ex×(Bool×(List Ac)×Af×(List Interp)×Int×(qBs×(List (List Ae))×(List Ae)×Ae)×Int×Unit)):=
 let odd2:=x.1
 let t9:=x.2.1
 let d10:=x.2.2.1
 let fns11:=x.2.2.2.1
 let n12:=x.2.2.2.2.1
 let f13:=x.2.2.2.2.2.1
 let k14:=x.2.2.2.2.2.2.1
 cond (decide (k14 > (0:Int)))
 ((CS d10 2).bind fun r1=>
 (CS r1.2.1 2).bind fun r2=>
 Aa (decide (f13.2.1.length+([([r1.1.1,r2.1.1]:List Ae)]:List (List Ae)).length<=Av)) (
 (CS r2.2.1 2).bind fun r3=>
 Aa (decide (f13.2.2.1.length+([r3.1.1]:List Ae).length<=Av)) (some (Ex.normal,(odd2,t9,r3.2.1,fns11,n12,(f13.1,f13.2.1++([([r1.1.1,r2.1.1]:List Ae)]:List (List Ae)),f13.2.2.1++([r3.1.1]:List Ae),f13.2.2.2),qI (k14 - (1:Int)),())))))
 (some (Ex.exit 2,(odd2,t9,d10,fns11,n12,f13,k14,())))
def Ir (x:Bool×(List Ac)×Af×(List Interp)×Int×Unit):Option (Ex×(Bool×(List Ac)×Af×(List Interp)×Int×Unit)):=
 let odd2:=x.1
 let t9:=x.2.1
 let d10:=x.2.2.1
 let fns11:=x.2.2.2.1
 let n12:=x.2.2.2.2.1
 cond (decide (n12>=0))
 ((RJ (odd2,t9,d10,fns11,n12,())).bind fun y1=>
 (AW y1.2.2.1 4).bind fun r2=>
 (Am LI (y1.1,y1.2.1,r2.2.1,y1.2.2.2.1,y1.2.2.2.2.1,y1.2.2.2.2.2.1,r2.1.1,())).bind fun y3=>
 cond (Ex.same y3.1 (Ex.exit 2))
 (cond (y3.2.1)
 ((AW y3.2.2.2.1 3).bind fun r4=>
 cond (r4.1.1==0)
 ((AW r4.2.1 4).bind fun r5=>
 (CS r5.2.1 (qI ((1:Int)+r5.1.1))).bind fun r6=>
 Aa (decide (y3.2.2.2.2.2.2.1.2.2.1.length+([r6.1.1]:List Ae).length<=Av)) (
 cond (y3.2.1)
 ((AW r6.2.1 3).bind fun r7=>
 cond (r7.1.1==0)
 ((AW r7.2.1 4).bind fun r8=>
 (CS r8.2.1 (qI ((1:Int)+r8.1.1))).bind fun r9=>
 Aa (decide (y3.2.2.2.2.1.length+([(y3.2.2.2.2.2.2.1.1,y3.2.2.2.2.2.2.1.2.1,y3.2.2.2.2.2.2.1.2.2.1++([r6.1.1]:List Ae),r9.1.1)]:List Interp).length<=Av)) (some (Ex.normal,(y3.2.1,y3.2.2.1,r9.2.1,y3.2.2.2.2.1++([(y3.2.2.2.2.2.2.1.1,y3.2.2.2.2.2.2.1.2.1,y3.2.2.2.2.2.2.1.2.2.1++([r6.1.1]:List Ae),r9.1.1)]:List Interp),qI (y3.2.2.2.2.2.1 - (1:Int)),()))))
 (Aa (decide (y3.2.2.2.2.1.length+([(y3.2.2.2.2.2.2.1.1,y3.2.2.2.2.2.2.1.2.1,y3.2.2.2.2.2.2.1.2.2.1++([r6.1.1]:List Ae),y3.2.2.2.2.2.2.1.2.2.2)]:List Interp).length<=Av)) (some (Ex.normal,(y3.2.1,y3.2.2.1,r7.2.1,y3.2.2.2.2.1++([(y3.2.2.2.2.2.2.1.1,y3.2.2.2.2.2.2.1.2.1,y3.2.2.2.2.2.2.1.2.2.1++([r6.1.1]:List Ae),y3.2.2.2.2.2.2.1.2.2.2)]:List Interp),qI (y3.2.2.2.2.2.1 - (1:Int)),())))))
 (Aa (decide (y3.2.2.2.2.1.length+([(y3.2.2.2.2.2.2.1.1,y3.2.2.2.2.2.2.1.2.1,y3.2.2.2.2.2.2.1.2.2.1++([r6.1.1]:List Ae),y3.2.2.2.2.2.2.1.2.2.2)]:List Interp).length<=Av)) (some (Ex.normal,(y3.2.1,y3.2.2.1,r6.2.1,y3.2.2.2.2.1++([(y3.2.2.2.2.2.2.1.1,y3.2.2.2.2.2.2.1.2.1,y3.2.2.2.2.2.2.1.2.2.1++([r6.1.1]:List Ae),y3.2.2.2.2.2.2.1.2.2.2)]:List Interp),qI (y3.2.2.2.2.2.1 - (1:Int)),()))))))
 (cond (y3.2.1)
 ((AW r4.2.1 3).bind fun r10=>
 cond (r10.1.1==0)
 ((AW r10.2.1 4).bind fun r11=>
 (CS r11.2.1 (qI ((1:Int)+r11.1.1))).bind fun r12=>
 Aa (decide (y3.2.2.2.2.1.length+([(y3.2.2.2.2.2.2.1.1,y3.2.2.2.2.2.2.1.2.1,y3.2.2.2.2.2.2.1.2.2.1,r12.1.1)]:List Interp).length<=Av)) (some (Ex.normal,(y3.2.1,y3.2.2.1,r12.2.1,y3.2.2.2.2.1++([(y3.2.2.2.2.2.2.1.1,y3.2.2.2.2.2.2.1.2.1,y3.2.2.2.2.2.2.1.2.2.1,r12.1.1)]:List Interp),qI (y3.2.2.2.2.2.1 - (1:Int)),()))))
 (Aa (decide (y3.2.2.2.2.1.length+([y3.2.2.2.2.2.2.1]:List Interp).length<=Av)) (some (Ex.normal,(y3.2.1,y3.2.2.1,r10.2.1,y3.2.2.2.2.1++([y3.2.2.2.2.2.2.1]:List Interp),qI (y3.2.2.2.2.2.1 - (1:Int)),())))))
 (Aa (decide (y3.2.2.2.2.1.length+([y3.2.2.2.2.2.2.1]:List Interp).length<=Av)) (some (Ex.normal,(y3.2.1,y3.2.2.1,r4.2.1,y3.2.2.2.2.1++([y3.2.2.2.2.2.2.1]:List Interp),qI (y3.2.2.2.2.2.1 - (1:Int)),()))))))
 (cond (y3.2.1)
 ((AW y3.2.2.2.1 3).bind fun r13=>
 cond (r13.1.1==0)
 ((AW r13.2.1 4).bind fun r14=>
 (CS r14.2.1 (qI ((1:Int)+r14.1.1))).bind fun r15=>
 Aa (decide (y3.2.2.2.2.1.length+([(y3.2.2.2.2.2.2.1.1,y3.2.2.2.2.2.2.1.2.1,y3.2.2.2.2.2.2.1.2.2.1,r15.1.1)]:List Interp).length<=Av)) (some (Ex.normal,(y3.2.1,y3.2.2.1,r15.2.1,y3.2.2.2.2.1++([(y3.2.2.2.2.2.2.1.1,y3.2.2.2.2.2.2.1.2.1,y3.2.2.2.2.2.2.1.2.2.1,r15.1.1)]:List Interp),qI (y3.2.2.2.2.2.1 - (1:Int)),()))))
 (Aa (decide (y3.2.2.2.2.1.length+([y3.2.2.2.2.2.2.1]:List Interp).length<=Av)) (some (Ex.normal,(y3.2.1,y3.2.2.1,r13.2.1,y3.2.2.2.2.1++([y3.2.2.2.2.2.2.1]:List Interp),qI (y3.2.2.2.2.2.1 - (1:Int)),())))))
 (Aa (decide (y3.2.2.2.2.1.length+([y3.2.2.2.2.2.2.1]:List Interp).length<=Av)) (some (Ex.normal,(y3.2.1,y3.2.2.1,y3.2.2.2.1,y3.2.2.2.2.1++([y3.2.2.2.2.2.2.1]:List Interp),qI (y3.2.2.2.2.2.1 - (1:Int)),()))))))
 (none))
 (some (Ex.exit 0,(odd2,t9,d10,fns11,n12,())))
def Nm (l0:List Int) (m1:List Int) (odd2:Bool):Option ((Bool×Unit)×Unit):=
 (J' l0).bind fun r1=>
 Nr.bind fun r2=>
 (Cu BB r1.1.1 2 2 r2.1.1).bind fun r3=>
 (EK r3.2.1).bind fun r4=>
 (CD 2 r4.1.1).bind fun r5=>
 (EG (5,2,([102]:qBs),([]:qBs),(0:Int)) ([r3.1.1,r5.1.1]:List (List Ac))).bind fun r6=>
 (CD 2 ([49]:qBs)).bind fun r7=>
 (EG (5,2,([102]:qBs),([]:qBs),(0:Int)) ([r7.1.1,r6.1.1]:List (List Ac))).bind fun r8=>
 (EG (12,(0:Int),([]:qBs),([]:qBs),(0:Int)) ([r6.1.1,r8.1.1]:List (List Ac))).bind fun r9=>
 (J' m1).bind fun r10=>
 (AW r10.1.1 3).bind fun r11=>
 (Am Ir (odd2,r9.1.1,r11.2.1,([]:List Interp),r11.1.1,())).bind fun y12=>
 cond (Ex.same y12.1 (Ex.exit 0))
 (Nr.bind fun r13=>
 (OJ y12.2.2.2.1 r13.1.1).bind fun r14=>
 (Nv y12.2.2.1 r14.1.1 y12.2.2.2.2.1).bind fun r15=>
 cond (r15.1.1)
 (RX.bind fun r16=>
 some ((r16.1.1,()),()))
 (some ((false,()),())))
 (none)
end
end Go.AM.Num
end
