/- Law TermRebuild: a part of its proof. No conditions. -/
import Derived.Test.YtppjkoefhkcjfaaGreatDoorTermRebuild3
set_option linter.unusedSimpArgs false
set_option linter.unusedVariables false
section
namespace Go.AM.Num
set_option maxRecDepth 100000
noncomputable section
def Bl:Nat:=2 ^ 64
@[reducible] def Bz : GT := (.pair .str (.int .i64))
abbrev Vr:=qBs×Int
abbrev BT:Vr:=(([]:qBs),(0:Int))
@[reducible] def AL : GT := (.pair (.int .i64) (.int .i64))
abbrev Af:=Int×Int
@[reducible] def AK : GT := (.pair (.sl (.int .i64)) (.int .i64))
abbrev Ac:=(List Int)×Int
@[reducible] def Ia : GT := (.pair .bool (.pair .str .str))
abbrev GY:=Bool×qBs×qBs
@[reducible] def E5 : GT := (.pair .bool (.pair (.sl (.int .u32)) (.sl (.int .u32))))
abbrev Rt:=Bool×(List Int)×List Int
@[reducible] def An : GT := (.pair (.int .i64) (.pair (.int .i64) (.pair .str Bz)))
abbrev Aa:=Int×Int×qBs×Vr
abbrev Ao:Aa:=((0:Int),(0:Int),([]:qBs),([]:qBs),(0:Int))
@[reducible] def En : GT := (.pair (.int .i64) (.pair .bool (.pair .str (.pair (.sl .str) (.sl .str)))))
abbrev Bp:=Int×Bool×qBs×(List qBs)×List qBs
@[reducible] def C6 : GT := (.pair (.sl An) (.sl (.pair (.int .i64) AL)))
abbrev A4:=(List Aa)×List (Int×Af)
abbrev Bj:A4:=(([]:List Aa),([]:List (Int×Af)))
def L' (l0:List Int):Option ((Ac×Unit)×Unit):=
 Ab (decide (0<=EH (l0.length:Int) (400:Int))&&decide (EH (l0.length:Int) (400:Int)<=l0.length)) (some (((l0.take (EH (l0.length:Int) (400:Int)).toNat,(0:Int)),()),()))
def KE (v0:Int) (n1:Int):Option ((Int×Unit)×Unit):=
 Ab ((qU (n1)) !=0) (some ((qI ((qU (v0)).tmod (qU (n1))),()),()))
def A2 (c0:Ac) (n1:Int):Option ((Int×Unit)×(Ac×Unit)):=
 cond (decide (c0.2>=(c0.1.length:Int)))
 (some ((0,()),(c0.1,c0.2),()))
 (Ab (decide (0<=qI ((qI (c0.2+1)) - (1:Int)))&&decide (qI ((qI (c0.2+1)) - (1:Int)) < c0.1.length)) (
 (KE (c0.1.getD (qI ((qI (c0.2+1)) - (1:Int))).toNat (0:Int)) n1).bind fun r1=>
 some ((r1.1.1,()),(c0.1,qI (c0.2+1)),())))
def NX:Option (((List Vr)×Unit)×Unit):=
 some ((([(([120]:qBs),2),(([121]:qBs),2),(([122]:qBs),3),(([119]:qBs),3),(([112]:qBs),1),(([98]:qBs),1),(([97]:qBs),4),(([99]:qBs),4)]:List Vr),()),())
def Hg (x:Int×qBs×Int×Unit):Option (Ex×(Int×qBs×Int×Unit)):=
 let n0:=x.1
 let s3:=x.2.1
 let v4:=x.2.2.1
 cond (v4 !=(0:Int))
 (Ab ((10:Int) !=0) (
 cond (decide ((v4.tmod 10) < (0:Int)))
 (Ab (decide ((([IntKind.u8.wrap (qI ((48:Int)+(qI (0 - (v4.tmod 10)))))]:List Int).map fun n=>UInt8.ofNat n.toNat).length+s3.length<=A3)) (Ab ((10:Int) !=0) (some (Ex.normal,(n0,(([IntKind.u8.wrap (qI ((48:Int)+(qI (0 - (v4.tmod 10)))))]:List Int).map fun n=>UInt8.ofNat n.toNat)++s3,qI (v4.tdiv 10),())))))
 (Ab (decide ((([IntKind.u8.wrap (qI ((48:Int)+(v4.tmod 10)))]:List Int).map fun n=>UInt8.ofNat n.toNat).length+s3.length<=A3)) (Ab ((10:Int) !=0) (some (Ex.normal,(n0,(([IntKind.u8.wrap (qI ((48:Int)+(v4.tmod 10)))]:List Int).map fun n=>UInt8.ofNat n.toNat)++s3,qI (v4.tdiv 10),())))))))
 (cond (s3==([]:qBs))
 (Ab ((10:Int) !=0) (
 cond (decide ((v4.tmod 10) < (0:Int)))
 (Ab (decide ((([IntKind.u8.wrap (qI ((48:Int)+(qI (0 - (v4.tmod 10)))))]:List Int).map fun n=>UInt8.ofNat n.toNat).length+s3.length<=A3)) (Ab ((10:Int) !=0) (some (Ex.normal,(n0,(([IntKind.u8.wrap (qI ((48:Int)+(qI (0 - (v4.tmod 10)))))]:List Int).map fun n=>UInt8.ofNat n.toNat)++s3,qI (v4.tdiv 10),())))))
 (Ab (decide ((([IntKind.u8.wrap (qI ((48:Int)+(v4.tmod 10)))]:List Int).map fun n=>UInt8.ofNat n.toNat).length+s3.length<=A3)) (Ab ((10:Int) !=0) (some (Ex.normal,(n0,(([IntKind.u8.wrap (qI ((48:Int)+(v4.tmod 10)))]:List Int).map fun n=>UInt8.ofNat n.toNat)++s3,qI (v4.tdiv 10),())))))))
 (some (Ex.exit 0,(n0,s3,v4,()))))
def Da (n0:Int):Option ((qBs×Unit)×Unit):=
 (Am Hg (n0,([]:qBs),n0,())).bind fun y1=>
 cond (Ex.same y1.1 (Ex.exit 0))
 (cond (decide (y1.2.1 < (0:Int)))
 (Ab (decide (([45]:qBs).length+y1.2.2.1.length<=A3)) (some ((([45]:qBs)++y1.2.2.1,()),())))
 (some ((y1.2.2.1,()),())))
 (none)
def Gq (x:qBs×Bool×Int×Unit):Option (Ex×(qBs×Bool×Int×Unit)):=
 let s0:=x.1
 let t2:=x.2.1
 let i3:=x.2.2.1
 cond (decide (i3 < (s0.length:Int)))
 (Ab (decide (0<=i3)&&decide (i3 < s0.length)) (
 cond (decide (((s0.getD i3.toNat 0).toNat:Int) < (48:Int)))
 (some (Ex.ret,(s0,false,i3,())))
 (Ab (decide (0<=i3)&&decide (i3 < s0.length)) (
 cond (decide (((s0.getD i3.toNat 0).toNat:Int) > (57:Int)))
 (some (Ex.ret,(s0,false,i3,())))
 (some (Ex.normal,(s0,t2,qI (i3+1),())))))))
 (some (Ex.exit 0,(s0,t2,i3,())))
def DU (s0:qBs):Option ((Bool×Unit)×Unit):=
 (Am Gq (s0,false,0,())).bind fun y1=>
 cond (Ex.same y1.1 (Ex.exit 0))
 (some ((!(y1.2.1==([]:qBs)),()),()))
 (cond (Ex.same y1.1 Ex.ret)
 (some ((y1.2.2.1,()),()))
 (none))
def H7 (x:qBs×Unit):Option (Ex×(qBs×Unit)):=
 let s0:=x.1
 cond (decide ((s0.length:Int) > (1:Int)))
 (Ab (decide (0<=(0:Int))&&decide ((0:Int) < s0.length)) (
 cond (((s0.getD (0:Int).toNat 0).toNat:Int)==48)
 (Ab (decide (0<=(1:Int))&&decide ((1:Int)<=s0.length)) (some (Ex.normal,(s0.drop (1:Int).toNat,()))))
 (some (Ex.exit 0,(s0,())))))
 (some (Ex.exit 0,(s0,())))
def CX (s0:qBs):Option ((qBs×Unit)×Unit):=
 (Am H7 (s0,())).bind fun y1=>
 cond (Ex.same y1.1 (Ex.exit 0))
 (some ((y1.2.1,()),()))
 (none)
def Jq (a0:qBs) (b1:qBs):Option ((Int×Unit)×Unit):=
 cond (decide ((a0.length:Int) < (b1.length:Int)))
 (some ((-1,()),()))
 (cond ((a0.length:Int)==(b1.length:Int))
 (cond (CZ a0 b1)
 (some ((-1,()),()))
 (cond (a0==b1)
 (some ((0,()),()))
 (some ((1,()),()))))
 (cond (a0==b1)
 (some ((0,()),()))
 (some ((1,()),()))))
def EE (x:qBs×qBs×(List Int)×Int×Int×Unit):Option (Ex×(qBs×qBs×(List Int)×Int×Int×Unit)):=
 let a0:=x.1
 let b1:=x.2.1
 let out5:=x.2.2.1
 let borrow6:=x.2.2.2.1
 let i7:=x.2.2.2.2.1
 cond (decide (i7 < (a0.length:Int)))
 (Ab (decide (0<=qI ((qI ((a0.length:Int) - (1:Int))) - i7))&&decide (qI ((qI ((a0.length:Int) - (1:Int))) - i7) < a0.length)) (
 cond (decide (i7 < (b1.length:Int)))
 (Ab (decide (0<=qI ((qI ((b1.length:Int) - (1:Int))) - i7))&&decide (qI ((qI ((b1.length:Int) - (1:Int))) - i7) < b1.length)) (
 cond (decide ((qI ((qI ((qI (IntKind.u8.wrap (((a0.getD (qI ((qI ((a0.length:Int) - (1:Int))) - i7)).toNat 0).toNat:Int) - (48:Int)))) - borrow6)) - (qI (IntKind.u8.wrap (((b1.getD (qI ((qI ((b1.length:Int) - (1:Int))) - i7)).toNat 0).toNat:Int) - (48:Int)))))) < (0:Int)))
 (Ab (decide (0<=qI ((qI ((a0.length:Int) - (1:Int))) - i7))&&decide (qI ((qI ((a0.length:Int) - (1:Int))) - i7) < out5.length)) (Ab (decide ((qI ((qI ((a0.length:Int) - (1:Int))) - i7)).toNat < out5.length)) (some (Ex.normal,(a0,b1,out5.set ((qI ((qI ((a0.length:Int) - (1:Int))) - i7)).toNat) (IntKind.u8.wrap (qI ((48:Int)+(qI ((qI ((qI ((qI (IntKind.u8.wrap (((a0.getD (qI ((qI ((a0.length:Int) - (1:Int))) - i7)).toNat 0).toNat:Int) - (48:Int)))) - borrow6)) - (qI (IntKind.u8.wrap (((b1.getD (qI ((qI ((b1.length:Int) - (1:Int))) - i7)).toNat 0).toNat:Int) - (48:Int))))))+10))))),1,qI (i7+1),())))))
 (Ab (decide (0<=qI ((qI ((a0.length:Int) - (1:Int))) - i7))&&decide (qI ((qI ((a0.length:Int) - (1:Int))) - i7) < out5.length)) (Ab (decide ((qI ((qI ((a0.length:Int) - (1:Int))) - i7)).toNat < out5.length)) (some (Ex.normal,(a0,b1,out5.set ((qI ((qI ((a0.length:Int) - (1:Int))) - i7)).toNat) (IntKind.u8.wrap (qI ((48:Int)+(qI ((qI ((qI (IntKind.u8.wrap (((a0.getD (qI ((qI ((a0.length:Int) - (1:Int))) - i7)).toNat 0).toNat:Int) - (48:Int)))) - borrow6)) - (qI (IntKind.u8.wrap (((b1.getD (qI ((qI ((b1.length:Int) - (1:Int))) - i7)).toNat 0).toNat:Int) - (48:Int))))))))),0,qI (i7+1),())))))))
 (cond (decide ((qI ((qI (IntKind.u8.wrap (((a0.getD (qI ((qI ((a0.length:Int) - (1:Int))) - i7)).toNat 0).toNat:Int) - (48:Int)))) - borrow6)) < (0:Int)))
 (Ab (decide (0<=qI ((qI ((a0.length:Int) - (1:Int))) - i7))&&decide (qI ((qI ((a0.length:Int) - (1:Int))) - i7) < out5.length)) (Ab (decide ((qI ((qI ((a0.length:Int) - (1:Int))) - i7)).toNat < out5.length)) (some (Ex.normal,(a0,b1,out5.set ((qI ((qI ((a0.length:Int) - (1:Int))) - i7)).toNat) (IntKind.u8.wrap (qI ((48:Int)+(qI ((qI ((qI (IntKind.u8.wrap (((a0.getD (qI ((qI ((a0.length:Int) - (1:Int))) - i7)).toNat 0).toNat:Int) - (48:Int)))) - borrow6))+10))))),1,qI (i7+1),())))))
 (Ab (decide (0<=qI ((qI ((a0.length:Int) - (1:Int))) - i7))&&decide (qI ((qI ((a0.length:Int) - (1:Int))) - i7) < out5.length)) (Ab (decide ((qI ((qI ((a0.length:Int) - (1:Int))) - i7)).toNat < out5.length)) (some (Ex.normal,(a0,b1,out5.set ((qI ((qI ((a0.length:Int) - (1:Int))) - i7)).toNat) (IntKind.u8.wrap (qI ((48:Int)+(qI ((qI (IntKind.u8.wrap (((a0.getD (qI ((qI ((a0.length:Int) - (1:Int))) - i7)).toNat 0).toNat:Int) - (48:Int)))) - borrow6))))),0,qI (i7+1),()))))))))
 (some (Ex.exit 0,(a0,b1,out5,borrow6,i7,())))
def H3 (a0:qBs) (b1:qBs):Option ((qBs×Unit)×Unit):=
 Ab (decide (0<=(a0.length:Int))&&decide ((a0.length:Int)<=(a0.length:Int))&&decide ((a0.length:Int)<=As)) (
 (Am EE (a0,b1,List.replicate (a0.length:Int).toNat (0:Int),0,0,())).bind fun y1=>
 cond (Ex.same y1.1 (Ex.exit 0))
 ((CX (y1.2.2.2.1.map fun n=>UInt8.ofNat n.toNat)).bind fun r2=>
 some ((r2.1.1,()),()))
 (none))
def HU (x:qBs×qBs×(List Int)×qBs×Int×Int×Unit):Option (Ex×(qBs×qBs×(List Int)×qBs×Int×Int×Unit)):=
 let a0:=x.1
 let b1:=x.2.1
 let q6:=x.2.2.1
 let r7:=x.2.2.2.1
 let i8:=x.2.2.2.2.1
 let d9:=x.2.2.2.2.2.1
 (Jq r7 b1).bind fun r1=>
 cond (decide (r1.1.1>=0))
 ((H3 r7 b1).bind fun r2=>
 some (Ex.normal,(a0,b1,q6,r2.1.1,i8,IntKind.u8.wrap (d9+1),())))
 (some (Ex.exit 2,(a0,b1,q6,r7,i8,d9,())))
def Jk (x:qBs×qBs×(List Int)×qBs×Int×Unit):Option (Ex×(qBs×qBs×(List Int)×qBs×Int×Unit)):=
 let a0:=x.1
 let b1:=x.2.1
 let q6:=x.2.2.1
 let r7:=x.2.2.2.1
 let i8:=x.2.2.2.2.1
 cond (decide (i8 < (a0.length:Int)))
 (Ab (decide (0<=i8)&&decide (i8<=qI (i8+1))&&decide (qI (i8+1)<=a0.length)) (
 Ab (decide (r7.length+((a0.take (qI (i8+1)).toNat).drop i8.toNat).length<=A3)) (
 (CX (r7++((a0.take (qI (i8+1)).toNat).drop i8.toNat))).bind fun r1=>
 (Am HU (a0,b1,q6,r1.1.1,i8,48,())).bind fun y2=>
 cond (Ex.same y2.1 (Ex.exit 2))
 (Ab (decide (0<=y2.2.2.2.2.2.1)&&decide (y2.2.2.2.2.2.1 < y2.2.2.2.1.length)) (Ab (decide (y2.2.2.2.2.2.1.toNat < y2.2.2.2.1.length)) (some (Ex.normal,(y2.2.1,y2.2.2.1,y2.2.2.2.1.set y2.2.2.2.2.2.1.toNat y2.2.2.2.2.2.2.1,y2.2.2.2.2.1,qI (y2.2.2.2.2.2.1+1),())))))
 (none))))
 (some (Ex.exit 0,(a0,b1,q6,r7,i8,())))
def Ij (a0:qBs) (b1:qBs):Option ((qBs×qBs×Unit)×Unit):=
 Ab (decide (0<=(a0.length:Int))&&decide ((a0.length:Int)<=(a0.length:Int))&&decide ((a0.length:Int)<=As)) (
 (Am Jk (a0,b1,List.replicate (a0.length:Int).toNat (0:Int),([48]:qBs),0,())).bind fun y1=>
 cond (Ex.same y1.1 (Ex.exit 0))
 ((CX (y1.2.2.2.1.map fun n=>UInt8.ofNat n.toNat)).bind fun r2=>
 some ((r2.1.1,y1.2.2.2.2.1,()),()))
 (none))
def Iw (x:qBs×qBs×Unit):Option (Ex×(qBs×qBs×Unit)):=
 let a0:=x.1
 let b1:=x.2.1
 cond (!(b1==([48]:qBs)))
 ((Ij a0 b1).bind fun r1=>
 some (Ex.normal,(b1,r1.1.2.1,())))
 (some (Ex.exit 0,(a0,b1,())))
def Ky (a0:qBs) (b1:qBs):Option ((qBs×Unit)×Unit):=
 (Am Iw (a0,b1,())).bind fun y1=>
 cond (Ex.same y1.1 (Ex.exit 0))
 (some ((y1.2.1,()),()))
 (none)
def C_ (neg0:Bool) (num1:qBs) (den2:qBs):Option ((GY×Unit)×Unit):=
 (Ky num1 den2).bind fun r1=>
 (Ij num1 r1.1.1).bind fun r2=>
 (Ij den2 r1.1.1).bind fun r3=>
 cond (neg0)
 (some (((!(r2.1.1==([48]:qBs)),r2.1.1,r3.1.1),()),()))
 (some (((false,r2.1.1,r3.1.1),()),()))
def Cw (x0:GY):Option ((qBs×Unit)×Unit):=
 cond (x0.1)
 (Ab (decide (([45]:qBs).length+x0.2.1.length<=A3)) (
 cond (!(x0.2.2==([49]:qBs)))
 (Ab (decide (([47]:qBs).length+x0.2.2.length<=A3)) (Ab (decide ((([45]:qBs)++x0.2.1).length+(([47]:qBs)++x0.2.2).length<=A3)) (some (((([45]:qBs)++x0.2.1)++(([47]:qBs)++x0.2.2),()),()))))
 (some ((([45]:qBs)++x0.2.1,()),()))))
 (cond (!(x0.2.2==([49]:qBs)))
 (Ab (decide (([47]:qBs).length+x0.2.2.length<=A3)) (Ab (decide (x0.2.1.length+(([47]:qBs)++x0.2.2).length<=A3)) (some ((x0.2.1++(([47]:qBs)++x0.2.2),()),()))))
 (some ((x0.2.1,()),())))
def ES (x:qBs×GY×GY×qBs×Int×Unit):Option (Ex×(qBs×GY×GY×qBs×Int×Unit)):=
 let a0:=x.1
 let t2:=x.2.1
 let x4:=x.2.2.1
 let s5:=x.2.2.2.1
 let i6:=x.2.2.2.2.1
 cond (decide (i6 < (s5.length:Int)))
 (Ab (decide (0<=i6)&&decide (i6 < s5.length)) (
 cond (((s5.getD i6.toNat 0).toNat:Int)==47)
 (Ab (decide (0<=qI (i6+1))&&decide (qI (i6+1)<=s5.length)) (Ab (decide (0<=i6)&&decide (i6<=s5.length)) (some (Ex.exit 0,(a0,(t2.1,t2.2.1,t2.2.2),(x4.1,x4.2.1,s5.drop (qI (i6+1)).toNat),s5.take i6.toNat,i6,())))))
 (some (Ex.normal,(a0,(t2.1,t2.2.1,t2.2.2),(x4.1,x4.2.1,x4.2.2),s5,qI (i6+1),())))))
 (some (Ex.exit 0,(a0,(t2.1,t2.2.1,t2.2.2),(x4.1,x4.2.1,x4.2.2),s5,i6,())))
def Co (a0:qBs):Option ((GY×Bool×Unit)×Unit):=
 cond (!(a0==([]:qBs)))
 (Ab (decide (0<=(0:Int))&&decide ((0:Int) < a0.length)) (
 cond (((a0.getD (0:Int).toNat 0).toNat:Int)==45)
 (Ab (decide (0<=(1:Int))&&decide ((1:Int)<=a0.length)) (
 (Am ES (a0,(false,([]:qBs),([]:qBs)),(true,([]:qBs),([49]:qBs)),a0.drop (1:Int).toNat,0,())).bind fun y1=>
 cond (Ex.same y1.1 (Ex.exit 0))
 ((DU y1.2.2.2.2.1).bind fun r2=>
 cond (!r2.1.1)
 (some (((false,([]:qBs),([]:qBs)),false,()),()))
 ((DU y1.2.2.2.1.2.2).bind fun r3=>
 cond (!r3.1.1)
 (some (((false,([]:qBs),([]:qBs)),false,()),()))
 (cond (y1.2.2.2.1.2.2==([48]:qBs))
 (some (((false,([]:qBs),([]:qBs)),false,()),()))
 ((CX y1.2.2.2.2.1).bind fun r4=>
 cond (!(r4.1.1==y1.2.2.2.2.1))
 (some (((false,([]:qBs),([]:qBs)),false,()),()))
 ((CX y1.2.2.2.1.2.2).bind fun r5=>
 cond (!(r5.1.1==y1.2.2.2.1.2.2))
 (some (((false,([]:qBs),([]:qBs)),false,()),()))
 ((C_ y1.2.2.2.1.1 y1.2.2.2.2.1 y1.2.2.2.1.2.2).bind fun r6=>
 (Cw (r6.1.1.1,r6.1.1.2.1,r6.1.1.2.2)).bind fun r7=>
 cond (!(r7.1.1==y1.2.1))
 (some (((false,([]:qBs),([]:qBs)),false,()),()))
 (some (((y1.2.2.2.1.1,y1.2.2.2.2.1,y1.2.2.2.1.2.2),true,()),()))))))))
 (none)))
 ((Am ES (a0,(false,([]:qBs),([]:qBs)),(false,([]:qBs),([49]:qBs)),a0,0,())).bind fun y8=>
 cond (Ex.same y8.1 (Ex.exit 0))
 ((DU y8.2.2.2.2.1).bind fun r9=>
 cond (!r9.1.1)
 (some (((false,([]:qBs),([]:qBs)),false,()),()))
 ((DU y8.2.2.2.1.2.2).bind fun r10=>
 cond (!r10.1.1)
 (some (((false,([]:qBs),([]:qBs)),false,()),()))
 (cond (y8.2.2.2.1.2.2==([48]:qBs))
 (some (((false,([]:qBs),([]:qBs)),false,()),()))
 ((CX y8.2.2.2.2.1).bind fun r11=>
 cond (!(r11.1.1==y8.2.2.2.2.1))
 (some (((false,([]:qBs),([]:qBs)),false,()),()))
 ((CX y8.2.2.2.1.2.2).bind fun r12=>
 cond (!(r12.1.1==y8.2.2.2.1.2.2))
 (some (((false,([]:qBs),([]:qBs)),false,()),()))
 ((C_ y8.2.2.2.1.1 y8.2.2.2.2.1 y8.2.2.2.1.2.2).bind fun r13=>
 (Cw (r13.1.1.1,r13.1.1.2.1,r13.1.1.2.2)).bind fun r14=>
 cond (!(r14.1.1==y8.2.1))
 (some (((false,([]:qBs),([]:qBs)),false,()),()))
 (some (((y8.2.2.2.1.1,y8.2.2.2.2.1,y8.2.2.2.1.2.2),true,()),()))))))))
 (none))))
 ((Am ES (a0,(false,([]:qBs),([]:qBs)),(false,([]:qBs),([49]:qBs)),a0,0,())).bind fun y15=>
 cond (Ex.same y15.1 (Ex.exit 0))
 ((DU y15.2.2.2.2.1).bind fun r16=>
 cond (!r16.1.1)
 (some (((false,([]:qBs),([]:qBs)),false,()),()))
 ((DU y15.2.2.2.1.2.2).bind fun r17=>
 cond (!r17.1.1)
 (some (((false,([]:qBs),([]:qBs)),false,()),()))
 (cond (y15.2.2.2.1.2.2==([48]:qBs))
 (some (((false,([]:qBs),([]:qBs)),false,()),()))
 ((CX y15.2.2.2.2.1).bind fun r18=>
 cond (!(r18.1.1==y15.2.2.2.2.1))
 (some (((false,([]:qBs),([]:qBs)),false,()),()))
 ((CX y15.2.2.2.1.2.2).bind fun r19=>
 cond (!(r19.1.1==y15.2.2.2.1.2.2))
 (some (((false,([]:qBs),([]:qBs)),false,()),()))
 ((C_ y15.2.2.2.1.1 y15.2.2.2.2.1 y15.2.2.2.1.2.2).bind fun r20=>
 (Cw (r20.1.1.1,r20.1.1.2.1,r20.1.1.2.2)).bind fun r21=>
 cond (!(r21.1.1==y15.2.1))
 (some (((false,([]:qBs),([]:qBs)),false,()),()))
 (some (((y15.2.2.2.1.1,y15.2.2.2.2.1,y15.2.2.2.1.2.2),true,()),()))))))))
 (none))
def B_ (a0:qBs):Option ((Bool×Unit)×Unit):=
 (Co a0).bind fun r1=>
 cond (r1.1.2.1)
 (some ((r1.1.1.2.2==([49]:qBs),()),()))
 (some ((false,()),()))
def DD (a0:qBs):Option ((Bool×Unit)×Unit):=
 (Co a0).bind fun r1=>
 some ((r1.1.2.1,()),())
def K8 (a0:qBs):Option ((qBs×Unit)×Unit):=
 (Co a0).bind fun r1=>
 cond (!r1.1.2.1)
 (some ((([]:qBs),()),()))
 (cond (!r1.1.1.1)
 ((Cw (!(r1.1.1.2.1==([48]:qBs)),r1.1.1.2.1,r1.1.1.2.2)).bind fun r2=>
 some ((r2.1.1,()),()))
 ((Cw (false,r1.1.1.2.1,r1.1.1.2.2)).bind fun r3=>
 some ((r3.1.1,()),())))
def HN (x:qBs×qBs×(List Int)×Int×Int×Unit):Option (Ex×(qBs×qBs×(List Int)×Int×Int×Unit)):=
 let a0:=x.1
 let b1:=x.2.1
 let out5:=x.2.2.1
 let i6:=x.2.2.2.1
 let j7:=x.2.2.2.2.1
 cond (decide (j7 < (b1.length:Int)))
 (Ab (decide (0<=qI ((qI (i6+j7))+1))&&decide (qI ((qI (i6+j7))+1) < out5.length)) (Ab (decide ((qI ((qI (i6+j7))+1)).toNat < out5.length)) (Ab (decide (0<=i6)&&decide (i6 < a0.length)) (Ab (decide (0<=j7)&&decide (j7 < b1.length)) (Ab (decide (0<=qI ((qI (i6+j7))+1))&&decide (qI ((qI (i6+j7))+1) < out5.length)) (Ab (decide ((qI ((qI (i6+j7))+1)).toNat < out5.length)) (some (Ex.normal,(a0,b1,out5.set ((qI ((qI (i6+j7))+1)).toNat) (qI ((out5.getD ((qI ((qI (i6+j7))+1)).toNat) (0:Int))+(qI ((qI (IntKind.u8.wrap (((a0.getD i6.toNat 0).toNat:Int) - (48:Int)))) * (qI (IntKind.u8.wrap (((b1.getD j7.toNat 0).toNat:Int) - (48:Int)))))))),i6,qI (j7+1),())))))))))
 (some (Ex.exit 2,(a0,b1,out5,i6,j7,())))
def Jo (x:qBs×qBs×(List Int)×Int×Unit):Option (Ex×(qBs×qBs×(List Int)×Int×Unit)):=
 let a0:=x.1
 let b1:=x.2.1
 let out5:=x.2.2.1
 let i6:=x.2.2.2.1
 cond (decide (i6 < (a0.length:Int)))
 ((Am HN (a0,b1,out5,i6,0,())).bind fun y1=>
 cond (Ex.same y1.1 (Ex.exit 2))
 (some (Ex.normal,(y1.2.1,y1.2.2.1,y1.2.2.2.1,qI (y1.2.2.2.2.1+1),())))
 (none))
 (some (Ex.exit 0,(a0,b1,out5,i6,())))
def Je (x:(List Int)×(List Int)×Int×Int×Unit):Option (Ex×((List Int)×(List Int)×Int×Int×Unit)):=
 let out5:=x.1
 let s8:=x.2.1
 let carry9:=x.2.2.1
 let k10:=x.2.2.2.1
 cond (decide (k10>=0))
 (Ab (decide (0<=k10)&&decide (k10 < out5.length)) (Ab (decide (k10.toNat < out5.length)) (Ab ((10:Int) !=0) (Ab (decide (0<=k10)&&decide (k10 < s8.length)) (Ab (decide (k10.toNat < s8.length)) (Ab ((10:Int) !=0) (some (Ex.normal,(out5,s8.set k10.toNat (IntKind.u8.wrap (qI ((48:Int)+((qI ((out5.getD k10.toNat (0:Int))+carry9)).tmod 10)))),qI ((qI ((out5.getD k10.toNat (0:Int))+carry9)).tdiv 10),qI (k10 - (1:Int)),())))))))))
 (some (Ex.exit 4,(out5,s8,carry9,k10,())))
def Eb (a0:qBs) (b1:qBs):Option ((qBs×Unit)×Unit):=
 Ab (decide (0<=qI ((a0.length:Int)+(b1.length:Int)))&&decide (qI ((a0.length:Int)+(b1.length:Int))<=qI ((a0.length:Int)+(b1.length:Int)))&&decide (qI ((a0.length:Int)+(b1.length:Int))<=As)) (
 (Am Jo (a0,b1,List.replicate (qI ((a0.length:Int)+(b1.length:Int))).toNat (0:Int),0,())).bind fun y1=>
 cond (Ex.same y1.1 (Ex.exit 0))
 (Ab (decide (0<=(y1.2.2.2.1.length:Int))&&decide ((y1.2.2.2.1.length:Int)<=(y1.2.2.2.1.length:Int))&&decide ((y1.2.2.2.1.length:Int)<=As)) (
 (Am Je (y1.2.2.2.1,List.replicate (y1.2.2.2.1.length:Int).toNat (0:Int),0,qI ((y1.2.2.2.1.length:Int) - (1:Int)),())).bind fun y2=>
 cond (Ex.same y2.1 (Ex.exit 4))
 ((CX (y2.2.2.1.map fun n=>UInt8.ofNat n.toNat)).bind fun r3=>
 some ((r3.1.1,()),()))
 (none)))
 (none))
def Ev (x:qBs×qBs×Int×(List Int)×Int×Int×Unit):Option (Ex×(qBs×qBs×Int×(List Int)×Int×Int×Unit)):=
 let a0:=x.1
 let b1:=x.2.1
 let n5:=x.2.2.1
 let out6:=x.2.2.2.1
 let carry7:=x.2.2.2.2.1
 let i8:=x.2.2.2.2.2.1
 cond (decide (i8 < n5))
 (cond (decide (i8 < (a0.length:Int)))
 (Ab (decide (0<=qI ((qI ((a0.length:Int) - (1:Int))) - i8))&&decide (qI ((qI ((a0.length:Int) - (1:Int))) - i8) < a0.length)) (
 cond (decide (i8 < (b1.length:Int)))
 (Ab (decide (0<=qI ((qI ((b1.length:Int) - (1:Int))) - i8))&&decide (qI ((qI ((b1.length:Int) - (1:Int))) - i8) < b1.length)) (Ab ((10:Int) !=0) (Ab (decide (0<=qI ((qI (n5 - (1:Int))) - i8))&&decide (qI ((qI (n5 - (1:Int))) - i8) < out6.length)) (Ab (decide ((qI ((qI (n5 - (1:Int))) - i8)).toNat < out6.length)) (Ab ((10:Int) !=0) (some (Ex.normal,(a0,b1,n5,out6.set ((qI ((qI (n5 - (1:Int))) - i8)).toNat) (IntKind.u8.wrap (qI ((48:Int)+((qI ((qI (carry7+(qI (IntKind.u8.wrap (((a0.getD (qI ((qI ((a0.length:Int) - (1:Int))) - i8)).toNat 0).toNat:Int) - (48:Int))))))+(qI (IntKind.u8.wrap (((b1.getD (qI ((qI ((b1.length:Int) - (1:Int))) - i8)).toNat 0).toNat:Int) - (48:Int)))))).tmod 10)))),qI ((qI ((qI (carry7+(qI (IntKind.u8.wrap (((a0.getD (qI ((qI ((a0.length:Int) - (1:Int))) - i8)).toNat 0).toNat:Int) - (48:Int))))))+(qI (IntKind.u8.wrap (((b1.getD (qI ((qI ((b1.length:Int) - (1:Int))) - i8)).toNat 0).toNat:Int) - (48:Int)))))).tdiv 10),qI (i8+1),()))))))))
 (Ab ((10:Int) !=0) (Ab (decide (0<=qI ((qI (n5 - (1:Int))) - i8))&&decide (qI ((qI (n5 - (1:Int))) - i8) < out6.length)) (Ab (decide ((qI ((qI (n5 - (1:Int))) - i8)).toNat < out6.length)) (Ab ((10:Int) !=0) (some (Ex.normal,(a0,b1,n5,out6.set ((qI ((qI (n5 - (1:Int))) - i8)).toNat) (IntKind.u8.wrap (qI ((48:Int)+((qI (carry7+(qI (IntKind.u8.wrap (((a0.getD (qI ((qI ((a0.length:Int) - (1:Int))) - i8)).toNat 0).toNat:Int) - (48:Int)))))).tmod 10)))),qI ((qI (carry7+(qI (IntKind.u8.wrap (((a0.getD (qI ((qI ((a0.length:Int) - (1:Int))) - i8)).toNat 0).toNat:Int) - (48:Int)))))).tdiv 10),qI (i8+1),())))))))))
 (cond (decide (i8 < (b1.length:Int)))
 (Ab (decide (0<=qI ((qI ((b1.length:Int) - (1:Int))) - i8))&&decide (qI ((qI ((b1.length:Int) - (1:Int))) - i8) < b1.length)) (Ab ((10:Int) !=0) (Ab (decide (0<=qI ((qI (n5 - (1:Int))) - i8))&&decide (qI ((qI (n5 - (1:Int))) - i8) < out6.length)) (Ab (decide ((qI ((qI (n5 - (1:Int))) - i8)).toNat < out6.length)) (Ab ((10:Int) !=0) (some (Ex.normal,(a0,b1,n5,out6.set ((qI ((qI (n5 - (1:Int))) - i8)).toNat) (IntKind.u8.wrap (qI ((48:Int)+((qI (carry7+(qI (IntKind.u8.wrap (((b1.getD (qI ((qI ((b1.length:Int) - (1:Int))) - i8)).toNat 0).toNat:Int) - (48:Int)))))).tmod 10)))),qI ((qI (carry7+(qI (IntKind.u8.wrap (((b1.getD (qI ((qI ((b1.length:Int) - (1:Int))) - i8)).toNat 0).toNat:Int) - (48:Int)))))).tdiv 10),qI (i8+1),()))))))))
 (Ab ((10:Int) !=0) (Ab (decide (0<=qI ((qI (n5 - (1:Int))) - i8))&&decide (qI ((qI (n5 - (1:Int))) - i8) < out6.length)) (Ab (decide ((qI ((qI (n5 - (1:Int))) - i8)).toNat < out6.length)) (Ab ((10:Int) !=0) (some (Ex.normal,(a0,b1,n5,out6.set ((qI ((qI (n5 - (1:Int))) - i8)).toNat) (IntKind.u8.wrap (qI ((48:Int)+(carry7.tmod 10)))),qI (carry7.tdiv 10),qI (i8+1),())))))))))
 (some (Ex.exit 0,(a0,b1,n5,out6,carry7,i8,())))
def K5 (a0:qBs) (b1:qBs):Option ((qBs×Unit)×Unit):=
 Ab (decide (0<=qI ((BN (a0.length:Int) (b1.length:Int))+1))&&decide (qI ((BN (a0.length:Int) (b1.length:Int))+1)<=qI ((BN (a0.length:Int) (b1.length:Int))+1))&&decide (qI ((BN (a0.length:Int) (b1.length:Int))+1)<=As)) (
 (Am Ev (a0,b1,qI ((BN (a0.length:Int) (b1.length:Int))+1),List.replicate (qI ((BN (a0.length:Int) (b1.length:Int))+1)).toNat (0:Int),0,0,())).bind fun y1=>
 cond (Ex.same y1.1 (Ex.exit 0))
 ((CX (y1.2.2.2.2.1.map fun n=>UInt8.ofNat n.toNat)).bind fun r2=>
 some ((r2.1.1,()),()))
 (none))
def LJ (a0:qBs) (b1:qBs):Option ((qBs×Unit)×Unit):=
 (Co a0).bind fun r1=>
 (Co b1).bind fun r2=>
 cond (!r1.1.2.1)
 (some ((([]:qBs),()),()))
 (cond (!r2.1.2.1)
 (some ((([]:qBs),()),()))
 ((Eb r1.1.1.2.1 r2.1.1.2.2).bind fun r3=>
 (Eb r2.1.1.2.1 r1.1.1.2.2).bind fun r4=>
 (Eb r1.1.1.2.2 r2.1.1.2.2).bind fun r5=>
 cond (r1.1.1.1==r2.1.1.1)
 ((K5 r3.1.1 r4.1.1).bind fun r6=>
 (C_ r1.1.1.1 r6.1.1 r5.1.1).bind fun r7=>
 (Cw (r7.1.1.1,r7.1.1.2.1,r7.1.1.2.2)).bind fun r8=>
 some ((r8.1.1,()),()))
 ((Jq r3.1.1 r4.1.1).bind fun r9=>
 cond (decide (r9.1.1>=0))
 ((H3 r3.1.1 r4.1.1).bind fun r10=>
 (C_ r1.1.1.1 r10.1.1 r5.1.1).bind fun r11=>
 (Cw (r11.1.1.1,r11.1.1.2.1,r11.1.1.2.2)).bind fun r12=>
 some ((r12.1.1,()),()))
 ((H3 r4.1.1 r3.1.1).bind fun r13=>
 (C_ r2.1.1.1 r13.1.1 r5.1.1).bind fun r14=>
 (Cw (r14.1.1.1,r14.1.1.2.1,r14.1.1.2.2)).bind fun r15=>
 some ((r15.1.1,()),())))))
def KC (a0:qBs) (b1:qBs):Option ((qBs×Unit)×Unit):=
 (K8 b1).bind fun r1=>
 (LJ a0 r1.1.1).bind fun r2=>
 some ((r2.1.1,()),())
def Hr (a0:qBs):Option ((Int×Unit)×Unit):=
 (Co a0).bind fun r1=>
 cond (!r1.1.2.1)
 (some ((0,()),()))
 (cond (r1.1.1.2.1==([48]:qBs))
 (some ((0,()),()))
 (cond (r1.1.1.1)
 (some ((-1,()),()))
 (some ((1,()),()))))
def Ew (a0:qBs) (b1:qBs):Option ((Int×Unit)×Unit):=
 (DD a0).bind fun r1=>
 cond (!r1.1.1)
 (some ((0,()),()))
 ((DD b1).bind fun r2=>
 cond (!r2.1.1)
 (some ((0,()),()))
 ((KC a0 b1).bind fun r3=>
 (Hr r3.1.1).bind fun r4=>
 some ((r4.1.1,()),())))
def D_ (x:Bp×Bool×Int×Unit):Option (Ex×(Bp×Bool×Int×Unit)):=
 let v1:=x.1
 let t2:=x.2.1
 let i3:=x.2.2.1
 cond (decide (i3 < (v1.2.2.2.1.length:Int)))
 (Ab (decide (0<=i3)&&decide (i3 < v1.2.2.2.1.length)) (
 (B_ (v1.2.2.2.1.getD i3.toNat ([]:qBs))).bind fun r1=>
 cond (!r1.1.1)
 (some (Ex.ret,(v1,false,i3,())))
 (Ab (decide (0<=i3)&&decide (i3 < v1.2.2.2.2.length)) (
 (B_ (v1.2.2.2.2.getD i3.toNat ([]:qBs))).bind fun r2=>
 cond (!r2.1.1)
 (some (Ex.ret,(v1,false,i3,())))
 (Ab (decide (0<=i3)&&decide (i3 < v1.2.2.2.2.length)) (
 cond ((v1.2.2.2.2.getD i3.toNat ([]:qBs))==v1.2.2.1)
 (some (Ex.ret,(v1,false,i3,())))
 (cond (decide (i3 > (0:Int)))
 (Ab (decide (0<=qI (i3 - (1:Int)))&&decide (qI (i3 - (1:Int)) < v1.2.2.2.1.length)) (
 Ab (decide (0<=i3)&&decide (i3 < v1.2.2.2.1.length)) (
 (Ew (v1.2.2.2.1.getD (qI (i3 - (1:Int))).toNat ([]:qBs)) (v1.2.2.2.1.getD i3.toNat ([]:qBs))).bind fun r3=>
 cond (decide (r3.1.1>=0))
 (some (Ex.ret,(v1,false,i3,())))
 (some (Ex.normal,(v1,t2,qI (i3+1),()))))))
 (some (Ex.normal,(v1,t2,qI (i3+1),()))))))))))
 (some (Ex.exit 1,(v1,t2,i3,())))
def J5 (v0:Bp):Option ((Bool×Unit)×Unit):=
 cond (v0.1 !=(4:Int))
 (cond (decide ((v0.2.2.2.1.length:Int) > (0:Int)))
 (some ((false,()),()))
 (cond (decide ((v0.2.2.2.2.length:Int) > (0:Int)))
 (some ((false,()),()))
 (cond (v0.1 !=(1:Int))
 (cond (v0.2.1)
 (some ((false,()),()))
 (cond (v0.1==1)
 (some ((v0.2.2.1==([]:qBs),()),()))
 (cond (v0.1==2)
 ((B_ v0.2.2.1).bind fun r1=>
 some ((r1.1.1,()),()))
 (cond (v0.1==3)
 ((DD v0.2.2.1).bind fun r2=>
 some ((r2.1.1,()),()))
 (cond (v0.1==4)
 ((B_ v0.2.2.1).bind fun r3=>
 cond (!r3.1.1)
 (some ((false,()),()))
 (cond ((v0.2.2.2.1.length:Int) !=(v0.2.2.2.2.length:Int))
 (some ((false,()),()))
 ((Am D_ (v0,false,0,())).bind fun y4=>
 cond (Ex.same y4.1 (Ex.exit 1))
 (some ((true,()),()))
 (cond (Ex.same y4.1 Ex.ret)
 (some ((y4.2.2.1,()),()))
 (none)))))
 (some ((false,()),())))))))
 (cond (v0.1==1)
 (some ((v0.2.2.1==([]:qBs),()),()))
 (cond (v0.1==2)
 ((B_ v0.2.2.1).bind fun r5=>
 some ((r5.1.1,()),()))
 (cond (v0.1==3)
 ((DD v0.2.2.1).bind fun r6=>
 some ((r6.1.1,()),()))
 (cond (v0.1==4)
 ((B_ v0.2.2.1).bind fun r7=>
 cond (!r7.1.1)
 (some ((false,()),()))
 (cond ((v0.2.2.2.1.length:Int) !=(v0.2.2.2.2.length:Int))
 (some ((false,()),()))
 ((Am D_ (v0,false,0,())).bind fun y8=>
 cond (Ex.same y8.1 (Ex.exit 1))
 (some ((true,()),()))
 (cond (Ex.same y8.1 Ex.ret)
 (some ((y8.2.2.1,()),()))
 (none)))))
 (some ((false,()),())))))))))
 (cond (v0.1 !=(1:Int))
 (cond (v0.2.1)
 (some ((false,()),()))
 (cond (v0.1==1)
 (some ((v0.2.2.1==([]:qBs),()),()))
 (cond (v0.1==2)
 ((B_ v0.2.2.1).bind fun r9=>
 some ((r9.1.1,()),()))
 (cond (v0.1==3)
 ((DD v0.2.2.1).bind fun r10=>
 some ((r10.1.1,()),()))
 (cond (v0.1==4)
 ((B_ v0.2.2.1).bind fun r11=>
 cond (!r11.1.1)
 (some ((false,()),()))
 (cond ((v0.2.2.2.1.length:Int) !=(v0.2.2.2.2.length:Int))
 (some ((false,()),()))
 ((Am D_ (v0,false,0,())).bind fun y12=>
 cond (Ex.same y12.1 (Ex.exit 1))
 (some ((true,()),()))
 (cond (Ex.same y12.1 Ex.ret)
 (some ((y12.2.2.1,()),()))
 (none)))))
 (some ((false,()),())))))))
 (cond (v0.1==1)
 (some ((v0.2.2.1==([]:qBs),()),()))
 (cond (v0.1==2)
 ((B_ v0.2.2.1).bind fun r13=>
 some ((r13.1.1,()),()))
 (cond (v0.1==3)
 ((DD v0.2.2.1).bind fun r14=>
 some ((r14.1.1,()),()))
 (cond (v0.1==4)
 ((B_ v0.2.2.1).bind fun r15=>
 cond (!r15.1.1)
 (some ((false,()),()))
 (cond ((v0.2.2.2.1.length:Int) !=(v0.2.2.2.2.length:Int))
 (some ((false,()),()))
 ((Am D_ (v0,false,0,())).bind fun y16=>
 cond (Ex.same y16.1 (Ex.exit 1))
 (some ((true,()),()))
 (cond (Ex.same y16.1 Ex.ret)
 (some ((y16.2.2.1,()),()))
 (none)))))
 (some ((false,()),())))))))
def Ci (x:qBs×qBs×Bp×Bp×(Int×Bool×qBs×(List qBs)×List qBs)×Bool×Int×Unit):Option (Ex×(qBs×qBs×Bp×Bp×(Int×Bool×qBs×(List qBs)×List qBs)×Bool×Int×Unit)):=
 let index1:=x.1
 let num2:=x.2.1
 let a3:=x.2.2.1
 let t6:=x.2.2.2.1
 let out8:=x.2.2.2.2.1
 let put9:=x.2.2.2.2.2.1
 let i10:=x.2.2.2.2.2.2.1
 cond (decide (i10<=(a3.2.2.2.1.length:Int)))
 (cond (!put9)
 (cond (i10==(a3.2.2.2.1.length:Int))
 (cond (!(num2==a3.2.2.1))
 (Ab (decide (out8.2.2.2.1.length+([index1]:List qBs).length<=As)) (
 Ab (decide (out8.2.2.2.2.length+([num2]:List qBs).length<=As)) (
 cond (decide (i10 < (a3.2.2.2.1.length:Int)))
 (Ab (decide (0<=i10)&&decide (i10 < a3.2.2.2.1.length)) (
 cond (!((a3.2.2.2.1.getD i10.toNat ([]:qBs))==index1))
 (Ab (decide (0<=i10)&&decide (i10 < a3.2.2.2.1.length)) (Ab (decide ((out8.2.2.2.1++([index1]:List qBs)).length+([a3.2.2.2.1.getD i10.toNat ([]:qBs)]:List qBs).length<=As)) (Ab (decide (0<=i10)&&decide (i10 < a3.2.2.2.2.length)) (Ab (decide ((out8.2.2.2.2++([num2]:List qBs)).length+([a3.2.2.2.2.getD i10.toNat ([]:qBs)]:List qBs).length<=As)) (some (Ex.normal,(index1,num2,a3,t6,(out8.1,out8.2.1,out8.2.2.1,(out8.2.2.2.1++([index1]:List qBs))++([a3.2.2.2.1.getD i10.toNat ([]:qBs)]:List qBs),(out8.2.2.2.2++([num2]:List qBs))++([a3.2.2.2.2.getD i10.toNat ([]:qBs)]:List qBs)),true,qI (i10+1),())))))))
 (some (Ex.normal,(index1,num2,a3,t6,(out8.1,out8.2.1,out8.2.2.1,out8.2.2.2.1++([index1]:List qBs),out8.2.2.2.2++([num2]:List qBs)),true,qI (i10+1),())))))
 (some (Ex.normal,(index1,num2,a3,t6,(out8.1,out8.2.1,out8.2.2.1,out8.2.2.2.1++([index1]:List qBs),out8.2.2.2.2++([num2]:List qBs)),true,qI (i10+1),()))))))
 (cond (decide (i10 < (a3.2.2.2.1.length:Int)))
 (Ab (decide (0<=i10)&&decide (i10 < a3.2.2.2.1.length)) (
 cond (!((a3.2.2.2.1.getD i10.toNat ([]:qBs))==index1))
 (Ab (decide (0<=i10)&&decide (i10 < a3.2.2.2.1.length)) (Ab (decide (out8.2.2.2.1.length+([a3.2.2.2.1.getD i10.toNat ([]:qBs)]:List qBs).length<=As)) (Ab (decide (0<=i10)&&decide (i10 < a3.2.2.2.2.length)) (Ab (decide (out8.2.2.2.2.length+([a3.2.2.2.2.getD i10.toNat ([]:qBs)]:List qBs).length<=As)) (some (Ex.normal,(index1,num2,a3,t6,(out8.1,out8.2.1,out8.2.2.1,out8.2.2.2.1++([a3.2.2.2.1.getD i10.toNat ([]:qBs)]:List qBs),out8.2.2.2.2++([a3.2.2.2.2.getD i10.toNat ([]:qBs)]:List qBs)),true,qI (i10+1),())))))))
 (some (Ex.normal,(index1,num2,a3,t6,out8,true,qI (i10+1),())))))
 (some (Ex.normal,(index1,num2,a3,t6,out8,true,qI (i10+1),())))))
 (Ab (decide (0<=i10)&&decide (i10 < a3.2.2.2.1.length)) (
 (Ew (a3.2.2.2.1.getD i10.toNat ([]:qBs)) index1).bind fun r1=>
 cond (decide (r1.1.1>=0))
 (cond (!(num2==a3.2.2.1))
 (Ab (decide (out8.2.2.2.1.length+([index1]:List qBs).length<=As)) (
 Ab (decide (out8.2.2.2.2.length+([num2]:List qBs).length<=As)) (
 cond (decide (i10 < (a3.2.2.2.1.length:Int)))
 (Ab (decide (0<=i10)&&decide (i10 < a3.2.2.2.1.length)) (
 cond (!((a3.2.2.2.1.getD i10.toNat ([]:qBs))==index1))
 (Ab (decide (0<=i10)&&decide (i10 < a3.2.2.2.1.length)) (Ab (decide ((out8.2.2.2.1++([index1]:List qBs)).length+([a3.2.2.2.1.getD i10.toNat ([]:qBs)]:List qBs).length<=As)) (Ab (decide (0<=i10)&&decide (i10 < a3.2.2.2.2.length)) (Ab (decide ((out8.2.2.2.2++([num2]:List qBs)).length+([a3.2.2.2.2.getD i10.toNat ([]:qBs)]:List qBs).length<=As)) (some (Ex.normal,(index1,num2,a3,t6,(out8.1,out8.2.1,out8.2.2.1,(out8.2.2.2.1++([index1]:List qBs))++([a3.2.2.2.1.getD i10.toNat ([]:qBs)]:List qBs),(out8.2.2.2.2++([num2]:List qBs))++([a3.2.2.2.2.getD i10.toNat ([]:qBs)]:List qBs)),true,qI (i10+1),())))))))
 (some (Ex.normal,(index1,num2,a3,t6,(out8.1,out8.2.1,out8.2.2.1,out8.2.2.2.1++([index1]:List qBs),out8.2.2.2.2++([num2]:List qBs)),true,qI (i10+1),())))))
 (some (Ex.normal,(index1,num2,a3,t6,(out8.1,out8.2.1,out8.2.2.1,out8.2.2.2.1++([index1]:List qBs),out8.2.2.2.2++([num2]:List qBs)),true,qI (i10+1),()))))))
 (cond (decide (i10 < (a3.2.2.2.1.length:Int)))
 (Ab (decide (0<=i10)&&decide (i10 < a3.2.2.2.1.length)) (
 cond (!((a3.2.2.2.1.getD i10.toNat ([]:qBs))==index1))
 (Ab (decide (0<=i10)&&decide (i10 < a3.2.2.2.1.length)) (Ab (decide (out8.2.2.2.1.length+([a3.2.2.2.1.getD i10.toNat ([]:qBs)]:List qBs).length<=As)) (Ab (decide (0<=i10)&&decide (i10 < a3.2.2.2.2.length)) (Ab (decide (out8.2.2.2.2.length+([a3.2.2.2.2.getD i10.toNat ([]:qBs)]:List qBs).length<=As)) (some (Ex.normal,(index1,num2,a3,t6,(out8.1,out8.2.1,out8.2.2.1,out8.2.2.2.1++([a3.2.2.2.1.getD i10.toNat ([]:qBs)]:List qBs),out8.2.2.2.2++([a3.2.2.2.2.getD i10.toNat ([]:qBs)]:List qBs)),true,qI (i10+1),())))))))
 (some (Ex.normal,(index1,num2,a3,t6,out8,true,qI (i10+1),())))))
 (some (Ex.normal,(index1,num2,a3,t6,out8,true,qI (i10+1),())))))
 (cond (decide (i10 < (a3.2.2.2.1.length:Int)))
 (Ab (decide (0<=i10)&&decide (i10 < a3.2.2.2.1.length)) (
 cond (!((a3.2.2.2.1.getD i10.toNat ([]:qBs))==index1))
 (Ab (decide (0<=i10)&&decide (i10 < a3.2.2.2.1.length)) (Ab (decide (out8.2.2.2.1.length+([a3.2.2.2.1.getD i10.toNat ([]:qBs)]:List qBs).length<=As)) (Ab (decide (0<=i10)&&decide (i10 < a3.2.2.2.2.length)) (Ab (decide (out8.2.2.2.2.length+([a3.2.2.2.2.getD i10.toNat ([]:qBs)]:List qBs).length<=As)) (some (Ex.normal,(index1,num2,a3,t6,(out8.1,out8.2.1,out8.2.2.1,out8.2.2.2.1++([a3.2.2.2.1.getD i10.toNat ([]:qBs)]:List qBs),out8.2.2.2.2++([a3.2.2.2.2.getD i10.toNat ([]:qBs)]:List qBs)),put9,qI (i10+1),())))))))
 (some (Ex.normal,(index1,num2,a3,t6,out8,put9,qI (i10+1),())))))
 (some (Ex.normal,(index1,num2,a3,t6,out8,put9,qI (i10+1),())))))))
 (cond (decide (i10 < (a3.2.2.2.1.length:Int)))
 (Ab (decide (0<=i10)&&decide (i10 < a3.2.2.2.1.length)) (
 cond (!((a3.2.2.2.1.getD i10.toNat ([]:qBs))==index1))
 (Ab (decide (0<=i10)&&decide (i10 < a3.2.2.2.1.length)) (Ab (decide (out8.2.2.2.1.length+([a3.2.2.2.1.getD i10.toNat ([]:qBs)]:List qBs).length<=As)) (Ab (decide (0<=i10)&&decide (i10 < a3.2.2.2.2.length)) (Ab (decide (out8.2.2.2.2.length+([a3.2.2.2.2.getD i10.toNat ([]:qBs)]:List qBs).length<=As)) (some (Ex.normal,(index1,num2,a3,t6,(out8.1,out8.2.1,out8.2.2.1,out8.2.2.2.1++([a3.2.2.2.1.getD i10.toNat ([]:qBs)]:List qBs),out8.2.2.2.2++([a3.2.2.2.2.getD i10.toNat ([]:qBs)]:List qBs)),put9,qI (i10+1),())))))))
 (some (Ex.normal,(index1,num2,a3,t6,out8,put9,qI (i10+1),())))))
 (some (Ex.normal,(index1,num2,a3,t6,out8,put9,qI (i10+1),())))))
 (some (Ex.exit 0,(index1,num2,a3,t6,out8,put9,i10,())))
def Ln (a0:Bp) (index1:qBs) (num2:qBs):Option ((Bp×Int×Unit)×Unit):=
 cond (a0.1 !=(4:Int))
 (some ((((0:Int),false,([]:qBs),([]:List qBs),([]:List qBs)),1,()),()))
 ((J5 a0).bind fun r1=>
 cond (!r1.1.1)
 (some ((((0:Int),false,([]:qBs),([]:List qBs),([]:List qBs)),1,()),()))
 ((B_ index1).bind fun r2=>
 cond (!r2.1.1)
 (some ((((0:Int),false,([]:qBs),([]:List qBs),([]:List qBs)),1,()),()))
 ((B_ num2).bind fun r3=>
 cond (!r3.1.1)
 (some ((((0:Int),false,([]:qBs),([]:List qBs),([]:List qBs)),1,()),()))
 ((Am Ci (index1,num2,a0,((0:Int),false,([]:qBs),([]:List qBs),([]:List qBs)),(a0.1,false,a0.2.2.1,([]:List qBs),([]:List qBs)),false,0,())).bind fun y4=>
 cond (Ex.same y4.1 (Ex.exit 0))
 (some ((y4.2.2.2.2.2.1,0,()),()))
 (none)))))
def F_ (c0:Ac) (sort1:Int):Option ((Bp×Unit)×(Ac×Unit)):=
 cond (sort1==1)
 ((A2 c0 2).bind fun r1=>
 some (((sort1,r1.1.1==1,([]:qBs),([]:List qBs),([]:List qBs)),()),r1.2.1,()))
 (cond (sort1==4)
 ((A2 c0 3).bind fun r2=>
 (Da r2.1.1).bind fun r3=>
 (A2 r2.2.1 3).bind fun r4=>
 (Da r4.1.1).bind fun r5=>
 (A2 r4.2.1 3).bind fun r6=>
 (Da r6.1.1).bind fun r7=>
 (Ln (sort1,false,r3.1.1,([]:List qBs),([]:List qBs)) r5.1.1 r7.1.1).bind fun r8=>
 some ((r8.1.1,()),r6.2.1,()))
 ((A2 c0 6).bind fun r9=>
 (Da (qI (r9.1.1 - (2:Int)))).bind fun r10=>
 some (((sort1,false,r10.1.1,([]:List qBs),([]:List qBs)),()),r9.2.1,())))
def J9 (b0:Bool):Option (((List Aa)×Unit)×Unit):=
 cond (b0)
 (some ((([(1,(0:Int),([]:qBs),([]:qBs),(0:Int))]:List Aa),()),()))
 (some ((([(2,(0:Int),([]:qBs),([]:qBs),(0:Int))]:List Aa),()),()))
def CQ (sort0:Int) (num1:qBs):Option (((List Aa)×Unit)×Unit):=
 some ((([(3,sort0,([]:qBs),num1,(0:Int))]:List Aa),()),())
def I9 (x:(List (List Aa))×(List Aa)×Int×Unit):Option (Ex×((List (List Aa))×(List Aa)×Int×Unit)):=
 let kids1:=x.1
 let t5:=x.2.1
 let i6:=x.2.2.1
 cond (decide (i6 < (kids1.length:Int)))
 (Ab (decide (0<=i6)&&decide (i6 < kids1.length)) (Ab (decide (t5.length+(kids1.getD i6.toNat ([]:List Aa)).length<=As)) (some (Ex.normal,(kids1,t5++(kids1.getD i6.toNat ([]:List Aa)),qI (i6+1),())))))
 (some (Ex.exit 0,(kids1,t5,i6,())))
def DE (n0:Aa) (kids1:List (List Aa)):Option (((List Aa)×Unit)×Unit):=
 (Am I9 (kids1,([(n0.1,n0.2.1,n0.2.2.1,n0.2.2.2.1,(kids1.length:Int))]:List Aa),0,())).bind fun y1=>
 cond (Ex.same y1.1 (Ex.exit 0))
 (some ((y1.2.2.1,()),()))
 (none)
def Ou:Option (((List qBs)×Unit)×Unit):=
 some ((([([97,110,100]:qBs),([111,114]:qBs),([110,111,116]:qBs),([105,116,101]:qBs),([116,114,117,101]:qBs),([102,97,108,115,101]:qBs),([108,101,116]:qBs),([102,111,114,97,108,108]:qBs),([101,120,105,115,116,115]:qBs),([100,105,115,116,105,110,99,116]:qBs),([100,105,118]:qBs),([109,111,100]:qBs),([115,101,108,101,99,116]:qBs),([115,116,111,114,101]:qBs),([99,111,110,115,116]:qBs),([66,111,111,108]:qBs),([73,110,116]:qBs),([82,101,97,108]:qBs),([65,114,114,97,121]:qBs)]:List qBs),()),())
def JK (x:(List qBs)×qBs×Bool×Int×Unit):Option (Ex×((List qBs)×qBs×Bool×Int×Unit)):=
 let l0:=x.1
 let s1:=x.2.1
 let t4:=x.2.2.1
 let i5:=x.2.2.2.1
 cond (decide (i5 < (l0.length:Int)))
 (Ab (decide (0<=i5)&&decide (i5 < l0.length)) (
 cond ((l0.getD i5.toNat ([]:qBs))==s1)
 (some (Ex.ret,(l0,s1,true,i5,())))
 (some (Ex.normal,(l0,s1,t4,qI (i5+1),())))))
 (some (Ex.exit 0,(l0,s1,t4,i5,())))
def KR (l0:List qBs) (s1:qBs):Option ((Bool×Unit)×Unit):=
 (Am JK (l0,s1,false,0,())).bind fun y1=>
 cond (Ex.same y1.1 (Ex.exit 0))
 (some ((false,()),()))
 (cond (Ex.same y1.1 Ex.ret)
 (some ((y1.2.2.2.1,()),()))
 (none))
def K1 (c0:Int):Option ((Bool×Unit)×Unit):=
 cond (decide (c0>=97))
 (cond (decide (c0<=122))
 (some ((true,()),()))
 (cond (decide (c0>=65))
 (some ((decide (c0<=90),()),()))
 (some ((false,()),()))))
 (cond (decide (c0>=65))
 (some ((decide (c0<=90),()),()))
 (some ((false,()),())))
def IE (x:qBs×Bool×Int×Unit):Option (Ex×(qBs×Bool×Int×Unit)):=
 let s0:=x.1
 let t2:=x.2.1
 let i3:=x.2.2.1
 cond (decide (i3 < (s0.length:Int)))
 (Ab (decide (0<=i3)&&decide (i3 < s0.length)) (
 (K1 ((s0.getD i3.toNat 0).toNat:Int)).bind fun r1=>
 cond (r1.1.1)
 (some (Ex.normal,(s0,t2,qI (i3+1),())))
 (cond (((s0.getD i3.toNat 0).toNat:Int)==95)
 (some (Ex.normal,(s0,t2,qI (i3+1),())))
 (cond (((s0.getD i3.toNat 0).toNat:Int)==36)
 (some (Ex.normal,(s0,t2,qI (i3+1),())))
 (cond (!(((s0.getD i3.toNat 0).toNat:Int)==33))
 (cond (i3==0)
 (some (Ex.ret,(s0,false,i3,())))
 (cond (decide (((s0.getD i3.toNat 0).toNat:Int) < (48:Int)))
 (cond (((s0.getD i3.toNat 0).toNat:Int) !=(46:Int))
 (cond (((s0.getD i3.toNat 0).toNat:Int) !=(64:Int))
 (some (Ex.ret,(s0,false,i3,())))
 (some (Ex.normal,(s0,t2,qI (i3+1),()))))
 (some (Ex.normal,(s0,t2,qI (i3+1),()))))
 (cond (decide (((s0.getD i3.toNat 0).toNat:Int) > (57:Int)))
 (cond (((s0.getD i3.toNat 0).toNat:Int) !=(46:Int))
 (cond (((s0.getD i3.toNat 0).toNat:Int) !=(64:Int))
 (some (Ex.ret,(s0,false,i3,())))
 (some (Ex.normal,(s0,t2,qI (i3+1),()))))
 (some (Ex.normal,(s0,t2,qI (i3+1),()))))
 (some (Ex.normal,(s0,t2,qI (i3+1),()))))))
 (some (Ex.normal,(s0,t2,qI (i3+1),()))))))))
 (some (Ex.exit 0,(s0,t2,i3,())))
def J0 (s0:qBs):Option ((Bool×Unit)×Unit):=
 cond (s0==([]:qBs))
 (some ((false,()),()))
 (cond (decide ((s0.length:Int) > (40:Int)))
 (some ((false,()),()))
 (Ou.bind fun r1=>
 (KR r1.1.1 s0).bind fun r2=>
 cond (r2.1.1)
 (some ((false,()),()))
 ((Am IE (s0,false,0,())).bind fun y3=>
 cond (Ex.same y3.1 (Ex.exit 0))
 (some ((true,()),()))
 (cond (Ex.same y3.1 Ex.ret)
 (some ((y3.2.2.1,()),()))
 (none)))))
def KP (s0:Int):Option ((Bool×Unit)×Unit):=
 cond (decide (s0>=1))
 (some ((decide (s0<=4),()),()))
 (some ((false,()),()))
def L8 (x0:Aa):Option ((Bool×Unit)×Unit):=
 cond (x0.1==3)
 (cond (x0.2.2.1==([]:qBs))
 (cond (x0.2.1==2)
 ((B_ x0.2.2.2.1).bind fun r1=>
 cond (r1.1.1)
 (some ((true,()),()))
 (cond (x0.2.1==3)
 ((DD x0.2.2.2.1).bind fun r2=>
 some ((r2.1.1,()),()))
 (some ((false,()),()))))
 (cond (x0.2.1==3)
 ((DD x0.2.2.2.1).bind fun r3=>
 some ((r3.1.1,()),()))
 (some ((false,()),()))))
 (some ((false,()),())))
 (cond (x0.1==4)
 (cond (x0.2.2.2.1==([]:qBs))
 ((J0 x0.2.2.1).bind fun r4=>
 cond (r4.1.1)
 ((KP x0.2.1).bind fun r5=>
 some ((r5.1.1,()),()))
 (some ((false,()),())))
 (some ((false,()),())))
 (cond (x0.1==5)
 (cond (x0.2.2.2.1==([]:qBs))
 ((J0 x0.2.2.1).bind fun r6=>
 cond (r6.1.1)
 ((KP x0.2.1).bind fun r7=>
 some ((r7.1.1,()),()))
 (some ((false,()),())))
 (some ((false,()),())))
 (cond (x0.1==16)
 (cond (x0.2.1==0)
 (cond (x0.2.2.1==([]:qBs))
 ((B_ x0.2.2.2.1).bind fun r8=>
 cond (r8.1.1)
 ((Hr x0.2.2.2.1).bind fun r9=>
 some ((decide (r9.1.1 > (0:Int)),()),()))
 (some ((false,()),())))
 (some ((false,()),())))
 (some ((false,()),())))
 (cond (x0.1==17)
 (cond (x0.2.1==0)
 (cond (x0.2.2.1==([]:qBs))
 ((B_ x0.2.2.2.1).bind fun r10=>
 cond (r10.1.1)
 ((Hr x0.2.2.2.1).bind fun r11=>
 some ((decide (r11.1.1 > (0:Int)),()),()))
 (some ((false,()),())))
 (some ((false,()),())))
 (some ((false,()),())))
 (cond (decide (x0.1>=1))
 (cond (decide (x0.1<=20))
 (cond (x0.2.1==0)
 (cond (x0.2.2.1==([]:qBs))
 (some ((x0.2.2.2.1==([]:qBs),()),()))
 (some ((false,()),())))
 (some ((false,()),())))
 (some ((false,()),())))
 (some ((false,()),())))))))
def I7 (op0:Int) (n1:Int):Option ((Bool×Unit)×Unit):=
 cond (op0==1)
 (some ((n1==0,()),()))
 (cond (op0==2)
 (some ((n1==0,()),()))
 (cond (op0==3)
 (some ((n1==0,()),()))
 (cond (op0==4)
 (some ((n1==0,()),()))
 (cond (op0==5)
 (cond (decide (n1>=1))
 (some ((decide (n1<=40),()),()))
 (some ((false,()),())))
 (cond (op0==6)
 (some ((n1==1,()),()))
 (cond (op0==16)
 (some ((n1==1,()),()))
 (cond (op0==17)
 (some ((n1==1,()),()))
 (cond (op0==20)
 (some ((n1==1,()),()))
 (cond (op0==7)
 (some ((decide (n1>=0),()),()))
 (cond (op0==8)
 (some ((decide (n1>=0),()),()))
 (cond (op0==10)
 (some ((n1==3,()),()))
 (cond (op0==19)
 (some ((n1==3,()),()))
 (cond (op0==14)
 (some ((decide (n1>=1),()),()))
 (some ((n1==2,()),())))))))))))))))
def Iz (x:(List Int)×Int×Int×Int×Int×Unit):Option (Ex×((List Int)×Int×Int×Int×Int×Unit)):=
 let s0:=x.1
 let sort1:=x.2.1
 let out2:=x.2.2.1
 let t6:=x.2.2.2.1
 let i7:=x.2.2.2.2.1
 cond (decide (i7 < (s0.length:Int)))
 (Ab (decide (0<=i7)&&decide (i7 < s0.length)) (
 cond ((s0.getD i7.toNat (0:Int)) !=sort1)
 (some (Ex.ret,(s0,sort1,out2,0,i7,())))
 (some (Ex.normal,(s0,sort1,out2,t6,qI (i7+1),())))))
 (some (Ex.exit 0,(s0,sort1,out2,t6,i7,())))
def C5 (s0:List Int) (sort1:Int) (out2:Int):Option ((Int×Unit)×Unit):=
 (Am Iz (s0,sort1,out2,0,0,())).bind fun y1=>
 cond (Ex.same y1.1 (Ex.exit 0))
 (some ((y1.2.2.2.1,()),()))
 (cond (Ex.same y1.1 Ex.ret)
 (some ((y1.2.2.2.2.1,()),()))
 (none))
def IW (s0:Int):Option ((Bool×Unit)×Unit):=
 cond (s0==2)
 (some ((true,()),()))
 (some ((s0==3,()),()))
def JF (x0:Aa) (first1:Int) (s2:List Int):Option ((Int×Unit)×Unit):=
 cond (x0.1==1)
 (some ((1,()),()))
 (cond (x0.1==2)
 (some ((1,()),()))
 (cond (x0.1==3)
 (some ((x0.2.1,()),()))
 (cond (x0.1==4)
 (some ((x0.2.1,()),()))
 (cond (x0.1==5)
 (some ((x0.2.1,()),()))
 (cond (x0.1==6)
 ((C5 s2 1 1).bind fun r1=>
 some ((r1.1.1,()),()))
 (cond (x0.1==7)
 ((C5 s2 1 1).bind fun r2=>
 some ((r2.1.1,()),()))
 (cond (x0.1==8)
 ((C5 s2 1 1).bind fun r3=>
 some ((r3.1.1,()),()))
 (cond (x0.1==9)
 ((C5 s2 1 1).bind fun r4=>
 some ((r4.1.1,()),()))
 (cond (x0.1==10)
 (Ab (decide (0<=(0:Int))&&decide ((0:Int) < s2.length)) (
 cond ((s2.getD (0:Int).toNat (0:Int))==1)
 (Ab (decide (0<=(1:Int))&&decide ((1:Int) < s2.length)) (
 Ab (decide (0<=(2:Int))&&decide ((2:Int) < s2.length)) (
 cond ((s2.getD (1:Int).toNat (0:Int))==(s2.getD (2:Int).toNat (0:Int)))
 (Ab (decide (0<=(1:Int))&&decide ((1:Int) < s2.length)) (some ((s2.getD (1:Int).toNat (0:Int),()),())))
 (some ((0,()),())))))
 (some ((0,()),()))))
 (cond (x0.1==11)
 (Ab (decide (0<=(0:Int))&&decide ((0:Int) < s2.length)) (
 (C5 s2 (s2.getD (0:Int).toNat (0:Int)) 1).bind fun r5=>
 some ((r5.1.1,()),())))
 (cond (x0.1==12)
 (Ab (decide (0<=(0:Int))&&decide ((0:Int) < s2.length)) (
 (IW (s2.getD (0:Int).toNat (0:Int))).bind fun r6=>
 cond (r6.1.1)
 (Ab (decide (0<=(0:Int))&&decide ((0:Int) < s2.length)) (
 (C5 s2 (s2.getD (0:Int).toNat (0:Int)) 1).bind fun r7=>
 some ((r7.1.1,()),())))
 (some ((0,()),()))))
 (cond (x0.1==13)
 (Ab (decide (0<=(0:Int))&&decide ((0:Int) < s2.length)) (
 (IW (s2.getD (0:Int).toNat (0:Int))).bind fun r8=>
 cond (r8.1.1)
 (Ab (decide (0<=(0:Int))&&decide ((0:Int) < s2.length)) (
 (C5 s2 (s2.getD (0:Int).toNat (0:Int)) 1).bind fun r9=>
 some ((r9.1.1,()),())))
 (some ((0,()),()))))
 (cond (x0.1==14)
 (Ab (decide (0<=(0:Int))&&decide ((0:Int) < s2.length)) (
 (IW (s2.getD (0:Int).toNat (0:Int))).bind fun r10=>
 cond (r10.1.1)
 (Ab (decide (0<=(0:Int))&&decide ((0:Int) < s2.length)) (
 Ab (decide (0<=(0:Int))&&decide ((0:Int) < s2.length)) (
 (C5 s2 (s2.getD (0:Int).toNat (0:Int)) (s2.getD (0:Int).toNat (0:Int))).bind fun r11=>
 some ((r11.1.1,()),()))))
 (some ((0,()),()))))
 (cond (x0.1==15)
 (cond (first1==3)
 (Ab (decide (0<=(0:Int))&&decide ((0:Int) < s2.length)) (
 Ab (decide (0<=(0:Int))&&decide ((0:Int) < s2.length)) (
 (C5 s2 (s2.getD (0:Int).toNat (0:Int)) (s2.getD (0:Int).toNat (0:Int))).bind fun r12=>
 some ((r12.1.1,()),()))))
 (some ((0,()),())))
 (cond (x0.1==16)
 ((C5 s2 2 2).bind fun r13=>
 some ((r13.1.1,()),()))
 (cond (x0.1==17)
 ((C5 s2 2 2).bind fun r14=>
 some ((r14.1.1,()),()))
 (cond (x0.1==20)
 ((C5 s2 2 4).bind fun r15=>
 some ((r15.1.1,()),()))
 (cond (x0.1==18)
 (Ab (decide (0<=(0:Int))&&decide ((0:Int) < s2.length)) (
 cond ((s2.getD (0:Int).toNat (0:Int))==4)
 (Ab (decide (0<=(1:Int))&&decide ((1:Int) < s2.length)) (
 cond ((s2.getD (1:Int).toNat (0:Int))==2)
 (some ((2,()),()))
 (some ((0,()),()))))
 (some ((0,()),()))))
 (cond (x0.1==19)
 (Ab (decide (0<=(0:Int))&&decide ((0:Int) < s2.length)) (
 cond ((s2.getD (0:Int).toNat (0:Int))==4)
 (Ab (decide (0<=(1:Int))&&decide ((1:Int) < s2.length)) (
 cond ((s2.getD (1:Int).toNat (0:Int))==2)
 (Ab (decide (0<=(2:Int))&&decide ((2:Int) < s2.length)) (
 cond ((s2.getD (2:Int).toNat (0:Int))==2)
 (some ((4,()),()))
 (some ((0,()),()))))
 (some ((0,()),()))))
 (some ((0,()),()))))
 (some ((0,()),())))))))))))))))))))))
def Fq (AHl:List Aa->Int->Int->Option ((Int×Int×Unit)×Unit)) (x:(List Aa)×Int×Int×Int×Int×(List Int)×Int×Bool×Int×Unit):Option (Ex×((List Aa)×Int×Int×Int×Int×(List Int)×Int×Bool×Int×Unit)):=
 let t0:=x.1
 let i1:=x.2.1
 let depth2:=x.2.2.1
 let t6:=x.2.2.2.1
 let t7:=x.2.2.2.2.1
 let s8:=x.2.2.2.2.2.1
 let end9:=x.2.2.2.2.2.2.1
 let good10:=x.2.2.2.2.2.2.2.1
 let k11:=x.2.2.2.2.2.2.2.2.1
 Ab (decide (0<=i1)&&decide (i1 < t0.length)) (
 cond (decide (k11 < (((((t0.getD i1.toNat Ao).2).2).2).2)))
 ((AHl t0 end9 (qI (depth2+1))).bind fun r1=>
 cond (decide (r1.1.1 < (0:Int)))
 (some (Ex.ret,(t0,i1,depth2,-1,0,s8,r1.1.1,good10,k11,())))
 (cond (good10)
 (Ab (decide (s8.length+([r1.1.2.1]:List Int).length<=As)) (some (Ex.normal,(t0,i1,depth2,t6,t7,s8++([r1.1.2.1]:List Int),r1.1.1,decide (r1.1.2.1 > (0:Int)),qI (k11+1),()))))
 (Ab (decide (s8.length+([r1.1.2.1]:List Int).length<=As)) (some (Ex.normal,(t0,i1,depth2,t6,t7,s8++([r1.1.2.1]:List Int),r1.1.1,false,qI (k11+1),()))))))
 (some (Ex.exit 0,(t0,i1,depth2,t6,t7,s8,end9,good10,k11,()))))
def L0 (AHl:List Aa->Int->Int->Option ((Int×Int×Unit)×Unit)) (t0:List Aa) (i1:Int) (depth2:Int):Option ((Int×Int×Unit)×Unit):=
 cond (decide (i1>=(t0.length:Int)))
 (some ((-1,0,()),()))
 (cond (decide (depth2 > (256:Int)))
 (some ((-1,0,()),()))
 (Ab (decide (0<=i1)&&decide (i1 < t0.length)) (
 (L8 (t0.getD i1.toNat Ao)).bind fun r1=>
 cond (!r1.1.1)
 (some ((-1,0,()),()))
 (Ab (decide (0<=i1)&&decide (i1 < t0.length)) (
 Ab (decide (0<=i1)&&decide (i1 < t0.length)) (
 (I7 ((t0.getD i1.toNat Ao).1) (((((t0.getD i1.toNat Ao).2).2).2).2)).bind fun r2=>
 cond (!r2.1.1)
 (some ((-1,0,()),()))
 (Ab (decide (0<=i1)&&decide (i1 < t0.length)) (
 cond (decide ((((((t0.getD i1.toNat Ao).2).2).2).2) > (t0.length:Int)))
 (some ((-1,0,()),()))
 ((Am (Fq AHl) (t0,i1,depth2,0,0,([]:List Int),qI (i1+1),true,0,())).bind fun y3=>
 cond (Ex.same y3.1 (Ex.exit 0))
 (cond (!y3.2.2.2.2.2.2.2.2.1)
 (some ((y3.2.2.2.2.2.2.2.1,0,()),()))
 (cond (decide ((y3.2.2.2.2.2.2.1.length:Int) > (0:Int)))
 (Ab (decide (0<=qI (y3.2.2.1+1))&&decide (qI (y3.2.2.1+1) < y3.2.1.length)) (
 Ab (decide (0<=y3.2.2.1)&&decide (y3.2.2.1 < y3.2.1.length)) (
 (JF (y3.2.1.getD y3.2.2.1.toNat Ao) ((y3.2.1.getD (qI (y3.2.2.1+1)).toNat Ao).1) y3.2.2.2.2.2.2.1).bind fun r4=>
 some ((y3.2.2.2.2.2.2.2.1,r4.1.1,()),()))))
 (Ab (decide (0<=y3.2.2.1)&&decide (y3.2.2.1 < y3.2.1.length)) (
 (JF (y3.2.1.getD y3.2.2.1.toNat Ao) 0 y3.2.2.2.2.2.2.1).bind fun r5=>
 some ((y3.2.2.2.2.2.2.2.1,r5.1.1,()),())))))
 (cond (Ex.same y3.1 Ex.ret)
 (some ((y3.2.2.2.2.1,y3.2.2.2.2.2.1,()),()))
 (none)))))))))))
def E4:Nat->List Aa->Int->Int->Option ((Int×Int×Unit)×Unit)
 |0=>fun _ _ _=>none
 |n+1=>L0 (E4 n)
def Hd (x:(List Aa)×Int×(List Int)×Int×Int×Unit):Option (Ex×((List Aa)×Int×(List Int)×Int×Int×Unit)):=
 let t0:=x.1
 let i1:=x.2.1
 let out5:=x.2.2.1
 let at6:=x.2.2.2.1
 let k7:=x.2.2.2.2.1
 Ab (decide (0<=i1)&&decide (i1 < t0.length)) (
 cond (decide (k7 < (((((t0.getD i1.toNat Ao).2).2).2).2)))
 ((E4 Bl t0 at6 0).bind fun r1=>
 Ab (decide (out5.length+([r1.1.2.1]:List Int).length<=As)) (some (Ex.normal,(t0,i1,out5++([r1.1.2.1]:List Int),r1.1.1,qI (k7+1),()))))
 (some (Ex.exit 0,(t0,i1,out5,at6,k7,()))))
def Kx (t0:List Aa) (i1:Int):Option (((List Int)×Unit)×Unit):=
 (Am Hd (t0,i1,([]:List Int),qI (i1+1),0,())).bind fun y1=>
 cond (Ex.same y1.1 (Ex.exit 0))
 (some ((y1.2.2.2.1,()),()))
 (none)
def Ki (t0:List Aa) (i1:Int):Option (((qBs×Ac)×Unit)×Unit):=
 Ab (decide (0<=i1)&&decide (i1 < t0.length)) (
 (Kx t0 i1).bind fun r1=>
 Ab (decide (0<=i1)&&decide (i1 < t0.length)) (some ((((((t0.getD i1.toNat Ao).2).2).1,r1.1.1,((t0.getD i1.toNat Ao).2).1),()),())))
def IY (x:(List Int)×(List Int)×Bool×Int×Unit):Option (Ex×((List Int)×(List Int)×Bool×Int×Unit)):=
 let a0:=x.1
 let b1:=x.2.1
 let t4:=x.2.2.1
 let i5:=x.2.2.2.1
 cond (decide (i5 < (a0.length:Int)))
 (Ab (decide (0<=i5)&&decide (i5 < a0.length)) (
 Ab (decide (0<=i5)&&decide (i5 < b1.length)) (
 cond ((a0.getD i5.toNat (0:Int)) !=(b1.getD i5.toNat (0:Int)))
 (some (Ex.ret,(a0,b1,false,i5,())))
 (some (Ex.normal,(a0,b1,t4,qI (i5+1),()))))))
 (some (Ex.exit 0,(a0,b1,t4,i5,())))
def KN (a0:List Int) (b1:List Int):Option ((Bool×Unit)×Unit):=
 cond ((a0.length:Int) !=(b1.length:Int))
 (some ((false,()),()))
 ((Am IY (a0,b1,false,0,())).bind fun y1=>
 cond (Ex.same y1.1 (Ex.exit 0))
 (some ((true,()),()))
 (cond (Ex.same y1.1 Ex.ret)
 (some ((y1.2.2.2.1,()),()))
 (none)))
def Gy (x:(List Aa)×Bool×(List Vr)×(List (qBs×Ac))×Int×Bool×Int×Unit):Option (Ex×((List Aa)×Bool×(List Vr)×(List (qBs×Ac))×Int×Bool×Int×Unit)):=
 let t0:=x.1
 let t2:=x.2.1
 let vars3:=x.2.2.1
 let funcs4:=x.2.2.2.1
 let i5:=x.2.2.2.2.1
 let known6:=x.2.2.2.2.2.1
 let k7:=x.2.2.2.2.2.2.1
 cond (decide (k7 < (vars3.length:Int)))
 (Ab (decide (0<=k7)&&decide (k7 < vars3.length)) (
 Ab (decide (k7.toNat < vars3.length)) (
 Ab (decide (0<=i5)&&decide (i5 < t0.length)) (
 cond (((vars3.getD k7.toNat BT).1)==((((t0.getD i5.toNat Ao).2).2).1))
 (Ab (decide (0<=k7)&&decide (k7 < vars3.length)) (
 Ab (decide (k7.toNat < vars3.length)) (
 Ab (decide (0<=i5)&&decide (i5 < t0.length)) (
 cond (((vars3.getD k7.toNat BT).2) !=(((t0.getD i5.toNat Ao).2).1))
 (some (Ex.ret,(t0,false,vars3,funcs4,i5,true,k7,())))
 (some (Ex.normal,(t0,t2,vars3,funcs4,i5,true,qI (k7+1),())))))))
 (some (Ex.normal,(t0,t2,vars3,funcs4,i5,known6,qI (k7+1),())))))))
 (some (Ex.exit 3,(t0,t2,vars3,funcs4,i5,known6,k7,())))
def Gi (x:(List Aa)×Bool×(List Vr)×(List (qBs×Ac))×Int×(qBs×Ac)×Bool×Int×Unit):Option (Ex×((List Aa)×Bool×(List Vr)×(List (qBs×Ac))×Int×(qBs×Ac)×Bool×Int×Unit)):=
 let t0:=x.1
 let t2:=x.2.1
 let vars3:=x.2.2.1
 let funcs4:=x.2.2.2.1
 let i5:=x.2.2.2.2.1
 let f8:=x.2.2.2.2.2.1
 let known9:=x.2.2.2.2.2.2.1
 let k10:=x.2.2.2.2.2.2.2.1
 cond (decide (k10 < (funcs4.length:Int)))
 (Ab (decide (0<=k10)&&decide (k10 < funcs4.length)) (
 Ab (decide (k10.toNat < funcs4.length)) (
 cond (((funcs4.getD k10.toNat (([]:qBs),([]:List Int),(0:Int))).1)==f8.1)
 (Ab (decide (0<=k10)&&decide (k10 < funcs4.length)) (
 Ab (decide (k10.toNat < funcs4.length)) (
 cond ((((funcs4.getD k10.toNat (([]:qBs),([]:List Int),(0:Int))).2).2) !=f8.2.2)
 (some (Ex.ret,(t0,false,vars3,funcs4,i5,f8,true,k10,())))
 (Ab (decide (0<=k10)&&decide (k10 < funcs4.length)) (
 Ab (decide (k10.toNat < funcs4.length)) (
 (KN (((funcs4.getD k10.toNat (([]:qBs),([]:List Int),(0:Int))).2).1) f8.2.1).bind fun r1=>
 cond (!r1.1.1)
 (some (Ex.ret,(t0,false,vars3,funcs4,i5,f8,true,k10,())))
 (some (Ex.normal,(t0,t2,vars3,funcs4,i5,f8,true,qI (k10+1),())))))))))
 (some (Ex.normal,(t0,t2,vars3,funcs4,i5,f8,known9,qI (k10+1),()))))))
 (some (Ex.exit 5,(t0,t2,vars3,funcs4,i5,f8,known9,k10,())))
def FX (x:(List Aa)×Bool×(List Vr)×(List (qBs×Ac))×Int×Unit):Option (Ex×((List Aa)×Bool×(List Vr)×(List (qBs×Ac))×Int×Unit)):=
 let t0:=x.1
 let t2:=x.2.1
 let vars3:=x.2.2.1
 let funcs4:=x.2.2.2.1
 let i5:=x.2.2.2.2.1
 cond (decide (i5 < (t0.length:Int)))
 (Ab (decide (0<=i5)&&decide (i5 < t0.length)) (
 cond (((t0.getD i5.toNat Ao).1)==4)
 ((Am Gy (t0,t2,vars3,funcs4,i5,false,0,())).bind fun y1=>
 cond (Ex.same y1.1 (Ex.exit 3))
 (cond (!y1.2.2.2.2.2.2.1)
 (Ab (decide (0<=y1.2.2.2.2.2.1)&&decide (y1.2.2.2.2.2.1 < y1.2.1.length)) (Ab (decide (0<=y1.2.2.2.2.2.1)&&decide (y1.2.2.2.2.2.1 < y1.2.1.length)) (Ab (decide (y1.2.2.2.1.length+([((((y1.2.1.getD y1.2.2.2.2.2.1.toNat Ao).2).2).1,((y1.2.1.getD y1.2.2.2.2.2.1.toNat Ao).2).1)]:List Vr).length<=As)) (some (Ex.normal,(y1.2.1,y1.2.2.1,y1.2.2.2.1++([((((y1.2.1.getD y1.2.2.2.2.2.1.toNat Ao).2).2).1,((y1.2.1.getD y1.2.2.2.2.2.1.toNat Ao).2).1)]:List Vr),y1.2.2.2.2.1,qI (y1.2.2.2.2.2.1+1),()))))))
 (some (Ex.normal,(y1.2.1,y1.2.2.1,y1.2.2.2.1,y1.2.2.2.2.1,qI (y1.2.2.2.2.2.1+1),()))))
 (cond (Ex.same y1.1 Ex.ret)
 (some (Ex.ret,(y1.2.1,y1.2.2.1,y1.2.2.2.1,y1.2.2.2.2.1,y1.2.2.2.2.2.1,())))
 (none)))
 (cond (((t0.getD i5.toNat Ao).1)==5)
 ((Ki t0 i5).bind fun r2=>
 (Am Gi (t0,t2,vars3,funcs4,i5,r2.1.1,false,0,())).bind fun y3=>
 cond (Ex.same y3.1 (Ex.exit 5))
 (cond (!y3.2.2.2.2.2.2.2.1)
 (Ab (decide (y3.2.2.2.2.1.length+([y3.2.2.2.2.2.2.1]:List (qBs×Ac)).length<=As)) (some (Ex.normal,(y3.2.1,y3.2.2.1,y3.2.2.2.1,y3.2.2.2.2.1++([y3.2.2.2.2.2.2.1]:List (qBs×Ac)),qI (y3.2.2.2.2.2.1+1),()))))
 (some (Ex.normal,(y3.2.1,y3.2.2.1,y3.2.2.2.1,y3.2.2.2.2.1,qI (y3.2.2.2.2.2.1+1),()))))
 (cond (Ex.same y3.1 Ex.ret)
 (some (Ex.ret,(y3.2.1,y3.2.2.1,y3.2.2.2.1,y3.2.2.2.2.1,y3.2.2.2.2.2.1,())))
 (none)))
 (some (Ex.normal,(t0,t2,vars3,funcs4,qI (i5+1),()))))))
 (some (Ex.exit 0,(t0,t2,vars3,funcs4,i5,())))
def GM (x:Bool×(List Vr)×(List (qBs×Ac))×Int×Int×Unit):Option (Ex×(Bool×(List Vr)×(List (qBs×Ac))×Int×Int×Unit)):=
 let t2:=x.1
 let vars3:=x.2.1
 let funcs4:=x.2.2.1
 let i11:=x.2.2.2.1
 let k12:=x.2.2.2.2.1
 cond (decide (k12 < (funcs4.length:Int)))
 (Ab (decide (0<=i11)&&decide (i11 < vars3.length)) (
 Ab (decide (i11.toNat < vars3.length)) (
 Ab (decide (0<=k12)&&decide (k12 < funcs4.length)) (
 Ab (decide (k12.toNat < funcs4.length)) (
 cond (((vars3.getD i11.toNat BT).1)==((funcs4.getD k12.toNat (([]:qBs),([]:List Int),(0:Int))).1))
 (some (Ex.ret,(false,vars3,funcs4,i11,k12,())))
 (some (Ex.normal,(t2,vars3,funcs4,i11,qI (k12+1),()))))))))
 (some (Ex.exit 9,(t2,vars3,funcs4,i11,k12,())))
def FH (x:Bool×(List Vr)×(List (qBs×Ac))×Int×Unit):Option (Ex×(Bool×(List Vr)×(List (qBs×Ac))×Int×Unit)):=
 let t2:=x.1
 let vars3:=x.2.1
 let funcs4:=x.2.2.1
 let i11:=x.2.2.2.1
 cond (decide (i11 < (vars3.length:Int)))
 ((Am GM (t2,vars3,funcs4,i11,0,())).bind fun y1=>
 cond (Ex.same y1.1 (Ex.exit 9))
 (some (Ex.normal,(y1.2.1,y1.2.2.1,y1.2.2.2.1,qI (y1.2.2.2.2.1+1),())))
 (cond (Ex.same y1.1 Ex.ret)
 (some (Ex.ret,(y1.2.1,y1.2.2.1,y1.2.2.2.1,y1.2.2.2.2.1,())))
 (none)))
 (some (Ex.exit 7,(t2,vars3,funcs4,i11,())))
def K4 (t0:List Aa):Option ((Bool×Unit)×Unit):=
 (Am FX (t0,false,([]:List Vr),([]:List (qBs×Ac)),0,())).bind fun y1=>
 cond (Ex.same y1.1 (Ex.exit 0))
 ((Am FH (y1.2.2.1,y1.2.2.2.1,y1.2.2.2.2.1,0,())).bind fun y2=>
 cond (Ex.same y2.1 (Ex.exit 7))
 (some ((true,()),()))
 (cond (Ex.same y2.1 Ex.ret)
 (some ((y2.2.1,()),()))
 (none)))
 (cond (Ex.same y1.1 Ex.ret)
 (some ((y1.2.2.1,()),()))
 (none))
def E9 (t0:List Aa):Option ((Int×Unit)×Unit):=
 cond (decide ((t0.length:Int) > (20000:Int)))
 (some ((0,()),()))
 ((E4 Bl t0 0 0).bind fun r1=>
 cond (r1.1.1 !=(t0.length:Int))
 (some ((0,()),()))
 (cond (r1.1.2.1==0)
 (some ((0,()),()))
 ((K4 t0).bind fun r2=>
 cond (!r2.1.1)
 (some ((0,()),()))
 (some ((r1.1.2.1,()),())))))
def J7 (t0:List Aa):Option ((Bool×Unit)×Unit):=
 (E9 t0).bind fun r1=>
 some ((decide (r1.1.1 > (0:Int)),()),())
def H5 (x:Bp×(List Aa)×Int×(List Aa)×Int×Unit):Option (Ex×(Bp×(List Aa)×Int×(List Aa)×Int×Unit)):=
 let v1:=x.1
 let t2:=x.2.1
 let t3:=x.2.2.1
 let t4:=x.2.2.2.1
 let i5:=x.2.2.2.2.1
 cond (decide (i5 < (v1.2.2.2.1.length:Int)))
 (cond (decide ((t4.length:Int) > (20000:Int)))
 (some (Ex.ret,(v1,([]:List Aa),6,t4,i5,())))
 (Ab (decide (0<=i5)&&decide (i5 < v1.2.2.2.1.length)) (
 (CQ 2 (v1.2.2.2.1.getD i5.toNat ([]:qBs))).bind fun r1=>
 Ab (decide (0<=i5)&&decide (i5 < v1.2.2.2.2.length)) (
 (CQ 2 (v1.2.2.2.2.getD i5.toNat ([]:qBs))).bind fun r2=>
 (DE (19,(0:Int),([]:qBs),([]:qBs),(0:Int)) ([t4,r1.1.1,r2.1.1]:List (List Aa))).bind fun r3=>
 some (Ex.normal,(v1,t2,t3,r3.1.1,qI (i5+1),()))))))
 (some (Ex.exit 1,(v1,t2,t3,t4,i5,())))
def FA (v0:Bp):Option (((List Aa)×Int×Unit)×Unit):=
 (J5 v0).bind fun r1=>
 cond (!r1.1.1)
 (some ((([]:List Aa),1,()),()))
 (cond (v0.1==1)
 ((J9 v0.2.1).bind fun r2=>
 some ((r2.1.1,0,()),()))
 (cond (v0.1==2)
 ((CQ v0.1 v0.2.2.1).bind fun r3=>
 some ((r3.1.1,0,()),()))
 (cond (v0.1==3)
 ((CQ v0.1 v0.2.2.1).bind fun r4=>
 some ((r4.1.1,0,()),()))
 ((CQ 2 v0.2.2.1).bind fun r5=>
 (DE (20,(0:Int),([]:qBs),([]:qBs),(0:Int)) ([r5.1.1]:List (List Aa))).bind fun r6=>
 (Am H5 (v0,([]:List Aa),0,r6.1.1,0,())).bind fun y7=>
 cond (Ex.same y7.1 (Ex.exit 1))
 ((J7 y7.2.2.2.2.1).bind fun r8=>
 cond (!r8.1.1)
 (some ((([]:List Aa),6,()),()))
 (some ((y7.2.2.2.2.1,0,()),())))
 (cond (Ex.same y7.1 Ex.ret)
 (some ((y7.2.2.1,y7.2.2.2.1,()),()))
 (none))))))
def HK (x:Ac×Int×(List Vr)×(List Vr)×Int×Unit):Option (Ex×(Ac×Int×(List Vr)×(List Vr)×Int×Unit)):=
 let c0:=x.1
 let sort1:=x.2.1
 let vars2:=x.2.2.1
 let l7:=x.2.2.2.1
 let i8:=x.2.2.2.2.1
 cond (decide (i8 < (vars2.length:Int)))
 (Ab (decide (0<=i8)&&decide (i8 < vars2.length)) (
 cond (((vars2.getD i8.toNat BT).2)==sort1)
 (Ab (decide (0<=i8)&&decide (i8 < vars2.length)) (Ab (decide (l7.length+([vars2.getD i8.toNat BT]:List Vr).length<=As)) (some (Ex.normal,(c0,sort1,vars2,l7++([vars2.getD i8.toNat BT]:List Vr),qI (i8+1),())))))
 (some (Ex.normal,(c0,sort1,vars2,l7,qI (i8+1),())))))
 (some (Ex.exit 0,(c0,sort1,vars2,l7,i8,())))
def Dh (c0:Ac) (sort1:Int) (vars2:List Vr):Option (((List Aa)×Unit)×(Ac×Unit)):=
 (Am HK (c0,sort1,vars2,([]:List Vr),0,())).bind fun y1=>
 cond (Ex.same y1.1 (Ex.exit 0))
 (cond ((y1.2.2.2.2.1.length:Int)==0)
 ((F_ y1.2.1 y1.2.2.1).bind fun r2=>
 (FA r2.1.1).bind fun r3=>
 some ((r3.1.1,()),r2.2.1,()))
 ((A2 y1.2.1 (y1.2.2.2.2.1.length:Int)).bind fun r4=>
 Ab (decide (0<=r4.1.1)&&decide (r4.1.1 < y1.2.2.2.2.1.length)) (Ab (decide (r4.1.1.toNat < y1.2.2.2.2.1.length)) (some ((([(4,y1.2.2.1,(y1.2.2.2.2.1.getD r4.1.1.toNat BT).1,([]:qBs),(0:Int))]:List Aa),()),r4.2.1,())))))
 (none)
def Kr (c0:Ac):Option ((Bool×Unit)×(Ac×Unit)):=
 some ((decide (c0.2 < (c0.1.length:Int)),()),c0,())
def BJ (o0:Int) (l1:List (List Aa)):Option (((List Aa)×Unit)×Unit):=
 (DE (o0,(0:Int),([]:qBs),([]:qBs),(0:Int)) l1).bind fun r1=>
 some ((r1.1.1,()),())
def KG (a0:qBs) (b1:qBs):Option ((qBs×Unit)×Unit):=
 (Co a0).bind fun r1=>
 (Co b1).bind fun r2=>
 cond (!r1.1.2.1)
 (some ((([]:qBs),()),()))
 (cond (!r2.1.2.1)
 (some ((([]:qBs),()),()))
 ((Eb r1.1.1.2.1 r2.1.1.2.1).bind fun r3=>
 (Eb r1.1.1.2.2 r2.1.1.2.2).bind fun r4=>
 (C_ (!(r1.1.1.1==r2.1.1.1)) r3.1.1 r4.1.1).bind fun r5=>
 (Cw (r5.1.1.1,r5.1.1.2.1,r5.1.1.2.2)).bind fun r6=>
 some ((r6.1.1,()),())))
def G4 (c0:Ac):Option ((qBs×Unit)×(Ac×Unit)):=
 (A2 (c0.1,c0.2) 8).bind fun r1=>
 cond (r1.1.1==6)
 ((A2 (r1.2.1.1,r1.2.1.2) 2001).bind fun r2=>
 (Da (qI (r2.1.1 - (1000:Int)))).bind fun r3=>
 some ((r3.1.1,()),(r2.2.1.1,r2.2.1.2),()))
 (cond (r1.1.1==7)
 ((A2 (r1.2.1.1,r1.2.1.2) 1099511627776).bind fun r4=>
 (Da (qI (r4.1.1 - (549755813888:Int)))).bind fun r5=>
 (A2 (r4.2.1.1,r4.2.1.2) 1099511627776).bind fun r6=>
 (Da r6.1.1).bind fun r7=>
 (KG r5.1.1 r7.1.1).bind fun r8=>
 some ((r8.1.1,()),(r6.2.1.1,r6.2.1.2),()))
 ((A2 (r1.2.1.1,r1.2.1.2) 9).bind fun r9=>
 (Da (qI (r9.1.1 - (4:Int)))).bind fun r10=>
 some ((r10.1.1,()),(r9.2.1.1,r9.2.1.2),())))
def Kc (a0:qBs) (b1:qBs):Option ((qBs×Unit)×Unit):=
 (Co a0).bind fun r1=>
 (Co b1).bind fun r2=>
 cond (!r1.1.2.1)
 (some ((([]:qBs),()),()))
 (cond (!r2.1.2.1)
 (some ((([]:qBs),()),()))
 (cond (r2.1.1.2.1==([48]:qBs))
 (some ((([]:qBs),()),()))
 ((Eb r1.1.1.2.1 r2.1.1.2.2).bind fun r3=>
 (Eb r1.1.1.2.2 r2.1.1.2.1).bind fun r4=>
 (C_ (!(r1.1.1.1==r2.1.1.1)) r3.1.1 r4.1.1).bind fun r5=>
 (Cw (r5.1.1.1,r5.1.1.2.1,r5.1.1.2.2)).bind fun r6=>
 some ((r6.1.1,()),()))))
def GI (c0:Ac):Option ((qBs×Unit)×(Ac×Unit)):=
 (G4 (c0.1,c0.2)).bind fun r1=>
 (A2 (r1.2.1.1,r1.2.1.2) 4).bind fun r2=>
 (Da (qI ((1:Int)+r2.1.1))).bind fun r3=>
 (Kc r1.1.1 r3.1.1).bind fun r4=>
 some ((r4.1.1,()),(r2.2.1.1,r2.2.1.2),())
def Ef (c0:Ac) (sort1:Int):Option ((qBs×Unit)×(Ac×Unit)):=
 cond (sort1==2)
 ((G4 c0).bind fun r1=>
 some ((r1.1.1,()),r1.2.1,()))
 ((GI c0).bind fun r2=>
 some ((r2.1.1,()),r2.2.1,()))
def Hv (AHh:Ac->Int->Int->List Vr->Option (((List Aa)×Unit)×(Ac×Unit))) (AHg:Ac->Int->List Vr->Option (((List Aa)×Unit)×(Ac×Unit))) (AHk:Ac->Int->Int->List Vr->Option (((List Aa)×Unit)×(Ac×Unit))) (AHi:Ac->Int->Int->List Vr->Option (((List Aa)×Unit)×(Ac×Unit))) (AHj:Ac->Int->List Vr->Option (((List Aa)×Unit)×(Ac×Unit))) (c0:Ac) (sort1:Int) (depth2:Int) (vars3:List Vr):Option (((List Aa)×Unit)×(Ac×Unit)):=
 cond (decide (depth2<=0))
 ((A2 c0 3).bind fun r1=>
 cond (r1.1.1==0)
 ((F_ r1.2.1 sort1).bind fun r2=>
 (FA r2.1.1).bind fun r3=>
 some ((r3.1.1,()),r2.2.1,()))
 ((Dh r1.2.1 sort1 vars3).bind fun r4=>
 some ((r4.1.1,()),r4.2.1,())))
 ((Kr c0).bind fun r5=>
 cond (!r5.1.1)
 ((A2 r5.2.1 3).bind fun r6=>
 cond (r6.1.1==0)
 ((F_ r6.2.1 sort1).bind fun r7=>
 (FA r7.1.1).bind fun r8=>
 some ((r8.1.1,()),r7.2.1,()))
 ((Dh r6.2.1 sort1 vars3).bind fun r9=>
 some ((r9.1.1,()),r9.2.1,())))
 (cond (sort1==1)
 ((AHg r5.2.1 depth2 vars3).bind fun r10=>
 some ((r10.1.1,()),r10.2.1,()))
 (cond (sort1==4)
 ((A2 r5.2.1 5).bind fun r11=>
 cond (r11.1.1==0)
 ((AHh r11.2.1 2 (qI (depth2 - (1:Int))) vars3).bind fun r12=>
 (BJ 20 ([r12.1.1]:List (List Aa))).bind fun r13=>
 some ((r13.1.1,()),r12.2.1,()))
 (cond (r11.1.1==1)
 ((AHh r11.2.1 4 (qI (depth2 - (1:Int))) vars3).bind fun r14=>
 (AHh r14.2.1 2 (qI (depth2 - (1:Int))) vars3).bind fun r15=>
 (AHh r15.2.1 2 (qI (depth2 - (1:Int))) vars3).bind fun r16=>
 (BJ 19 ([r14.1.1,r15.1.1,r16.1.1]:List (List Aa))).bind fun r17=>
 some ((r17.1.1,()),r16.2.1,()))
 (cond (r11.1.1==2)
 ((AHh r11.2.1 4 (qI (depth2 - (1:Int))) vars3).bind fun r18=>
 (AHh r18.2.1 2 (qI (depth2 - (1:Int))) vars3).bind fun r19=>
 (AHh r19.2.1 2 (qI (depth2 - (1:Int))) vars3).bind fun r20=>
 (BJ 19 ([r18.1.1,r19.1.1,r20.1.1]:List (List Aa))).bind fun r21=>
 some ((r21.1.1,()),r20.2.1,()))
 (cond (r11.1.1==3)
 ((AHk r11.2.1 sort1 depth2 vars3).bind fun r22=>
 some ((r22.1.1,()),r22.2.1,()))
 ((Dh r11.2.1 sort1 vars3).bind fun r23=>
 some ((r23.1.1,()),r23.2.1,()))))))
 ((AHi r5.2.1 sort1 depth2 vars3).bind fun r24=>
 some ((r24.1.1,()),r24.2.1,())))))
def E3 (AHh:Ac->Int->Int->List Vr->Option (((List Aa)×Unit)×(Ac×Unit))) (AHg:Ac->Int->List Vr->Option (((List Aa)×Unit)×(Ac×Unit))) (AHk:Ac->Int->Int->List Vr->Option (((List Aa)×Unit)×(Ac×Unit))) (AHi:Ac->Int->Int->List Vr->Option (((List Aa)×Unit)×(Ac×Unit))) (AHj:Ac->Int->List Vr->Option (((List Aa)×Unit)×(Ac×Unit))) (x:Ac×Int×(List Vr)×(List (List Aa))×Int×Unit):Option (Ex×(Ac×Int×(List Vr)×(List (List Aa))×Int×Unit)):=
 let c0:=x.1
 let depth1:=x.2.1
 let vars2:=x.2.2.1
 let l7:=x.2.2.2.1
 let n8:=x.2.2.2.2.1
 cond (decide (n8 > (0:Int)))
 ((AHg c0 (qI (depth1 - (1:Int))) vars2).bind fun r1=>
 Ab (decide (l7.length+([r1.1.1]:List (List Aa)).length<=As)) (some (Ex.normal,(r1.2.1,depth1,vars2,l7++([r1.1.1]:List (List Aa)),qI (n8 - (1:Int)),()))))
 (some (Ex.exit 1,(c0,depth1,vars2,l7,n8,())))
def HA (AHh:Ac->Int->Int->List Vr->Option (((List Aa)×Unit)×(Ac×Unit))) (AHg:Ac->Int->List Vr->Option (((List Aa)×Unit)×(Ac×Unit))) (AHk:Ac->Int->Int->List Vr->Option (((List Aa)×Unit)×(Ac×Unit))) (AHi:Ac->Int->Int->List Vr->Option (((List Aa)×Unit)×(Ac×Unit))) (AHj:Ac->Int->List Vr->Option (((List Aa)×Unit)×(Ac×Unit))) (c0:Ac) (depth1:Int) (vars2:List Vr):Option (((List Aa)×Unit)×(Ac×Unit)):=
 cond (decide (depth1<=0))
 ((AHj c0 0 vars2).bind fun r1=>
 some ((r1.1.1,()),r1.2.1,()))
 ((Kr c0).bind fun r2=>
 cond (!r2.1.1)
 ((AHj r2.2.1 0 vars2).bind fun r3=>
 some ((r3.1.1,()),r3.2.1,()))
 ((A2 r2.2.1 12).bind fun r4=>
 cond (r4.1.1==0)
 ((AHg r4.2.1 (qI (depth1 - (1:Int))) vars2).bind fun r5=>
 (BJ 6 ([r5.1.1]:List (List Aa))).bind fun r6=>
 some ((r6.1.1,()),r5.2.1,()))
 (cond (r4.1.1==1)
 ((AHg r4.2.1 (qI (depth1 - (1:Int))) vars2).bind fun r7=>
 (BJ 6 ([r7.1.1]:List (List Aa))).bind fun r8=>
 some ((r8.1.1,()),r7.2.1,()))
 (cond (r4.1.1==2)
 ((A2 r4.2.1 4).bind fun r9=>
 (Am (E3 AHh AHg AHk AHi AHj) (r9.2.1,depth1,vars2,([]:List (List Aa)),r9.1.1,())).bind fun y10=>
 cond (Ex.same y10.1 (Ex.exit 1))
 ((A2 y10.2.1 2).bind fun r11=>
 (BJ (qI ((7:Int)+r11.1.1)) y10.2.2.2.2.1).bind fun r12=>
 some ((r12.1.1,()),r11.2.1,()))
 (none))
 (cond (r4.1.1==3)
 ((A2 r4.2.1 4).bind fun r13=>
 (Am (E3 AHh AHg AHk AHi AHj) (r13.2.1,depth1,vars2,([]:List (List Aa)),r13.1.1,())).bind fun y14=>
 cond (Ex.same y14.1 (Ex.exit 1))
 ((A2 y14.2.1 2).bind fun r15=>
 (BJ (qI ((7:Int)+r15.1.1)) y14.2.2.2.2.1).bind fun r16=>
 some ((r16.1.1,()),r15.2.1,()))
 (none))
 (cond (r4.1.1==4)
 ((A2 r4.2.1 4).bind fun r17=>
 (Am (E3 AHh AHg AHk AHi AHj) (r17.2.1,depth1,vars2,([]:List (List Aa)),r17.1.1,())).bind fun y18=>
 cond (Ex.same y18.1 (Ex.exit 1))
 ((A2 y18.2.1 2).bind fun r19=>
 (BJ (qI ((7:Int)+r19.1.1)) y18.2.2.2.2.1).bind fun r20=>
 some ((r20.1.1,()),r19.2.1,()))
 (none))
 (cond (r4.1.1==5)
 ((A2 r4.2.1 4).bind fun r21=>
 (Am (E3 AHh AHg AHk AHi AHj) (r21.2.1,depth1,vars2,([]:List (List Aa)),r21.1.1,())).bind fun y22=>
 cond (Ex.same y22.1 (Ex.exit 1))
 ((A2 y22.2.1 2).bind fun r23=>
 (BJ (qI ((7:Int)+r23.1.1)) y22.2.2.2.2.1).bind fun r24=>
 some ((r24.1.1,()),r23.2.1,()))
 (none))
 (cond (r4.1.1==6)
 ((AHg r4.2.1 (qI (depth1 - (1:Int))) vars2).bind fun r25=>
 (AHg r25.2.1 (qI (depth1 - (1:Int))) vars2).bind fun r26=>
 (BJ 9 ([r25.1.1,r26.1.1]:List (List Aa))).bind fun r27=>
 some ((r27.1.1,()),r26.2.1,()))
 (cond (r4.1.1==7)
 ((AHk r4.2.1 1 depth1 vars2).bind fun r28=>
 some ((r28.1.1,()),r28.2.1,()))
 (cond (r4.1.1==8)
 ((AHg r4.2.1 (qI (depth1 - (1:Int))) vars2).bind fun r29=>
 (AHg r29.2.1 (qI (depth1 - (1:Int))) vars2).bind fun r30=>
 (BJ 11 ([r29.1.1,r30.1.1]:List (List Aa))).bind fun r31=>
 some ((r31.1.1,()),r30.2.1,()))
 ((AHj r4.2.1 (qI (depth1 - (1:Int))) vars2).bind fun r32=>
 some ((r32.1.1,()),r32.2.1,()))))))))))))
def J_ (AHh:Ac->Int->Int->List Vr->Option (((List Aa)×Unit)×(Ac×Unit))) (AHg:Ac->Int->List Vr->Option (((List Aa)×Unit)×(Ac×Unit))) (AHk:Ac->Int->Int->List Vr->Option (((List Aa)×Unit)×(Ac×Unit))) (AHi:Ac->Int->Int->List Vr->Option (((List Aa)×Unit)×(Ac×Unit))) (AHj:Ac->Int->List Vr->Option (((List Aa)×Unit)×(Ac×Unit))) (c0:Ac) (sort1:Int) (depth2:Int) (vars3:List Vr):Option (((List Aa)×Unit)×(Ac×Unit)):=
 (AHg c0 (qI (depth2 - (1:Int))) vars3).bind fun r1=>
 (AHh r1.2.1 sort1 (qI (depth2 - (1:Int))) vars3).bind fun r2=>
 (AHh r2.2.1 sort1 (qI (depth2 - (1:Int))) vars3).bind fun r3=>
 (BJ 10 ([r1.1.1,r2.1.1,r3.1.1]:List (List Aa))).bind fun r4=>
 some ((r4.1.1,()),r3.2.1,())
def Jy (AHh:Ac->Int->Int->List Vr->Option (((List Aa)×Unit)×(Ac×Unit))) (AHg:Ac->Int->List Vr->Option (((List Aa)×Unit)×(Ac×Unit))) (AHk:Ac->Int->Int->List Vr->Option (((List Aa)×Unit)×(Ac×Unit))) (AHi:Ac->Int->Int->List Vr->Option (((List Aa)×Unit)×(Ac×Unit))) (AHj:Ac->Int->List Vr->Option (((List Aa)×Unit)×(Ac×Unit))) (x:Ac×Int×Int×(List Vr)×(List (List Aa))×Int×Unit):Option (Ex×(Ac×Int×Int×(List Vr)×(List (List Aa))×Int×Unit)):=
 let c0:=x.1
 let sort1:=x.2.1
 let depth2:=x.2.2.1
 let vars3:=x.2.2.2.1
 let l10:=x.2.2.2.2.1
 let n11:=x.2.2.2.2.2.1
 cond (decide (n11 > (0:Int)))
 ((AHh c0 sort1 (qI (depth2 - (1:Int))) vars3).bind fun r1=>
 Ab (decide (l10.length+([r1.1.1]:List (List Aa)).length<=As)) (some (Ex.normal,(r1.2.1,sort1,depth2,vars3,l10++([r1.1.1]:List (List Aa)),qI (n11 - (1:Int)),()))))
 (some (Ex.exit 1,(c0,sort1,depth2,vars3,l10,n11,())))
def Lz (AHh:Ac->Int->Int->List Vr->Option (((List Aa)×Unit)×(Ac×Unit))) (AHg:Ac->Int->List Vr->Option (((List Aa)×Unit)×(Ac×Unit))) (AHk:Ac->Int->Int->List Vr->Option (((List Aa)×Unit)×(Ac×Unit))) (AHi:Ac->Int->Int->List Vr->Option (((List Aa)×Unit)×(Ac×Unit))) (AHj:Ac->Int->List Vr->Option (((List Aa)×Unit)×(Ac×Unit))) (c0:Ac) (sort1:Int) (depth2:Int) (vars3:List Vr):Option (((List Aa)×Unit)×(Ac×Unit)):=
 (A2 c0 10).bind fun r1=>
 cond (decide (r1.1.1 < (3:Int)))
 ((AHh r1.2.1 sort1 (qI (depth2 - (1:Int))) vars3).bind fun r2=>
 (A2 r2.2.1 3).bind fun r3=>
 (Am (Jy AHh AHg AHk AHi AHj) (r3.2.1,sort1,depth2,vars3,([r2.1.1]:List (List Aa)),r3.1.1,())).bind fun y4=>
 cond (Ex.same y4.1 (Ex.exit 1))
 ((BJ 14 y4.2.2.2.2.2.1).bind fun r5=>
 some ((r5.1.1,()),y4.2.1,()))
 (none))
 (cond (decide (r1.1.1 < (5:Int)))
 ((Ef r1.2.1 sort1).bind fun r6=>
 (CQ sort1 r6.1.1).bind fun r7=>
 (AHh r6.2.1 sort1 (qI (depth2 - (1:Int))) vars3).bind fun r8=>
 (BJ 15 ([r7.1.1,r8.1.1]:List (List Aa))).bind fun r9=>
 some ((r9.1.1,()),r8.2.1,()))
 (cond (r1.1.1==5)
 ((AHk r1.2.1 sort1 depth2 vars3).bind fun r10=>
 some ((r10.1.1,()),r10.2.1,()))
 (cond (r1.1.1==6)
 (cond (sort1==2)
 ((A2 r1.2.1 2).bind fun r11=>
 (A2 r11.2.1 5).bind fun r12=>
 (Da (qI ((1:Int)+r12.1.1))).bind fun r13=>
 (AHh r12.2.1 sort1 (qI (depth2 - (1:Int))) vars3).bind fun r14=>
 (DE (qI ((16:Int)+r11.1.1),(0:Int),([]:qBs),r13.1.1,(0:Int)) ([r14.1.1]:List (List Aa))).bind fun r15=>
 some ((r15.1.1,()),r14.2.1,()))
 (cond (r1.1.1==7)
 (cond (sort1==2)
 ((AHh r1.2.1 4 (qI (depth2 - (1:Int))) vars3).bind fun r16=>
 (AHh r16.2.1 sort1 (qI (depth2 - (1:Int))) vars3).bind fun r17=>
 (BJ 18 ([r16.1.1,r17.1.1]:List (List Aa))).bind fun r18=>
 some ((r18.1.1,()),r17.2.1,()))
 (cond (r1.1.1==8)
 ((Ef r1.2.1 sort1).bind fun r19=>
 (CQ sort1 r19.1.1).bind fun r20=>
 some ((r20.1.1,()),r19.2.1,()))
 ((Dh r1.2.1 sort1 vars3).bind fun r21=>
 some ((r21.1.1,()),r21.2.1,()))))
 (cond (r1.1.1==8)
 ((Ef r1.2.1 sort1).bind fun r22=>
 (CQ sort1 r22.1.1).bind fun r23=>
 some ((r23.1.1,()),r22.2.1,()))
 ((Dh r1.2.1 sort1 vars3).bind fun r24=>
 some ((r24.1.1,()),r24.2.1,())))))
 (cond (r1.1.1==7)
 (cond (sort1==2)
 ((AHh r1.2.1 4 (qI (depth2 - (1:Int))) vars3).bind fun r25=>
 (AHh r25.2.1 sort1 (qI (depth2 - (1:Int))) vars3).bind fun r26=>
 (BJ 18 ([r25.1.1,r26.1.1]:List (List Aa))).bind fun r27=>
 some ((r27.1.1,()),r26.2.1,()))
 (cond (r1.1.1==8)
 ((Ef r1.2.1 sort1).bind fun r28=>
 (CQ sort1 r28.1.1).bind fun r29=>
 some ((r29.1.1,()),r28.2.1,()))
 ((Dh r1.2.1 sort1 vars3).bind fun r30=>
 some ((r30.1.1,()),r30.2.1,()))))
 (cond (r1.1.1==8)
 ((Ef r1.2.1 sort1).bind fun r31=>
 (CQ sort1 r31.1.1).bind fun r32=>
 some ((r32.1.1,()),r31.2.1,()))
 ((Dh r1.2.1 sort1 vars3).bind fun r33=>
 some ((r33.1.1,()),r33.2.1,())))))))
def Km (AHh:Ac->Int->Int->List Vr->Option (((List Aa)×Unit)×(Ac×Unit))) (AHg:Ac->Int->List Vr->Option (((List Aa)×Unit)×(Ac×Unit))) (AHk:Ac->Int->Int->List Vr->Option (((List Aa)×Unit)×(Ac×Unit))) (AHi:Ac->Int->Int->List Vr->Option (((List Aa)×Unit)×(Ac×Unit))) (AHj:Ac->Int->List Vr->Option (((List Aa)×Unit)×(Ac×Unit))) (c0:Ac) (depth1:Int) (vars2:List Vr):Option (((List Aa)×Unit)×(Ac×Unit)):=
 (A2 c0 5).bind fun r1=>
 Ab (decide (0<=r1.1.1)&&decide (r1.1.1 < ([2,2,3,4,1]:List Int).length)) (
 cond ((([2,2,3,4,1]:List Int).getD r1.1.1.toNat (0:Int))==1)
 ((A2 r1.2.1 3).bind fun r2=>
 cond (r2.1.1==0)
 ((A2 r2.2.1 2).bind fun r3=>
 (J9 (r3.1.1==1)).bind fun r4=>
 some ((r4.1.1,()),r3.2.1,()))
 ((Dh r2.2.1 (([2,2,3,4,1]:List Int).getD r1.1.1.toNat (0:Int)) vars2).bind fun r5=>
 some ((r5.1.1,()),r5.2.1,())))
 (cond ((([2,2,3,4,1]:List Int).getD r1.1.1.toNat (0:Int)) !=(4:Int))
 ((A2 r1.2.1 3).bind fun r6=>
 (AHh r6.2.1 (([2,2,3,4,1]:List Int).getD r1.1.1.toNat (0:Int)) depth1 vars2).bind fun r7=>
 (AHh r7.2.1 (([2,2,3,4,1]:List Int).getD r1.1.1.toNat (0:Int)) depth1 vars2).bind fun r8=>
 (BJ (qI ((11:Int)+r6.1.1)) ([r7.1.1,r8.1.1]:List (List Aa))).bind fun r9=>
 some ((r9.1.1,()),r8.2.1,()))
 ((AHh r1.2.1 (([2,2,3,4,1]:List Int).getD r1.1.1.toNat (0:Int)) depth1 vars2).bind fun r10=>
 (AHh r10.2.1 (([2,2,3,4,1]:List Int).getD r1.1.1.toNat (0:Int)) depth1 vars2).bind fun r11=>
 (BJ 11 ([r10.1.1,r11.1.1]:List (List Aa))).bind fun r12=>
 some ((r12.1.1,()),r11.2.1,()))))
def Bq:Nat->(Ac->Int->Int->List Vr->Option (((List Aa)×Unit)×(Ac×Unit)))×(Ac->Int->List Vr->Option (((List Aa)×Unit)×(Ac×Unit)))×(Ac->Int->Int->List Vr->Option (((List Aa)×Unit)×(Ac×Unit)))×(Ac->Int->Int->List Vr->Option (((List Aa)×Unit)×(Ac×Unit)))×(Ac->Int->List Vr->Option (((List Aa)×Unit)×(Ac×Unit)))
 |0=>(fun _ _ _ _=>none,fun _ _ _=>none,fun _ _ _ _=>none,fun _ _ _ _=>none,fun _ _ _=>none)
 |n+1=>(Hv (Bq n).1 (Bq n).2.1 (Bq n).2.2.1 (Bq n).2.2.2.1 (Bq n).2.2.2.2,HA (Bq n).1 (Bq n).2.1 (Bq n).2.2.1 (Bq n).2.2.2.1 (Bq n).2.2.2.2,J_ (Bq n).1 (Bq n).2.1 (Bq n).2.2.1 (Bq n).2.2.2.1 (Bq n).2.2.2.2,Lz (Bq n).1 (Bq n).2.1 (Bq n).2.2.1 (Bq n).2.2.2.1 (Bq n).2.2.2.2,Km (Bq n).1 (Bq n).2.1 (Bq n).2.2.1 (Bq n).2.2.2.1 (Bq n).2.2.2.2)
def B6 (n:Nat):Ac->Int->Int->List Vr->Option (((List Aa)×Unit)×(Ac×Unit)):=(Bq n).1
def Cv (n:Nat):Ac->Int->List Vr->Option (((List Aa)×Unit)×(Ac×Unit)):=(Bq n).2.1
def CU (n:Nat):Ac->Int->Int->List Vr->Option (((List Aa)×Unit)×(Ac×Unit)):=(Bq n).2.2.1
def CW (n:Nat):Ac->Int->Int->List Vr->Option (((List Aa)×Unit)×(Ac×Unit)):=(Bq n).2.2.2.1
def CE (n:Nat):Ac->Int->List Vr->Option (((List Aa)×Unit)×(Ac×Unit)):=(Bq n).2.2.2.2
def Ke (l0:List Int):Option (((List Aa)×Unit)×Unit):=
 (L' l0).bind fun r1=>
 (A2 r1.1.1 4).bind fun r2=>
 NX.bind fun r3=>
 (B6 Bl r2.2.1 (qI ((1:Int)+r2.1.1)) 3 r3.1.1).bind fun r4=>
 (A2 r4.2.1 4).bind fun r5=>
 cond (r5.1.1==0)
 ((E9 r4.1.1).bind fun r6=>
 cond (r6.1.1==2)
 ((DE (5,2,([102]:qBs),([]:qBs),(0:Int)) ([r4.1.1]:List (List Aa))).bind fun r7=>
 some ((r7.1.1,()),()))
 (some ((r4.1.1,()),())))
 (cond (r5.1.1==1)
 ((E9 r4.1.1).bind fun r8=>
 cond (r8.1.1==1)
 ((GI r5.2.1).bind fun r9=>
 (CQ 3 r9.1.1).bind fun r10=>
 (DE (5,1,([103]:qBs),([]:qBs),(0:Int)) ([r4.1.1,r10.1.1]:List (List Aa))).bind fun r11=>
 some ((r11.1.1,()),()))
 (some ((r4.1.1,()),())))
 (cond (r5.1.1==2)
 ((E9 r4.1.1).bind fun r12=>
 cond (r12.1.1==4)
 ((DE (5,4,([104]:qBs),([]:qBs),(0:Int)) ([r4.1.1]:List (List Aa))).bind fun r13=>
 some ((r13.1.1,()),()))
 (some ((r4.1.1,()),())))
 (some ((r4.1.1,()),()))))
def EZ (x:qBs×Bool×(List Int)×Int×Int×Unit):Option (Ex×(qBs×Bool×(List Int)×Int×Int×Unit)):=
 let s0:=x.1
 let t2:=x.2.1
 let t6:=x.2.2.1
 let t7:=x.2.2.2.1
 let t8:=x.2.2.2.2.1
 cond (decide (t8 < t7))
 (Ab (decide (0<=t8)&&decide (t8 < t6.length)) (
 cond (decide ((t6.getD t8.toNat (0:Int)) < (48:Int)))
 (some (Ex.ret,(s0,false,t6,t7,t8,())))
 (cond (decide ((t6.getD t8.toNat (0:Int)) > (57:Int)))
 (some (Ex.ret,(s0,false,t6,t7,t8,())))
 (some (Ex.normal,(s0,t2,t6,t7,qI (t8+1),()))))))
 (some (Ex.exit 0,(s0,t2,t6,t7,t8,())))
def Ec (s0:qBs):Option ((Bool×Unit)×Unit):=
 (Am EZ (s0,false,s0.map fun b=>(b.toNat:Int),((s0.map fun b=>(b.toNat:Int)).length:Int),0,())).bind fun y1=>
 cond (Ex.same y1.1 (Ex.exit 0))
 (cond (y1.2.1==([48]:qBs))
 (some ((true,()),()))
 (cond (!(y1.2.1==([]:qBs)))
 (Ab (decide (0<=(0:Int))&&decide ((0:Int) < y1.2.1.length)) (some ((((y1.2.1.getD (0:Int).toNat 0).toNat:Int) !=(48:Int),()),())))
 (some ((false,()),()))))
 (cond (Ex.same y1.1 Ex.ret)
 (some ((y1.2.2.1,()),()))
 (none))
def GS (a0:qBs):Option ((Bool×Unit)×Unit):=
 (strings_CutPrefix a0 ([45]:qBs)).bind fun r1=>
 (Ec r1.1.1).bind fun r2=>
 cond (r2.1.1)
 (cond (r1.1.2.1)
 (some ((!(r1.1.1==([48]:qBs)),()),()))
 (some ((true,()),())))
 (some ((false,()),()))
def IX (x:Int×Int×Unit):Option (Ex×(Int×Int×Unit)):=
 let a0:=x.1
 let b1:=x.2.1
 cond (b1 !=(0:Int))
 (Ab (b1 !=0) (some (Ex.normal,(b1,a0.tmod b1,()))))
 (some (Ex.exit 0,(a0,b1,())))
def Gh (a0:Int) (b1:Int):Option ((Int×Unit)×Unit):=
 (Am IX (a0,b1,())).bind fun y1=>
 cond (Ex.same y1.1 (Ex.exit 0))
 (some ((y1.2.1,()),()))
 (none)
def B0 (a0:qBs):Option ((Af×Bool×Unit)×Unit):=
 (strings_CutPrefix a0 ([45]:qBs)).bind fun r1=>
 (strings_Cut r1.1.1 ([47]:qBs)).bind fun r2=>
 cond (decide ((r2.1.1.length:Int) > (9:Int)))
 (some ((((0:Int),(0:Int)),false,()),()))
 (cond (decide ((r2.1.2.1.length:Int) > (9:Int)))
 (some ((((0:Int),(0:Int)),false,()),()))
 ((Ec r2.1.1).bind fun r3=>
 cond (!r3.1.1)
 (some ((((0:Int),(0:Int)),false,()),()))
 (cond (r2.1.1==([48]:qBs))
 (cond (r1.1.2.1)
 (some ((((0:Int),(0:Int)),false,()),()))
 (cond (r2.1.2.2.1)
 (some ((((0:Int),(0:Int)),false,()),()))
 ((F4 r2.1.1 10 64).bind fun r4=>
 cond (r2.1.2.2.1)
 ((Ec r2.1.2.1).bind fun r5=>
 cond (!r5.1.1)
 (some ((((0:Int),(0:Int)),false,()),()))
 ((F4 r2.1.2.1 10 64).bind fun r6=>
 cond (decide (r6.1.1 < (2:Int)))
 (some ((((0:Int),(0:Int)),false,()),()))
 ((Gh r4.1.1 r6.1.1).bind fun r7=>
 cond (r7.1.1 !=(1:Int))
 (some ((((0:Int),(0:Int)),false,()),()))
 (cond (r1.1.2.1)
 (some (((qI (0 - r4.1.1),r6.1.1),true,()),()))
 (some (((r4.1.1,r6.1.1),true,()),()))))))
 (cond (r1.1.2.1)
 (some (((qI (0 - r4.1.1),1),true,()),()))
 (some (((r4.1.1,1),true,()),()))))))
 ((F4 r2.1.1 10 64).bind fun r8=>
 cond (r2.1.2.2.1)
 ((Ec r2.1.2.1).bind fun r9=>
 cond (!r9.1.1)
 (some ((((0:Int),(0:Int)),false,()),()))
 ((F4 r2.1.2.1 10 64).bind fun r10=>
 cond (decide (r10.1.1 < (2:Int)))
 (some ((((0:Int),(0:Int)),false,()),()))
 ((Gh r8.1.1 r10.1.1).bind fun r11=>
 cond (r11.1.1 !=(1:Int))
 (some ((((0:Int),(0:Int)),false,()),()))
 (cond (r1.1.2.1)
 (some (((qI (0 - r8.1.1),r10.1.1),true,()),()))
 (some (((r8.1.1,r10.1.1),true,()),()))))))
 (cond (r1.1.2.1)
 (some (((qI (0 - r8.1.1),1),true,()),()))
 (some (((r8.1.1,1),true,()),())))))))
def DN (x:(List Int)×Int×Unit):Option (Ex×((List Int)×Int×Unit)):=
 let a0:=x.1
 let n3:=x.2.1
 cond (decide (n3 > (0:Int)))
 (Ab (decide (0<=qI (n3 - (1:Int)))&&decide (qI (n3 - (1:Int)) < a0.length)) (
 cond ((a0.getD (qI (n3 - (1:Int))).toNat (0:Int))==0)
 (some (Ex.normal,(a0,qI (n3 - (1:Int)),())))
 (some (Ex.exit 0,(a0,n3,())))))
 (some (Ex.exit 0,(a0,n3,())))
def Ey (a0:List Int):Option (((List Int)×Unit)×Unit):=
 (Am DN (a0,(a0.length:Int),())).bind fun y1=>
 cond (Ex.same y1.1 (Ex.exit 0))
 (Ab (decide (0<=y1.2.2.1)&&decide (y1.2.2.1<=y1.2.1.length)) (some ((y1.2.1.take y1.2.2.1.toNat,()),())))
 (none)
def Ib (x:qBs×(List Int)×Int×Int×(List Int)×Int×Int×Unit):Option (Ex×(qBs×(List Int)×Int×Int×(List Int)×Int×Int×Unit)):=
 let s0:=x.1
 let out3:=x.2.1
 let end4:=x.2.2.1
 let v5:=x.2.2.2.1
 let t20:=x.2.2.2.2.1
 let t21:=x.2.2.2.2.2.1
 let t22:=x.2.2.2.2.2.2.1
 cond (decide (t22 < t21))
 (Ab (decide (0<=t22)&&decide (t22 < t20.length)) (some (Ex.normal,(s0,out3,end4,IntKind.u32.wrap ((IntKind.u32.wrap (v5 * (10:Int)))+(IntKind.u32.wrap (IntKind.u8.wrap ((t20.getD t22.toNat (0:Int)) - (48:Int))))),t20,t21,qI (t22+1),()))))
 (some (Ex.exit 2,(s0,out3,end4,v5,t20,t21,t22,())))
def Ix (x:qBs×(List Int)×Int×Unit):Option (Ex×(qBs×(List Int)×Int×Unit)):=
 let s0:=x.1
 let out3:=x.2.1
 let end4:=x.2.2.1
 cond (decide (end4 > (0:Int)))
 (Ab (decide (0<=BN (qI (end4 - (9:Int))) (0:Int))&&decide (BN (qI (end4 - (9:Int))) (0:Int)<=end4)&&decide (end4<=s0.length)) (
 (Am Ib (s0,out3,end4,0,((s0.take end4.toNat).drop (BN (qI (end4 - (9:Int))) (0:Int)).toNat).map fun b=>(b.toNat:Int),((((s0.take end4.toNat).drop (BN (qI (end4 - (9:Int))) (0:Int)).toNat).map fun b=>(b.toNat:Int)).length:Int),0,())).bind fun y1=>
 cond (Ex.same y1.1 (Ex.exit 2))
 (Ab (decide (y1.2.2.1.length+([y1.2.2.2.2.1]:List Int).length<=As)) (some (Ex.normal,(y1.2.1,y1.2.2.1++([y1.2.2.2.2.1]:List Int),qI (y1.2.2.2.1 - (9:Int)),()))))
 (none)))
 (some (Ex.exit 0,(s0,out3,end4,())))
def D0 (s0:qBs):Option (((List Int)×Unit)×Unit):=
 (Am Ix (s0,([]:List Int),(s0.length:Int),())).bind fun y1=>
 cond (Ex.same y1.1 (Ex.exit 0))
 ((Ey y1.2.2.1).bind fun r2=>
 some ((r2.1.1,()),()))
 (none)
def Hh (x:(List Int)×(List Int)×Int×Int×Unit):Option (Ex×((List Int)×(List Int)×Int×Int×Unit)):=
 let a0:=x.1
 let b1:=x.2.1
 let t4:=x.2.2.1
 let i5:=x.2.2.2.1
 cond (decide (i5>=0))
 (Ab (decide (0<=i5)&&decide (i5 < a0.length)) (
 Ab (decide (0<=i5)&&decide (i5 < b1.length)) (
 cond ((a0.getD i5.toNat (0:Int)) !=(b1.getD i5.toNat (0:Int)))
 (Ab (decide (0<=i5)&&decide (i5 < a0.length)) (Ab (decide (0<=i5)&&decide (i5 < b1.length)) (some (Ex.ret,(a0,b1,qI ((qI (a0.getD i5.toNat (0:Int))) - (qI (b1.getD i5.toNat (0:Int)))),i5,())))))
 (some (Ex.normal,(a0,b1,t4,qI (i5 - (1:Int)),()))))))
 (some (Ex.exit 0,(a0,b1,t4,i5,())))
def HO (a0:List Int) (b1:List Int):Option ((Int×Unit)×Unit):=
 cond ((a0.length:Int) !=(b1.length:Int))
 (some ((qI ((a0.length:Int) - (b1.length:Int)),()),()))
 ((Am Hh (a0,b1,0,qI ((a0.length:Int) - (1:Int)),())).bind fun y1=>
 cond (Ex.same y1.1 (Ex.exit 0))
 (some ((0,()),()))
 (cond (Ex.same y1.1 Ex.ret)
 (some ((y1.2.2.2.1,()),()))
 (none)))
def J4 (x:(List Int)×Int×(List Int)×Int×Int×Unit):Option (Ex×((List Int)×Int×(List Int)×Int×Int×Unit)):=
 let a0:=x.1
 let b1:=x.2.1
 let q6:=x.2.2.1
 let rest7:=x.2.2.2.1
 let i8:=x.2.2.2.2.1
 cond (decide (i8>=0))
 (Ab (decide (0<=i8)&&decide (i8 < a0.length)) (Ab ((qU (b1)) !=0) (Ab ((qU (b1)) !=0) (Ab (decide (0<=i8)&&decide (i8 < q6.length)) (Ab (decide (i8.toNat < q6.length)) (some (Ex.normal,(a0,b1,q6.set i8.toNat (IntKind.u32.wrap (qU ((qU ((qU (rest7 * (1000000000:Int)))+(qU (a0.getD i8.toNat (0:Int))))).tdiv (qU (b1))))),(qU ((qU (rest7 * (1000000000:Int)))+(qU (a0.getD i8.toNat (0:Int))))).tmod (qU (b1)),qI (i8 - (1:Int)),()))))))))
 (some (Ex.exit 0,(a0,b1,q6,rest7,i8,())))
def HS (a0:List Int) (b1:Int):Option (((List Int)×(List Int)×Unit)×Unit):=
 Ab (decide (0<=(a0.length:Int))&&decide ((a0.length:Int)<=(a0.length:Int))&&decide ((a0.length:Int)<=As)) (
 (Am J4 (a0,b1,List.replicate (a0.length:Int).toNat (0:Int),0,qI ((a0.length:Int) - (1:Int)),())).bind fun y1=>
 cond (Ex.same y1.1 (Ex.exit 0))
 ((Ey y1.2.2.2.1).bind fun r2=>
 (Ey ([IntKind.u32.wrap (y1.2.2.2.2.1)]:List Int)).bind fun r3=>
 some ((r2.1.1,r3.1.1,()),()))
 (none))
def Ks (x:(List Int)×Int×Unit):Option (Ex×((List Int)×Int×Unit)):=
 let a0:=x.1
 let n3:=x.2.1
 cond (decide (n3 > (0:Int)))
 (Ab (decide (0<=qI (n3 - (1:Int)))&&decide (qI (n3 - (1:Int)) < a0.length)) (
 Ab (decide ((qI (n3 - (1:Int))).toNat < a0.length)) (
 cond ((a0.getD ((qI (n3 - (1:Int))).toNat) (0:Int))==0)
 (some (Ex.normal,(a0,qI (n3 - (1:Int)),())))
 (some (Ex.exit 0,(a0,n3,()))))))
 (some (Ex.exit 0,(a0,n3,())))
def KJ (a0:List Int):Option ((Nat×Unit)×((List Int)×Unit)):=
 (Am Ks (a0,(a0.length:Int),())).bind fun y1=>
 cond (Ex.same y1.1 (Ex.exit 0))
 (Ab (decide (0<=y1.2.2.1)&&decide (y1.2.2.1<=y1.2.1.length)) (some ((y1.2.2.1.toNat,()),y1.2.1,())))
 (none)
def SM (x:(List Int)×(List Int)×Int×Int×Int×(List Int)×Int×Int×(List Int)×Int×Int×Unit):Option (Ex×((List Int)×(List Int)×Int×Int×Int×(List Int)×Int×Int×(List Int)×Int×Int×Unit)):=
 let b1:=x.1
 let out5:=x.2.1
 let i6:=x.2.2.1
 let x7:=x.2.2.2.1
 let carry8:=x.2.2.2.2.1
 let t18:=x.2.2.2.2.2.1
 let t19:=x.2.2.2.2.2.2.1
 let t20:=x.2.2.2.2.2.2.2.1
 let t25:=x.2.2.2.2.2.2.2.2.1
 let t26:=x.2.2.2.2.2.2.2.2.2.1
 let t27:=x.2.2.2.2.2.2.2.2.2.2.1
 cond (decide (t27 < t26))
 (Ab (decide (0<=t27)&&decide (t27 < t25.length)) (Ab (decide (0<=qI (i6+t27))&&decide (qI (i6+t27) < out5.length)) (Ab (decide ((qI (i6+t27)).toNat < out5.length)) (Ab ((1000000000:Int) !=0) (Ab ((1000000000:Int) !=0) (Ab (decide (0<=qI (i6+t27))&&decide (qI (i6+t27) < out5.length)) (Ab (decide ((qI (i6+t27)).toNat < out5.length)) (some (Ex.normal,(b1,out5.set ((qI (i6+t27)).toNat) (IntKind.u32.wrap ((qU ((qU ((qU (out5.getD ((qI (i6+t27)).toNat) (0:Int)))+(qU ((qU (x7)) * (qU (t25.getD t27.toNat (0:Int)))))))+carry8)).tmod 1000000000)),i6,x7,qU ((qU ((qU ((qU (out5.getD ((qI (i6+t27)).toNat) (0:Int)))+(qU ((qU (x7)) * (qU (t25.getD t27.toNat (0:Int)))))))+carry8)).tdiv 1000000000),t18,t19,t20,t25,t26,qI (t27+1),()))))))))))
 (some (Ex.exit 2,(b1,out5,i6,x7,carry8,t18,t19,t20,t25,t26,t27,())))
def Mg (x:(List Int)×(List Int)×(List Int)×Int×Int×Unit):Option (Ex×((List Int)×(List Int)×(List Int)×Int×Int×Unit)):=
 let b1:=x.1
 let out5:=x.2.1
 let t18:=x.2.2.1
 let t19:=x.2.2.2.1
 let t20:=x.2.2.2.2.1
 cond (decide (t20 < t19))
 (Ab (decide (0<=t20)&&decide (t20 < t18.length)) (
 (Am SM (b1,out5,t20,t18.getD t20.toNat (0:Int),0,t18,t19,t20,b1,(b1.length:Int),0,())).bind fun y1=>
 cond (Ex.same y1.1 (Ex.exit 2))
 (Ab (decide (0<=qI (y1.2.2.2.1+(y1.2.1.length:Int)))&&decide (qI (y1.2.2.2.1+(y1.2.1.length:Int)) < y1.2.2.1.length)) (Ab (decide ((qI (y1.2.2.2.1+(y1.2.1.length:Int))).toNat < y1.2.2.1.length)) (some (Ex.normal,(y1.2.1,y1.2.2.1.set ((qI (y1.2.2.2.1+(y1.2.1.length:Int))).toNat) (IntKind.u32.wrap (y1.2.2.2.2.2.1)),y1.2.2.2.2.2.2.1,y1.2.2.2.2.2.2.2.1,qI (y1.2.2.2.2.2.2.2.2.1+1),())))))
 (none)))
 (some (Ex.exit 0,(b1,out5,t18,t19,t20,())))
def JH (a0:List Int) (b1:List Int):Option (((List Int)×Unit)×Unit):=
 Ab (decide (0<=qI ((a0.length:Int)+(b1.length:Int)))&&decide (qI ((a0.length:Int)+(b1.length:Int))<=qI ((a0.length:Int)+(b1.length:Int)))&&decide (qI ((a0.length:Int)+(b1.length:Int))<=As)) (
 (Am Mg (b1,List.replicate (qI ((a0.length:Int)+(b1.length:Int))).toNat (0:Int),a0,(a0.length:Int),0,())).bind fun y1=>
 cond (Ex.same y1.1 (Ex.exit 0))
 ((KJ y1.2.2.1).bind fun r2=>
 some ((r2.2.1.take r2.1.1,()),()))
 (none))
def Ed (x:(List Int)×(List Int)×Int×Int×Int×Int×Int×Unit):Option (Ex×((List Int)×(List Int)×Int×Int×Int×Int×Int×Unit)):=
 let u0:=x.1
 let v1:=x.2.1
 let times2:=x.2.2.1
 let carry7:=x.2.2.2.1
 let borrow8:=x.2.2.2.2.1
 let t12:=x.2.2.2.2.2.1
 let t13:=x.2.2.2.2.2.2.1
 cond (decide (t13 < t12))
 (cond (decide (t13 < (v1.length:Int)))
 (Ab (decide (0<=t13)&&decide (t13 < v1.length)) (
 Ab (decide (0<=t13)&&decide (t13 < u0.length)) (
 Ab (decide (t13.toNat < u0.length)) (
 Ab ((1000000000:Int) !=0) (
 Ab ((1000000000:Int) !=0) (
 cond (decide ((qI ((qI ((qI (u0.getD t13.toNat (0:Int))) - borrow8)) - (qI ((qU (carry7+(qU (times2 * (qU (v1.getD t13.toNat (0:Int))))))).tmod 1000000000)))) < (0:Int)))
 (Ab (decide (0<=t13)&&decide (t13 < u0.length)) (Ab (decide (t13.toNat < u0.length)) (some (Ex.normal,(u0.set t13.toNat (IntKind.u32.wrap (qI ((qI ((qI ((qI (u0.getD t13.toNat (0:Int))) - borrow8)) - (qI ((qU (carry7+(qU (times2 * (qU (v1.getD t13.toNat (0:Int))))))).tmod 1000000000))))+1000000000))),v1,times2,qU ((qU (carry7+(qU (times2 * (qU (v1.getD t13.toNat (0:Int))))))).tdiv 1000000000),1,t12,qI (t13+1),())))))
 (Ab (decide (0<=t13)&&decide (t13 < u0.length)) (Ab (decide (t13.toNat < u0.length)) (some (Ex.normal,(u0.set t13.toNat (IntKind.u32.wrap (qI ((qI ((qI (u0.getD t13.toNat (0:Int))) - borrow8)) - (qI ((qU (carry7+(qU (times2 * (qU (v1.getD t13.toNat (0:Int))))))).tmod 1000000000))))),v1,times2,qU ((qU (carry7+(qU (times2 * (qU (v1.getD t13.toNat (0:Int))))))).tdiv 1000000000),0,t12,qI (t13+1),())))))))))))
 (Ab (decide (0<=t13)&&decide (t13 < u0.length)) (
 Ab (decide (t13.toNat < u0.length)) (
 Ab ((1000000000:Int) !=0) (
 Ab ((1000000000:Int) !=0) (
 cond (decide ((qI ((qI ((qI (u0.getD t13.toNat (0:Int))) - borrow8)) - (qI (carry7.tmod 1000000000)))) < (0:Int)))
 (Ab (decide (0<=t13)&&decide (t13 < u0.length)) (Ab (decide (t13.toNat < u0.length)) (some (Ex.normal,(u0.set t13.toNat (IntKind.u32.wrap (qI ((qI ((qI ((qI (u0.getD t13.toNat (0:Int))) - borrow8)) - (qI (carry7.tmod 1000000000))))+1000000000))),v1,times2,qU (carry7.tdiv 1000000000),1,t12,qI (t13+1),())))))
 (Ab (decide (0<=t13)&&decide (t13 < u0.length)) (Ab (decide (t13.toNat < u0.length)) (some (Ex.normal,(u0.set t13.toNat (IntKind.u32.wrap (qI ((qI ((qI (u0.getD t13.toNat (0:Int))) - borrow8)) - (qI (carry7.tmod 1000000000))))),v1,times2,qU (carry7.tdiv 1000000000),0,t12,qI (t13+1),())))))))))))
 (some (Ex.exit 0,(u0,v1,times2,carry7,borrow8,t12,t13,())))
def IA (u0:List Int) (v1:List Int) (times2:Int):Option ((Bool×Unit)×((List Int)×Unit)):=
 (Am Ed (u0,v1,times2,0,0,(u0.length:Int),0,())).bind fun y1=>
 cond (Ex.same y1.1 (Ex.exit 0))
 (some ((decide (y1.2.2.2.2.2.1 > (0:Int)),()),y1.2.1,()))
 (none)
def LL (a0:List Int) (i1:Int):Option ((Int×Unit)×Unit):=
 cond (decide (i1>=(a0.length:Int)))
 (some ((0,()),()))
 (Ab (decide (0<=i1)&&decide (i1 < a0.length)) (some ((a0.getD i1.toNat (0:Int),()),())))
def IS (x:(List Int)×(List Int)×Int×Int×Int×Unit):Option (Ex×((List Int)×(List Int)×Int×Int×Int×Unit)):=
 let u0:=x.1
 let v1:=x.2.1
 let carry4:=x.2.2.1
 let t8:=x.2.2.2.1
 let t9:=x.2.2.2.2.1
 cond (decide (t9 < t8))
 (Ab (decide (0<=t9)&&decide (t9 < u0.length)) (
 Ab (decide (t9.toNat < u0.length)) (
 (LL v1 t9).bind fun r1=>
 Ab ((1000000000:Int) !=0) (Ab ((1000000000:Int) !=0) (Ab (decide (0<=t9)&&decide (t9 < u0.length)) (Ab (decide (t9.toNat < u0.length)) (some (Ex.normal,(u0.set t9.toNat ((IntKind.u32.wrap ((IntKind.u32.wrap ((u0.getD t9.toNat (0:Int))+r1.1.1))+carry4)).tmod 1000000000),v1,IntKind.u32.wrap ((IntKind.u32.wrap ((IntKind.u32.wrap ((u0.getD t9.toNat (0:Int))+r1.1.1))+carry4)).tdiv 1000000000),t8,qI (t9+1),())))))))))
 (some (Ex.exit 0,(u0,v1,carry4,t8,t9,())))
def Jz (u0:List Int) (v1:List Int):Option ((Unit)×((List Int)×Unit)):=
 (Am IS (u0,v1,0,(u0.length:Int),0,())).bind fun y1=>
 cond (Ex.same y1.1 (Ex.exit 0))
 (some ((),y1.2.1,()))
 (none)
def DQ (x:(List Int)×(List Int)×Int×Int×Int×Int×Unit):Option (Ex×((List Int)×(List Int)×Int×Int×Int×Int×Unit)):=
 let u0:=x.1
 let v1:=x.2.1
 let n5:=x.2.2.1
 let first7:=x.2.2.2.1
 let guess8:=x.2.2.2.2.1
 let rest9:=x.2.2.2.2.2.1
 cond (decide (guess8>=1000000000))
 (cond (decide ((qU (rest9+first7))>=1000000000))
 (some (Ex.exit 0,(u0,v1,n5,first7,qU (guess8 - (1:Int)),qU (rest9+first7),())))
 (some (Ex.normal,(u0,v1,n5,first7,qU (guess8 - (1:Int)),qU (rest9+first7),()))))
 (Ab (decide (0<=qI (n5 - (2:Int)))&&decide (qI (n5 - (2:Int)) < v1.length)) (
 Ab (decide (0<=qI (n5 - (2:Int)))&&decide (qI (n5 - (2:Int)) < u0.length)) (
 Ab (decide ((qI (n5 - (2:Int))).toNat < u0.length)) (
 cond (decide ((qU (guess8 * (qU (v1.getD (qI (n5 - (2:Int))).toNat (0:Int))))) > (qU ((qU (rest9 * (1000000000:Int)))+(qU (u0.getD ((qI (n5 - (2:Int))).toNat) (0:Int)))))))
 (cond (decide ((qU (rest9+first7))>=1000000000))
 (some (Ex.exit 0,(u0,v1,n5,first7,qU (guess8 - (1:Int)),qU (rest9+first7),())))
 (some (Ex.normal,(u0,v1,n5,first7,qU (guess8 - (1:Int)),qU (rest9+first7),()))))
 (some (Ex.exit 0,(u0,v1,n5,first7,guess8,rest9,())))))))
def IP (u0:List Int) (v1:List Int):Option ((Int×Unit)×((List Int)×Unit)):=
 Ab (decide (0<=(v1.length:Int))&&decide ((v1.length:Int) < u0.length)) (
 Ab (decide ((v1.length:Int).toNat < u0.length)) (
 Ab (decide (0<=qI ((v1.length:Int) - (1:Int)))&&decide (qI ((v1.length:Int) - (1:Int)) < u0.length)) (
 Ab (decide ((qI ((v1.length:Int) - (1:Int))).toNat < u0.length)) (
 Ab (decide (0<=qI ((v1.length:Int) - (1:Int)))&&decide (qI ((v1.length:Int) - (1:Int)) < v1.length)) (
 Ab ((qU (v1.getD (qI ((v1.length:Int) - (1:Int))).toNat (0:Int))) !=0) (
 Ab ((qU (v1.getD (qI ((v1.length:Int) - (1:Int))).toNat (0:Int))) !=0) (
 (Am DQ (u0,v1,(v1.length:Int),qU (v1.getD (qI ((v1.length:Int) - (1:Int))).toNat (0:Int)),qU ((qU ((qU ((qU (u0.getD ((v1.length:Int).toNat) (0:Int))) * (1000000000:Int)))+(qU (u0.getD ((qI ((v1.length:Int) - (1:Int))).toNat) (0:Int))))).tdiv (qU (v1.getD (qI ((v1.length:Int) - (1:Int))).toNat (0:Int)))),(qU ((qU ((qU (u0.getD ((v1.length:Int).toNat) (0:Int))) * (1000000000:Int)))+(qU (u0.getD ((qI ((v1.length:Int) - (1:Int))).toNat) (0:Int))))).tmod (qU (v1.getD (qI ((v1.length:Int) - (1:Int))).toNat (0:Int))),())).bind fun y1=>
 cond (Ex.same y1.1 (Ex.exit 0))
 ((IA y1.2.1 y1.2.2.1 y1.2.2.2.2.2.1).bind fun r2=>
 cond (r2.1.1)
 ((Jz r2.2.1 y1.2.2.1).bind fun r3=>
 some ((IntKind.u32.wrap (qU (y1.2.2.2.2.2.1 - (1:Int))),()),r3.2.1,()))
 (some ((IntKind.u32.wrap (y1.2.2.2.2.2.1),()),r2.2.1,())))
 (none))))))))
def Hn (x:(List Int)×(List Int)×(List Int)×(List Int)×Unit):Option (Ex×((List Int)×(List Int)×(List Int)×(List Int)×Unit)):=
 let a0:=x.1
 let scale6:=x.2.1
 let u7:=x.2.2.1
 let v8:=x.2.2.2.1
 cond (decide ((u7.length:Int)<=(a0.length:Int)))
 (Ab (decide (u7.length+([0]:List Int).length<=As)) (some (Ex.normal,(a0,scale6,u7++([0]:List Int),v8,()))))
 (some (Ex.exit 1,(a0,scale6,u7,v8,())))
def Ha (x:(List Int)×(List Int)×(List Int)×(List Int)×Int×Unit):Option (Ex×((List Int)×(List Int)×(List Int)×(List Int)×Int×Unit)):=
 let scale6:=x.1
 let u7:=x.2.1
 let v8:=x.2.2.1
 let q9:=x.2.2.2.1
 let j10:=x.2.2.2.2.1
 cond (decide (j10>=0))
 (Ab (decide (0<=j10)&&decide (j10<=qI ((qI (j10+(v8.length:Int)))+1))&&decide (qI ((qI (j10+(v8.length:Int)))+1)<=u7.length)) (
 (IP ((u7.drop j10.toNat).take ((qI ((qI (j10+(v8.length:Int)))+1)).toNat - j10.toNat)) v8).bind fun r1=>
 Ab (decide (0<=j10)&&decide (j10 < q9.length)) (Ab (decide (j10.toNat < q9.length)) (some (Ex.normal,(scale6,u7.take j10.toNat++r1.2.1++u7.drop (j10.toNat+((qI ((qI (j10+(v8.length:Int)))+1)).toNat - j10.toNat)),v8,q9.set j10.toNat r1.1.1,qI (j10 - (1:Int)),()))))))
 (some (Ex.exit 3,(scale6,u7,v8,q9,j10,())))
def HT (a0:List Int) (b1:List Int):Option (((List Int)×(List Int)×Unit)×Unit):=
 (HO a0 b1).bind fun r1=>
 cond (decide (r1.1.1 < (0:Int)))
 (some ((([]:List Int),a0,()),()))
 (cond ((b1.length:Int)==1)
 (Ab (decide (0<=(0:Int))&&decide ((0:Int) < b1.length)) (
 (HS a0 (b1.getD (0:Int).toNat (0:Int))).bind fun r2=>
 some ((r2.1.1,r2.1.2.1,()),())))
 (Ab (decide (0<=qI ((b1.length:Int) - (1:Int)))&&decide (qI ((b1.length:Int) - (1:Int)) < b1.length)) (
 Ab ((qU ((qU (b1.getD (qI ((b1.length:Int) - (1:Int))).toNat (0:Int)))+1)) !=0) (
 (JH a0 ([IntKind.u32.wrap (qU ((1000000000:Int).tdiv (qU ((qU (b1.getD (qI ((b1.length:Int) - (1:Int))).toNat (0:Int)))+1))))]:List Int)).bind fun r3=>
 (JH b1 ([IntKind.u32.wrap (qU ((1000000000:Int).tdiv (qU ((qU (b1.getD (qI ((b1.length:Int) - (1:Int))).toNat (0:Int)))+1))))]:List Int)).bind fun r4=>
 (Am Hn (a0,([IntKind.u32.wrap (qU ((1000000000:Int).tdiv (qU ((qU (b1.getD (qI ((b1.length:Int) - (1:Int))).toNat (0:Int)))+1))))]:List Int),r3.1.1,r4.1.1,())).bind fun y5=>
 cond (Ex.same y5.1 (Ex.exit 1))
 (Ab (decide (0<=qI ((y5.2.2.2.1.length:Int) - (y5.2.2.2.2.1.length:Int)))&&decide (qI ((y5.2.2.2.1.length:Int) - (y5.2.2.2.2.1.length:Int))<=qI ((y5.2.2.2.1.length:Int) - (y5.2.2.2.2.1.length:Int)))&&decide (qI ((y5.2.2.2.1.length:Int) - (y5.2.2.2.2.1.length:Int))<=As)) (
 (Am Ha (y5.2.2.1,y5.2.2.2.1,y5.2.2.2.2.1,List.replicate (qI ((y5.2.2.2.1.length:Int) - (y5.2.2.2.2.1.length:Int))).toNat (0:Int),qI (((List.replicate (qI ((y5.2.2.2.1.length:Int) - (y5.2.2.2.2.1.length:Int))).toNat (0:Int)).length:Int) - (1:Int)),())).bind fun y6=>
 cond (Ex.same y6.1 (Ex.exit 3))
 ((Ey y6.2.2.1).bind fun r7=>
 Ab (decide (0<=(0:Int))&&decide ((0:Int) < y6.2.1.length)) (
 (HS r7.1.1 (y6.2.1.getD (0:Int).toNat (0:Int))).bind fun r8=>
 (Ey y6.2.2.2.2.1).bind fun r9=>
 some ((r9.1.1,r8.1.1,()),())))
 (none)))
 (none)))))
def JE (x:(List Int)×(List Int)×Unit):Option (Ex×((List Int)×(List Int)×Unit)):=
 let a0:=x.1
 let b1:=x.2.1
 cond (decide ((b1.length:Int) > (0:Int)))
 ((HT a0 b1).bind fun r1=>
 some (Ex.normal,(b1,r1.1.2.1,())))
 (some (Ex.exit 0,(a0,b1,())))
def Hy (a0:List Int) (b1:List Int):Option (((List Int)×Unit)×Unit):=
 (Am JE (a0,b1,())).bind fun y1=>
 cond (Ex.same y1.1 (Ex.exit 0))
 (some ((y1.2.1,()),()))
 (none)
def Et (a0:List Int):Option ((Bool×Unit)×Unit):=
 cond ((a0.length:Int)==1)
 (Ab (decide (0<=(0:Int))&&decide ((0:Int) < a0.length)) (some (((a0.getD (0:Int).toNat (0:Int))==1,()),())))
 (some ((false,()),()))
def Cz (a0:qBs):Option ((Rt×Bool×Unit)×Unit):=
 (strings_CutPrefix a0 ([45]:qBs)).bind fun r1=>
 (strings_Cut r1.1.1 ([47]:qBs)).bind fun r2=>
 (Ec r2.1.1).bind fun r3=>
 cond (!r3.1.1)
 (some (((false,([]:List Int),([]:List Int)),false,()),()))
 (cond (r2.1.1==([48]:qBs))
 (cond (r1.1.2.1)
 (some (((false,([]:List Int),([]:List Int)),false,()),()))
 (cond (r2.1.2.2.1)
 (some (((false,([]:List Int),([]:List Int)),false,()),()))
 ((D0 r2.1.1).bind fun r4=>
 cond (!r2.1.2.2.1)
 (some (((r1.1.2.1,r4.1.1,([1]:List Int)),true,()),()))
 ((Ec r2.1.2.1).bind fun r5=>
 cond (!r5.1.1)
 (some (((false,([]:List Int),([]:List Int)),false,()),()))
 (cond (r2.1.2.1==([48]:qBs))
 (some (((false,([]:List Int),([]:List Int)),false,()),()))
 (cond (r2.1.2.1==([49]:qBs))
 (some (((false,([]:List Int),([]:List Int)),false,()),()))
 ((D0 r2.1.2.1).bind fun r6=>
 (Hy r4.1.1 r6.1.1).bind fun r7=>
 (Et r7.1.1).bind fun r8=>
 some (((r1.1.2.1,r4.1.1,r6.1.1),r8.1.1,()),()))))))))
 ((D0 r2.1.1).bind fun r9=>
 cond (!r2.1.2.2.1)
 (some (((r1.1.2.1,r9.1.1,([1]:List Int)),true,()),()))
 ((Ec r2.1.2.1).bind fun r10=>
 cond (!r10.1.1)
 (some (((false,([]:List Int),([]:List Int)),false,()),()))
 (cond (r2.1.2.1==([48]:qBs))
 (some (((false,([]:List Int),([]:List Int)),false,()),()))
 (cond (r2.1.2.1==([49]:qBs))
 (some (((false,([]:List Int),([]:List Int)),false,()),()))
 ((D0 r2.1.2.1).bind fun r11=>
 (Hy r9.1.1 r11.1.1).bind fun r12=>
 (Et r12.1.1).bind fun r13=>
 some (((r1.1.2.1,r9.1.1,r11.1.1),r13.1.1,()),())))))))
def FU (a0:qBs):Option ((Bool×Unit)×Unit):=
 (B0 a0).bind fun r1=>
 cond (r1.1.2.1)
 (some ((true,()),()))
 ((Cz a0).bind fun r2=>
 some ((r2.1.2.1,()),()))
def Kp (sort0:Int) (a1:qBs):Option ((Bool×Unit)×Unit):=
 cond (sort0==2)
 ((GS a1).bind fun r1=>
 cond (r1.1.1)
 (some ((true,()),()))
 (cond (sort0==3)
 ((FU a1).bind fun r2=>
 some ((r2.1.1,()),()))
 (some ((false,()),()))))
 (cond (sort0==3)
 ((FU a1).bind fun r3=>
 some ((r3.1.1,()),()))
 (some ((false,()),())))
def F6 (s0:Int):Option ((Bool×Unit)×Unit):=
 cond (decide (s0>=1))
 (some ((decide (s0<=4),()),()))
 (some ((false,()),()))
def JP (c0:Int):Option ((Bool×Unit)×Unit):=
 cond (decide (c0>=97))
 (cond (decide (c0<=122))
 (some ((true,()),()))
 (cond (decide (c0>=65))
 (cond (decide (c0<=90))
 (some ((true,()),()))
 (cond (c0==95)
 (some ((true,()),()))
 (cond (c0==36)
 (some ((true,()),()))
 (some ((c0==33,()),())))))
 (cond (c0==95)
 (some ((true,()),()))
 (cond (c0==36)
 (some ((true,()),()))
 (some ((c0==33,()),()))))))
 (cond (decide (c0>=65))
 (cond (decide (c0<=90))
 (some ((true,()),()))
 (cond (c0==95)
 (some ((true,()),()))
 (cond (c0==36)
 (some ((true,()),()))
 (some ((c0==33,()),())))))
 (cond (c0==95)
 (some ((true,()),()))
 (cond (c0==36)
 (some ((true,()),()))
 (some ((c0==33,()),())))))
def M' (s0:qBs):Option ((Bool×Unit)×Unit):=
 cond (s0==([97,110,100]:qBs))
 (some ((true,()),()))
 (cond (s0==([111,114]:qBs))
 (some ((true,()),()))
 (cond (s0==([110,111,116]:qBs))
 (some ((true,()),()))
 (cond (s0==([105,116,101]:qBs))
 (some ((true,()),()))
 (cond (s0==([116,114,117,101]:qBs))
 (some ((true,()),()))
 (cond (s0==([102,97,108,115,101]:qBs))
 (some ((true,()),()))
 (cond (s0==([108,101,116]:qBs))
 (some ((true,()),()))
 (cond (s0==([102,111,114,97,108,108]:qBs))
 (some ((true,()),()))
 (cond (s0==([101,120,105,115,116,115]:qBs))
 (some ((true,()),()))
 (cond (s0==([100,105,115,116,105,110,99,116]:qBs))
 (some ((true,()),()))
 (cond (s0==([100,105,118]:qBs))
 (some ((true,()),()))
 (cond (s0==([109,111,100]:qBs))
 (some ((true,()),()))
 (cond (s0==([115,101,108,101,99,116]:qBs))
 (some ((true,()),()))
 (cond (s0==([115,116,111,114,101]:qBs))
 (some ((true,()),()))
 (cond (s0==([99,111,110,115,116]:qBs))
 (some ((true,()),()))
 (cond (s0==([66,111,111,108]:qBs))
 (some ((true,()),()))
 (cond (s0==([73,110,116]:qBs))
 (some ((true,()),()))
 (cond (s0==([82,101,97,108]:qBs))
 (some ((true,()),()))
 (cond (s0==([65,114,114,97,121]:qBs))
 (some ((true,()),()))
 (some ((false,()),()))))))))))))))))))))
def Jf (x:qBs×Bool×Int×Int×Unit):Option (Ex×(qBs×Bool×Int×Int×Unit)):=
 let s0:=x.1
 let t2:=x.2.1
 let t23:=x.2.2.1
 let t24:=x.2.2.2.1
 cond (decide (t24 < t23))
 (Ab (decide (0<=t24)&&decide (t24 < s0.length)) (
 (JP ((s0.getD t24.toNat 0).toNat:Int)).bind fun r1=>
 cond (!r1.1.1)
 (cond (decide (((s0.getD t24.toNat 0).toNat:Int)>=48))
 (cond (!(decide (((s0.getD t24.toNat 0).toNat:Int)<=57)))
 (cond (((s0.getD t24.toNat 0).toNat:Int) !=(46:Int))
 (cond (((s0.getD t24.toNat 0).toNat:Int) !=(64:Int))
 (some (Ex.ret,(s0,false,t23,t24,())))
 (some (Ex.normal,(s0,t2,t23,qI (t24+1),()))))
 (some (Ex.normal,(s0,t2,t23,qI (t24+1),()))))
 (some (Ex.normal,(s0,t2,t23,qI (t24+1),()))))
 (cond (((s0.getD t24.toNat 0).toNat:Int) !=(46:Int))
 (cond (((s0.getD t24.toNat 0).toNat:Int) !=(64:Int))
 (some (Ex.ret,(s0,false,t23,t24,())))
 (some (Ex.normal,(s0,t2,t23,qI (t24+1),()))))
 (some (Ex.normal,(s0,t2,t23,qI (t24+1),())))))
 (some (Ex.normal,(s0,t2,t23,qI (t24+1),())))))
 (some (Ex.exit 0,(s0,t2,t23,t24,())))
def Fm (s0:qBs):Option ((Bool×Unit)×Unit):=
 cond (s0==([]:qBs))
 (some ((false,()),()))
 (cond (decide ((s0.length:Int) > (40:Int)))
 (some ((false,()),()))
 (Ab (decide (0<=(0:Int))&&decide ((0:Int) < s0.length)) (
 (JP ((s0.getD (0:Int).toNat 0).toNat:Int)).bind fun r1=>
 cond (!r1.1.1)
 (some ((false,()),()))
 ((M' s0).bind fun r2=>
 cond (r2.1.1)
 (some ((false,()),()))
 ((Am Jf (s0,false,(s0.length:Int),0,())).bind fun y3=>
 cond (Ex.same y3.1 (Ex.exit 0))
 (some ((true,()),()))
 (cond (Ex.same y3.1 Ex.ret)
 (some ((y3.2.2.1,()),()))
 (none)))))))
def Fj (a0:qBs):Option ((Int×Unit)×Unit):=
 (FU a0).bind fun r1=>
 cond (!r1.1.1)
 (some ((0,()),()))
 (cond (a0==([48]:qBs))
 (some ((0,()),()))
 (Ab (decide (0<=(0:Int))&&decide ((0:Int) < a0.length)) (
 cond (((a0.getD (0:Int).toNat 0).toNat:Int)==45)
 (some ((-1,()),()))
 (some ((1,()),())))))
def IJ (n0:Aa):Option ((Bool×Unit)×Unit):=
 cond (n0.1==3)
 (cond (n0.2.2.1==([]:qBs))
 ((Kp n0.2.1 n0.2.2.2.1).bind fun r1=>
 some ((r1.1.1,()),()))
 (some ((false,()),())))
 (cond (n0.1==4)
 ((F6 n0.2.1).bind fun r2=>
 cond (r2.1.1)
 ((Fm n0.2.2.1).bind fun r3=>
 cond (r3.1.1)
 (some ((n0.2.2.2.1==([]:qBs),()),()))
 (some ((false,()),())))
 (some ((false,()),())))
 (cond (n0.1==5)
 ((F6 n0.2.1).bind fun r4=>
 cond (r4.1.1)
 ((Fm n0.2.2.1).bind fun r5=>
 cond (r5.1.1)
 (some ((n0.2.2.2.1==([]:qBs),()),()))
 (some ((false,()),())))
 (some ((false,()),())))
 (cond (n0.1==16)
 (cond (n0.2.1==0)
 (cond (n0.2.2.1==([]:qBs))
 ((GS n0.2.2.2.1).bind fun r6=>
 cond (r6.1.1)
 ((Fj n0.2.2.2.1).bind fun r7=>
 some ((decide (r7.1.1 > (0:Int)),()),()))
 (some ((false,()),())))
 (some ((false,()),())))
 (some ((false,()),())))
 (cond (n0.1==17)
 (cond (n0.2.1==0)
 (cond (n0.2.2.1==([]:qBs))
 ((GS n0.2.2.2.1).bind fun r8=>
 cond (r8.1.1)
 ((Fj n0.2.2.2.1).bind fun r9=>
 some ((decide (r9.1.1 > (0:Int)),()),()))
 (some ((false,()),())))
 (some ((false,()),())))
 (some ((false,()),())))
 (cond (decide (n0.1>=1))
 (cond (decide (n0.1<=20))
 (cond (n0.2.1==0)
 (cond (n0.2.2.1==([]:qBs))
 (some ((n0.2.2.2.1==([]:qBs),()),()))
 (some ((false,()),())))
 (some ((false,()),())))
 (some ((false,()),())))
 (some ((false,()),())))))))
def Gk (op0:Int) (n1:Int):Option ((Bool×Unit)×Unit):=
 cond (op0==1)
 (some ((n1==0,()),()))
 (cond (op0==2)
 (some ((n1==0,()),()))
 (cond (op0==3)
 (some ((n1==0,()),()))
 (cond (op0==4)
 (some ((n1==0,()),()))
 (cond (op0==5)
 (cond (decide (n1>=1))
 (some ((decide (n1<=40),()),()))
 (some ((false,()),())))
 (cond (op0==6)
 (some ((n1==1,()),()))
 (cond (op0==16)
 (some ((n1==1,()),()))
 (cond (op0==17)
 (some ((n1==1,()),()))
 (cond (op0==20)
 (some ((n1==1,()),()))
 (cond (op0==7)
 (some ((true,()),()))
 (cond (op0==8)
 (some ((true,()),()))
 (cond (op0==14)
 (some ((decide (n1>=1),()),()))
 (cond (op0==10)
 (some ((n1==3,()),()))
 (cond (op0==19)
 (some ((n1==3,()),()))
 (some ((n1==2,()),())))))))))))))))
def Mx (x0:Int) (a1:Option Int):Option ((Bool×Unit)×Unit):=
 Ab (a1.isSome) (some ((x0 !=(a1.getD (0:Int)),()),()))
def JR (x:(List Int)×(Option Int)×Int×Int×Int×Unit):Option (Ex×((List Int)×(Option Int)×Int×Int×Int×Unit)):=
 let s0:=x.1
 let f1:=x.2.1
 let t4:=x.2.2.1
 let t7:=x.2.2.2.1
 let t8:=x.2.2.2.2.1
 cond (decide (t8 < t7))
 (Ab (decide (0<=t8)&&decide (t8 < s0.length)) (
 (Mx (s0.getD t8.toNat (0:Int)) f1).bind fun r1=>
 cond (r1.1.1)
 (some (Ex.ret,(s0,f1,t8,t7,t8,())))
 (some (Ex.normal,(s0,f1,t4,t7,qI (t8+1),())))))
 (some (Ex.exit 0,(s0,f1,t4,t7,t8,())))
def NR (s0:List Int) (f1:Option Int):Option ((Int×Unit)×Unit):=
 (Am JR (s0,f1,0,(s0.length:Int),0,())).bind fun y1=>
 cond (Ex.same y1.1 (Ex.exit 0))
 (some ((-1,()),()))
 (cond (Ex.same y1.1 Ex.ret)
 (some ((y1.2.2.2.1,()),()))
 (none))
def NV (s0:List Int) (f1:Option Int):Option ((Bool×Unit)×Unit):=
 (NR s0 f1).bind fun r1=>
 some ((decide (r1.1.1>=0),()),())
def De (sorts0:List Int) (s1:Int):Option ((Bool×Unit)×Unit):=
 (NV sorts0 (some s1)).bind fun r1=>
 some ((!r1.1.1,()),())
def BH (is0:Bool) (sort1:Int):Option ((Int×Unit)×Unit):=
 cond (is0)
 (some ((sort1,()),()))
 (some ((0,()),()))
def Fi (s0:Int):Option ((Bool×Unit)×Unit):=
 cond (s0==2)
 (some ((true,()),()))
 (some ((s0==3,()),()))
def Gz (n0:Aa) (sorts1:List Int):Option ((Int×Unit)×Unit):=
 cond (n0.1==3)
 (some ((n0.2.1,()),()))
 (cond (n0.1==4)
 (some ((n0.2.1,()),()))
 (cond (n0.1==5)
 (some ((n0.2.1,()),()))
 (cond (n0.1==1)
 ((De sorts1 1).bind fun r1=>
 (BH r1.1.1 1).bind fun r2=>
 some ((r2.1.1,()),()))
 (cond (n0.1==2)
 ((De sorts1 1).bind fun r3=>
 (BH r3.1.1 1).bind fun r4=>
 some ((r4.1.1,()),()))
 (cond (n0.1==6)
 ((De sorts1 1).bind fun r5=>
 (BH r5.1.1 1).bind fun r6=>
 some ((r6.1.1,()),()))
 (cond (n0.1==7)
 ((De sorts1 1).bind fun r7=>
 (BH r7.1.1 1).bind fun r8=>
 some ((r8.1.1,()),()))
 (cond (n0.1==8)
 ((De sorts1 1).bind fun r9=>
 (BH r9.1.1 1).bind fun r10=>
 some ((r10.1.1,()),()))
 (cond (n0.1==9)
 ((De sorts1 1).bind fun r11=>
 (BH r11.1.1 1).bind fun r12=>
 some ((r12.1.1,()),()))
 (cond (n0.1==10)
 (Ab (decide (0<=(0:Int))&&decide ((0:Int) < sorts1.length)) (
 cond ((sorts1.getD (0:Int).toNat (0:Int))==1)
 (Ab (decide (0<=(1:Int))&&decide ((1:Int) < sorts1.length)) (
 Ab (decide (0<=(2:Int))&&decide ((2:Int) < sorts1.length)) (
 Ab (decide (0<=(1:Int))&&decide ((1:Int) < sorts1.length)) (
 (BH ((sorts1.getD (1:Int).toNat (0:Int))==(sorts1.getD (2:Int).toNat (0:Int))) (sorts1.getD (1:Int).toNat (0:Int))).bind fun r13=>
 some ((r13.1.1,()),())))))
 (Ab (decide (0<=(1:Int))&&decide ((1:Int) < sorts1.length)) (
 (BH false (sorts1.getD (1:Int).toNat (0:Int))).bind fun r14=>
 some ((r14.1.1,()),())))))
 (cond (n0.1==11)
 (Ab (decide (0<=(0:Int))&&decide ((0:Int) < sorts1.length)) (
 Ab (decide (0<=(1:Int))&&decide ((1:Int) < sorts1.length)) (
 (BH ((sorts1.getD (0:Int).toNat (0:Int))==(sorts1.getD (1:Int).toNat (0:Int))) 1).bind fun r15=>
 some ((r15.1.1,()),()))))
 (cond (n0.1==12)
 (Ab (decide (0<=(0:Int))&&decide ((0:Int) < sorts1.length)) (
 (Fi (sorts1.getD (0:Int).toNat (0:Int))).bind fun r16=>
 cond (r16.1.1)
 (Ab (decide (0<=(0:Int))&&decide ((0:Int) < sorts1.length)) (
 (De sorts1 (sorts1.getD (0:Int).toNat (0:Int))).bind fun r17=>
 (BH r17.1.1 1).bind fun r18=>
 some ((r18.1.1,()),())))
 ((BH false 1).bind fun r19=>
 some ((r19.1.1,()),()))))
 (cond (n0.1==13)
 (Ab (decide (0<=(0:Int))&&decide ((0:Int) < sorts1.length)) (
 (Fi (sorts1.getD (0:Int).toNat (0:Int))).bind fun r20=>
 cond (r20.1.1)
 (Ab (decide (0<=(0:Int))&&decide ((0:Int) < sorts1.length)) (
 (De sorts1 (sorts1.getD (0:Int).toNat (0:Int))).bind fun r21=>
 (BH r21.1.1 1).bind fun r22=>
 some ((r22.1.1,()),())))
 ((BH false 1).bind fun r23=>
 some ((r23.1.1,()),()))))
 (cond (n0.1==14)
 (Ab (decide (0<=(0:Int))&&decide ((0:Int) < sorts1.length)) (
 (Fi (sorts1.getD (0:Int).toNat (0:Int))).bind fun r24=>
 cond (r24.1.1)
 (Ab (decide (0<=(0:Int))&&decide ((0:Int) < sorts1.length)) (
 (De sorts1 (sorts1.getD (0:Int).toNat (0:Int))).bind fun r25=>
 Ab (decide (0<=(0:Int))&&decide ((0:Int) < sorts1.length)) (
 (BH r25.1.1 (sorts1.getD (0:Int).toNat (0:Int))).bind fun r26=>
 some ((r26.1.1,()),()))))
 (Ab (decide (0<=(0:Int))&&decide ((0:Int) < sorts1.length)) (
 (BH false (sorts1.getD (0:Int).toNat (0:Int))).bind fun r27=>
 some ((r27.1.1,()),())))))
 (cond (n0.1==15)
 (Ab (decide (0<=(0:Int))&&decide ((0:Int) < sorts1.length)) (
 (Fi (sorts1.getD (0:Int).toNat (0:Int))).bind fun r28=>
 cond (r28.1.1)
 (Ab (decide (0<=(0:Int))&&decide ((0:Int) < sorts1.length)) (
 (De sorts1 (sorts1.getD (0:Int).toNat (0:Int))).bind fun r29=>
 Ab (decide (0<=(0:Int))&&decide ((0:Int) < sorts1.length)) (
 (BH r29.1.1 (sorts1.getD (0:Int).toNat (0:Int))).bind fun r30=>
 some ((r30.1.1,()),()))))
 (Ab (decide (0<=(0:Int))&&decide ((0:Int) < sorts1.length)) (
 (BH false (sorts1.getD (0:Int).toNat (0:Int))).bind fun r31=>
 some ((r31.1.1,()),())))))
 (cond (n0.1==16)
 (Ab (decide (0<=(0:Int))&&decide ((0:Int) < sorts1.length)) (
 (BH ((sorts1.getD (0:Int).toNat (0:Int))==2) 2).bind fun r32=>
 some ((r32.1.1,()),())))
 (cond (n0.1==17)
 (Ab (decide (0<=(0:Int))&&decide ((0:Int) < sorts1.length)) (
 (BH ((sorts1.getD (0:Int).toNat (0:Int))==2) 2).bind fun r33=>
 some ((r33.1.1,()),())))
 (cond (n0.1==18)
 (Ab (decide (0<=(0:Int))&&decide ((0:Int) < sorts1.length)) (
 cond ((sorts1.getD (0:Int).toNat (0:Int))==4)
 (Ab (decide (0<=(1:Int))&&decide ((1:Int) < sorts1.length)) (
 (BH ((sorts1.getD (1:Int).toNat (0:Int))==2) 2).bind fun r34=>
 some ((r34.1.1,()),())))
 ((BH false 2).bind fun r35=>
 some ((r35.1.1,()),()))))
 (cond (n0.1==19)
 (Ab (decide (0<=(0:Int))&&decide ((0:Int) < sorts1.length)) (
 cond ((sorts1.getD (0:Int).toNat (0:Int))==4)
 (Ab (decide (0<=(1:Int))&&decide ((1:Int)<=sorts1.length)) (
 (De (sorts1.drop (1:Int).toNat) 2).bind fun r36=>
 (BH r36.1.1 4).bind fun r37=>
 some ((r37.1.1,()),())))
 ((BH false 4).bind fun r38=>
 some ((r38.1.1,()),()))))
 (Ab (decide (0<=(0:Int))&&decide ((0:Int) < sorts1.length)) (
 (BH ((sorts1.getD (0:Int).toNat (0:Int))==2) 4).bind fun r39=>
 some ((r39.1.1,()),())))))))))))))))))))))
def H6 (v:Int) (i:Nat) (x:((List Aa)×List (Int×Af))×(Int×Af)×(List Int)×Unit):Option (((List Aa)×List (Int×Af))×(Int×Af)×(List Int)×Unit):=
 let v4:=x.1
 let p9:=x.2.1
 let sorts10:=x.2.2.1
 Ab (decide (0<=v)&&decide (v < v4.2.length)) (Ab (decide (v.toNat < v4.2.length)) (Ab (decide (sorts10.length+([(v4.2.getD v.toNat ((0:Int),(0:Int),(0:Int))).1]:List Int).length<=As)) (Ab (decide (0<=v)&&decide (v < v4.2.length)) (Ab (decide (v.toNat < v4.2.length)) (Ab (decide (0<=v)&&decide (v < v4.2.length)) (Ab (decide (v.toNat < v4.2.length)) (some (v4,(p9.1,BN p9.2.1 (qI ((((v4.2.getD v.toNat ((0:Int),(0:Int),(0:Int))).2).1)+1)),((v4.2.getD v.toNat ((0:Int),(0:Int),(0:Int))).2).2),sorts10++([(v4.2.getD v.toNat ((0:Int),(0:Int),(0:Int))).1]:List Int),()))))))))
def Hx (y:((List Aa)×List (Int×Af))×(Int×Af)×(List Int)×Unit) (o:((List Aa)×List (Int×Af))×(Int×Af)×(List Int)×Unit):((List Aa)×List (Int×Af))×(Int×Af)×(List Int)×Unit:=(o.1,o.2.1,o.2.2.1,())
def KW (y:((List Aa)×List (Int×Af))×(Int×Af)×(List Int)×Unit):((List Aa)×List (Int×Af))×(Int×Af)×(List Int)×Unit:=(y.1,y.2.1,y.2.2.1,())
def Fy (x:(List Aa)×(Option A4)×Bool×((List Aa)×List (Int×Af))×(List Int)×Int×Unit):Option (Ex×((List Aa)×(Option A4)×Bool×((List Aa)×List (Int×Af))×(List Int)×Int×Unit)):=
 let t0:=x.1
 let t2:=x.2.1
 let t3:=x.2.2.1
 let v4:=x.2.2.2.1
 let roots5:=x.2.2.2.2.1
 let i6:=x.2.2.2.2.2.1
 cond (decide (i6>=0))
 (Ab (decide (0<=i6)&&decide (i6 < t0.length)) (
 cond (decide ((((((t0.getD i6.toNat Ao).2).2).2).2) < (0:Int)))
 (some (Ex.ret,(t0,(none:Option A4),false,v4,roots5,i6,())))
 (cond (decide ((((((t0.getD i6.toNat Ao).2).2).2).2) > (roots5.length:Int)))
 (some (Ex.ret,(t0,(none:Option A4),false,v4,roots5,i6,())))
 ((IJ (t0.getD i6.toNat Ao)).bind fun r1=>
 cond (!r1.1.1)
 (some (Ex.ret,(t0,(none:Option A4),false,v4,roots5,i6,())))
 ((Gk ((t0.getD i6.toNat Ao).1) (((((t0.getD i6.toNat Ao).2).2).2).2)).bind fun r2=>
 cond (!r2.1.1)
 (some (Ex.ret,(t0,(none:Option A4),false,v4,roots5,i6,())))
 (Ab (decide (0<=qI ((roots5.length:Int) - (((((t0.getD i6.toNat Ao).2).2).2).2)))&&decide (qI ((roots5.length:Int) - (((((t0.getD i6.toNat Ao).2).2).2).2))<=roots5.length)) (
 Ab (decide (((roots5.drop ((qI ((roots5.length:Int) - (((((t0.getD i6.toNat Ao).2).2).2).2))).toNat)).take (roots5.length - (qI ((roots5.length:Int) - (((((t0.getD i6.toNat Ao).2).2).2).2))).toNat)).length<=As)) (((foldO (fun p y=>(H6 p.1 p.2 y).bind fun o=>some (Hx y o)) ((roots5.drop ((qI ((roots5.length:Int) - (((((t0.getD i6.toNat Ao).2).2).2).2))).toNat)).take (roots5.length - (qI ((roots5.length:Int) - (((((t0.getD i6.toNat Ao).2).2).2).2))).toNat)).zipIdx.reverse (v4,((0:Int),1,qI (i6+1)),([]:List Int),())).bind fun y=>some ((),KW y)).bind fun y3=>
 (Gz (t0.getD i6.toNat Ao) y3.2.2.2.1).bind fun r4=>
 cond (r4.1.1==0)
 (some (Ex.ret,(t0,(none:Option A4),false,y3.2.1,roots5,i6,())))
 (cond (((t0.getD i6.toNat Ao).1)==15)
 (Ab (decide (0<=qI (i6+1))&&decide (qI (i6+1) < t0.length)) (
 cond (((t0.getD (qI (i6+1)).toNat Ao).1) !=(3:Int))
 (some (Ex.ret,(t0,(none:Option A4),false,y3.2.1,roots5,i6,())))
 (Ab (decide (0<=i6)&&decide (i6 < y3.2.1.2.length)) (Ab (decide (i6.toNat < y3.2.1.2.length)) (Ab (decide (0<=qI ((roots5.length:Int) - (((((t0.getD i6.toNat Ao).2).2).2).2)))&&decide (qI ((roots5.length:Int) - (((((t0.getD i6.toNat Ao).2).2).2).2))<=roots5.length)) (Ab (decide (((qI ((roots5.length:Int) - (((((t0.getD i6.toNat Ao).2).2).2).2))).toNat)+([i6]:List Int).length<=As)) (some (Ex.normal,(t0,t2,t3,(y3.2.1.1,y3.2.1.2.set i6.toNat (r4.1.1,y3.2.2.1.2)),roots5.take ((qI ((roots5.length:Int) - (((((t0.getD i6.toNat Ao).2).2).2).2))).toNat)++([i6]:List Int),qI (i6 - (1:Int)),())))))))))
 (Ab (decide (0<=i6)&&decide (i6 < y3.2.1.2.length)) (Ab (decide (i6.toNat < y3.2.1.2.length)) (Ab (decide (0<=qI ((roots5.length:Int) - (((((t0.getD i6.toNat Ao).2).2).2).2)))&&decide (qI ((roots5.length:Int) - (((((t0.getD i6.toNat Ao).2).2).2).2))<=roots5.length)) (Ab (decide (((qI ((roots5.length:Int) - (((((t0.getD i6.toNat Ao).2).2).2).2))).toNat)+([i6]:List Int).length<=As)) (some (Ex.normal,(t0,t2,t3,(y3.2.1.1,y3.2.1.2.set i6.toNat (r4.1.1,y3.2.2.1.2)),roots5.take ((qI ((roots5.length:Int) - (((((t0.getD i6.toNat Ao).2).2).2).2))).toNat)++([i6]:List Int),qI (i6 - (1:Int)),()))))))))))))))))
 (some (Ex.exit 0,(t0,t2,t3,v4,roots5,i6,())))
def Gt (t0:List Aa):Option (((Option A4)×Bool×Unit)×Unit):=
 Ab (decide (0<=(t0.length:Int))&&decide ((t0.length:Int)<=(t0.length:Int))&&decide ((t0.length:Int)<=As)) (
 (Am Fy (t0,(none:Option A4),false,(t0,List.replicate (t0.length:Int).toNat ((0:Int),(0:Int),(0:Int))),([]:List Int),qI ((t0.length:Int) - (1:Int)),())).bind fun y1=>
 cond (Ex.same y1.1 (Ex.exit 0))
 (some ((some y1.2.2.2.2.1,(y1.2.2.2.2.2.1.length:Int)==1,()),()))
 (cond (Ex.same y1.1 Ex.ret)
 (some ((y1.2.2.1,y1.2.2.2.1,()),()))
 (none)))
def E8 (v0:Option A4):Option ((Bool×Unit)×Unit):=
 Ab (v0.isSome) (
 cond (decide ((((v0.getD Bj).1).length:Int) > (20000:Int)))
 (some ((true,()),()))
 (Ab (v0.isSome) (Ab (decide (0<=(0:Int))&&decide ((0:Int) < ((v0.getD Bj).2).length)) (some ((decide ((((((v0.getD Bj).2).getD (0:Int).toNat ((0:Int),(0:Int),(0:Int))).2).1) > (257:Int)),()),())))))
def Ji (x:(Option A4)×(List Int)×Int×Int×Int×Unit):Option (Ex×((Option A4)×(List Int)×Int×Int×Int×Unit)):=
 let v0:=x.1
 let out5:=x.2.1
 let at6:=x.2.2.1
 let t16:=x.2.2.2.1
 let t17:=x.2.2.2.2.1
 cond (decide (t17 < t16))
 (Ab (decide (out5.length+([at6]:List Int).length<=As)) (Ab (v0.isSome) (Ab (decide (0<=at6)&&decide (at6 < ((v0.getD Bj).2).length)) (some (Ex.normal,(v0,out5++([at6]:List Int),((((v0.getD Bj).2).getD at6.toNat ((0:Int),(0:Int),(0:Int))).2).2,t16,qI (t17+1),()))))))
 (some (Ex.exit 0,(v0,out5,at6,t16,t17,())))
def Io (v0:Option A4) (i1:Int):Option (((List Int)×Unit)×Unit):=
 Ab (v0.isSome) (
 Ab (decide (0<=i1)&&decide (i1 < ((v0.getD Bj).1).length)) (
 (Am Ji (v0,([]:List Int),qI (i1+1),((((((v0.getD Bj).1).getD i1.toNat Ao).2).2).2).2,0,())).bind fun y1=>
 cond (Ex.same y1.1 (Ex.exit 0))
 (some ((y1.2.2.1,()),()))
 (none)))
def t_view_signature_s3 (x:(Option A4)×(qBs×Ac)×(qBs×(List Int)×Int)×(List Int)×Int×Int×Unit):Option (Ex×((Option A4)×(qBs×Ac)×(qBs×(List Int)×Int)×(List Int)×Int×Int×Unit)):=
 let v0:=x.1
 let t4:=x.2.1
 let f5:=x.2.2.1
 let t27:=x.2.2.2.1
 let t28:=x.2.2.2.2.1
 let t29:=x.2.2.2.2.2.1
 cond (decide (t29 < t28))
 (Ab (decide (0<=t29)&&decide (t29 < t27.length)) (Ab (v0.isSome) (Ab (decide (0<=t27.getD t29.toNat (0:Int))&&decide (t27.getD t29.toNat (0:Int) < ((v0.getD Bj).2).length)) (Ab (decide (f5.2.1.length+([(((v0.getD Bj).2).getD (t27.getD t29.toNat (0:Int)).toNat ((0:Int),(0:Int),(0:Int))).1]:List Int).length<=As)) (some (Ex.normal,(v0,t4,(f5.1,f5.2.1++([(((v0.getD Bj).2).getD (t27.getD t29.toNat (0:Int)).toNat ((0:Int),(0:Int),(0:Int))).1]:List Int),f5.2.2),t27,t28,qI (t29+1),())))))))
 (some (Ex.exit 0,(v0,t4,f5,t27,t28,t29,())))
def Lc (v0:Option A4) (i1:Int):Option (((qBs×Ac)×Unit)×Unit):=
 Ab (v0.isSome) (
 Ab (decide (0<=i1)&&decide (i1 < ((v0.getD Bj).1).length)) (
 Ab (v0.isSome) (
 Ab (decide (0<=i1)&&decide (i1 < ((v0.getD Bj).1).length)) (
 (Io v0 i1).bind fun r1=>
 (Am t_view_signature_s3 (v0,(([]:qBs),([]:List Int),(0:Int)),((((((v0.getD Bj).1).getD i1.toNat Ao).2).2).1,([]:List Int),((((v0.getD Bj).1).getD i1.toNat Ao).2).1),r1.1.1,(r1.1.1.length:Int),0,())).bind fun y2=>
 cond (Ex.same y2.1 (Ex.exit 0))
 (some ((y2.2.2.2.1,()),()))
 (none)))))
def IQ (x:(List Int)×(List Int)×Bool×Int×Int×Unit):Option (Ex×((List Int)×(List Int)×Bool×Int×Int×Unit)):=
 let s10:=x.1
 let s21:=x.2.1
 let t4:=x.2.2.1
 let t12:=x.2.2.2.1
 let t13:=x.2.2.2.2.1
 cond (decide (t13 < t12))
 (Ab (decide (0<=t13)&&decide (t13 < s10.length)) (
 Ab (decide (0<=t13)&&decide (t13 < s21.length)) (
 cond ((s10.getD t13.toNat (0:Int)) !=(s21.getD t13.toNat (0:Int)))
 (some (Ex.ret,(s10,s21,false,t12,t13,())))
 (some (Ex.normal,(s10,s21,t4,t12,qI (t13+1),()))))))
 (some (Ex.exit 0,(s10,s21,t4,t12,t13,())))
def L9 (s10:List Int) (s21:List Int):Option ((Bool×Unit)×Unit):=
 cond ((s10.length:Int) !=(s21.length:Int))
 (some ((false,()),()))
 ((Am IQ (s10,s21,false,(s10.length:Int),0,())).bind fun y1=>
 cond (Ex.same y1.1 (Ex.exit 0))
 (some ((true,()),()))
 (cond (Ex.same y1.1 Ex.ret)
 (some ((y1.2.2.2.1,()),()))
 (none)))
def IZ (f0:qBs×Ac) (g1:qBs×Ac):Option ((Bool×Unit)×Unit):=
 cond (f0.1==g1.1)
 (cond (f0.2.2==g1.2.2)
 ((L9 f0.2.1 g1.2.1).bind fun r1=>
 some ((r1.1.1,()),()))
 (some ((false,()),())))
 (some ((false,()),()))
def F8 (x:(Option A4)×(List Vr)×(List (qBs×Ac))×Bool×(List (qBs×Vr))×(List (qBs×qBs×Ac))×(List Vr)×(List (qBs×Ac))×(List Aa)×Int×Int×Unit):Option (Ex×((Option A4)×(List Vr)×(List (qBs×Ac))×Bool×(List (qBs×Vr))×(List (qBs×qBs×Ac))×(List Vr)×(List (qBs×Ac))×(List Aa)×Int×Int×Unit)):=
 let v0:=x.1
 let t2:=x.2.1
 let t3:=x.2.2.1
 let t4:=x.2.2.2.1
 let vars5:=x.2.2.2.2.1
 let funcs6:=x.2.2.2.2.2.1
 let l7:=x.2.2.2.2.2.2.1
 let m8:=x.2.2.2.2.2.2.2.1
 let t25:=x.2.2.2.2.2.2.2.2.1
 let t26:=x.2.2.2.2.2.2.2.2.2.1
 let t27:=x.2.2.2.2.2.2.2.2.2.2.1
 cond (decide (t27 < t26))
 (Ab (decide (0<=t27)&&decide (t27 < t25.length)) (
 cond (((t25.getD t27.toNat Ao).1)==4)
 (cond (!((AT ((((t25.getD t27.toNat Ao).2).2).1) vars5).isSome))
 (Ab (decide (l7.length+([((((t25.getD t27.toNat Ao).2).2).1,((t25.getD t27.toNat Ao).2).1)]:List Vr).length<=As)) (
 cond ((AT ((((t25.getD t27.toNat Ao).2).2).1) funcs6).isSome)
 (some (Ex.ret,(v0,([]:List Vr),([]:List (qBs×Ac)),false,Bw ((((t25.getD t27.toNat Ao).2).2).1) ((((t25.getD t27.toNat Ao).2).2).1,((t25.getD t27.toNat Ao).2).1) vars5,funcs6,l7++([((((t25.getD t27.toNat Ao).2).2).1,((t25.getD t27.toNat Ao).2).1)]:List Vr),m8,t25,t26,t27,())))
 (cond ((((t25.getD t27.toNat Ao).2).1) !=(((t25.getD t27.toNat Ao).2).1))
 (some (Ex.ret,(v0,([]:List Vr),([]:List (qBs×Ac)),false,Bw ((((t25.getD t27.toNat Ao).2).2).1) ((((t25.getD t27.toNat Ao).2).2).1,((t25.getD t27.toNat Ao).2).1) vars5,funcs6,l7++([((((t25.getD t27.toNat Ao).2).2).1,((t25.getD t27.toNat Ao).2).1)]:List Vr),m8,t25,t26,t27,())))
 (some (Ex.normal,(v0,t2,t3,t4,Bw ((((t25.getD t27.toNat Ao).2).2).1) ((((t25.getD t27.toNat Ao).2).2).1,((t25.getD t27.toNat Ao).2).1) vars5,funcs6,l7++([((((t25.getD t27.toNat Ao).2).2).1,((t25.getD t27.toNat Ao).2).1)]:List Vr),m8,t25,t26,qI (t27+1),()))))))
 (cond ((AT ((((t25.getD t27.toNat Ao).2).2).1) funcs6).isSome)
 (some (Ex.ret,(v0,([]:List Vr),([]:List (qBs×Ac)),false,vars5,funcs6,l7,m8,t25,t26,t27,())))
 (cond ((((AT ((((t25.getD t27.toNat Ao).2).2).1) vars5).getD BT).2) !=(((t25.getD t27.toNat Ao).2).1))
 (some (Ex.ret,(v0,([]:List Vr),([]:List (qBs×Ac)),false,vars5,funcs6,l7,m8,t25,t26,t27,())))
 (some (Ex.normal,(v0,t2,t3,t4,vars5,funcs6,l7,m8,t25,t26,qI (t27+1),()))))))
 (cond (((t25.getD t27.toNat Ao).1)==5)
 ((Lc v0 t27).bind fun r1=>
 cond (!((AT ((((t25.getD t27.toNat Ao).2).2).1) funcs6).isSome))
 (Ab (decide (m8.length+([r1.1.1]:List (qBs×Ac)).length<=As)) (
 cond ((AT ((((t25.getD t27.toNat Ao).2).2).1) vars5).isSome)
 (some (Ex.ret,(v0,([]:List Vr),([]:List (qBs×Ac)),false,vars5,Bw ((((t25.getD t27.toNat Ao).2).2).1) r1.1.1 funcs6,l7,m8++([r1.1.1]:List (qBs×Ac)),t25,t26,t27,())))
 ((IZ r1.1.1 r1.1.1).bind fun r2=>
 cond (!r2.1.1)
 (some (Ex.ret,(v0,([]:List Vr),([]:List (qBs×Ac)),false,vars5,Bw ((((t25.getD t27.toNat Ao).2).2).1) r1.1.1 funcs6,l7,m8++([r1.1.1]:List (qBs×Ac)),t25,t26,t27,())))
 (some (Ex.normal,(v0,t2,t3,t4,vars5,Bw ((((t25.getD t27.toNat Ao).2).2).1) r1.1.1 funcs6,l7,m8++([r1.1.1]:List (qBs×Ac)),t25,t26,qI (t27+1),()))))))
 (cond ((AT ((((t25.getD t27.toNat Ao).2).2).1) vars5).isSome)
 (some (Ex.ret,(v0,([]:List Vr),([]:List (qBs×Ac)),false,vars5,funcs6,l7,m8,t25,t26,t27,())))
 ((IZ ((AT ((((t25.getD t27.toNat Ao).2).2).1) funcs6).getD (([]:qBs),([]:List Int),(0:Int))) r1.1.1).bind fun r3=>
 cond (!r3.1.1)
 (some (Ex.ret,(v0,([]:List Vr),([]:List (qBs×Ac)),false,vars5,funcs6,l7,m8,t25,t26,t27,())))
 (some (Ex.normal,(v0,t2,t3,t4,vars5,funcs6,l7,m8,t25,t26,qI (t27+1),()))))))
 (some (Ex.normal,(v0,t2,t3,t4,vars5,funcs6,l7,m8,t25,t26,qI (t27+1),()))))))
 (some (Ex.exit 0,(v0,t2,t3,t4,vars5,funcs6,l7,m8,t25,t26,t27,())))
def F7 (v0:Option A4):Option (((List Vr)×(List (qBs×Ac))×Bool×Unit)×Unit):=
 Ab (v0.isSome) (
 (Am F8 (v0,([]:List Vr),([]:List (qBs×Ac)),false,([]:List (qBs×Vr)),([]:List (qBs×qBs×Ac)),([]:List Vr),([]:List (qBs×Ac)),(v0.getD Bj).1,(((v0.getD Bj).1).length:Int),0,())).bind fun y1=>
 cond (Ex.same y1.1 (Ex.exit 0))
 (some ((y1.2.2.2.2.2.2.2.1,y1.2.2.2.2.2.2.2.2.1,true,()),()))
 (cond (Ex.same y1.1 Ex.ret)
 (some ((y1.2.2.1,y1.2.2.2.1,y1.2.2.2.2.1,()),()))
 (none)))
def E7 (t0:List Aa):Option (((Option A4)×Bool×Unit)×Unit):=
 cond ((t0.length:Int)==0)
 (some (((none:Option A4),false,()),()))
 (cond (decide ((t0.length:Int) > (20000:Int)))
 (some (((none:Option A4),false,()),()))
 ((Gt t0).bind fun r1=>
 cond (!r1.1.2.1)
 (some (((none:Option A4),false,()),()))
 ((E8 r1.1.1).bind fun r2=>
 cond (r2.1.1)
 (some (((none:Option A4),false,()),()))
 ((F7 r1.1.1).bind fun r3=>
 cond (!r3.1.2.2.1)
 (some (((none:Option A4),false,()),()))
 (some ((r1.1.1,true,()),()))))))
def KZ (s0:Option (List Aa)):Option (((List Aa)×Unit)×Unit):=
 Ab (Hw s0) (
 cond (s0.isNone)
 (some ((([]:List Aa),()),()))
 (cond (decide (0 < (s0.getD []).length))
 (Ab (decide (([]:List Aa).length+(s0.getD []).length<=As)) (some ((([]:List Aa)++(s0.getD []),()),())))
 (some ((([]:List Aa),()),()))))
def HZ (x:(List Aa)×(Option A4)×(List (List Aa))×(List Int)×Int×Int×Unit):Option (Ex×((List Aa)×(Option A4)×(List (List Aa))×(List Int)×Int×Int×Unit)):=
 let t0:=x.1
 let v3:=x.2.1
 let out5:=x.2.2.1
 let t16:=x.2.2.2.1
 let t17:=x.2.2.2.2.1
 let t18:=x.2.2.2.2.2.1
 cond (decide (t18 < t17))
 (Ab (decide (0<=t18)&&decide (t18 < t16.length)) (
 Ab (v3.isSome) (
 Ab (decide (0<=t16.getD t18.toNat (0:Int))&&decide (t16.getD t18.toNat (0:Int) < ((v3.getD Bj).2).length)) (
 Ab (decide (0<=t16.getD t18.toNat (0:Int))&&decide (t16.getD t18.toNat (0:Int)<=((((v3.getD Bj).2).getD (t16.getD t18.toNat (0:Int)).toNat ((0:Int),(0:Int),(0:Int))).2).2)&&decide (((((v3.getD Bj).2).getD (t16.getD t18.toNat (0:Int)).toNat ((0:Int),(0:Int),(0:Int))).2).2<=t0.length)) (
 (KZ (some ((t0.take (((((v3.getD Bj).2).getD (t16.getD t18.toNat (0:Int)).toNat ((0:Int),(0:Int),(0:Int))).2).2).toNat).drop (t16.getD t18.toNat (0:Int)).toNat))).bind fun r1=>
 Ab (decide (out5.length+([r1.1.1]:List (List Aa)).length<=As)) (some (Ex.normal,(t0,v3,out5++([r1.1.1]:List (List Aa)),t16,t17,qI (t18+1),()))))))))
 (some (Ex.exit 0,(t0,v3,out5,t16,t17,t18,())))
def Ll (t0:List Aa):Option (((List (List Aa))×Unit)×Unit):=
 (E7 t0).bind fun r1=>
 cond (!r1.1.2.1)
 (some ((([]:List (List Aa)),()),()))
 ((Io r1.1.1 0).bind fun r2=>
 (Am HZ (t0,r1.1.1,([]:List (List Aa)),r2.1.1,(r2.1.1.length:Int),0,())).bind fun y3=>
 cond (Ex.same y3.1 (Ex.exit 0))
 (some ((y3.2.2.2.1,()),()))
 (none))
def K3 (t0:List Aa):Option ((Bool×Unit)×Unit):=
 (E7 t0).bind fun r1=>
 some ((r1.1.2.1,()),())
def JC (t0:List Aa):Option ((Int×Unit)×Unit):=
 (E7 t0).bind fun r1=>
 cond (!r1.1.2.1)
 (some ((0,()),()))
 (Ab (r1.1.1.isSome) (Ab (decide (0<=(0:Int))&&decide ((0:Int) < ((r1.1.1.getD Bj).2).length)) (some ((((((r1.1.1.getD Bj).2).getD (0:Int).toNat ((0:Int),(0:Int),(0:Int))).2).1,()),()))))
def EK (t0:List Aa):Option ((Int×Unit)×Unit):=
 (E7 t0).bind fun r1=>
 cond (!r1.1.2.1)
 (some ((0,()),()))
 (Ab (r1.1.1.isSome) (Ab (decide (0<=(0:Int))&&decide ((0:Int) < ((r1.1.1.getD Bj).2).length)) (some (((((r1.1.1.getD Bj).2).getD (0:Int).toNat ((0:Int),(0:Int),(0:Int))).1,()),()))))
def FW (x:Aa×(List Aa)×Int×(List Int)×(List Aa)×(List (List Aa))×Int×Int×Unit):Option (Ex×(Aa×(List Aa)×Int×(List Int)×(List Aa)×(List (List Aa))×Int×Int×Unit)):=
 let n2:=x.1
 let t4:=x.2.1
 let t5:=x.2.2.1
 let sorts6:=x.2.2.2.1
 let t7:=x.2.2.2.2.1
 let t21:=x.2.2.2.2.2.1
 let t22:=x.2.2.2.2.2.2.1
 let t23:=x.2.2.2.2.2.2.2.1
 cond (decide (t23 < t22))
 (Ab (decide (0<=t23)&&decide (t23 < t21.length)) (
 (EK (t21.getD t23.toNat ([]:List Aa))).bind fun r1=>
 cond (r1.1.1==0)
 (some (Ex.ret,(n2,([]:List Aa),1,sorts6,t7,t21,t22,t23,())))
 (Ab (decide (sorts6.length+([r1.1.1]:List Int).length<=As)) (Ab (decide (t7.length+(t21.getD t23.toNat ([]:List Aa)).length<=As)) (some (Ex.normal,(n2,t4,t5,sorts6++([r1.1.1]:List Int),t7++(t21.getD t23.toNat ([]:List Aa)),t21,t22,qI (t23+1),())))))))
 (some (Ex.exit 0,(n2,t4,t5,sorts6,t7,t21,t22,t23,())))
def C7 (n0:Aa) (kids1:List (List Aa)):Option (((List Aa)×Int×Unit)×Unit):=
 (Am FW ((n0.1,n0.2.1,n0.2.2.1,n0.2.2.2.1,(kids1.length:Int)),([]:List Aa),0,([]:List Int),([(n0.1,n0.2.1,n0.2.2.1,n0.2.2.2.1,(kids1.length:Int))]:List Aa),kids1,(kids1.length:Int),0,())).bind fun y1=>
 cond (Ex.same y1.1 (Ex.exit 0))
 ((IJ y1.2.1).bind fun r2=>
 cond (!r2.1.1)
 (some ((([]:List Aa),8,()),()))
 ((Gk y1.2.1.1 y1.2.1.2.2.2.2).bind fun r3=>
 cond (!r3.1.1)
 (some ((([]:List Aa),8,()),()))
 (cond (y1.2.1.1==15)
 (Ab (decide (0<=(1:Int))&&decide ((1:Int) < y1.2.2.2.2.2.1.length)) (
 cond (((y1.2.2.2.2.2.1.getD (1:Int).toNat Ao).1) !=(3:Int))
 (some ((([]:List Aa),8,()),()))
 ((Gz y1.2.1 y1.2.2.2.2.1).bind fun r4=>
 cond (r4.1.1==0)
 (some ((([]:List Aa),3,()),()))
 ((Gt y1.2.2.2.2.2.1).bind fun r5=>
 (F7 r5.1.1).bind fun r6=>
 cond (!r6.1.2.2.1)
 (some ((([]:List Aa),3,()),()))
 ((E8 r5.1.1).bind fun r7=>
 cond (r7.1.1)
 (some ((([]:List Aa),6,()),()))
 (some ((y1.2.2.2.2.2.1,0,()),())))))))
 ((Gz y1.2.1 y1.2.2.2.2.1).bind fun r8=>
 cond (r8.1.1==0)
 (some ((([]:List Aa),3,()),()))
 ((Gt y1.2.2.2.2.2.1).bind fun r9=>
 (F7 r9.1.1).bind fun r10=>
 cond (!r10.1.2.2.1)
 (some ((([]:List Aa),3,()),()))
 ((E8 r9.1.1).bind fun r11=>
 cond (r11.1.1)
 (some ((([]:List Aa),6,()),()))
 (some ((y1.2.2.2.2.2.1,0,()),()))))))))
 (cond (Ex.same y1.1 Ex.ret)
 (some ((y1.2.2.1,y1.2.2.2.1,()),()))
 (none))
def GH (a0:Int) (b1:Int):Option ((Int×Unit)×Unit):=
 cond (decide (a0 < b1))
 (some ((-1,()),()))
 (cond (decide (a0 > b1))
 (some ((1,()),()))
 (some ((0,()),())))
def JQ (a0:qBs) (b1:qBs):Option ((Int×Unit)×Unit):=
 cond (CZ a0 b1)
 (some ((-1,()),()))
 (cond (!(CZ a0 b1||a0==b1))
 (some ((1,()),()))
 (some ((0,()),())))
def ON (x:(List Aa)×(List Aa)×Int×Int×Unit):Option ((List Aa)×(List Aa)×Int×Int×Aa×Aa×Unit):=
 let a0:=x.1
 let b1:=x.2.1
 let t4:=x.2.2.1
 let i5:=x.2.2.2.1
 Ab (decide (0<=i5)&&decide (i5 < a0.length)) (Ab (decide (0<=i5)&&decide (i5 < b1.length)) (some (a0,b1,t4,i5,a0.getD i5.toNat Ao,b1.getD i5.toNat Ao,())))
def DJ (x:(List Aa)×(List Aa)×Int×Int×(Option (Int×Int×Int×Af))×Int×Unit):Option (Ex×((List Aa)×(List Aa)×Int×Int×(Option (Int×Int×Int×Af))×Int×Unit)):=
 let a0:=x.1
 let b1:=x.2.1
 let t4:=x.2.2.1
 let i5:=x.2.2.2.1
 let c8:=x.2.2.2.2.1
 let k9:=x.2.2.2.2.2.1
 cond (decide (k9 < (5:Int)))
 (Ab (c8.isSome) (
 Ab (decide (0<=k9)&&decide (k9 < (5:Nat))) (
 cond ((([(c8.getD ((0:Int),(0:Int),(0:Int),(0:Int),(0:Int))).1,((c8.getD ((0:Int),(0:Int),(0:Int),(0:Int),(0:Int))).2).1,(((c8.getD ((0:Int),(0:Int),(0:Int),(0:Int),(0:Int))).2).2).1,((((c8.getD ((0:Int),(0:Int),(0:Int),(0:Int),(0:Int))).2).2).2).1,((((c8.getD ((0:Int),(0:Int),(0:Int),(0:Int),(0:Int))).2).2).2).2]:List Int).getD k9.toNat (0:Int)) !=(0:Int))
 (Ab (c8.isSome) (Ab (decide (0<=k9)&&decide (k9 < (5:Nat))) (some (Ex.ret,(a0,b1,([(c8.getD ((0:Int),(0:Int),(0:Int),(0:Int),(0:Int))).1,((c8.getD ((0:Int),(0:Int),(0:Int),(0:Int),(0:Int))).2).1,(((c8.getD ((0:Int),(0:Int),(0:Int),(0:Int),(0:Int))).2).2).1,((((c8.getD ((0:Int),(0:Int),(0:Int),(0:Int),(0:Int))).2).2).2).1,((((c8.getD ((0:Int),(0:Int),(0:Int),(0:Int),(0:Int))).2).2).2).2]:List Int).getD k9.toNat (0:Int),i5,c8,k9,())))))
 (some (Ex.normal,(a0,b1,t4,i5,c8,qI (k9+1),()))))))
 (some (Ex.exit 2,(a0,b1,t4,i5,c8,k9,())))
def Ge (x:(List Aa)×(List Aa)×Int×Int×Unit):Option (Ex×((List Aa)×(List Aa)×Int×Int×Unit)):=
 let a0:=x.1
 let b1:=x.2.1
 let t4:=x.2.2.1
 let i5:=x.2.2.2.1
 cond (decide (i5 < (a0.length:Int)))
 (cond (decide (i5 < (b1.length:Int)))
 ((ON (a0,b1,t4,i5,())).bind fun y1=>
 (GH y1.2.2.2.2.1.1 y1.2.2.2.2.2.1.1).bind fun r2=>
 (GH y1.2.2.2.2.1.2.1 y1.2.2.2.2.2.1.2.1).bind fun r3=>
 (JQ y1.2.2.2.2.1.2.2.1 y1.2.2.2.2.2.1.2.2.1).bind fun r4=>
 (JQ y1.2.2.2.2.1.2.2.2.1 y1.2.2.2.2.2.1.2.2.2.1).bind fun r5=>
 (GH y1.2.2.2.2.1.2.2.2.2 y1.2.2.2.2.2.1.2.2.2.2).bind fun r6=>
 (Am DJ (y1.1,y1.2.1,y1.2.2.1,y1.2.2.2.1,some (r2.1.1,r3.1.1,r4.1.1,r5.1.1,r6.1.1),0,())).bind fun y7=>
 cond (Ex.same y7.1 (Ex.exit 2))
 (some (Ex.normal,(y7.2.1,y7.2.2.1,y7.2.2.2.1,qI (y7.2.2.2.2.1+1),())))
 (cond (Ex.same y7.1 Ex.ret)
 (some (Ex.ret,(y7.2.1,y7.2.2.1,y7.2.2.2.1,y7.2.2.2.2.1,())))
 (none)))
 (some (Ex.exit 0,(a0,b1,t4,i5,()))))
 (some (Ex.exit 0,(a0,b1,t4,i5,())))
def Md (a0:List Aa) (b1:List Aa):Option ((Int×Unit)×Unit):=
 (Am Ge (a0,b1,0,0,())).bind fun y1=>
 cond (Ex.same y1.1 (Ex.exit 0))
 ((GH (y1.2.1.length:Int) (y1.2.2.1.length:Int)).bind fun r2=>
 some ((r2.1.1,()),()))
 (cond (Ex.same y1.1 Ex.ret)
 (some ((y1.2.2.2.1,()),()))
 (none))
def KT (a0:List Aa) (b1:List Aa):Option ((Bool×Unit)×Unit):=
 (Md a0 b1).bind fun r1=>
 some ((r1.1.1==0,()),())
def RR (c0:Int):Option ((Bool×Unit)×Unit):=
 cond (c0==32)
 (some ((true,()),()))
 (cond (c0==9)
 (some ((true,()),()))
 (cond (c0==13)
 (some ((true,()),()))
 (some ((c0==10,()),()))))
def Tr (x:(qBs×Int×(List (Int×qBs×Af))×List Int)×Unit):Option (Ex×((qBs×Int×(List (Int×qBs×Af))×List Int)×Unit)):=
 let r0:=x.1
 cond (decide (r0.2.1 < (r0.1.length:Int)))
 (Ab (decide (0<=r0.2.1)&&decide (r0.2.1 < r0.1.length)) (
 cond (((r0.1.getD r0.2.1.toNat 0).toNat:Int) !=(10:Int))
 (some (Ex.normal,((r0.1,qI (r0.2.1+1),r0.2.2),())))
 (some (Ex.exit 3,(r0,())))))
 (some (Ex.exit 3,(r0,())))
def PI (x:(qBs×Int×(List (Int×qBs×Af))×List Int)×Unit):Option (Ex×((qBs×Int×(List (Int×qBs×Af))×List Int)×Unit)):=
 let r0:=x.1
 cond (decide (r0.2.1 < (r0.1.length:Int)))
 (Ab (decide (0<=r0.2.1)&&decide (r0.2.1 < r0.1.length)) (
 (RR ((r0.1.getD r0.2.1.toNat 0).toNat:Int)).bind fun r1=>
 cond (r1.1.1)
 (some (Ex.normal,((r0.1,qI (r0.2.1+1),r0.2.2),())))
 (cond (((r0.1.getD r0.2.1.toNat 0).toNat:Int)==59)
 ((Am Tr (r0,())).bind fun y2=>
 cond (Ex.same y2.1 (Ex.exit 3))
 (some (Ex.normal,(y2.2.1,())))
 (none))
 (some (Ex.ret,(r0,()))))))
 (some (Ex.exit 0,(r0,())))
def MP (r0:qBs×Int×(List (Int×qBs×Af))×List Int):Option ((Unit)×((qBs×Int×(List (Int×qBs×Af))×List Int)×Unit)):=
 (Am PI (r0,())).bind fun y1=>
 cond (Ex.same y1.1 (Ex.exit 0))
 (some ((),y1.2.1,()))
 (cond (Ex.same y1.1 Ex.ret)
 (some ((),y1.2.1,()))
 (none))
def Lo (r0:qBs×Int×(List (Int×qBs×Af))×List Int) (kind1:Int) (text2:qBs) (pos3:Int):Option ((Int×Unit)×((qBs×Int×(List (Int×qBs×Af))×List Int)×Unit)):=
 cond (decide ((r0.2.2.2.length:Int) > (256:Int)))
 (some ((6,()),r0,()))
 (cond (decide ((r0.2.2.2.length:Int) > (0:Int)))
 (Ab (decide (0<=qI ((r0.2.2.2.length:Int) - (1:Int)))&&decide (qI ((r0.2.2.2.length:Int) - (1:Int)) < r0.2.2.2.length)) (
 Ab (decide ((qI ((r0.2.2.2.length:Int) - (1:Int))).toNat < r0.2.2.2.length)) (
 Ab (decide (0<=r0.2.2.2.getD ((qI ((r0.2.2.2.length:Int) - (1:Int))).toNat) (0:Int))&&decide (r0.2.2.2.getD ((qI ((r0.2.2.2.length:Int) - (1:Int))).toNat) (0:Int) < r0.2.2.1.length)) (
 Ab (decide ((r0.2.2.2.getD ((qI ((r0.2.2.2.length:Int) - (1:Int))).toNat) (0:Int)).toNat < r0.2.2.1.length)) (
 Ab (decide (0<=r0.2.2.2.getD ((qI ((r0.2.2.2.length:Int) - (1:Int))).toNat) (0:Int))&&decide (r0.2.2.2.getD ((qI ((r0.2.2.2.length:Int) - (1:Int))).toNat) (0:Int) < r0.2.2.1.length)) (
 Ab (decide ((r0.2.2.2.getD ((qI ((r0.2.2.2.length:Int) - (1:Int))).toNat) (0:Int)).toNat < r0.2.2.1.length)) (
 cond (kind1==5)
 (Ab (decide (r0.2.2.2.length+([((r0.2.2.1.set ((r0.2.2.2.getD ((qI ((r0.2.2.2.length:Int) - (1:Int))).toNat) (0:Int)).toNat) ((r0.2.2.1.getD ((r0.2.2.2.getD ((qI ((r0.2.2.2.length:Int) - (1:Int))).toNat) (0:Int)).toNat) ((0:Int),([]:qBs),(0:Int),(0:Int))).1,((r0.2.2.1.getD ((r0.2.2.2.getD ((qI ((r0.2.2.2.length:Int) - (1:Int))).toNat) (0:Int)).toNat) ((0:Int),([]:qBs),(0:Int),(0:Int))).2).1,qI (((((r0.2.2.1.getD ((r0.2.2.2.getD ((qI ((r0.2.2.2.length:Int) - (1:Int))).toNat) (0:Int)).toNat) ((0:Int),([]:qBs),(0:Int),(0:Int))).2).2).1)+1),(((r0.2.2.1.getD ((r0.2.2.2.getD ((qI ((r0.2.2.2.length:Int) - (1:Int))).toNat) (0:Int)).toNat) ((0:Int),([]:qBs),(0:Int),(0:Int))).2).2).2)).length:Int)]:List Int).length<=As)) (Ab (decide ((r0.2.2.1.set ((r0.2.2.2.getD ((qI ((r0.2.2.2.length:Int) - (1:Int))).toNat) (0:Int)).toNat) ((r0.2.2.1.getD ((r0.2.2.2.getD ((qI ((r0.2.2.2.length:Int) - (1:Int))).toNat) (0:Int)).toNat) ((0:Int),([]:qBs),(0:Int),(0:Int))).1,((r0.2.2.1.getD ((r0.2.2.2.getD ((qI ((r0.2.2.2.length:Int) - (1:Int))).toNat) (0:Int)).toNat) ((0:Int),([]:qBs),(0:Int),(0:Int))).2).1,qI (((((r0.2.2.1.getD ((r0.2.2.2.getD ((qI ((r0.2.2.2.length:Int) - (1:Int))).toNat) (0:Int)).toNat) ((0:Int),([]:qBs),(0:Int),(0:Int))).2).2).1)+1),(((r0.2.2.1.getD ((r0.2.2.2.getD ((qI ((r0.2.2.2.length:Int) - (1:Int))).toNat) (0:Int)).toNat) ((0:Int),([]:qBs),(0:Int),(0:Int))).2).2).2)).length+([(kind1,text2,(0:Int),pos3)]:List (Int×qBs×Af)).length<=As)) (some ((0,()),(r0.1,r0.2.1,(r0.2.2.1.set ((r0.2.2.2.getD ((qI ((r0.2.2.2.length:Int) - (1:Int))).toNat) (0:Int)).toNat) ((r0.2.2.1.getD ((r0.2.2.2.getD ((qI ((r0.2.2.2.length:Int) - (1:Int))).toNat) (0:Int)).toNat) ((0:Int),([]:qBs),(0:Int),(0:Int))).1,((r0.2.2.1.getD ((r0.2.2.2.getD ((qI ((r0.2.2.2.length:Int) - (1:Int))).toNat) (0:Int)).toNat) ((0:Int),([]:qBs),(0:Int),(0:Int))).2).1,qI (((((r0.2.2.1.getD ((r0.2.2.2.getD ((qI ((r0.2.2.2.length:Int) - (1:Int))).toNat) (0:Int)).toNat) ((0:Int),([]:qBs),(0:Int),(0:Int))).2).2).1)+1),(((r0.2.2.1.getD ((r0.2.2.2.getD ((qI ((r0.2.2.2.length:Int) - (1:Int))).toNat) (0:Int)).toNat) ((0:Int),([]:qBs),(0:Int),(0:Int))).2).2).2))++([(kind1,text2,(0:Int),pos3)]:List (Int×qBs×Af)),r0.2.2.2++([((r0.2.2.1.set ((r0.2.2.2.getD ((qI ((r0.2.2.2.length:Int) - (1:Int))).toNat) (0:Int)).toNat) ((r0.2.2.1.getD ((r0.2.2.2.getD ((qI ((r0.2.2.2.length:Int) - (1:Int))).toNat) (0:Int)).toNat) ((0:Int),([]:qBs),(0:Int),(0:Int))).1,((r0.2.2.1.getD ((r0.2.2.2.getD ((qI ((r0.2.2.2.length:Int) - (1:Int))).toNat) (0:Int)).toNat) ((0:Int),([]:qBs),(0:Int),(0:Int))).2).1,qI (((((r0.2.2.1.getD ((r0.2.2.2.getD ((qI ((r0.2.2.2.length:Int) - (1:Int))).toNat) (0:Int)).toNat) ((0:Int),([]:qBs),(0:Int),(0:Int))).2).2).1)+1),(((r0.2.2.1.getD ((r0.2.2.2.getD ((qI ((r0.2.2.2.length:Int) - (1:Int))).toNat) (0:Int)).toNat) ((0:Int),([]:qBs),(0:Int),(0:Int))).2).2).2)).length:Int)]:List Int)),()))))
 (Ab (decide ((r0.2.2.1.set ((r0.2.2.2.getD ((qI ((r0.2.2.2.length:Int) - (1:Int))).toNat) (0:Int)).toNat) ((r0.2.2.1.getD ((r0.2.2.2.getD ((qI ((r0.2.2.2.length:Int) - (1:Int))).toNat) (0:Int)).toNat) ((0:Int),([]:qBs),(0:Int),(0:Int))).1,((r0.2.2.1.getD ((r0.2.2.2.getD ((qI ((r0.2.2.2.length:Int) - (1:Int))).toNat) (0:Int)).toNat) ((0:Int),([]:qBs),(0:Int),(0:Int))).2).1,qI (((((r0.2.2.1.getD ((r0.2.2.2.getD ((qI ((r0.2.2.2.length:Int) - (1:Int))).toNat) (0:Int)).toNat) ((0:Int),([]:qBs),(0:Int),(0:Int))).2).2).1)+1),(((r0.2.2.1.getD ((r0.2.2.2.getD ((qI ((r0.2.2.2.length:Int) - (1:Int))).toNat) (0:Int)).toNat) ((0:Int),([]:qBs),(0:Int),(0:Int))).2).2).2)).length+([(kind1,text2,(0:Int),pos3)]:List (Int×qBs×Af)).length<=As)) (some ((0,()),(r0.1,r0.2.1,(r0.2.2.1.set ((r0.2.2.2.getD ((qI ((r0.2.2.2.length:Int) - (1:Int))).toNat) (0:Int)).toNat) ((r0.2.2.1.getD ((r0.2.2.2.getD ((qI ((r0.2.2.2.length:Int) - (1:Int))).toNat) (0:Int)).toNat) ((0:Int),([]:qBs),(0:Int),(0:Int))).1,((r0.2.2.1.getD ((r0.2.2.2.getD ((qI ((r0.2.2.2.length:Int) - (1:Int))).toNat) (0:Int)).toNat) ((0:Int),([]:qBs),(0:Int),(0:Int))).2).1,qI (((((r0.2.2.1.getD ((r0.2.2.2.getD ((qI ((r0.2.2.2.length:Int) - (1:Int))).toNat) (0:Int)).toNat) ((0:Int),([]:qBs),(0:Int),(0:Int))).2).2).1)+1),(((r0.2.2.1.getD ((r0.2.2.2.getD ((qI ((r0.2.2.2.length:Int) - (1:Int))).toNat) (0:Int)).toNat) ((0:Int),([]:qBs),(0:Int),(0:Int))).2).2).2))++([(kind1,text2,(0:Int),pos3)]:List (Int×qBs×Af)),r0.2.2.2),()))))))))))
 (cond (kind1==5)
 (Ab (decide (r0.2.2.2.length+([(r0.2.2.1.length:Int)]:List Int).length<=As)) (Ab (decide (r0.2.2.1.length+([(kind1,text2,(0:Int),pos3)]:List (Int×qBs×Af)).length<=As)) (some ((0,()),(r0.1,r0.2.1,r0.2.2.1++([(kind1,text2,(0:Int),pos3)]:List (Int×qBs×Af)),r0.2.2.2++([(r0.2.2.1.length:Int)]:List Int)),()))))
 (Ab (decide (r0.2.2.1.length+([(kind1,text2,(0:Int),pos3)]:List (Int×qBs×Af)).length<=As)) (some ((0,()),(r0.1,r0.2.1,r0.2.2.1++([(kind1,text2,(0:Int),pos3)]:List (Int×qBs×Af)),r0.2.2.2),())))))
def Oi (c0:Int):Option ((Bool×Unit)×Unit):=
 cond (decide (c0>=32))
 (some ((decide (c0<=126),()),()))
 (some ((false,()),()))
def HE (b0:Unit×List Int) (c1:Int):Option ((Bool×Unit)×((Unit×List Int)×Unit)):=
 (Od ((),b0.2)).bind fun r1=>
 Ab (decide (r1.2.1.2.length+([c1]:List Int).length<=As)) (some ((false,()),((),r1.2.1.2++([c1]:List Int)),()))
def TU (x:(qBs×Int×(List (Int×qBs×Af))×List Int)×qBs×Bool×(Unit×List Int)×Unit):Option (Ex×(((qBs×Int×(List (Int×qBs×Af))×List Int)×qBs×Bool×(Unit×List Int)×Unit) ⊕ ((qBs×Int×(List (Int×qBs×Af))×List Int)×qBs×Bool×Unit))):=
 let r0:=x.1
 let t2:=x.2.1
 let t3:=x.2.2.1
 let b4:=x.2.2.2.1
 cond (decide (r0.2.1 < (r0.1.length:Int)))
 (Ab (decide (0<=r0.2.1)&&decide (r0.2.1 < r0.1.length)) (
 (Oi ((r0.1.getD r0.2.1.toNat 0).toNat:Int)).bind fun r1=>
 cond (!r1.1.1)
 (some (Ex.ret,Sum.inr (r0,([]:qBs),false,())))
 (cond (((r0.1.getD r0.2.1.toNat 0).toNat:Int) !=(34:Int))
 ((HE ((),b4.2) ((r0.1.getD r0.2.1.toNat 0).toNat:Int)).bind fun r2=>
 some (Ex.normal,Sum.inl ((r0.1,qI (r0.2.1+1),r0.2.2),t2,t3,((),r2.2.1.2),())))
 (cond (decide ((qI (r0.2.1+1)) < (r0.1.length:Int)))
 (Ab (decide (0<=qI (r0.2.1+1))&&decide (qI (r0.2.1+1) < r0.1.length)) (
 cond (((r0.1.getD (qI (r0.2.1+1)).toNat 0).toNat:Int)==34)
 ((HE ((),b4.2) ((r0.1.getD r0.2.1.toNat 0).toNat:Int)).bind fun r3=>
 some (Ex.normal,Sum.inl ((r0.1,qI ((qI (r0.2.1+1))+1),r0.2.2),t2,t3,((),r3.2.1.2),())))
 ((JB ((),b4.2)).bind fun r4=>
 some (Ex.ret,Sum.inr ((r0.1,qI (r0.2.1+1),r0.2.2),r4.1.1,true,())))))
 ((JB ((),b4.2)).bind fun r5=>
 some (Ex.ret,Sum.inr ((r0.1,qI (r0.2.1+1),r0.2.2),r5.1.1,true,())))))))
 (some (Ex.exit 0,Sum.inl (r0,t2,t3,((),b4.2),())))
def S4 (r0:qBs×Int×(List (Int×qBs×Af))×List Int):Option ((qBs×Bool×Unit)×((qBs×Int×(List (Int×qBs×Af))×List Int)×Unit)):=
 (Am (NK TU) (Sum.inl ((r0.1,qI (r0.2.1+1),r0.2.2),([]:qBs),false,((),([]:List Int)),()))).bind fun y1=>
 Sum.elim (fun u2=>
 cond (Ex.same y1.1 (Ex.exit 0))
 (some ((([]:qBs),false,()),u2.1,()))
 (none))
 (fun v3=>
 some ((v3.2.1,v3.2.2.1,()),v3.1,())) y1.2
def Hb (c0:Int):Option ((Bool×Unit)×Unit):=
 cond (decide (c0>=48))
 (some ((decide (c0<=57),()),()))
 (some ((false,()),()))
def NW (c0:Int):Option ((Bool×Unit)×Unit):=
 cond (decide (c0>=97))
 (cond (decide (c0<=122))
 (some ((true,()),()))
 (cond (decide (c0>=65))
 (cond (decide (c0<=90))
 (some ((true,()),()))
 ((Hb c0).bind fun r1=>
 cond (r1.1.1)
 (some ((true,()),()))
 ((strings_IndexByte ([126,33,64,36,37,94,38,42,95,45,43,61,60,62,46,63,47,58]:qBs) c0).bind fun r2=>
 some ((decide (r2.1.1>=0),()),()))))
 ((Hb c0).bind fun r3=>
 cond (r3.1.1)
 (some ((true,()),()))
 ((strings_IndexByte ([126,33,64,36,37,94,38,42,95,45,43,61,60,62,46,63,47,58]:qBs) c0).bind fun r4=>
 some ((decide (r4.1.1>=0),()),())))))
 (cond (decide (c0>=65))
 (cond (decide (c0<=90))
 (some ((true,()),()))
 ((Hb c0).bind fun r5=>
 cond (r5.1.1)
 (some ((true,()),()))
 ((strings_IndexByte ([126,33,64,36,37,94,38,42,95,45,43,61,60,62,46,63,47,58]:qBs) c0).bind fun r6=>
 some ((decide (r6.1.1>=0),()),()))))
 ((Hb c0).bind fun r7=>
 cond (r7.1.1)
 (some ((true,()),()))
 ((strings_IndexByte ([126,33,64,36,37,94,38,42,95,45,43,61,60,62,46,63,47,58]:qBs) c0).bind fun r8=>
 some ((decide (r8.1.1>=0),()),()))))
def U9 (x:(qBs×Int×(List (Int×qBs×Af))×List Int)×Int×Unit):Option (Ex×((qBs×Int×(List (Int×qBs×Af))×List Int)×Int×Unit)):=
 let r0:=x.1
 let from3:=x.2.1
 cond (decide (r0.2.1 < (r0.1.length:Int)))
 (Ab (decide (0<=r0.2.1)&&decide (r0.2.1 < r0.1.length)) (
 (NW ((r0.1.getD r0.2.1.toNat 0).toNat:Int)).bind fun r1=>
 cond (r1.1.1)
 (some (Ex.normal,((r0.1,qI (r0.2.1+1),r0.2.2),from3,())))
 (some (Ex.exit 0,(r0,from3,())))))
 (some (Ex.exit 0,(r0,from3,())))
def T_ (r0:qBs×Int×(List (Int×qBs×Af))×List Int):Option ((qBs×Unit)×((qBs×Int×(List (Int×qBs×Af))×List Int)×Unit)):=
 (Am U9 (r0,r0.2.1,())).bind fun y1=>
 cond (Ex.same y1.1 (Ex.exit 0))
 (Ab (decide (0<=y1.2.2.1)&&decide (y1.2.2.1<=y1.2.1.2.1)&&decide (y1.2.1.2.1<=y1.2.1.1.length)) (some (((y1.2.1.1.take y1.2.1.2.1.toNat).drop y1.2.2.1.toNat,()),y1.2.1,())))
 (none)
def Rj (s0:qBs):Option ((Bool×Unit)×Unit):=
 cond (s0==([48]:qBs))
 (some ((true,()),()))
 (cond (!(s0==([]:qBs)))
 (Ab (decide (0<=(0:Int))&&decide ((0:Int) < s0.length)) (
 cond (((s0.getD (0:Int).toNat 0).toNat:Int) !=(48:Int))
 ((I6 s0 ([48,49,50,51,52,53,54,55,56,57]:qBs)).bind fun r1=>
 some ((r1.1.1==([]:qBs),()),()))
 (some ((false,()),()))))
 (some ((false,()),())))
def I_ (s0:qBs):Option ((Int×Unit)×Unit):=
 (strings_Cut s0 ([46]:qBs)).bind fun r1=>
 cond (s0==([]:qBs))
 (some ((0,()),()))
 (Ab (decide (0<=(0:Int))&&decide ((0:Int) < s0.length)) (
 (Hb ((s0.getD (0:Int).toNat 0).toNat:Int)).bind fun r2=>
 cond (!r2.1.1)
 (some ((1,()),()))
 ((Rj r1.1.1).bind fun r3=>
 cond (!r3.1.1)
 (some ((0,()),()))
 (cond (!r1.1.2.2.1)
 (some ((2,()),()))
 (cond (!(r1.1.2.1==([]:qBs)))
 ((I6 r1.1.2.1 ([48,49,50,51,52,53,54,55,56,57]:qBs)).bind fun r4=>
 cond (r4.1.1==([]:qBs))
 (some ((3,()),()))
 (some ((0,()),())))
 (some ((0,()),())))))))
def Qa (r0:qBs×Int×(List (Int×qBs×Af))×List Int):Option ((Int×Unit)×((qBs×Int×(List (Int×qBs×Af))×List Int)×Unit)):=
 Ab (decide (0<=r0.2.1)&&decide (r0.2.1 < r0.1.length)) (
 cond (((r0.1.getD r0.2.1.toNat 0).toNat:Int)==40)
 ((Lo (r0.1,qI (r0.2.1+1),r0.2.2) 5 ([]:qBs) r0.2.1).bind fun r1=>
 some ((r1.1.1,()),r1.2.1,()))
 (cond (((r0.1.getD r0.2.1.toNat 0).toNat:Int)==41)
 (cond ((r0.2.2.2.length:Int)==0)
 (some ((2,()),r0,()))
 (Ab (decide (0<=qI ((r0.2.2.2.length:Int) - (1:Int)))&&decide (qI ((r0.2.2.2.length:Int) - (1:Int))<=r0.2.2.2.length)) (some ((0,()),(r0.1,qI (r0.2.1+1),r0.2.2.1,r0.2.2.2.take ((qI ((r0.2.2.2.length:Int) - (1:Int))).toNat)),()))))
 (cond (((r0.1.getD r0.2.1.toNat 0).toNat:Int)==34)
 ((S4 r0).bind fun r2=>
 cond (!r2.1.2.1)
 (some ((2,()),r2.2.1,()))
 ((Lo r2.2.1 4 r2.1.1 r0.2.1).bind fun r3=>
 some ((r3.1.1,()),r3.2.1,())))
 ((T_ r0).bind fun r4=>
 (I_ r4.1.1).bind fun r5=>
 cond (r5.1.1==0)
 (some ((2,()),r4.2.1,()))
 ((Lo r4.2.1 r5.1.1 r4.1.1 r0.2.1).bind fun r6=>
 some ((r6.1.1,()),r6.2.1,()))))))
def Qy (x:qBs×(List (Int×qBs×Af))×Int×Int×(qBs×Int×(List (Int×qBs×Af))×List Int)×Unit):Option (Ex×(qBs×(List (Int×qBs×Af))×Int×Int×(qBs×Int×(List (Int×qBs×Af))×List Int)×Unit)):=
 let src0:=x.1
 let t2:=x.2.1
 let t3:=x.2.2.1
 let t4:=x.2.2.2.1
 let r5:=x.2.2.2.2.1
 cond (decide (r5.2.1 < (src0.length:Int)))
 ((Qa r5).bind fun r1=>
 cond (r1.1.1 !=(0:Int))
 (some (Ex.ret,(src0,([]:List (Int×qBs×Af)),r5.2.1,r1.1.1,r1.2.1,())))
 ((MP r1.2.1).bind fun r2=>
 some (Ex.normal,(src0,t2,t3,t4,r2.2.1,()))))
 (some (Ex.exit 0,(src0,t2,t3,t4,r5,())))
def U' (src0:qBs):Option (((List (Int×qBs×Af))×Int×Int×Unit)×Unit):=
 cond (decide ((src0.length:Int) > (65536:Int)))
 (some ((([]:List (Int×qBs×Af)),0,6,()),()))
 ((MP (src0,(0:Int),([]:List (Int×qBs×Af)),([]:List Int))).bind fun r1=>
 (Am Qy (src0,([]:List (Int×qBs×Af)),0,0,r1.2.1,())).bind fun y2=>
 cond (Ex.same y2.1 (Ex.exit 0))
 (cond (decide ((y2.2.2.2.2.2.1.2.2.2.length:Int) > (0:Int)))
 (some ((([]:List (Int×qBs×Af)),(y2.2.1.length:Int),2,()),()))
 (some ((y2.2.2.2.2.2.1.2.2.1,0,0,()),())))
 (cond (Ex.same y2.1 Ex.ret)
 (some ((y2.2.2.1,y2.2.2.2.1,y2.2.2.2.2.1,()),()))
 (none)))
def S2 (x:(Int×qBs×Af)×Bool×Int×Int×Unit):Option (Ex×((Int×qBs×Af)×Bool×Int×Int×Unit)):=
 let x1:=x.1
 let t2:=x.2.1
 let t21:=x.2.2.1
 let t22:=x.2.2.2.1
 cond (decide (t22 < t21))
 (Ab (decide (0<=t22)&&decide (t22 < x1.2.1.length)) (
 (Oi ((x1.2.1.getD t22.toNat 0).toNat:Int)).bind fun r1=>
 cond (!r1.1.1)
 (some (Ex.ret,(x1,false,t21,t22,())))
 (some (Ex.normal,(x1,t2,t21,qI (t22+1),())))))
 (some (Ex.exit 1,(x1,t2,t21,t22,())))
def Lu (x:(Int×qBs×Af)×Bool×Int×Int×Unit):Option (Ex×((Int×qBs×Af)×Bool×Int×Int×Unit)):=
 let x1:=x.1
 let t2:=x.2.1
 let t41:=x.2.2.1
 let t42:=x.2.2.2.1
 cond (decide (t42 < t41))
 (Ab (decide (0<=t42)&&decide (t42 < x1.2.1.length)) (
 (NW ((x1.2.1.getD t42.toNat 0).toNat:Int)).bind fun r1=>
 cond (!r1.1.1)
 (some (Ex.ret,(x1,false,t41,t42,())))
 (some (Ex.normal,(x1,t2,t41,qI (t42+1),())))))
 (some (Ex.exit 3,(x1,t2,t41,t42,())))
def Ue (x0:Int×qBs×Af):Option ((Bool×Unit)×Unit):=
 cond (x0.1==5)
 (cond (x0.2.1==([]:qBs))
 (some ((decide (x0.2.2.1>=0),()),()))
 (some ((false,()),())))
 (cond (x0.1==4)
 ((Am S2 (x0,false,(x0.2.1.length:Int),0,())).bind fun y1=>
 cond (Ex.same y1.1 (Ex.exit 1))
 (some ((y1.2.1.2.2.1==0,()),()))
 (cond (Ex.same y1.1 Ex.ret)
 (some ((y1.2.2.1,()),()))
 (none)))
 (cond (x0.1==1)
 ((Am Lu (x0,false,(x0.2.1.length:Int),0,())).bind fun y2=>
 cond (Ex.same y2.1 (Ex.exit 3))
 (cond (y2.2.1.2.2.1==0)
 ((I_ y2.2.1.2.1).bind fun r3=>
 some ((r3.1.1==y2.2.1.1,()),()))
 (some ((false,()),())))
 (cond (Ex.same y2.1 Ex.ret)
 (some ((y2.2.2.1,()),()))
 (none)))
 (cond (x0.1==2)
 ((Am Lu (x0,false,(x0.2.1.length:Int),0,())).bind fun y4=>
 cond (Ex.same y4.1 (Ex.exit 3))
 (cond (y4.2.1.2.2.1==0)
 ((I_ y4.2.1.2.1).bind fun r5=>
 some ((r5.1.1==y4.2.1.1,()),()))
 (some ((false,()),())))
 (cond (Ex.same y4.1 Ex.ret)
 (some ((y4.2.2.1,()),()))
 (none)))
 (cond (x0.1==3)
 ((Am Lu (x0,false,(x0.2.1.length:Int),0,())).bind fun y6=>
 cond (Ex.same y6.1 (Ex.exit 3))
 (cond (y6.2.1.2.2.1==0)
 ((I_ y6.2.1.2.1).bind fun r7=>
 some ((r7.1.1==y6.2.1.1,()),()))
 (some ((false,()),())))
 (cond (Ex.same y6.1 Ex.ret)
 (some ((y6.2.2.1,()),()))
 (none)))
 (some ((false,()),()))))))
def TN (x:Bool×(List Int)×(Int×qBs×Af)×(List (Int×qBs×Af))×Int×Int×Unit):Option (Ex×(Bool×(List Int)×(Int×qBs×Af)×(List (Int×qBs×Af))×Int×Int×Unit)):=
 let t2:=x.1
 let left3:=x.2.1
 let x5:=x.2.2.1
 let t8:=x.2.2.2.1
 let t9:=x.2.2.2.2.1
 let t10:=x.2.2.2.2.2.1
 cond (decide ((left3.length:Int) > (0:Int)))
 (Ab (decide (0<=qI ((left3.length:Int) - (1:Int)))&&decide (qI ((left3.length:Int) - (1:Int)) < left3.length)) (
 Ab (decide ((qI ((left3.length:Int) - (1:Int))).toNat < left3.length)) (
 cond ((left3.getD ((qI ((left3.length:Int) - (1:Int))).toNat) (0:Int))==0)
 (Ab (decide (0<=qI ((left3.length:Int) - (1:Int)))&&decide (qI ((left3.length:Int) - (1:Int))<=left3.length)) (some (Ex.normal,(t2,left3.take ((qI ((left3.length:Int) - (1:Int))).toNat),x5,t8,t9,t10,()))))
 (some (Ex.exit 2,(t2,left3,x5,t8,t9,t10,()))))))
 (some (Ex.exit 2,(t2,left3,x5,t8,t9,t10,())))
def SL (x:Bool×(List Int)×(List (Int×qBs×Af))×Int×Int×Unit):Option (Ex×(Bool×(List Int)×(List (Int×qBs×Af))×Int×Int×Unit)):=
 let t2:=x.1
 let left3:=x.2.1
 let t8:=x.2.2.1
 let t9:=x.2.2.2.1
 let t10:=x.2.2.2.2.1
 cond (decide (t10 < t9))
 (Ab (decide (0<=t10)&&decide (t10 < t8.length)) (
 (Am TN (t2,left3,t8.getD t10.toNat ((0:Int),([]:qBs),(0:Int),(0:Int)),t8,t9,t10,())).bind fun y1=>
 cond (Ex.same y1.1 (Ex.exit 2))
 (cond (decide ((y1.2.2.1.length:Int) > (256:Int)))
 (some (Ex.ret,(false,y1.2.2.1,y1.2.2.2.2.1,y1.2.2.2.2.2.1,y1.2.2.2.2.2.2.1,())))
 ((Ue y1.2.2.2.1).bind fun r2=>
 cond (!r2.1.1)
 (some (Ex.ret,(false,y1.2.2.1,y1.2.2.2.2.1,y1.2.2.2.2.2.1,y1.2.2.2.2.2.2.1,())))
 (cond (decide ((y1.2.2.1.length:Int) > (0:Int)))
 (Ab (decide (0<=qI ((y1.2.2.1.length:Int) - (1:Int)))&&decide (qI ((y1.2.2.1.length:Int) - (1:Int)) < y1.2.2.1.length)) (
 Ab (decide ((qI ((y1.2.2.1.length:Int) - (1:Int))).toNat < y1.2.2.1.length)) (
 Ab (decide (0<=qI ((y1.2.2.1.length:Int) - (1:Int)))&&decide (qI ((y1.2.2.1.length:Int) - (1:Int)) < y1.2.2.1.length)) (
 Ab (decide ((qI ((y1.2.2.1.length:Int) - (1:Int))).toNat < y1.2.2.1.length)) (
 cond (y1.2.2.2.1.1==5)
 (Ab (decide ((y1.2.2.1.set ((qI ((y1.2.2.1.length:Int) - (1:Int))).toNat) (qI ((y1.2.2.1.getD ((qI ((y1.2.2.1.length:Int) - (1:Int))).toNat) (0:Int)) - (1:Int)))).length+([y1.2.2.2.1.2.2.1]:List Int).length<=As)) (some (Ex.normal,(y1.2.1,(y1.2.2.1.set ((qI ((y1.2.2.1.length:Int) - (1:Int))).toNat) (qI ((y1.2.2.1.getD ((qI ((y1.2.2.1.length:Int) - (1:Int))).toNat) (0:Int)) - (1:Int))))++([y1.2.2.2.1.2.2.1]:List Int),y1.2.2.2.2.1,y1.2.2.2.2.2.1,qI (y1.2.2.2.2.2.2.1+1),()))))
 (some (Ex.normal,(y1.2.1,y1.2.2.1.set ((qI ((y1.2.2.1.length:Int) - (1:Int))).toNat) (qI ((y1.2.2.1.getD ((qI ((y1.2.2.1.length:Int) - (1:Int))).toNat) (0:Int)) - (1:Int))),y1.2.2.2.2.1,y1.2.2.2.2.2.1,qI (y1.2.2.2.2.2.2.1+1),()))))))))
 (cond (y1.2.2.2.1.1==5)
 (Ab (decide (y1.2.2.1.length+([y1.2.2.2.1.2.2.1]:List Int).length<=As)) (some (Ex.normal,(y1.2.1,y1.2.2.1++([y1.2.2.2.1.2.2.1]:List Int),y1.2.2.2.2.1,y1.2.2.2.2.2.1,qI (y1.2.2.2.2.2.2.1+1),()))))
 (some (Ex.normal,(y1.2.1,y1.2.2.1,y1.2.2.2.2.1,y1.2.2.2.2.2.1,qI (y1.2.2.2.2.2.2.1+1),())))))))
 (none)))
 (some (Ex.exit 0,(t2,left3,t8,t9,t10,())))
def UN (x:Bool×(List Int)×Int×Int×Unit):Option (Ex×(Bool×(List Int)×Int×Int×Unit)):=
 let t2:=x.1
 let t59:=x.2.1
 let t60:=x.2.2.1
 let t61:=x.2.2.2.1
 cond (decide (t61 < t60))
 (Ab (decide (0<=t61)&&decide (t61 < t59.length)) (
 Ab (decide (t61.toNat < t59.length)) (
 cond (decide ((t59.getD t61.toNat (0:Int)) > (0:Int)))
 (some (Ex.ret,(false,t59,t60,t61,())))
 (some (Ex.normal,(t2,t59,t60,qI (t61+1),()))))))
 (some (Ex.exit 4,(t2,t59,t60,t61,())))
def Ol (l0:List (Int×qBs×Af)):Option ((Bool×Unit)×Unit):=
 (Am SL (false,([]:List Int),l0,(l0.length:Int),0,())).bind fun y1=>
 cond (Ex.same y1.1 (Ex.exit 0))
 ((Am UN (y1.2.1,y1.2.2.1,(y1.2.2.1.length:Int),0,())).bind fun y2=>
 cond (Ex.same y2.1 (Ex.exit 4))
 (some ((true,()),()))
 (cond (Ex.same y2.1 Ex.ret)
 (some ((y2.2.1,()),()))
 (none)))
 (cond (Ex.same y1.1 Ex.ret)
 (some ((y1.2.1,()),()))
 (none))
def R2 (x:(List (Int×qBs×Af))×Int×Int×Unit):Option (Ex×((List (Int×qBs×Af))×Int×Int×Unit)):=
 let l0:=x.1
 let i1:=x.2.1
 let left5:=x.2.2.1
 cond (decide (left5 > (0:Int)))
 (Ab (decide (0<=i1)&&decide (i1 < l0.length)) (some (Ex.normal,(l0,qI (i1+1),qI (left5+(qI (((((l0.getD i1.toNat ((0:Int),([]:qBs),(0:Int),(0:Int))).2).2).1) - (1:Int)))),()))))
 (some (Ex.exit 0,(l0,i1,left5,())))
def RH (l0:List (Int×qBs×Af)) (i1:Int):Option ((Int×Unit)×Unit):=
 (Am R2 (l0,i1,1,())).bind fun y1=>
 cond (Ex.same y1.1 (Ex.exit 0))
 (some ((y1.2.2.1,()),()))
 (none)
def Tl (x:(List (Int×qBs×Af))×(List Int)×Int×Unit):Option (Ex×((List (Int×qBs×Af))×(List Int)×Int×Unit)):=
 let l0:=x.1
 let out3:=x.2.1
 let i4:=x.2.2.1
 cond (decide (i4 < (l0.length:Int)))
 (Ab (decide (out3.length+([i4]:List Int).length<=As)) (
 (RH l0 i4).bind fun r1=>
 some (Ex.normal,(l0,out3++([i4]:List Int),r1.1.1,()))))
 (some (Ex.exit 0,(l0,out3,i4,())))
def Sg (l0:List (Int×qBs×Af)):Option (((List Int)×Unit)×Unit):=
 (Ol l0).bind fun r1=>
 cond (!r1.1.1)
 (some ((([]:List Int),()),()))
 ((Am Tl (l0,([]:List Int),0,())).bind fun y2=>
 cond (Ex.same y2.1 (Ex.exit 0))
 (some ((y2.2.2.1,()),()))
 (none))
def Fc (n0:Aa):Option (((List Aa)×Unit)×Unit):=
 some ((([n0]:List Aa),()),())
def Pt (x:(List Vr)×(List (qBs×Ac))×(List (qBs×List Aa))×(List (qBs×qBs×Ac))×Bool×(List (qBs×List Aa))×Int×Unit):Option (Ex×((List Vr)×(List (qBs×Ac))×(List (qBs×List Aa))×(List (qBs×qBs×Ac))×Bool×(List (qBs×List Aa))×Int×Unit)):=
 let vars0:=x.1
 let funcs1:=x.2.1
 let t4:=x.2.2.1
 let t5:=x.2.2.2.1
 let t6:=x.2.2.2.2.1
 let s7:=x.2.2.2.2.2.1
 let i8:=x.2.2.2.2.2.2.1
 cond (decide (i8>=0))
 (Ab (decide (0<=i8)&&decide (i8 < vars0.length)) (
 (Fm ((vars0.getD i8.toNat BT).1)).bind fun r1=>
 cond (!r1.1.1)
 (some (Ex.ret,(vars0,funcs1,([]:List (qBs×List Aa)),([]:List (qBs×qBs×Ac)),false,s7,i8,())))
 ((F6 ((vars0.getD i8.toNat BT).2)).bind fun r2=>
 cond (!r2.1.1)
 (some (Ex.ret,(vars0,funcs1,([]:List (qBs×List Aa)),([]:List (qBs×qBs×Ac)),false,s7,i8,())))
 ((Fc (4,(vars0.getD i8.toNat BT).2,(vars0.getD i8.toNat BT).1,([]:qBs),(0:Int))).bind fun r3=>
 some (Ex.normal,(vars0,funcs1,t4,t5,t6,((vars0.getD i8.toNat BT).1,r3.1.1)::s7,qI (i8 - (1:Int)),()))))))
 (some (Ex.exit 0,(vars0,funcs1,t4,t5,t6,s7,i8,())))
def T9 (x:(List (qBs×List Aa))×(List (qBs×qBs×Ac))×Bool×(List (qBs×List Aa))×(List (qBs×qBs×Ac))×(qBs×Ac)×(List (qBs×Ac))×Int×Int×Int×Bool×Bool×(List Int)×Int×Bool×(List Int)×Int×Bool×(List Int)×Int×Int×Unit):Option (Ex×((List (qBs×List Aa))×(List (qBs×qBs×Ac))×Bool×(List (qBs×List Aa))×(List (qBs×qBs×Ac))×(qBs×Ac)×(List (qBs×Ac))×Int×Int×Int×Bool×Bool×(List Int)×Int×Bool×(List Int)×Int×Bool×(List Int)×Int×Int×Unit)):=
 let t4:=x.1
 let t5:=x.2.1
 let t6:=x.2.2.1
 let s7:=x.2.2.2.1
 let known10:=x.2.2.2.2.1
 let f12:=x.2.2.2.2.2.1
 let t50:=x.2.2.2.2.2.2.1
 let t51:=x.2.2.2.2.2.2.2.1
 let t52:=x.2.2.2.2.2.2.2.2.1
 let t62:=x.2.2.2.2.2.2.2.2.2.1
 let t63:=x.2.2.2.2.2.2.2.2.2.2.1
 let t64:=x.2.2.2.2.2.2.2.2.2.2.2.1
 let t68:=x.2.2.2.2.2.2.2.2.2.2.2.2.1
 let t69:=x.2.2.2.2.2.2.2.2.2.2.2.2.2.1
 let t70:=x.2.2.2.2.2.2.2.2.2.2.2.2.2.2.1
 let t74:=x.2.2.2.2.2.2.2.2.2.2.2.2.2.2.2.1
 let t75:=x.2.2.2.2.2.2.2.2.2.2.2.2.2.2.2.2.1
 let t76:=x.2.2.2.2.2.2.2.2.2.2.2.2.2.2.2.2.2.1
 let t79:=x.2.2.2.2.2.2.2.2.2.2.2.2.2.2.2.2.2.2.1
 let t80:=x.2.2.2.2.2.2.2.2.2.2.2.2.2.2.2.2.2.2.2.1
 let t81:=x.2.2.2.2.2.2.2.2.2.2.2.2.2.2.2.2.2.2.2.2.1
 cond (decide (t81 < t80))
 (Ab (decide (0<=t81)&&decide (t81 < t79.length)) (
 (F6 (t79.getD t81.toNat (0:Int))).bind fun r1=>
 cond (!r1.1.1)
 (some (Ex.ret,(([]:List (qBs×List Aa)),([]:List (qBs×qBs×Ac)),false,s7,known10,f12,t50,t51,t52,t62,t63,t64,t68,t69,t70,t74,t75,t76,t79,t80,t81,())))
 (some (Ex.normal,(t4,t5,t6,s7,known10,f12,t50,t51,t52,t62,t63,t64,t68,t69,t70,t74,t75,t76,t79,t80,qI (t81+1),())))))
 (some (Ex.exit 4,(t4,t5,t6,s7,known10,f12,t50,t51,t52,t62,t63,t64,t68,t69,t70,t74,t75,t76,t79,t80,t81,())))
def QO (x:(List (qBs×List Aa))×(List (qBs×qBs×Ac))×Bool×(List (qBs×List Aa))×(List (qBs×qBs×Ac))×(List (qBs×Ac))×Int×Int×Unit):Option (Ex×((List (qBs×List Aa))×(List (qBs×qBs×Ac))×Bool×(List (qBs×List Aa))×(List (qBs×qBs×Ac))×(List (qBs×Ac))×Int×Int×Unit)):=
 let t4:=x.1
 let t5:=x.2.1
 let t6:=x.2.2.1
 let s7:=x.2.2.2.1
 let known10:=x.2.2.2.2.1
 let t50:=x.2.2.2.2.2.1
 let t51:=x.2.2.2.2.2.2.1
 let t52:=x.2.2.2.2.2.2.2.1
 cond (decide (t52 < t51))
 (Ab (decide (0<=t52)&&decide (t52 < t50.length)) (
 (Fm ((t50.getD t52.toNat (([]:qBs),([]:List Int),(0:Int))).1)).bind fun r1=>
 cond (!r1.1.1)
 (some (Ex.ret,(([]:List (qBs×List Aa)),([]:List (qBs×qBs×Ac)),false,s7,known10,t50,t51,t52,())))
 ((F6 (((t50.getD t52.toNat (([]:qBs),([]:List Int),(0:Int))).2).2)).bind fun r2=>
 cond (!r2.1.1)
 (some (Ex.ret,(([]:List (qBs×List Aa)),([]:List (qBs×qBs×Ac)),false,s7,known10,t50,t51,t52,())))
 (cond (decide (((((t50.getD t52.toNat (([]:qBs),([]:List Int),(0:Int))).2).1).length:Int) < (1:Int)))
 (some (Ex.ret,(([]:List (qBs×List Aa)),([]:List (qBs×qBs×Ac)),false,s7,known10,t50,t51,t52,())))
 (cond (decide (((((t50.getD t52.toNat (([]:qBs),([]:List Int),(0:Int))).2).1).length:Int) > (40:Int)))
 (some (Ex.ret,(([]:List (qBs×List Aa)),([]:List (qBs×qBs×Ac)),false,s7,known10,t50,t51,t52,())))
 ((Am T9 (t4,t5,t6,s7,known10,t50.getD t52.toNat (([]:qBs),([]:List Int),(0:Int)),t50,t51,t52,((t50.getD t52.toNat (([]:qBs),([]:List Int),(0:Int))).2).2,r2.1.1,!r2.1.1,((t50.getD t52.toNat (([]:qBs),([]:List Int),(0:Int))).2).1,((((t50.getD t52.toNat (([]:qBs),([]:List Int),(0:Int))).2).1).length:Int),decide (((((t50.getD t52.toNat (([]:qBs),([]:List Int),(0:Int))).2).1).length:Int) < (1:Int)),((t50.getD t52.toNat (([]:qBs),([]:List Int),(0:Int))).2).1,((((t50.getD t52.toNat (([]:qBs),([]:List Int),(0:Int))).2).1).length:Int),decide (((((t50.getD t52.toNat (([]:qBs),([]:List Int),(0:Int))).2).1).length:Int) > (40:Int)),((t50.getD t52.toNat (([]:qBs),([]:List Int),(0:Int))).2).1,((((t50.getD t52.toNat (([]:qBs),([]:List Int),(0:Int))).2).1).length:Int),0,())).bind fun y3=>
 cond (Ex.same y3.1 (Ex.exit 4))
 (cond (!((AT y3.2.2.2.2.2.2.1.1 y3.2.2.2.2.2.1).isSome))
 (some (Ex.normal,(y3.2.1,y3.2.2.1,y3.2.2.2.1,y3.2.2.2.2.1,Bw y3.2.2.2.2.2.2.1.1 y3.2.2.2.2.2.2.1 y3.2.2.2.2.2.1,y3.2.2.2.2.2.2.2.1,y3.2.2.2.2.2.2.2.2.1,qI (y3.2.2.2.2.2.2.2.2.2.1+1),())))
 (some (Ex.normal,(y3.2.1,y3.2.2.1,y3.2.2.2.1,y3.2.2.2.2.1,y3.2.2.2.2.2.1,y3.2.2.2.2.2.2.2.1,y3.2.2.2.2.2.2.2.2.1,qI (y3.2.2.2.2.2.2.2.2.2.1+1),()))))
 (cond (Ex.same y3.1 Ex.ret)
 (some (Ex.ret,(y3.2.1,y3.2.2.1,y3.2.2.2.1,y3.2.2.2.2.1,y3.2.2.2.2.2.1,y3.2.2.2.2.2.2.2.1,y3.2.2.2.2.2.2.2.2.1,y3.2.2.2.2.2.2.2.2.2.1,())))
 (none))))))))
 (some (Ex.exit 2,(t4,t5,t6,s7,known10,t50,t51,t52,())))
def R4 (vars0:List Vr) (funcs1:List (qBs×Ac)):Option (((List (qBs×List Aa))×(List (qBs×qBs×Ac))×Bool×Unit)×Unit):=
 (Am Pt (vars0,funcs1,([]:List (qBs×List Aa)),([]:List (qBs×qBs×Ac)),false,([]:List (qBs×List Aa)),qI ((vars0.length:Int) - (1:Int)),())).bind fun y1=>
 cond (Ex.same y1.1 (Ex.exit 0))
 ((Am QO (y1.2.2.2.1,y1.2.2.2.2.1,y1.2.2.2.2.2.1,y1.2.2.2.2.2.2.1,([]:List (qBs×qBs×Ac)),y1.2.2.1,(y1.2.2.1.length:Int),0,())).bind fun y2=>
 cond (Ex.same y2.1 (Ex.exit 2))
 (some ((y2.2.2.2.2.1,y2.2.2.2.2.2.1,true,()),()))
 (cond (Ex.same y2.1 Ex.ret)
 (some ((y2.2.1,y2.2.2.1,y2.2.2.2.1,()),()))
 (none)))
 (cond (Ex.same y1.1 Ex.ret)
 (some ((y1.2.2.2.1,y1.2.2.2.2.1,y1.2.2.2.2.2.1,()),()))
 (none))
def NP (s0:qBs):Option ((Bool×Unit)×Unit):=
 cond (!(s0==([]:qBs)))
 ((I6 s0 ([48,49,50,51,52,53,54,55,56,57]:qBs)).bind fun r1=>
 some ((r1.1.1==([]:qBs),()),()))
 (some ((false,()),()))
def Lf (neg0:Bool) (num1:List Int) (den2:List Int):Option ((Rt×Unit)×Unit):=
 (Hy num1 den2).bind fun r1=>
 (Et r1.1.1).bind fun r2=>
 cond (!r2.1.1)
 ((HT num1 r1.1.1).bind fun r3=>
 (HT den2 r1.1.1).bind fun r4=>
 some (((neg0,r3.1.1,r4.1.1),()),()))
 (some (((neg0,num1,den2),()),()))
def Ez (b0:Unit×List Int) (s1:qBs):Option ((Int×Bool×Unit)×((Unit×List Int)×Unit)):=
 (Od ((),b0.2)).bind fun r1=>
 Ab (decide (r1.2.1.2.length+(s1.map fun c=>((c.toNat:Nat):Int)).length<=As)) (some (((s1.length:Int),false,()),((),r1.2.1.2++(s1.map fun c=>((c.toNat:Nat):Int))),()))
def ND (v:Int) (i:Nat) (x:(Unit×List Int)×Unit):Option ((Unit×List Int)×Unit):=
 let b3:=x.1
 (Lm (qU (v)) 10).bind fun r1=>
 Ab (decide (0<=(r1.1.1.length:Int))&&decide ((r1.1.1.length:Int)<=([48,48,48,48,48,48,48,48,48]:qBs).length)) (
 (Ez ((),b3.2) (([48,48,48,48,48,48,48,48,48]:qBs).drop (r1.1.1.length:Int).toNat)).bind fun r2=>
 (Ez ((),r2.2.1.2) r1.1.1).bind fun r3=>
 some (((),r3.2.1.2),()))
def Nb (y:(Unit×List Int)×Unit) (o:(Unit×List Int)×Unit):(Unit×List Int)×Unit:=(o.1,())
def N2 (y:(Unit×List Int)×Unit):(Unit×List Int)×Unit:=(y.1,())
def Jv (a0:List Int):Option ((qBs×Unit)×Unit):=
 cond ((a0.length:Int)==0)
 (some ((([48]:qBs),()),()))
 (Ab (decide (0<=qI ((a0.length:Int) - (1:Int)))&&decide (qI ((a0.length:Int) - (1:Int)) < a0.length)) (
 (Lm (qU (a0.getD (qI ((a0.length:Int) - (1:Int))).toNat (0:Int))) 10).bind fun r1=>
 (Ez ((),([]:List Int)) r1.1.1).bind fun r2=>
 Ab (decide (0<=qI ((a0.length:Int) - (1:Int)))&&decide (qI ((a0.length:Int) - (1:Int))<=a0.length)) (
 Ab (decide ((a0.take (qI ((a0.length:Int) - (1:Int))).toNat).length<=As)) (((foldO (fun p y=>(ND p.1 p.2 y).bind fun o=>some (Nb y o)) (a0.take (qI ((a0.length:Int) - (1:Int))).toNat).zipIdx.reverse (((),r2.2.1.2),())).bind fun y=>some ((),N2 y)).bind fun y3=>
 (JB ((),y3.2.1.2)).bind fun r4=>
 some ((r4.1.1,()),())))))
def LT (x0:Rt):Option ((qBs×Unit)×Unit):=
 (Jv x0.2.1).bind fun r1=>
 cond (x0.1)
 (cond (decide ((x0.2.1.length:Int) > (0:Int)))
 (Ab (decide (([45]:qBs).length+r1.1.1.length<=A3)) (
 (Et x0.2.2).bind fun r2=>
 cond (!r2.1.1)
 ((Jv x0.2.2).bind fun r3=>
 Ab (decide (([47]:qBs).length+r3.1.1.length<=A3)) (Ab (decide ((([45]:qBs)++r1.1.1).length+(([47]:qBs)++r3.1.1).length<=A3)) (some (((([45]:qBs)++r1.1.1)++(([47]:qBs)++r3.1.1),()),()))))
 (some ((([45]:qBs)++r1.1.1,()),()))))
 ((Et x0.2.2).bind fun r4=>
 cond (!r4.1.1)
 ((Jv x0.2.2).bind fun r5=>
 Ab (decide (([47]:qBs).length+r5.1.1.length<=A3)) (Ab (decide (r1.1.1.length+(([47]:qBs)++r5.1.1).length<=A3)) (some ((r1.1.1++(([47]:qBs)++r5.1.1),()),()))))
 (some ((r1.1.1,()),()))))
 ((Et x0.2.2).bind fun r6=>
 cond (!r6.1.1)
 ((Jv x0.2.2).bind fun r7=>
 Ab (decide (([47]:qBs).length+r7.1.1.length<=A3)) (Ab (decide (r1.1.1.length+(([47]:qBs)++r7.1.1).length<=A3)) (some ((r1.1.1++(([47]:qBs)++r7.1.1),()),()))))
 (some ((r1.1.1,()),())))
def Rp (s0:qBs):Option ((qBs×Bool×Unit)×Unit):=
 (strings_CutPrefix s0 ([45]:qBs)).bind fun r1=>
 (strings_Cut r1.1.1 ([46]:qBs)).bind fun r2=>
 (NP r2.1.1).bind fun r3=>
 cond (!r3.1.1)
 (some ((([]:qBs),false,()),()))
 (cond (r2.1.2.2.1)
 ((NP r2.1.2.1).bind fun r4=>
 cond (!r4.1.1)
 (some ((([]:qBs),false,()),()))
 (Ab (decide (r2.1.1.length+r2.1.2.1.length<=A3)) (
 (D0 (r2.1.1++r2.1.2.1)).bind fun r5=>
 (strings_Repeat ([48]:qBs) (r2.1.2.1.length:Int)).bind fun r6=>
 Ab (decide (([49]:qBs).length+r6.1.1.length<=A3)) (
 (D0 (([49]:qBs)++r6.1.1)).bind fun r7=>
 (Lf r1.1.2.1 r5.1.1 r7.1.1).bind fun r8=>
 (LT (r8.1.1.1,r8.1.1.2.1,r8.1.1.2.2)).bind fun r9=>
 some ((r9.1.1,true,()),())))))
 (Ab (decide (r2.1.1.length+r2.1.2.1.length<=A3)) (
 (D0 (r2.1.1++r2.1.2.1)).bind fun r10=>
 (strings_Repeat ([48]:qBs) (r2.1.2.1.length:Int)).bind fun r11=>
 Ab (decide (([49]:qBs).length+r11.1.1.length<=A3)) (
 (D0 (([49]:qBs)++r11.1.1)).bind fun r12=>
 (Lf r1.1.2.1 r10.1.1 r12.1.1).bind fun r13=>
 (LT (r13.1.1.1,r13.1.1.2.1,r13.1.1.2.2)).bind fun r14=>
 some ((r14.1.1,true,()),())))))
def T4 (x:(List (qBs×List Aa))×qBs×(List Aa)×Unit):Option (Ex×((List (qBs×List Aa))×qBs×(List Aa)×Unit)):=
 let s0:=x.1
 let name1:=x.2.1
 let t4:=x.2.2.1
 cond (!s0.isEmpty)
 (Ab (!s0.isEmpty) (
 cond (((s0.headD (([]:qBs),([]:List Aa))).1)==name1)
 (Ab (!s0.isEmpty) (some (Ex.ret,(s0,name1,(s0.headD (([]:qBs),([]:List Aa))).2,()))))
 (Ab (!s0.isEmpty) (some (Ex.normal,(s0.tail,name1,t4,()))))))
 (some (Ex.exit 0,(s0,name1,t4,())))
def TO (s0:List (qBs×List Aa)) (name1:qBs):Option (((Option (List Aa))×Unit)×Unit):=
 (Am T4 (s0,name1,([]:List Aa),())).bind fun y1=>
 cond (Ex.same y1.1 (Ex.exit 0))
 (some (((none:Option (List Aa)),()),()))
 (cond (Ex.same y1.1 Ex.ret)
 (some ((some y1.2.2.2.1,()),()))
 (none))
def Uy (name0:qBs) (i1:Int) (s2:List (qBs×List Aa)):Option (((List Aa)×Af×Unit)×Unit):=
 (TO s2 name0).bind fun r1=>
 Ab (Hw r1.1.1) (
 cond (!r1.1.1.isNone)
 (some ((r1.1.1.getD [],((0:Int),(0:Int)),()),()))
 (cond (name0==([116,114,117,101]:qBs))
 ((Fc (1,(0:Int),([]:qBs),([]:qBs),(0:Int))).bind fun r2=>
 some ((r2.1.1,((0:Int),(0:Int)),()),()))
 (cond (name0==([102,97,108,115,101]:qBs))
 ((Fc (2,(0:Int),([]:qBs),([]:qBs),(0:Int))).bind fun r3=>
 some ((r3.1.1,((0:Int),(0:Int)),()),()))
 (some ((([]:List Aa),(4,i1),()),())))))
def QU (x:((List (Int×qBs×Af))×List (qBs×qBs×Ac))×(List Int)×Int×Int×Int×Int×Unit):Option (Ex×(((List (Int×qBs×Af))×List (qBs×qBs×Ac))×(List Int)×Int×Int×Int×Int×Unit)):=
 let r0:=x.1
 let out5:=x.2.1
 let at6:=x.2.2.1
 let left7:=x.2.2.2.1
 let t17:=x.2.2.2.2.1
 let t18:=x.2.2.2.2.2.1
 cond (decide (left7 > (0:Int)))
 (Ab (decide (0<=at6)&&decide (at6 < r0.1.length)) (some (Ex.normal,(r0,out5,qI (at6+1),qI (left7+(qI (((((r0.1.getD at6.toNat ((0:Int),([]:qBs),(0:Int),(0:Int))).2).2).1) - (1:Int)))),t17,t18,()))))
 (some (Ex.exit 2,(r0,out5,at6,left7,t17,t18,())))
def SU (x:((List (Int×qBs×Af))×List (qBs×qBs×Ac))×(List Int)×Int×Int×Int×Unit):Option (Ex×(((List (Int×qBs×Af))×List (qBs×qBs×Ac))×(List Int)×Int×Int×Int×Unit)):=
 let r0:=x.1
 let out5:=x.2.1
 let at6:=x.2.2.1
 let t17:=x.2.2.2.1
 let t18:=x.2.2.2.2.1
 cond (decide (t18 < t17))
 (Ab (decide (out5.length+([at6]:List Int).length<=As)) (
 (Am QU (r0,out5++([at6]:List Int),at6,1,t17,t18,())).bind fun y1=>
 cond (Ex.same y1.1 (Ex.exit 2))
 (some (Ex.normal,(y1.2.1,y1.2.2.1,y1.2.2.2.1,y1.2.2.2.2.2.1,qI (y1.2.2.2.2.2.2.1+1),())))
 (none)))
 (some (Ex.exit 0,(r0,out5,at6,t17,t18,())))
def LI (r0:(List (Int×qBs×Af))×List (qBs×qBs×Ac)) (i1:Int):Option (((List Int)×Unit)×(((List (Int×qBs×Af))×List (qBs×qBs×Ac))×Unit)):=
 Ab (decide (0<=i1)&&decide (i1 < r0.1.length)) (
 (Am SU (r0,([]:List Int),qI (i1+1),(((r0.1.getD i1.toNat ((0:Int),([]:qBs),(0:Int),(0:Int))).2).2).1,0,())).bind fun y1=>
 cond (Ex.same y1.1 (Ex.exit 0))
 (some ((y1.2.2.1,()),y1.2.1,()))
 (none))
def R0 (r0:(List (Int×qBs×Af))×List (qBs×qBs×Ac)) (word1:qBs):Option ((Int×Int×Bool×Unit)×(((List (Int×qBs×Af))×List (qBs×qBs×Ac))×Unit)):=
 cond (word1==([97,110,100]:qBs))
 (some ((0,65536,true,()),r0,()))
 (cond (word1==([111,114]:qBs))
 (some ((0,65536,true,()),r0,()))
 (cond (word1==([43]:qBs))
 (some ((1,65536,true,()),r0,()))
 (cond (word1==([45]:qBs))
 (some ((1,65536,true,()),r0,()))
 (cond (word1==([110,111,116]:qBs))
 (some ((1,1,true,()),r0,()))
 (cond (word1==([99,111,110,115,116]:qBs))
 (some ((1,1,true,()),r0,()))
 (cond (word1==([105,116,101]:qBs))
 (some ((3,3,true,()),r0,()))
 (cond (word1==([115,116,111,114,101]:qBs))
 (some ((3,3,true,()),r0,()))
 (cond (word1==([61,62]:qBs))
 (some ((2,2,true,()),r0,()))
 (cond (word1==([61]:qBs))
 (some ((2,2,true,()),r0,()))
 (cond (word1==([60,61]:qBs))
 (some ((2,2,true,()),r0,()))
 (cond (word1==([60]:qBs))
 (some ((2,2,true,()),r0,()))
 (cond (word1==([62]:qBs))
 (some ((2,2,true,()),r0,()))
 (cond (word1==([62,61]:qBs))
 (some ((2,2,true,()),r0,()))
 (cond (word1==([100,105,115,116,105,110,99,116]:qBs))
 (some ((2,2,true,()),r0,()))
 (cond (word1==([42]:qBs))
 (some ((2,2,true,()),r0,()))
 (cond (word1==([47]:qBs))
 (some ((2,2,true,()),r0,()))
 (cond (word1==([100,105,118]:qBs))
 (some ((2,2,true,()),r0,()))
 (cond (word1==([109,111,100]:qBs))
 (some ((2,2,true,()),r0,()))
 (cond (word1==([115,101,108,101,99,116]:qBs))
 (some ((2,2,true,()),r0,()))
 (cond (word1==([108,101,116]:qBs))
 (some ((2,2,true,()),r0,()))
 (some (((((((AT word1 r0.2).getD (([]:qBs),([]:List Int),(0:Int))).2).1).length:Int),(((((AT word1 r0.2).getD (([]:qBs),([]:List Int),(0:Int))).2).1).length:Int),(AT word1 r0.2).isSome,()),r0,()))))))))))))))))))))))
def Hf (t0:List Aa):Option ((Bool×Unit)×Unit):=
 Ab (decide (0<=(0:Int))&&decide ((0:Int) < t0.length)) (some ((((t0.getD (0:Int).toNat Ao).1)==3,()),()))
def PQ (a0:List Aa) (b1:List Aa):Option (((List Aa)×Int×Unit)×Unit):=
 (Hf a0).bind fun r1=>
 cond (r1.1.1)
 ((C7 (15,(0:Int),([]:qBs),([]:qBs),(0:Int)) ([a0,b1]:List (List Aa))).bind fun r2=>
 some ((r2.1.1,r2.1.2.1,()),()))
 ((Hf b1).bind fun r3=>
 cond (r3.1.1)
 ((C7 (15,(0:Int),([]:qBs),([]:qBs),(0:Int)) ([b1,a0]:List (List Aa))).bind fun r4=>
 some ((r4.1.1,r4.1.2.1,()),()))
 (some ((([]:List Aa),8,()),())))
def Nm (a0:qBs):Option ((qBs×Unit)×Unit):=
 (Fj a0).bind fun r1=>
 cond (decide (r1.1.1 < (0:Int)))
 (Ab (decide (0<=(1:Int))&&decide ((1:Int)<=a0.length)) (some ((a0.drop (1:Int).toNat,()),())))
 ((Fj a0).bind fun r2=>
 cond (decide (r2.1.1 > (0:Int)))
 (Ab (decide (([45]:qBs).length+a0.length<=A3)) (some ((([45]:qBs)++a0,()),())))
 (cond (a0==([48]:qBs))
 (some ((a0,()),()))
 (some ((([]:qBs),()),()))))
def Mt (a0:List Aa):Option (((List Aa)×Int×Unit)×Unit):=
 (Hf a0).bind fun r1=>
 cond (r1.1.1)
 (Ab (decide (0<=(0:Int))&&decide ((0:Int) < a0.length)) (
 Ab (decide (0<=(0:Int))&&decide ((0:Int) < a0.length)) (
 (Nm (((((a0.getD (0:Int).toNat Ao).2).2).2).1)).bind fun r2=>
 (Fc (3,((a0.getD (0:Int).toNat Ao).2).1,([]:qBs),r2.1.1,(0:Int))).bind fun r3=>
 some ((r3.1.1,0,()),()))))
 ((EK a0).bind fun r4=>
 (Fi r4.1.1).bind fun r5=>
 cond (!r5.1.1)
 (some ((([]:List Aa),3,()),()))
 ((Fc (3,r4.1.1,([]:qBs),([45,49]:qBs),(0:Int))).bind fun r6=>
 (C7 (15,(0:Int),([]:qBs),([]:qBs),(0:Int)) ([r6.1.1,a0]:List (List Aa))).bind fun r7=>
 some ((r7.1.1,r7.1.2.1,()),())))
def PP (x:(List Aa)×Int×(List (List Aa))×(List (List Aa))×Int×Int×Unit):Option (Ex×((List Aa)×Int×(List (List Aa))×(List (List Aa))×Int×Int×Unit)):=
 let t2:=x.1
 let t3:=x.2.1
 let sum4:=x.2.2.1
 let t23:=x.2.2.2.1
 let t24:=x.2.2.2.2.1
 let t25:=x.2.2.2.2.2.1
 cond (decide (t25 < t24))
 (Ab (decide (0<=t25)&&decide (t25 < t23.length)) (
 (Mt (t23.getD t25.toNat ([]:List Aa))).bind fun r1=>
 cond (r1.1.2.1 !=(0:Int))
 (some (Ex.ret,(([]:List Aa),r1.1.2.1,sum4,t23,t24,t25,())))
 (Ab (decide (sum4.length+([r1.1.1]:List (List Aa)).length<=As)) (some (Ex.normal,(t2,t3,sum4++([r1.1.1]:List (List Aa)),t23,t24,qI (t25+1),()))))))
 (some (Ex.exit 0,(t2,t3,sum4,t23,t24,t25,())))
def TF (l0:List (List Aa)):Option (((List Aa)×Int×Unit)×Unit):=
 cond ((l0.length:Int)==1)
 (Ab (decide (0<=(0:Int))&&decide ((0:Int) < l0.length)) (
 (Mt (l0.getD (0:Int).toNat ([]:List Aa))).bind fun r1=>
 some ((r1.1.1,r1.1.2.1,()),())))
 (Ab (decide (0<=(0:Int))&&decide ((0:Int) < l0.length)) (
 Ab (decide (0<=(1:Int))&&decide ((1:Int)<=l0.length)) (
 (Am PP (([]:List Aa),0,([l0.getD (0:Int).toNat ([]:List Aa)]:List (List Aa)),l0.drop (1:Int).toNat,((l0.drop (1:Int).toNat).length:Int),0,())).bind fun y2=>
 cond (Ex.same y2.1 (Ex.exit 0))
 ((C7 (14,(0:Int),([]:qBs),([]:qBs),(0:Int)) y2.2.2.2.1).bind fun r3=>
 some ((r3.1.1,r3.1.2.1,()),()))
 (cond (Ex.same y2.1 Ex.ret)
 (some ((y2.2.1,y2.2.2.1,()),()))
 (none)))))
def Ti (n0:Int) (d1:Int):Option ((qBs×Unit)×Unit):=
 cond (decide (d1 < (0:Int)))
 ((Gh (BN (qI (0 - n0)) (qI (0 - (qI (0 - n0))))) (qI (0 - d1))).bind fun r1=>
 Ab (r1.1.1 !=0) (
 Ab (r1.1.1 !=0) (
 (Ip (qI ((qI (0 - n0)).tdiv r1.1.1)) 10).bind fun r2=>
 cond (decide ((qI ((qI (0 - d1)).tdiv r1.1.1)) > (1:Int)))
 ((Ip (qI ((qI (0 - d1)).tdiv r1.1.1)) 10).bind fun r3=>
 Ab (decide (([47]:qBs).length+r3.1.1.length<=A3)) (Ab (decide (r2.1.1.length+(([47]:qBs)++r3.1.1).length<=A3)) (some ((r2.1.1++(([47]:qBs)++r3.1.1),()),()))))
 (some ((r2.1.1,()),())))))
 ((Gh (BN n0 (qI (0 - n0))) d1).bind fun r4=>
 Ab (r4.1.1 !=0) (
 Ab (r4.1.1 !=0) (
 (Ip (qI (n0.tdiv r4.1.1)) 10).bind fun r5=>
 cond (decide ((qI (d1.tdiv r4.1.1)) > (1:Int)))
 ((Ip (qI (d1.tdiv r4.1.1)) 10).bind fun r6=>
 Ab (decide (([47]:qBs).length+r6.1.1.length<=A3)) (Ab (decide (r5.1.1.length+(([47]:qBs)++r6.1.1).length<=A3)) (some ((r5.1.1++(([47]:qBs)++r6.1.1),()),()))))
 (some ((r5.1.1,()),())))))
def OY (x0:Af) (y1:Af):Option ((qBs×Unit)×Unit):=
 (Ti (qI (x0.1 * y1.2)) (qI (x0.2 * y1.1))).bind fun r1=>
 some ((r1.1.1,()),())
def G' (x:(List Int)×(List Int)×Int×Int×Int×(List Int)×Int×Int×(List Int)×Int×Int×Unit):Option (Ex×((List Int)×(List Int)×Int×Int×Int×(List Int)×Int×Int×(List Int)×Int×Int×Unit)):=
 let b1:=x.1
 let out5:=x.2.1
 let i6:=x.2.2.1
 let x7:=x.2.2.2.1
 let carry8:=x.2.2.2.2.1
 let t18:=x.2.2.2.2.2.1
 let t19:=x.2.2.2.2.2.2.1
 let t20:=x.2.2.2.2.2.2.2.1
 let t25:=x.2.2.2.2.2.2.2.2.1
 let t26:=x.2.2.2.2.2.2.2.2.2.1
 let t27:=x.2.2.2.2.2.2.2.2.2.2.1
 cond (decide (t27 < t26))
 (Ab (decide (0<=t27)&&decide (t27 < t25.length)) (Ab (decide (0<=qI (i6+t27))&&decide (qI (i6+t27) < out5.length)) (Ab (decide ((qI (i6+t27)).toNat < out5.length)) (Ab ((1000000000:Int) !=0) (Ab ((1000000000:Int) !=0) (Ab (decide (0<=qI (i6+t27))&&decide (qI (i6+t27) < out5.length)) (Ab (decide ((qI (i6+t27)).toNat < out5.length)) (some (Ex.normal,(b1,out5.set ((qI (i6+t27)).toNat) (IntKind.u32.wrap ((qU ((qU ((qU (out5.getD ((qI (i6+t27)).toNat) (0:Int)))+(qU ((qU (x7)) * (qU (t25.getD t27.toNat (0:Int)))))))+carry8)).tmod 1000000000)),i6,x7,qU ((qU ((qU ((qU (out5.getD ((qI (i6+t27)).toNat) (0:Int)))+(qU ((qU (x7)) * (qU (t25.getD t27.toNat (0:Int)))))))+carry8)).tdiv 1000000000),t18,t19,t20,t25,t26,qI (t27+1),()))))))))))
 (some (Ex.exit 2,(b1,out5,i6,x7,carry8,t18,t19,t20,t25,t26,t27,())))
def G_ (x:(List Int)×(List Int)×(List Int)×Int×Int×Unit):Option (Ex×((List Int)×(List Int)×(List Int)×Int×Int×Unit)):=
 let b1:=x.1
 let out5:=x.2.1
 let t18:=x.2.2.1
 let t19:=x.2.2.2.1
 let t20:=x.2.2.2.2.1
 cond (decide (t20 < t19))
 (Ab (decide (0<=t20)&&decide (t20 < t18.length)) (
 (Am G' (b1,out5,t20,t18.getD t20.toNat (0:Int),0,t18,t19,t20,b1,(b1.length:Int),0,())).bind fun y1=>
 cond (Ex.same y1.1 (Ex.exit 2))
 (Ab (decide (0<=qI (y1.2.2.2.1+(y1.2.1.length:Int)))&&decide (qI (y1.2.2.2.1+(y1.2.1.length:Int)) < y1.2.2.1.length)) (Ab (decide ((qI (y1.2.2.2.1+(y1.2.1.length:Int))).toNat < y1.2.2.1.length)) (some (Ex.normal,(y1.2.1,y1.2.2.1.set ((qI (y1.2.2.2.1+(y1.2.1.length:Int))).toNat) (IntKind.u32.wrap (y1.2.2.2.2.2.1)),y1.2.2.2.2.2.2.1,y1.2.2.2.2.2.2.2.1,qI (y1.2.2.2.2.2.2.2.2.1+1),())))))
 (none)))
 (some (Ex.exit 0,(b1,out5,t18,t19,t20,())))
def Nk (a0:List Int) (b1:List Int):Option (((List Int)×Unit)×Unit):=
 Ab (decide (0<=qI ((a0.length:Int)+(b1.length:Int)))&&decide (qI ((a0.length:Int)+(b1.length:Int))<=qI ((a0.length:Int)+(b1.length:Int)))&&decide (qI ((a0.length:Int)+(b1.length:Int))<=As)) (
 (Am G_ (b1,List.replicate (qI ((a0.length:Int)+(b1.length:Int))).toNat (0:Int),a0,(a0.length:Int),0,())).bind fun y1=>
 cond (Ex.same y1.1 (Ex.exit 0))
 ((Ey y1.2.2.1).bind fun r2=>
 some ((r2.1.1,()),()))
 (none))
def TE (x0:Rt) (y1:Rt):Option ((Rt×Unit)×Unit):=
 (Nk x0.2.1 y1.2.1).bind fun r1=>
 (Nk x0.2.2 y1.2.2).bind fun r2=>
 (Lf (!(x0.1==y1.1)) r1.1.1 r2.1.1).bind fun r3=>
 some (((r3.1.1.1,r3.1.1.2.1,r3.1.1.2.2),()),())
def NO (x0:Rt) (y1:Rt):Option ((qBs×Unit)×Unit):=
 (TE (x0.1,x0.2.1,x0.2.2) (y1.1,y1.2.2,y1.2.1)).bind fun r1=>
 (LT (r1.1.1.1,r1.1.1.2.1,r1.1.1.2.2)).bind fun r2=>
 some ((r2.1.1,()),())
def Tk (a0:qBs) (b1:qBs) (small2:Unit) (all3:Unit):Option ((qBs×Unit)×Unit):=
 (B0 a0).bind fun r1=>
 (B0 b1).bind fun r2=>
 cond (r1.1.2.1)
 (cond (r2.1.2.1)
 ((OY (r1.1.1.1,r1.1.1.2) (r2.1.1.1,r2.1.1.2)).bind fun r3=>
 some ((r3.1.1,()),()))
 ((Cz a0).bind fun r4=>
 (Cz b1).bind fun r5=>
 cond (!r4.1.2.1)
 (some ((([]:qBs),()),()))
 (cond (!r5.1.2.1)
 (some ((([]:qBs),()),()))
 ((NO (r4.1.1.1,r4.1.1.2.1,r4.1.1.2.2) (r5.1.1.1,r5.1.1.2.1,r5.1.1.2.2)).bind fun r6=>
 some ((r6.1.1,()),())))))
 ((Cz a0).bind fun r7=>
 (Cz b1).bind fun r8=>
 cond (!r7.1.2.1)
 (some ((([]:qBs),()),()))
 (cond (!r8.1.2.1)
 (some ((([]:qBs),()),()))
 ((NO (r7.1.1.1,r7.1.1.2.1,r7.1.1.2.2) (r8.1.1.1,r8.1.1.2.1,r8.1.1.2.2)).bind fun r9=>
 some ((r9.1.1,()),()))))
def RO (a0:qBs) (b1:qBs):Option ((qBs×Unit)×Unit):=
 cond (b1==([48]:qBs))
 (some ((([]:qBs),()),()))
 ((Tk a0 b1 () ()).bind fun r1=>
 some ((r1.1.1,()),()))
def TZ (a0:List Aa) (b1:List Aa):Option (((List Aa)×Int×Unit)×Unit):=
 (Hf a0).bind fun r1=>
 cond (!r1.1.1)
 (some ((([]:List Aa),8,()),()))
 ((Hf b1).bind fun r2=>
 cond (!r2.1.1)
 (some ((([]:List Aa),8,()),()))
 (Ab (decide (0<=(0:Int))&&decide ((0:Int) < a0.length)) (
 Ab (decide (0<=(0:Int))&&decide ((0:Int) < b1.length)) (
 cond ((((a0.getD (0:Int).toNat Ao).2).1) !=(((b1.getD (0:Int).toNat Ao).2).1))
 (some ((([]:List Aa),8,()),()))
 (Ab (decide (0<=(0:Int))&&decide ((0:Int) < b1.length)) (
 cond ((((((b1.getD (0:Int).toNat Ao).2).2).2).1)==([48]:qBs))
 (some ((([]:List Aa),8,()),()))
 (Ab (decide (0<=(0:Int))&&decide ((0:Int) < a0.length)) (
 Ab (decide (0<=(0:Int))&&decide ((0:Int) < b1.length)) (
 (RO (((((a0.getD (0:Int).toNat Ao).2).2).2).1) (((((b1.getD (0:Int).toNat Ao).2).2).2).1)).bind fun r3=>
 (Fc (3,3,([]:qBs),r3.1.1,(0:Int))).bind fun r4=>
 some ((r4.1.1,0,()),()))))))))))
def NL (r0:(List (Int×qBs×Af))×List (qBs×qBs×Ac)) (op1:Int) (a2:List Aa) (i3:Int):Option (((List Aa)×Int×Unit)×(((List (Int×qBs×Af))×List (qBs×qBs×Ac))×Unit)):=
 Ab (decide (0<=i3)&&decide (i3 < r0.1.length)) (
 cond (((r0.1.getD i3.toNat ((0:Int),([]:qBs),(0:Int),(0:Int))).1) !=(2:Int))
 (some ((([]:List Aa),8,()),r0,()))
 (cond ((((r0.1.getD i3.toNat ((0:Int),([]:qBs),(0:Int),(0:Int))).2).1)==([48]:qBs))
 (some ((([]:List Aa),8,()),r0,()))
 ((C7 (op1,(0:Int),([]:qBs),((r0.1.getD i3.toNat ((0:Int),([]:qBs),(0:Int),(0:Int))).2).1,(0:Int)) ([a2]:List (List Aa))).bind fun r1=>
 some ((r1.1.1,r1.1.2.1,()),r0,()))))
def N5 (n0:Aa):Option ((qBs×Unit)×Unit):=
 cond (n0.1==6)
 (some ((([110,111,116]:qBs),()),()))
 (cond (n0.1==7)
 (some ((([97,110,100]:qBs),()),()))
 (cond (n0.1==8)
 (some ((([111,114]:qBs),()),()))
 (cond (n0.1==9)
 (some ((([61,62]:qBs),()),()))
 (cond (n0.1==10)
 (some ((([105,116,101]:qBs),()),()))
 (cond (n0.1==11)
 (some ((([61]:qBs),()),()))
 (cond (n0.1==12)
 (some ((([60,61]:qBs),()),()))
 (cond (n0.1==13)
 (some ((([60]:qBs),()),()))
 (cond (n0.1==14)
 (some ((([43]:qBs),()),()))
 (cond (n0.1==15)
 (some ((([42]:qBs),()),()))
 (cond (n0.1==16)
 (some ((([100,105,118]:qBs),()),()))
 (cond (n0.1==17)
 (some ((([109,111,100]:qBs),()),()))
 (cond (n0.1==18)
 (some ((([115,101,108,101,99,116]:qBs),()),()))
 (cond (n0.1==19)
 (some ((([115,116,111,114,101]:qBs),()),()))
 (cond (n0.1==20)
 (some ((([99,111,110,115,116]:qBs),()),()))
 (some ((n0.2.2.1,()),()))))))))))))))))
def Ve (x:((List (Int×qBs×Af))×List (qBs×qBs×Ac))×(List Aa)×Int×(qBs×Ac)×(List Aa)×Int×(List (List Aa))×Int×Int×Unit):Option (Ex×(((List (Int×qBs×Af))×List (qBs×qBs×Ac))×(List Aa)×Int×(qBs×Ac)×(List Aa)×Int×(List (List Aa))×Int×Int×Unit)):=
 let r0:=x.1
 let t6:=x.2.1
 let t7:=x.2.2.1
 let f8:=x.2.2.2.1
 let t9:=x.2.2.2.2.1
 let e10:=x.2.2.2.2.2.1
 let t28:=x.2.2.2.2.2.2.1
 let t29:=x.2.2.2.2.2.2.2.1
 let t30:=x.2.2.2.2.2.2.2.2.1
 cond (decide (t30 < t29))
 (Ab (decide (0<=t30)&&decide (t30 < t28.length)) (
 (EK (t28.getD t30.toNat ([]:List Aa))).bind fun r1=>
 Ab (decide (0<=t30)&&decide (t30 < f8.2.1.length)) (
 cond (r1.1.1 !=(f8.2.1.getD t30.toNat (0:Int)))
 (some (Ex.ret,(r0,([]:List Aa),3,f8,t9,e10,t28,t29,t30,())))
 (some (Ex.normal,(r0,t6,t7,f8,t9,e10,t28,t29,qI (t30+1),()))))))
 (some (Ex.exit 0,(r0,t6,t7,f8,t9,e10,t28,t29,t30,())))
def PS (r0:(List (Int×qBs×Af))×List (qBs×qBs×Ac)) (name1:qBs) (l2:List (List Aa)):Option (((List Aa)×Int×Unit)×(((List (Int×qBs×Af))×List (qBs×qBs×Ac))×Unit)):=
 (C7 (5,(((AT name1 r0.2).getD (([]:qBs),([]:List Int),(0:Int))).2).2,name1,([]:qBs),(0:Int)) l2).bind fun r1=>
 (Am Ve (r0,([]:List Aa),0,(AT name1 r0.2).getD (([]:qBs),([]:List Int),(0:Int)),r1.1.1,r1.1.2.1,l2,(l2.length:Int),0,())).bind fun y2=>
 cond (Ex.same y2.1 (Ex.exit 0))
 (some ((y2.2.2.2.2.2.1,y2.2.2.2.2.2.2.1,()),y2.2.1,()))
 (cond (Ex.same y2.1 Ex.ret)
 (some ((y2.2.2.1,y2.2.2.2.1,()),y2.2.1,()))
 (none))
def S3 (x:((List (Int×qBs×Af))×List (qBs×qBs×Ac))×qBs×(List (List Aa))×(List Aa)×Int×Int×Unit):Option (Ex×(((List (Int×qBs×Af))×List (qBs×qBs×Ac))×qBs×(List (List Aa))×(List Aa)×Int×Int×Unit)):=
 let r0:=x.1
 let word1:=x.2.1
 let l3:=x.2.2.1
 let t8:=x.2.2.2.1
 let t9:=x.2.2.2.2.1
 let op12:=x.2.2.2.2.2.1
 cond (decide (op12<=20))
 ((N5 (op12,(0:Int),([]:qBs),([]:qBs),(0:Int))).bind fun r1=>
 cond (r1.1.1==word1)
 ((C7 (op12,(0:Int),([]:qBs),([]:qBs),(0:Int)) l3).bind fun r2=>
 some (Ex.ret,(r0,word1,l3,r2.1.1,r2.1.2.1,op12,())))
 (some (Ex.normal,(r0,word1,l3,t8,t9,qI (op12+1),()))))
 (some (Ex.exit 1,(r0,word1,l3,t8,t9,op12,())))
def KS (r0:(List (Int×qBs×Af))×List (qBs×qBs×Ac)) (word1:qBs) (kids2:List Int) (l3:List (List Aa)):Option (((List Aa)×Int×Unit)×(((List (Int×qBs×Af))×List (qBs×qBs×Ac))×Unit)):=
 cond (word1==([42]:qBs))
 (Ab (decide (0<=(0:Int))&&decide ((0:Int) < l3.length)) (
 Ab (decide (0<=(1:Int))&&decide ((1:Int) < l3.length)) (
 (PQ (l3.getD (0:Int).toNat ([]:List Aa)) (l3.getD (1:Int).toNat ([]:List Aa))).bind fun r1=>
 some ((r1.1.1,r1.1.2.1,()),r0,()))))
 (cond (word1==([45]:qBs))
 ((TF l3).bind fun r2=>
 some ((r2.1.1,r2.1.2.1,()),r0,()))
 (cond (word1==([47]:qBs))
 (Ab (decide (0<=(0:Int))&&decide ((0:Int) < l3.length)) (
 Ab (decide (0<=(1:Int))&&decide ((1:Int) < l3.length)) (
 (TZ (l3.getD (0:Int).toNat ([]:List Aa)) (l3.getD (1:Int).toNat ([]:List Aa))).bind fun r3=>
 some ((r3.1.1,r3.1.2.1,()),r0,()))))
 (cond (word1==([100,105,118]:qBs))
 (Ab (decide (0<=(0:Int))&&decide ((0:Int) < l3.length)) (
 Ab (decide (0<=(1:Int))&&decide ((1:Int) < kids2.length)) (
 (NL r0 16 (l3.getD (0:Int).toNat ([]:List Aa)) (kids2.getD (1:Int).toNat (0:Int))).bind fun r4=>
 some ((r4.1.1,r4.1.2.1,()),r4.2.1,()))))
 (cond (word1==([109,111,100]:qBs))
 (Ab (decide (0<=(0:Int))&&decide ((0:Int) < l3.length)) (
 Ab (decide (0<=(1:Int))&&decide ((1:Int) < kids2.length)) (
 (NL r0 17 (l3.getD (0:Int).toNat ([]:List Aa)) (kids2.getD (1:Int).toNat (0:Int))).bind fun r5=>
 some ((r5.1.1,r5.1.2.1,()),r5.2.1,()))))
 (cond (word1==([62]:qBs))
 (Ab (decide (0<=(1:Int))&&decide ((1:Int) < l3.length)) (
 Ab (decide (0<=(0:Int))&&decide ((0:Int) < l3.length)) (
 (C7 (13,(0:Int),([]:qBs),([]:qBs),(0:Int)) ([l3.getD (1:Int).toNat ([]:List Aa),l3.getD (0:Int).toNat ([]:List Aa)]:List (List Aa))).bind fun r6=>
 some ((r6.1.1,r6.1.2.1,()),r0,()))))
 (cond (word1==([62,61]:qBs))
 (Ab (decide (0<=(1:Int))&&decide ((1:Int) < l3.length)) (
 Ab (decide (0<=(0:Int))&&decide ((0:Int) < l3.length)) (
 (C7 (12,(0:Int),([]:qBs),([]:qBs),(0:Int)) ([l3.getD (1:Int).toNat ([]:List Aa),l3.getD (0:Int).toNat ([]:List Aa)]:List (List Aa))).bind fun r7=>
 some ((r7.1.1,r7.1.2.1,()),r0,()))))
 (cond (word1==([100,105,115,116,105,110,99,116]:qBs))
 ((C7 (11,(0:Int),([]:qBs),([]:qBs),(0:Int)) l3).bind fun r8=>
 cond (r8.1.2.1 !=(0:Int))
 (some ((([]:List Aa),r8.1.2.1,()),r0,()))
 ((C7 (6,(0:Int),([]:qBs),([]:qBs),(0:Int)) ([r8.1.1]:List (List Aa))).bind fun r9=>
 some ((r9.1.1,r9.1.2.1,()),r0,())))
 ((Am S3 (r0,word1,l3,([]:List Aa),0,6,())).bind fun y10=>
 cond (Ex.same y10.1 (Ex.exit 1))
 ((PS y10.2.1 y10.2.2.1 y10.2.2.2.1).bind fun r11=>
 some ((r11.1.1,r11.1.2.1,()),r11.2.1,()))
 (cond (Ex.same y10.1 Ex.ret)
 (some ((y10.2.2.2.2.1,y10.2.2.2.2.2.1,()),y10.2.1,()))
 (none))))))))))
def Si (x:((List (Int×qBs×Af))×List (qBs×qBs×Ac))×(List qBs)×(List Int)×Bool×(List qBs)×(List Int)×(List (qBs×Bool))×(List Int)×Int×Int×Unit):Option (Ex×(((List (Int×qBs×Af))×List (qBs×qBs×Ac))×(List qBs)×(List Int)×Bool×(List qBs)×(List Int)×(List (qBs×Bool))×(List Int)×Int×Int×Unit)):=
 let r0:=x.1
 let t4:=x.2.1
 let t5:=x.2.2.1
 let t6:=x.2.2.2.1
 let names7:=x.2.2.2.2.1
 let items8:=x.2.2.2.2.2.1
 let seen9:=x.2.2.2.2.2.2.1
 let t37:=x.2.2.2.2.2.2.2.1
 let t38:=x.2.2.2.2.2.2.2.2.1
 let t39:=x.2.2.2.2.2.2.2.2.2.1
 cond (decide (t39 < t38))
 (Ab (decide (0<=t39)&&decide (t39 < t37.length)) (
 Ab (decide (0<=t37.getD t39.toNat (0:Int))&&decide (t37.getD t39.toNat (0:Int) < r0.1.length)) (
 cond (((r0.1.getD (t37.getD t39.toNat (0:Int)).toNat ((0:Int),([]:qBs),(0:Int),(0:Int))).1) !=(5:Int))
 (some (Ex.ret,(r0,([]:List qBs),([]:List Int),false,names7,items8,seen9,t37,t38,t39,())))
 (Ab (decide (0<=t37.getD t39.toNat (0:Int))&&decide (t37.getD t39.toNat (0:Int) < r0.1.length)) (
 cond (((((r0.1.getD (t37.getD t39.toNat (0:Int)).toNat ((0:Int),([]:qBs),(0:Int),(0:Int))).2).2).1) !=(2:Int))
 (some (Ex.ret,(r0,([]:List qBs),([]:List Int),false,names7,items8,seen9,t37,t38,t39,())))
 ((LI r0 (t37.getD t39.toNat (0:Int))).bind fun r1=>
 Ab (decide (0<=(0:Int))&&decide ((0:Int) < r1.1.1.length)) (
 Ab (decide (0<=r1.1.1.getD (0:Int).toNat (0:Int))&&decide (r1.1.1.getD (0:Int).toNat (0:Int) < r1.2.1.1.length)) (
 cond (((r1.2.1.1.getD (r1.1.1.getD (0:Int).toNat (0:Int)).toNat ((0:Int),([]:qBs),(0:Int),(0:Int))).1) !=(1:Int))
 (some (Ex.ret,(r1.2.1,([]:List qBs),([]:List Int),false,names7,items8,seen9,t37,t38,t39,())))
 ((Fm (((r1.2.1.1.getD (r1.1.1.getD (0:Int).toNat (0:Int)).toNat ((0:Int),([]:qBs),(0:Int),(0:Int))).2).1)).bind fun r2=>
 cond (!r2.1.1)
 (some (Ex.ret,(r1.2.1,([]:List qBs),([]:List Int),false,names7,items8,seen9,t37,t38,t39,())))
 (cond ((AT (((r1.2.1.1.getD (r1.1.1.getD (0:Int).toNat (0:Int)).toNat ((0:Int),([]:qBs),(0:Int),(0:Int))).2).1) seen9).getD false)
 (some (Ex.ret,(r1.2.1,([]:List qBs),([]:List Int),false,names7,items8,seen9,t37,t38,t39,())))
 (Ab (decide (names7.length+([((r1.2.1.1.getD (r1.1.1.getD (0:Int).toNat (0:Int)).toNat ((0:Int),([]:qBs),(0:Int),(0:Int))).2).1]:List qBs).length<=As)) (Ab (decide (0<=(1:Int))&&decide ((1:Int) < r1.1.1.length)) (Ab (decide (items8.length+([r1.1.1.getD (1:Int).toNat (0:Int)]:List Int).length<=As)) (some (Ex.normal,(r1.2.1,t4,t5,t6,names7++([((r1.2.1.1.getD (r1.1.1.getD (0:Int).toNat (0:Int)).toNat ((0:Int),([]:qBs),(0:Int),(0:Int))).2).1]:List qBs),items8++([r1.1.1.getD (1:Int).toNat (0:Int)]:List Int),Bw (((r1.2.1.1.getD (r1.1.1.getD (0:Int).toNat (0:Int)).toNat ((0:Int),([]:qBs),(0:Int),(0:Int))).2).1) true seen9,t37,t38,qI (t39+1),()))))))))))))))))
 (some (Ex.exit 0,(r0,t4,t5,t6,names7,items8,seen9,t37,t38,t39,())))
def QH (r0:(List (Int×qBs×Af))×List (qBs×qBs×Ac)) (i1:Int):Option (((List qBs)×(List Int)×Bool×Unit)×(((List (Int×qBs×Af))×List (qBs×qBs×Ac))×Unit)):=
 Ab (decide (0<=i1)&&decide (i1 < r0.1.length)) (
 cond (((r0.1.getD i1.toNat ((0:Int),([]:qBs),(0:Int),(0:Int))).1) !=(5:Int))
 (some ((([]:List qBs),([]:List Int),false,()),r0,()))
 (Ab (decide (0<=i1)&&decide (i1 < r0.1.length)) (
 cond (((((r0.1.getD i1.toNat ((0:Int),([]:qBs),(0:Int),(0:Int))).2).2).1)==0)
 (some ((([]:List qBs),([]:List Int),false,()),r0,()))
 ((LI r0 i1).bind fun r1=>
 (Am Si (r1.2.1,([]:List qBs),([]:List Int),false,([]:List qBs),([]:List Int),([]:List (qBs×Bool)),r1.1.1,(r1.1.1.length:Int),0,())).bind fun y2=>
 cond (Ex.same y2.1 (Ex.exit 0))
 (some ((y2.2.2.2.2.2.1,y2.2.2.2.2.2.2.1,true,()),y2.2.1,()))
 (cond (Ex.same y2.1 Ex.ret)
 (some ((y2.2.2.1,y2.2.2.2.1,y2.2.2.2.2.1,()),y2.2.1,()))
 (none))))))
def S9 (AHp:((List (Int×qBs×Af))×List (qBs×qBs×Ac))->Int->(List (qBs×List Aa))->Option (((List Aa)×Af×Unit)×(((List (Int×qBs×Af))×List (qBs×qBs×Ac))×Unit))) (AHo:((List (Int×qBs×Af))×List (qBs×qBs×Ac))->Int->(List (qBs×List Aa))->Option (((List Aa)×Af×Unit)×(((List (Int×qBs×Af))×List (qBs×qBs×Ac))×Unit))) (AHn:((List (Int×qBs×Af))×List (qBs×qBs×Ac))->Int->List Int->(List (qBs×List Aa))->Option (((List Aa)×Af×Unit)×(((List (Int×qBs×Af))×List (qBs×qBs×Ac))×Unit))) (r0:(List (Int×qBs×Af))×List (qBs×qBs×Ac)) (i1:Int) (s2:List (qBs×List Aa)):Option (((List Aa)×Af×Unit)×(((List (Int×qBs×Af))×List (qBs×qBs×Ac))×Unit)):=
 Ab (decide (0<=i1)&&decide (i1 < r0.1.length)) (
 cond (((r0.1.getD i1.toNat ((0:Int),([]:qBs),(0:Int),(0:Int))).1)==2)
 ((Fc (3,2,([]:qBs),((r0.1.getD i1.toNat ((0:Int),([]:qBs),(0:Int),(0:Int))).2).1,(0:Int))).bind fun r1=>
 some ((r1.1.1,((0:Int),(0:Int)),()),r0,()))
 (cond (((r0.1.getD i1.toNat ((0:Int),([]:qBs),(0:Int),(0:Int))).1)==3)
 ((Rp (((r0.1.getD i1.toNat ((0:Int),([]:qBs),(0:Int),(0:Int))).2).1)).bind fun r2=>
 (Fc (3,3,([]:qBs),r2.1.1,(0:Int))).bind fun r3=>
 some ((r3.1.1,((0:Int),(0:Int)),()),r0,()))
 (cond (((r0.1.getD i1.toNat ((0:Int),([]:qBs),(0:Int),(0:Int))).1)==1)
 ((Uy (((r0.1.getD i1.toNat ((0:Int),([]:qBs),(0:Int),(0:Int))).2).1) i1 s2).bind fun r4=>
 some ((r4.1.1,r4.1.2.1,()),r0,()))
 (cond (((r0.1.getD i1.toNat ((0:Int),([]:qBs),(0:Int),(0:Int))).1)==5)
 ((AHo r0 i1 s2).bind fun r5=>
 some ((r5.1.1,r5.1.2.1,()),r5.2.1,()))
 (some ((([]:List Aa),(2,i1),()),r0,()))))))
def KU (AHp:((List (Int×qBs×Af))×List (qBs×qBs×Ac))->Int->(List (qBs×List Aa))->Option (((List Aa)×Af×Unit)×(((List (Int×qBs×Af))×List (qBs×qBs×Ac))×Unit))) (AHo:((List (Int×qBs×Af))×List (qBs×qBs×Ac))->Int->(List (qBs×List Aa))->Option (((List Aa)×Af×Unit)×(((List (Int×qBs×Af))×List (qBs×qBs×Ac))×Unit))) (AHn:((List (Int×qBs×Af))×List (qBs×qBs×Ac))->Int->List Int->(List (qBs×List Aa))->Option (((List Aa)×Af×Unit)×(((List (Int×qBs×Af))×List (qBs×qBs×Ac))×Unit))) (x:((List (Int×qBs×Af))×List (qBs×qBs×Ac))×Int×(List (qBs×List Aa))×(List Aa)×Af×(List Int)×qBs×(List (List Aa))×(List Int)×Int×Int×Unit):Option (Ex×(((List (Int×qBs×Af))×List (qBs×qBs×Ac))×Int×(List (qBs×List Aa))×(List Aa)×Af×(List Int)×qBs×(List (List Aa))×(List Int)×Int×Int×Unit)):=
 let r0:=x.1
 let i1:=x.2.1
 let s2:=x.2.2.1
 let t6:=x.2.2.2.1
 let t7:=x.2.2.2.2.1
 let kids8:=x.2.2.2.2.2.1
 let word9:=x.2.2.2.2.2.2.1
 let terms14:=x.2.2.2.2.2.2.2.1
 let t95:=x.2.2.2.2.2.2.2.2.1
 let t96:=x.2.2.2.2.2.2.2.2.2.1
 let t97:=x.2.2.2.2.2.2.2.2.2.2.1
 cond (decide (t97 < t96))
 (Ab (decide (0<=t97)&&decide (t97 < t95.length)) (
 (AHp r0 (t95.getD t97.toNat (0:Int)) s2).bind fun r1=>
 cond (r1.1.2.1.1 !=(0:Int))
 (some (Ex.ret,(r1.2.1,i1,s2,([]:List Aa),r1.1.2.1,kids8,word9,terms14,t95,t96,t97,())))
 (Ab (decide (terms14.length+([r1.1.1]:List (List Aa)).length<=As)) (some (Ex.normal,(r1.2.1,i1,s2,t6,t7,kids8,word9,terms14++([r1.1.1]:List (List Aa)),t95,t96,qI (t97+1),()))))))
 (some (Ex.exit 0,(r0,i1,s2,t6,t7,kids8,word9,terms14,t95,t96,t97,())))
def Uw (AHp:((List (Int×qBs×Af))×List (qBs×qBs×Ac))->Int->(List (qBs×List Aa))->Option (((List Aa)×Af×Unit)×(((List (Int×qBs×Af))×List (qBs×qBs×Ac))×Unit))) (AHo:((List (Int×qBs×Af))×List (qBs×qBs×Ac))->Int->(List (qBs×List Aa))->Option (((List Aa)×Af×Unit)×(((List (Int×qBs×Af))×List (qBs×qBs×Ac))×Unit))) (AHn:((List (Int×qBs×Af))×List (qBs×qBs×Ac))->Int->List Int->(List (qBs×List Aa))->Option (((List Aa)×Af×Unit)×(((List (Int×qBs×Af))×List (qBs×qBs×Ac))×Unit))) (r0:(List (Int×qBs×Af))×List (qBs×qBs×Ac)) (i1:Int) (s2:List (qBs×List Aa)):Option (((List Aa)×Af×Unit)×(((List (Int×qBs×Af))×List (qBs×qBs×Ac))×Unit)):=
 (LI r0 i1).bind fun r1=>
 cond ((r1.1.1.length:Int)==0)
 (some ((([]:List Aa),(2,i1),()),r1.2.1,()))
 (Ab (decide (0<=(0:Int))&&decide ((0:Int) < r1.1.1.length)) (
 Ab (decide (0<=r1.1.1.getD (0:Int).toNat (0:Int))&&decide (r1.1.1.getD (0:Int).toNat (0:Int) < r1.2.1.1.length)) (
 cond (((r1.2.1.1.getD (r1.1.1.getD (0:Int).toNat (0:Int)).toNat ((0:Int),([]:qBs),(0:Int),(0:Int))).1) !=(1:Int))
 (some ((([]:List Aa),(2,i1),()),r1.2.1,()))
 (Ab (decide (0<=(0:Int))&&decide ((0:Int) < r1.1.1.length)) (
 Ab (decide (0<=r1.1.1.getD (0:Int).toNat (0:Int))&&decide (r1.1.1.getD (0:Int).toNat (0:Int) < r1.2.1.1.length)) (
 (R0 r1.2.1 (((r1.2.1.1.getD (r1.1.1.getD (0:Int).toNat (0:Int)).toNat ((0:Int),([]:qBs),(0:Int),(0:Int))).2).1)).bind fun r2=>
 Ab (decide (0<=(1:Int))&&decide ((1:Int)<=r1.1.1.length)) (
 cond (!r2.1.2.2.1)
 (some ((([]:List Aa),(2,i1),()),r2.2.1,()))
 (cond (decide (((r1.1.1.drop (1:Int).toNat).length:Int) < r2.1.1))
 (some ((([]:List Aa),(2,i1),()),r2.2.1,()))
 (cond (decide (((r1.1.1.drop (1:Int).toNat).length:Int) > r2.1.2.1))
 (some ((([]:List Aa),(2,i1),()),r2.2.1,()))
 (cond ((((r1.2.1.1.getD (r1.1.1.getD (0:Int).toNat (0:Int)).toNat ((0:Int),([]:qBs),(0:Int),(0:Int))).2).1)==([108,101,116]:qBs))
 ((AHn r2.2.1 i1 (r1.1.1.drop (1:Int).toNat) s2).bind fun r3=>
 some ((r3.1.1,r3.1.2.1,()),r3.2.1,()))
 (cond ((((r1.2.1.1.getD (r1.1.1.getD (0:Int).toNat (0:Int)).toNat ((0:Int),([]:qBs),(0:Int),(0:Int))).2).1)==([100,105,118]:qBs))
 (Ab (decide (0<=(1:Int))&&decide ((1:Int)<=(r1.1.1.drop (1:Int).toNat).length)) (
 (Am (KU AHp AHo AHn) (r2.2.1,i1,s2,([]:List Aa),((0:Int),(0:Int)),r1.1.1.drop (1:Int).toNat,((r1.2.1.1.getD (r1.1.1.getD (0:Int).toNat (0:Int)).toNat ((0:Int),([]:qBs),(0:Int),(0:Int))).2).1,([]:List (List Aa)),(r1.1.1.drop (1:Int).toNat).take (1:Int).toNat,(((r1.1.1.drop (1:Int).toNat).take (1:Int).toNat).length:Int),0,())).bind fun y4=>
 cond (Ex.same y4.1 (Ex.exit 0))
 ((KS y4.2.1 y4.2.2.2.2.2.2.2.1 y4.2.2.2.2.2.2.1 y4.2.2.2.2.2.2.2.2.1).bind fun r5=>
 cond (r5.1.2.1 !=(0:Int))
 (some ((([]:List Aa),(r5.1.2.1,y4.2.2.1),()),r5.2.1,()))
 (some ((r5.1.1,((0:Int),(0:Int)),()),r5.2.1,())))
 (cond (Ex.same y4.1 Ex.ret)
 (some ((y4.2.2.2.2.1,y4.2.2.2.2.2.1,()),y4.2.1,()))
 (none))))
 (cond ((((r1.2.1.1.getD (r1.1.1.getD (0:Int).toNat (0:Int)).toNat ((0:Int),([]:qBs),(0:Int),(0:Int))).2).1)==([109,111,100]:qBs))
 (Ab (decide (0<=(1:Int))&&decide ((1:Int)<=(r1.1.1.drop (1:Int).toNat).length)) (
 (Am (KU AHp AHo AHn) (r2.2.1,i1,s2,([]:List Aa),((0:Int),(0:Int)),r1.1.1.drop (1:Int).toNat,((r1.2.1.1.getD (r1.1.1.getD (0:Int).toNat (0:Int)).toNat ((0:Int),([]:qBs),(0:Int),(0:Int))).2).1,([]:List (List Aa)),(r1.1.1.drop (1:Int).toNat).take (1:Int).toNat,(((r1.1.1.drop (1:Int).toNat).take (1:Int).toNat).length:Int),0,())).bind fun y6=>
 cond (Ex.same y6.1 (Ex.exit 0))
 ((KS y6.2.1 y6.2.2.2.2.2.2.2.1 y6.2.2.2.2.2.2.1 y6.2.2.2.2.2.2.2.2.1).bind fun r7=>
 cond (r7.1.2.1 !=(0:Int))
 (some ((([]:List Aa),(r7.1.2.1,y6.2.2.1),()),r7.2.1,()))
 (some ((r7.1.1,((0:Int),(0:Int)),()),r7.2.1,())))
 (cond (Ex.same y6.1 Ex.ret)
 (some ((y6.2.2.2.2.1,y6.2.2.2.2.2.1,()),y6.2.1,()))
 (none))))
 ((Am (KU AHp AHo AHn) (r2.2.1,i1,s2,([]:List Aa),((0:Int),(0:Int)),r1.1.1.drop (1:Int).toNat,((r1.2.1.1.getD (r1.1.1.getD (0:Int).toNat (0:Int)).toNat ((0:Int),([]:qBs),(0:Int),(0:Int))).2).1,([]:List (List Aa)),r1.1.1.drop (1:Int).toNat,((r1.1.1.drop (1:Int).toNat).length:Int),0,())).bind fun y8=>
 cond (Ex.same y8.1 (Ex.exit 0))
 ((KS y8.2.1 y8.2.2.2.2.2.2.2.1 y8.2.2.2.2.2.2.1 y8.2.2.2.2.2.2.2.2.1).bind fun r9=>
 cond (r9.1.2.1 !=(0:Int))
 (some ((([]:List Aa),(r9.1.2.1,y8.2.2.1),()),r9.2.1,()))
 (some ((r9.1.1,((0:Int),(0:Int)),()),r9.2.1,())))
 (cond (Ex.same y8.1 Ex.ret)
 (some ((y8.2.2.2.2.1,y8.2.2.2.2.2.1,()),y8.2.1,()))
 (none)))))))))))))))
def Qq (AHp:((List (Int×qBs×Af))×List (qBs×qBs×Ac))->Int->(List (qBs×List Aa))->Option (((List Aa)×Af×Unit)×(((List (Int×qBs×Af))×List (qBs×qBs×Ac))×Unit))) (AHo:((List (Int×qBs×Af))×List (qBs×qBs×Ac))->Int->(List (qBs×List Aa))->Option (((List Aa)×Af×Unit)×(((List (Int×qBs×Af))×List (qBs×qBs×Ac))×Unit))) (AHn:((List (Int×qBs×Af))×List (qBs×qBs×Ac))->Int->List Int->(List (qBs×List Aa))->Option (((List Aa)×Af×Unit)×(((List (Int×qBs×Af))×List (qBs×qBs×Ac))×Unit))) (x:((List (Int×qBs×Af))×List (qBs×qBs×Ac))×(List Int)×(List (qBs×List Aa))×(List Aa)×Af×(List qBs)×(List (qBs×List Aa))×(List Int)×Int×Int×Unit):Option (Ex×(((List (Int×qBs×Af))×List (qBs×qBs×Ac))×(List Int)×(List (qBs×List Aa))×(List Aa)×Af×(List qBs)×(List (qBs×List Aa))×(List Int)×Int×Int×Unit)):=
 let r0:=x.1
 let kids2:=x.2.1
 let s3:=x.2.2.1
 let t8:=x.2.2.2.1
 let t9:=x.2.2.2.2.1
 let names10:=x.2.2.2.2.2.1
 let inner13:=x.2.2.2.2.2.2.1
 let t32:=x.2.2.2.2.2.2.2.1
 let t33:=x.2.2.2.2.2.2.2.2.1
 let t34:=x.2.2.2.2.2.2.2.2.2.1
 cond (decide (t34 < t33))
 (Ab (decide (0<=t34)&&decide (t34 < t32.length)) (
 (AHp r0 (t32.getD t34.toNat (0:Int)) s3).bind fun r1=>
 cond (r1.1.2.1.1 !=(0:Int))
 (some (Ex.ret,(r1.2.1,kids2,s3,([]:List Aa),r1.1.2.1,names10,inner13,t32,t33,t34,())))
 (Ab (decide (0<=t34)&&decide (t34 < names10.length)) (some (Ex.normal,(r1.2.1,kids2,s3,t8,t9,names10,(names10.getD t34.toNat ([]:qBs),r1.1.1)::inner13,t32,t33,qI (t34+1),()))))))
 (some (Ex.exit 0,(r0,kids2,s3,t8,t9,names10,inner13,t32,t33,t34,())))
def U_ (AHp:((List (Int×qBs×Af))×List (qBs×qBs×Ac))->Int->(List (qBs×List Aa))->Option (((List Aa)×Af×Unit)×(((List (Int×qBs×Af))×List (qBs×qBs×Ac))×Unit))) (AHo:((List (Int×qBs×Af))×List (qBs×qBs×Ac))->Int->(List (qBs×List Aa))->Option (((List Aa)×Af×Unit)×(((List (Int×qBs×Af))×List (qBs×qBs×Ac))×Unit))) (AHn:((List (Int×qBs×Af))×List (qBs×qBs×Ac))->Int->List Int->(List (qBs×List Aa))->Option (((List Aa)×Af×Unit)×(((List (Int×qBs×Af))×List (qBs×qBs×Ac))×Unit))) (r0:(List (Int×qBs×Af))×List (qBs×qBs×Ac)) (i1:Int) (kids2:List Int) (s3:List (qBs×List Aa)):Option (((List Aa)×Af×Unit)×(((List (Int×qBs×Af))×List (qBs×qBs×Ac))×Unit)):=
 Ab (decide (0<=(0:Int))&&decide ((0:Int) < kids2.length)) (
 (QH r0 (kids2.getD (0:Int).toNat (0:Int))).bind fun r1=>
 cond (!r1.1.2.2.1)
 (some ((([]:List Aa),(2,i1),()),r1.2.1,()))
 ((Am (Qq AHp AHo AHn) (r1.2.1,kids2,s3,([]:List Aa),((0:Int),(0:Int)),r1.1.1,s3,r1.1.2.1,(r1.1.2.1.length:Int),0,())).bind fun y2=>
 cond (Ex.same y2.1 (Ex.exit 0))
 (Ab (decide (0<=(1:Int))&&decide ((1:Int) < y2.2.2.1.length)) (
 (AHp y2.2.1 (y2.2.2.1.getD (1:Int).toNat (0:Int)) y2.2.2.2.2.2.2.2.1).bind fun r3=>
 some ((r3.1.1,r3.1.2.1,()),r3.2.1,())))
 (cond (Ex.same y2.1 Ex.ret)
 (some ((y2.2.2.2.2.1,y2.2.2.2.2.2.1,()),y2.2.1,()))
 (none))))
def DI:Nat->(((List (Int×qBs×Af))×List (qBs×qBs×Ac))->Int->(List (qBs×List Aa))->Option (((List Aa)×Af×Unit)×(((List (Int×qBs×Af))×List (qBs×qBs×Ac))×Unit)))×(((List (Int×qBs×Af))×List (qBs×qBs×Ac))->Int->(List (qBs×List Aa))->Option (((List Aa)×Af×Unit)×(((List (Int×qBs×Af))×List (qBs×qBs×Ac))×Unit)))×(((List (Int×qBs×Af))×List (qBs×qBs×Ac))->Int->List Int->(List (qBs×List Aa))->Option (((List Aa)×Af×Unit)×(((List (Int×qBs×Af))×List (qBs×qBs×Ac))×Unit)))
 |0=>(fun _ _ _=>none,fun _ _ _=>none,fun _ _ _ _=>none)
 |n+1=>(S9 (DI n).1 (DI n).2.1 (DI n).2.2,Uw (DI n).1 (DI n).2.1 (DI n).2.2,U_ (DI n).1 (DI n).2.1 (DI n).2.2)
def Hc (n:Nat):((List (Int×qBs×Af))×List (qBs×qBs×Ac))->Int->(List (qBs×List Aa))->Option (((List Aa)×Af×Unit)×(((List (Int×qBs×Af))×List (qBs×qBs×Ac))×Unit)):=(DI n).1
def JM (n:Nat):((List (Int×qBs×Af))×List (qBs×qBs×Ac))->Int->(List (qBs×List Aa))->Option (((List Aa)×Af×Unit)×(((List (Int×qBs×Af))×List (qBs×qBs×Ac))×Unit)):=(DI n).2.1
def J3 (n:Nat):((List (Int×qBs×Af))×List (qBs×qBs×Ac))->Int->List Int->(List (qBs×List Aa))->Option (((List Aa)×Af×Unit)×(((List (Int×qBs×Af))×List (qBs×qBs×Ac))×Unit)):=(DI n).2.2
def Su (l0:List (Int×qBs×Af)) (i1:Int) (vars2:List Vr) (funcs3:List (qBs×Ac)):Option (((List Aa)×Int×Int×Unit)×Unit):=
 (R4 vars2 funcs3).bind fun r1=>
 cond (!r1.1.2.2.1)
 (some ((([]:List Aa),0,1,()),()))
 ((Ol l0).bind fun r2=>
 cond (!r2.1.1)
 (some ((([]:List Aa),0,1,()),()))
 (cond (decide (i1 < (0:Int)))
 (some ((([]:List Aa),0,1,()),()))
 (cond (decide (i1>=(l0.length:Int)))
 (some ((([]:List Aa),0,1,()),()))
 ((Hc Bl (l0,r1.1.2.1) i1 r1.1.1).bind fun r3=>
 cond (r3.1.2.1.1 !=(0:Int))
 (some ((([]:List Aa),r3.1.2.1.2,r3.1.2.1.1,()),()))
 (Ab (decide (r3.1.1.length<=As)) (some ((r3.1.1,0,0,()),())))))))
def Mv (src0:qBs) (vars1:List Vr) (funcs2:List (qBs×Ac)):Option (((List Aa)×Int×Int×Unit)×Unit):=
 (U' src0).bind fun r1=>
 cond (r1.1.2.2.1 !=(0:Int))
 (some ((([]:List Aa),r1.1.2.1,r1.1.2.2.1,()),()))
 ((Sg r1.1.1).bind fun r2=>
 cond ((r2.1.1.length:Int)==0)
 (some ((([]:List Aa),(src0.length:Int),2,()),()))
 (cond (decide ((r2.1.1.length:Int) > (1:Int)))
 (Ab (decide (0<=(1:Int))&&decide ((1:Int) < r2.1.1.length)) (Ab (decide (0<=r2.1.1.getD (1:Int).toNat (0:Int))&&decide (r2.1.1.getD (1:Int).toNat (0:Int) < r1.1.1.length)) (some ((([]:List Aa),(((r1.1.1.getD (r2.1.1.getD (1:Int).toNat (0:Int)).toNat ((0:Int),([]:qBs),(0:Int),(0:Int))).2).2).2,2,()),()))))
 ((Su r1.1.1 0 vars1 funcs2).bind fun r3=>
 cond (r3.1.2.2.1==0)
 (some ((r3.1.1,0,r3.1.2.2.1,()),()))
 (cond (r3.1.2.2.1==1)
 (some ((r3.1.1,0,r3.1.2.2.1,()),()))
 (Ab (decide (0<=r3.1.2.1)&&decide (r3.1.2.1 < r1.1.1.length)) (some ((([]:List Aa),(((r1.1.1.getD r3.1.2.1.toNat ((0:Int),([]:qBs),(0:Int),(0:Int))).2).2).2,r3.1.2.2.1,()),())))))))
def Uh (a0:qBs):Option ((qBs×Unit)×Unit):=
 (FU a0).bind fun r1=>
 cond (!r1.1.1)
 (some ((([]:qBs),()),()))
 ((strings_Cut a0 ([47]:qBs)).bind fun r2=>
 some ((r2.1.1,()),()))
def TY (a0:qBs):Option ((qBs×Unit)×Unit):=
 (FU a0).bind fun r1=>
 cond (!r1.1.1)
 (some ((([]:qBs),()),()))
 ((strings_Cut a0 ([47]:qBs)).bind fun r2=>
 cond (r2.1.2.2.1)
 (some ((r2.1.2.1,()),()))
 (some ((([49]:qBs),()),())))
def Pm (AHm:Int->qBs->Option ((qBs×Unit)×Unit)) (sort0:Int) (a1:qBs):Option ((qBs×Unit)×Unit):=
 (Fj a1).bind fun r1=>
 cond (decide (r1.1.1 < (0:Int)))
 ((Nm a1).bind fun r2=>
 (AHm sort0 r2.1.1).bind fun r3=>
 Ab (decide (([40,45,32]:qBs).length+r3.1.1.length<=A3)) (Ab (decide ((([40,45,32]:qBs)++r3.1.1).length+([41]:qBs).length<=A3)) (some (((([40,45,32]:qBs)++r3.1.1)++([41]:qBs),()),()))))
 (cond (sort0==2)
 (some ((a1,()),()))
 ((GS a1).bind fun r4=>
 cond (r4.1.1)
 (Ab (decide (a1.length+([46,48]:qBs).length<=A3)) (some ((a1++([46,48]:qBs),()),())))
 ((Uh a1).bind fun r5=>
 Ab (decide (([40,47,32]:qBs).length+r5.1.1.length<=A3)) (
 Ab (decide ((([40,47,32]:qBs)++r5.1.1).length+([46,48,32]:qBs).length<=A3)) (
 (TY a1).bind fun r6=>
 Ab (decide (((([40,47,32]:qBs)++r5.1.1)++([46,48,32]:qBs)).length+r6.1.1.length<=A3)) (Ab (decide ((((([40,47,32]:qBs)++r5.1.1)++([46,48,32]:qBs))++r6.1.1).length+([46,48,41]:qBs).length<=A3)) (some (((((([40,47,32]:qBs)++r5.1.1)++([46,48,32]:qBs))++r6.1.1)++([46,48,41]:qBs),()),()))))))))
def Js:Nat->Int->qBs->Option ((qBs×Unit)×Unit)
 |0=>fun _ _=>none
 |n+1=>Pm (Js n)
def Pr (AHq:Option A4->(Unit×List Int)->Int->Option ((Unit)×((Unit×List Int)×Unit))) (x:(Option A4)×(Unit×List Int)×Aa×(List Int)×Int×Int×Unit):Option (Ex×((Option A4)×(Unit×List Int)×Aa×(List Int)×Int×Int×Unit)):=
 let v0:=x.1
 let b1:=x.2.1
 let n6:=x.2.2.1
 let t25:=x.2.2.2.1
 let t26:=x.2.2.2.2.1
 let t27:=x.2.2.2.2.2.1
 cond (decide (t27 < t26))
 (Ab (decide (0<=t27)&&decide (t27 < t25.length)) (
 (HE ((),b1.2) 32).bind fun r1=>
 (AHq v0 ((),r1.2.1.2) (t25.getD t27.toNat (0:Int))).bind fun r2=>
 some (Ex.normal,(v0,((),r2.2.1.2),n6,t25,t26,qI (t27+1),()))))
 (some (Ex.exit 1,(v0,((),b1.2),n6,t25,t26,t27,())))
def RJ (AHq:Option A4->(Unit×List Int)->Int->Option ((Unit)×((Unit×List Int)×Unit))) (v0:Option A4) (b1:Unit×List Int) (i2:Int):Option ((Unit)×((Unit×List Int)×Unit)):=
 Ab (v0.isSome) (
 Ab (decide (0<=i2)&&decide (i2 < ((v0.getD Bj).1).length)) (
 cond (((((v0.getD Bj).1).getD i2.toNat Ao).1)==1)
 ((Ez ((),b1.2) ([116,114,117,101]:qBs)).bind fun r1=>
 some ((),((),r1.2.1.2),()))
 (cond (((((v0.getD Bj).1).getD i2.toNat Ao).1)==2)
 ((Ez ((),b1.2) ([102,97,108,115,101]:qBs)).bind fun r2=>
 some ((),((),r2.2.1.2),()))
 (cond (((((v0.getD Bj).1).getD i2.toNat Ao).1)==3)
 ((Js Bl (((((v0.getD Bj).1).getD i2.toNat Ao).2).1) (((((((v0.getD Bj).1).getD i2.toNat Ao).2).2).2).1)).bind fun r3=>
 (Ez ((),b1.2) r3.1.1).bind fun r4=>
 some ((),((),r4.2.1.2),()))
 (cond (((((v0.getD Bj).1).getD i2.toNat Ao).1)==4)
 ((Ez ((),b1.2) ((((((v0.getD Bj).1).getD i2.toNat Ao).2).2).1)).bind fun r5=>
 some ((),((),r5.2.1.2),()))
 ((N5 (((v0.getD Bj).1).getD i2.toNat Ao)).bind fun r6=>
 Ab (decide (([40]:qBs).length+r6.1.1.length<=A3)) (
 (Ez ((),b1.2) (([40]:qBs)++r6.1.1)).bind fun r7=>
 (Io v0 i2).bind fun r8=>
 (Am (Pr AHq) (v0,((),r7.2.1.2),((v0.getD Bj).1).getD i2.toNat Ao,r8.1.1,(r8.1.1.length:Int),0,())).bind fun y9=>
 cond (Ex.same y9.1 (Ex.exit 1))
 (cond (!(y9.2.2.2.1.2.2.2.1==([]:qBs)))
 (Ab (decide (([32]:qBs).length+y9.2.2.2.1.2.2.2.1.length<=A3)) (
 (Ez ((),y9.2.2.1.2) (([32]:qBs)++y9.2.2.2.1.2.2.2.1)).bind fun r10=>
 (HE ((),r10.2.1.2) 41).bind fun r11=>
 some ((),((),r11.2.1.2),())))
 ((HE ((),y9.2.2.1.2) 41).bind fun r12=>
 some ((),((),r12.2.1.2),())))
 (none))))))))
def Jn:Nat->Option A4->(Unit×List Int)->Int->Option ((Unit)×((Unit×List Int)×Unit))
 |0=>fun _ _ _=>none
 |n+1=>RJ (Jn n)
def Pq (t0:List Aa):Option ((qBs×Unit)×Unit):=
 (E7 t0).bind fun r1=>
 cond (!r1.1.2.1)
 (some ((([]:qBs),()),()))
 ((Jn Bl r1.1.1 ((),([]:List Int)) 0).bind fun r2=>
 (JB ((),r2.2.1.2)).bind fun r3=>
 some ((r3.1.1,()),()))
def N0:Option ((Bool×Unit)×Unit):=
 (Mv ([40,60,61,32,40,43,32,120,32,49,41,32,121,41]:qBs) ([(([120]:qBs),2),(([121]:qBs),2)]:List Vr) ([]:List (qBs×Ac))).bind fun r1=>
 (Mv ([40,42,32,120,32,121,41]:qBs) ([(([120]:qBs),2),(([121]:qBs),2)]:List Vr) ([]:List (qBs×Ac))).bind fun r2=>
 cond (r1.1.2.2.1==0)
 (cond ((r1.1.1.length:Int)==5)
 (Ab (decide (0<=(0:Int))&&decide ((0:Int) < r1.1.1.length)) (
 cond (((r1.1.1.getD (0:Int).toNat Ao).1)==12)
 ((EK r1.1.1).bind fun r3=>
 cond (r3.1.1==1)
 (cond (r2.1.2.2.1==8)
 (cond (r2.1.2.1==0)
 ((Pq ([(3,3,([]:qBs),([45,51,47,52]:qBs),(0:Int))]:List Aa)).bind fun r4=>
 some ((r4.1.1==([40,45,32,40,47,32,51,46,48,32,52,46,48,41,41]:qBs),()),()))
 (some ((false,()),())))
 (some ((false,()),())))
 (some ((false,()),())))
 (some ((false,()),()))))
 (some ((false,()),())))
 (some ((false,()),()))
def HM (x:Bool×(List Aa)×(List (List Aa))×Int×Int×Unit):Option (Ex×(Bool×(List Aa)×(List (List Aa))×Int×Int×Unit)):=
 let t2:=x.1
 let t3:=x.2.1
 let k4:=x.2.2.1
 let most5:=x.2.2.2.1
 let i6:=x.2.2.2.2.1
 cond (decide (i6 < (k4.length:Int)))
 (Ab (decide (0<=i6)&&decide (i6 < k4.length)) (
 (K3 (k4.getD i6.toNat ([]:List Aa))).bind fun r1=>
 cond (!r1.1.1)
 (some (Ex.ret,(false,t3,k4,most5,i6,())))
 (Ab (decide (0<=i6)&&decide (i6 < k4.length)) (
 (JC (k4.getD i6.toNat ([]:List Aa))).bind fun r2=>
 some (Ex.normal,(t2,t3,k4,BN most5 r2.1.1,qI (i6+1),()))))))
 (some (Ex.exit 0,(t2,t3,k4,most5,i6,())))
def LN (l0:List Int):Option ((Bool×Unit)×Unit):=
 (Ke l0).bind fun r1=>
 (Ll r1.1.1).bind fun r2=>
 (Am HM (false,r1.1.1,r2.1.1,0,0,())).bind fun y3=>
 cond (Ex.same y3.1 (Ex.exit 0))
 (Ab (decide (0<=(0:Int))&&decide ((0:Int) < y3.2.2.1.length)) (
 (C7 ((y3.2.2.1.getD (0:Int).toNat Ao).1,((y3.2.2.1.getD (0:Int).toNat Ao).2).1,(((y3.2.2.1.getD (0:Int).toNat Ao).2).2).1,((((y3.2.2.1.getD (0:Int).toNat Ao).2).2).2).1,99) y3.2.2.2.1).bind fun r4=>
 cond (r4.1.2.1==0)
 ((KT y3.2.2.1 r4.1.1).bind fun r5=>
 cond (r5.1.1)
 (Ab (decide (0<=(0:Int))&&decide ((0:Int) < y3.2.2.1.length)) (
 cond ((y3.2.2.2.1.length:Int)==(((((y3.2.2.1.getD (0:Int).toNat Ao).2).2).2).2))
 ((JC y3.2.2.1).bind fun r6=>
 cond (r6.1.1==(qI (y3.2.2.2.2.1+1)))
 (N0.bind fun r7=>
 some ((r7.1.1,()),()))
 (some ((false,()),())))
 (some ((false,()),()))))
 (some ((false,()),())))
 (some ((false,()),()))))
 (cond (Ex.same y3.1 Ex.ret)
 (some ((y3.2.1,()),()))
 (none))
end
end Go.AM.Num
end
