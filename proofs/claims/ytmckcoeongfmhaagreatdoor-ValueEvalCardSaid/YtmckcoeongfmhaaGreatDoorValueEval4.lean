/- Law ValueEval of the values: a machine of plain values, what the program's functions compute in it, and what that is. No condition beyond what the statement says. -/
import Derived.Test.YtmckcoeongfmhaaGreatDoorValueEval3
set_option linter.unusedSimpArgs false
set_option linter.unusedVariables false
section
namespace Go.AM.Num
set_option maxRecDepth 100000
set_option linter.unusedVariables false
noncomputable section
def big:Nat:=2 ^ 64
@[reducible] def gVr : GT := (.pair .str (.int .i64))
abbrev Vr:=qBs×Int
abbrev zVr:Vr:=(([]:qBs),(0:Int))
@[reducible] def gSml : GT := (.pair (.int .i64) (.int .i64))
abbrev Sml:=Int×Int
@[reducible] def qGB : GT := (.pair (.sl (.int .i64)) (.int .i64))
abbrev qCA:=(List Int)×Int
@[reducible] def qUk : GT := (.pair .bool (.pair .str .str))
abbrev qRr:=Bool×qBs×qBs
@[reducible] def gRt : GT := (.pair .bool (.pair (.sl (.int .u32)) (.sl (.int .u32))))
abbrev Rt:=Bool×(List Int)×List Int
@[reducible] def qLH : GT := (.pair (.int .i64) (.pair (.int .i64) (.pair .str gVr)))
abbrev Nod:=Int×Int×qBs×Vr
abbrev qHF:Nod:=((0:Int),(0:Int),([]:qBs),([]:qBs),(0:Int))
@[reducible] def qVD : GT := (.pair (.int .i64) (.pair .bool (.pair .str (.pair (.sl .str) (.sl .str)))))
abbrev Val:=Int×Bool×qBs×(List qBs)×List qBs
abbrev qHD:Val:=((0:Int),false,([]:qBs),([]:List qBs),([]:List qBs))
@[reducible] def qEQ : GT := (.pair .str qVD)
abbrev qSJ:=qBs×Val
abbrev qXR:qSJ:=(([]:qBs),(0:Int),false,([]:qBs),([]:List qBs),([]:List qBs))
@[reducible] def qCa : GT := (.pair (.sl qLH) (.sl (.pair (.int .i64) gSml)))
abbrev qRR:=(List Nod)×List (Int×Sml)
abbrev qCO:qRR:=(([]:List Nod),([]:List (Int×Sml)))
@[reducible] def qLE : GT := (.pair .str (.pair (.sl (.sl qVD)) (.pair (.sl qVD) qVD)))
abbrev Interp:=qBs×(List (List Val))×(List Val)×Val
abbrev qXH:Interp:=(([]:qBs),([]:List (List Val)),([]:List Val),(0:Int),false,([]:qBs),([]:List qBs),([]:List qBs))
@[reducible] def gEvl : GT := (.pair (.sl qLH) (.pair (.int .i64) (.pair (.map qVD) (.map qLE))))
abbrev Evl:=(List Nod)×Int×(List (qBs×Val))×List (qBs×Interp)
def qFaa (l0:List Int):Option ((qCA×Unit)×Unit):=
 grd (decide (0<=minA (l0.length:Int) (400:Int))&&decide (minA (l0.length:Int) (400:Int)<=l0.length)) (some (((l0.take (minA (l0.length:Int) (400:Int)).toNat,(0:Int)),()),()))
def qTu (v0:Int) (n1:Int):Option ((Int×Unit)×Unit):=
 grd ((qU (n1)) !=0) (some ((qI ((qU (v0)).tmod (qU (n1))),()),()))
def qQv:Option (((List Vr)×Unit)×Unit):=
 some ((([(([120]:qBs),2),(([121]:qBs),2),(([122]:qBs),3),(([119]:qBs),3),(([112]:qBs),1),(([98]:qBs),1),(([97]:qBs),4),(([99]:qBs),4)]:List Vr),()),())
def qGA (c0:qCA) (n1:Int):Option ((Int×Unit)×(qCA×Unit)):=
 cond (decide (c0.2>=(c0.1.length:Int)))
 (some ((0,()),(c0.1,c0.2),()))
 (grd (decide (0<=qI ((qI (c0.2+1)) - (1:Int)))&&decide (qI ((qI (c0.2+1)) - (1:Int)) < c0.1.length)) (
 (qTu (c0.1.getD (qI ((qI (c0.2+1)) - (1:Int))).toNat (0:Int)) n1).bind fun r1=>
 some ((r1.1.1,()),(c0.1,qI (c0.2+1)),())))
def qRL (x:Int×qBs×Int×Unit):Option (Ex×(Int×qBs×Int×Unit)):=
 let n0:=x.1
 let s3:=x.2.1
 let v4:=x.2.2.1
 cond (v4 !=(0:Int))
 (grd ((10:Int) !=0) (
 cond (decide ((v4.tmod 10) < (0:Int)))
 (grd (decide ((([IntKind.u8.wrap (qI ((48:Int)+(qI (0 - (v4.tmod 10)))))]:List Int).map fun n=>UInt8.ofNat n.toNat).length+s3.length<=qEP)) (grd ((10:Int) !=0) (some (Ex.normal,(n0,(([IntKind.u8.wrap (qI ((48:Int)+(qI (0 - (v4.tmod 10)))))]:List Int).map fun n=>UInt8.ofNat n.toNat)++s3,qI (v4.tdiv 10),())))))
 (grd (decide ((([IntKind.u8.wrap (qI ((48:Int)+(v4.tmod 10)))]:List Int).map fun n=>UInt8.ofNat n.toNat).length+s3.length<=qEP)) (grd ((10:Int) !=0) (some (Ex.normal,(n0,(([IntKind.u8.wrap (qI ((48:Int)+(v4.tmod 10)))]:List Int).map fun n=>UInt8.ofNat n.toNat)++s3,qI (v4.tdiv 10),())))))))
 (cond (s3==([]:qBs))
 (grd ((10:Int) !=0) (
 cond (decide ((v4.tmod 10) < (0:Int)))
 (grd (decide ((([IntKind.u8.wrap (qI ((48:Int)+(qI (0 - (v4.tmod 10)))))]:List Int).map fun n=>UInt8.ofNat n.toNat).length+s3.length<=qEP)) (grd ((10:Int) !=0) (some (Ex.normal,(n0,(([IntKind.u8.wrap (qI ((48:Int)+(qI (0 - (v4.tmod 10)))))]:List Int).map fun n=>UInt8.ofNat n.toNat)++s3,qI (v4.tdiv 10),())))))
 (grd (decide ((([IntKind.u8.wrap (qI ((48:Int)+(v4.tmod 10)))]:List Int).map fun n=>UInt8.ofNat n.toNat).length+s3.length<=qEP)) (grd ((10:Int) !=0) (some (Ex.normal,(n0,(([IntKind.u8.wrap (qI ((48:Int)+(v4.tmod 10)))]:List Int).map fun n=>UInt8.ofNat n.toNat)++s3,qI (v4.tdiv 10),())))))))
 (some (Ex.exit 0,(n0,s3,v4,()))))
def qNG (n0:Int):Option ((qBs×Unit)×Unit):=
 (qPA qRL (n0,([]:qBs),n0,())).bind fun y1=>
 cond (Ex.same y1.1 (Ex.exit 0))
 (cond (decide (y1.2.1 < (0:Int)))
 (grd (decide (([45]:qBs).length+y1.2.2.1.length<=qEP)) (some ((([45]:qBs)++y1.2.2.1,()),())))
 (some ((y1.2.2.1,()),())))
 (none)
def qHL (x:qBs×Bool×Int×Unit):Option (Ex×(qBs×Bool×Int×Unit)):=
 let s0:=x.1
 let t2:=x.2.1
 let i3:=x.2.2.1
 cond (decide (i3 < (s0.length:Int)))
 (grd (decide (0<=i3)&&decide (i3 < s0.length)) (
 cond (decide (((s0.getD i3.toNat 0).toNat:Int) < (48:Int)))
 (some (Ex.ret,(s0,false,i3,())))
 (grd (decide (0<=i3)&&decide (i3 < s0.length)) (
 cond (decide (((s0.getD i3.toNat 0).toNat:Int) > (57:Int)))
 (some (Ex.ret,(s0,false,i3,())))
 (some (Ex.normal,(s0,t2,qI (i3+1),())))))))
 (some (Ex.exit 0,(s0,t2,i3,())))
def qTM (s0:qBs):Option ((Bool×Unit)×Unit):=
 (qPA qHL (s0,false,0,())).bind fun y1=>
 cond (Ex.same y1.1 (Ex.exit 0))
 (some ((!(y1.2.1==([]:qBs)),()),()))
 (cond (Ex.same y1.1 Ex.ret)
 (some ((y1.2.2.1,()),()))
 (none))
def qIS (x:qBs×Unit):Option (Ex×(qBs×Unit)):=
 let s0:=x.1
 cond (decide ((s0.length:Int) > (1:Int)))
 (grd (decide (0<=(0:Int))&&decide ((0:Int) < s0.length)) (
 cond (((s0.getD (0:Int).toNat 0).toNat:Int)==48)
 (grd (decide (0<=(1:Int))&&decide ((1:Int)<=s0.length)) (some (Ex.normal,(s0.drop (1:Int).toNat,()))))
 (some (Ex.exit 0,(s0,())))))
 (some (Ex.exit 0,(s0,())))
def qXO (s0:qBs):Option ((qBs×Unit)×Unit):=
 (qPA qIS (s0,())).bind fun y1=>
 cond (Ex.same y1.1 (Ex.exit 0))
 (some ((y1.2.1,()),()))
 (none)
def qMZ (a0:qBs) (b1:qBs):Option ((Int×Unit)×Unit):=
 cond (decide ((a0.length:Int) < (b1.length:Int)))
 (some ((-1,()),()))
 (cond ((a0.length:Int)==(b1.length:Int))
 (cond (qGt a0 b1)
 (some ((-1,()),()))
 (cond (a0==b1)
 (some ((0,()),()))
 (some ((1,()),()))))
 (cond (a0==b1)
 (some ((0,()),()))
 (some ((1,()),()))))
def qUG (x:qBs×qBs×(List Int)×Int×Int×Unit):Option (Ex×(qBs×qBs×(List Int)×Int×Int×Unit)):=
 let a0:=x.1
 let b1:=x.2.1
 let out5:=x.2.2.1
 let borrow6:=x.2.2.2.1
 let i7:=x.2.2.2.2.1
 cond (decide (i7 < (a0.length:Int)))
 (grd (decide (0<=qI ((qI ((a0.length:Int) - (1:Int))) - i7))&&decide (qI ((qI ((a0.length:Int) - (1:Int))) - i7) < a0.length)) (
 cond (decide (i7 < (b1.length:Int)))
 (grd (decide (0<=qI ((qI ((b1.length:Int) - (1:Int))) - i7))&&decide (qI ((qI ((b1.length:Int) - (1:Int))) - i7) < b1.length)) (
 cond (decide ((qI ((qI ((qI (IntKind.u8.wrap (((a0.getD (qI ((qI ((a0.length:Int) - (1:Int))) - i7)).toNat 0).toNat:Int) - (48:Int)))) - borrow6)) - (qI (IntKind.u8.wrap (((b1.getD (qI ((qI ((b1.length:Int) - (1:Int))) - i7)).toNat 0).toNat:Int) - (48:Int)))))) < (0:Int)))
 (grd (decide (0<=qI ((qI ((a0.length:Int) - (1:Int))) - i7))&&decide (qI ((qI ((a0.length:Int) - (1:Int))) - i7) < out5.length)) (grd (decide ((qI ((qI ((a0.length:Int) - (1:Int))) - i7)).toNat < out5.length)) (some (Ex.normal,(a0,b1,out5.set ((qI ((qI ((a0.length:Int) - (1:Int))) - i7)).toNat) (IntKind.u8.wrap (qI ((48:Int)+(qI ((qI ((qI ((qI (IntKind.u8.wrap (((a0.getD (qI ((qI ((a0.length:Int) - (1:Int))) - i7)).toNat 0).toNat:Int) - (48:Int)))) - borrow6)) - (qI (IntKind.u8.wrap (((b1.getD (qI ((qI ((b1.length:Int) - (1:Int))) - i7)).toNat 0).toNat:Int) - (48:Int))))))+10))))),1,qI (i7+1),())))))
 (grd (decide (0<=qI ((qI ((a0.length:Int) - (1:Int))) - i7))&&decide (qI ((qI ((a0.length:Int) - (1:Int))) - i7) < out5.length)) (grd (decide ((qI ((qI ((a0.length:Int) - (1:Int))) - i7)).toNat < out5.length)) (some (Ex.normal,(a0,b1,out5.set ((qI ((qI ((a0.length:Int) - (1:Int))) - i7)).toNat) (IntKind.u8.wrap (qI ((48:Int)+(qI ((qI ((qI (IntKind.u8.wrap (((a0.getD (qI ((qI ((a0.length:Int) - (1:Int))) - i7)).toNat 0).toNat:Int) - (48:Int)))) - borrow6)) - (qI (IntKind.u8.wrap (((b1.getD (qI ((qI ((b1.length:Int) - (1:Int))) - i7)).toNat 0).toNat:Int) - (48:Int))))))))),0,qI (i7+1),())))))))
 (cond (decide ((qI ((qI (IntKind.u8.wrap (((a0.getD (qI ((qI ((a0.length:Int) - (1:Int))) - i7)).toNat 0).toNat:Int) - (48:Int)))) - borrow6)) < (0:Int)))
 (grd (decide (0<=qI ((qI ((a0.length:Int) - (1:Int))) - i7))&&decide (qI ((qI ((a0.length:Int) - (1:Int))) - i7) < out5.length)) (grd (decide ((qI ((qI ((a0.length:Int) - (1:Int))) - i7)).toNat < out5.length)) (some (Ex.normal,(a0,b1,out5.set ((qI ((qI ((a0.length:Int) - (1:Int))) - i7)).toNat) (IntKind.u8.wrap (qI ((48:Int)+(qI ((qI ((qI (IntKind.u8.wrap (((a0.getD (qI ((qI ((a0.length:Int) - (1:Int))) - i7)).toNat 0).toNat:Int) - (48:Int)))) - borrow6))+10))))),1,qI (i7+1),())))))
 (grd (decide (0<=qI ((qI ((a0.length:Int) - (1:Int))) - i7))&&decide (qI ((qI ((a0.length:Int) - (1:Int))) - i7) < out5.length)) (grd (decide ((qI ((qI ((a0.length:Int) - (1:Int))) - i7)).toNat < out5.length)) (some (Ex.normal,(a0,b1,out5.set ((qI ((qI ((a0.length:Int) - (1:Int))) - i7)).toNat) (IntKind.u8.wrap (qI ((48:Int)+(qI ((qI (IntKind.u8.wrap (((a0.getD (qI ((qI ((a0.length:Int) - (1:Int))) - i7)).toNat 0).toNat:Int) - (48:Int)))) - borrow6))))),0,qI (i7+1),()))))))))
 (some (Ex.exit 0,(a0,b1,out5,borrow6,i7,())))
def qUV (a0:qBs) (b1:qBs):Option ((qBs×Unit)×Unit):=
 grd (decide (0<=(a0.length:Int))&&decide ((a0.length:Int)<=(a0.length:Int))&&decide ((a0.length:Int)<=qCF)) (
 (qPA qUG (a0,b1,List.replicate (a0.length:Int).toNat (0:Int),0,0,())).bind fun y1=>
 cond (Ex.same y1.1 (Ex.exit 0))
 ((qXO (y1.2.2.2.1.map fun n=>UInt8.ofNat n.toNat)).bind fun r2=>
 some ((r2.1.1,()),()))
 (none))
def qFN (x:qBs×qBs×(List Int)×qBs×Int×Int×Unit):Option (Ex×(qBs×qBs×(List Int)×qBs×Int×Int×Unit)):=
 let a0:=x.1
 let b1:=x.2.1
 let q6:=x.2.2.1
 let r7:=x.2.2.2.1
 let i8:=x.2.2.2.2.1
 let d9:=x.2.2.2.2.2.1
 (qMZ r7 b1).bind fun r1=>
 cond (decide (r1.1.1>=0))
 ((qUV r7 b1).bind fun r2=>
 some (Ex.normal,(a0,b1,q6,r2.1.1,i8,IntKind.u8.wrap (d9+1),())))
 (some (Ex.exit 2,(a0,b1,q6,r7,i8,d9,())))
def qSQ (x:qBs×qBs×(List Int)×qBs×Int×Unit):Option (Ex×(qBs×qBs×(List Int)×qBs×Int×Unit)):=
 let a0:=x.1
 let b1:=x.2.1
 let q6:=x.2.2.1
 let r7:=x.2.2.2.1
 let i8:=x.2.2.2.2.1
 cond (decide (i8 < (a0.length:Int)))
 (grd (decide (0<=i8)&&decide (i8<=qI (i8+1))&&decide (qI (i8+1)<=a0.length)) (
 grd (decide (r7.length+((a0.take (qI (i8+1)).toNat).drop i8.toNat).length<=qEP)) (
 (qXO (r7++((a0.take (qI (i8+1)).toNat).drop i8.toNat))).bind fun r1=>
 (qPA qFN (a0,b1,q6,r1.1.1,i8,48,())).bind fun y2=>
 cond (Ex.same y2.1 (Ex.exit 2))
 (grd (decide (0<=y2.2.2.2.2.2.1)&&decide (y2.2.2.2.2.2.1 < y2.2.2.2.1.length)) (grd (decide (y2.2.2.2.2.2.1.toNat < y2.2.2.2.1.length)) (some (Ex.normal,(y2.2.1,y2.2.2.1,y2.2.2.2.1.set y2.2.2.2.2.2.1.toNat y2.2.2.2.2.2.2.1,y2.2.2.2.2.1,qI (y2.2.2.2.2.2.1+1),())))))
 (none))))
 (some (Ex.exit 0,(a0,b1,q6,r7,i8,())))
def qHT (a0:qBs) (b1:qBs):Option ((qBs×qBs×Unit)×Unit):=
 grd (decide (0<=(a0.length:Int))&&decide ((a0.length:Int)<=(a0.length:Int))&&decide ((a0.length:Int)<=qCF)) (
 (qPA qSQ (a0,b1,List.replicate (a0.length:Int).toNat (0:Int),([48]:qBs),0,())).bind fun y1=>
 cond (Ex.same y1.1 (Ex.exit 0))
 ((qXO (y1.2.2.2.1.map fun n=>UInt8.ofNat n.toNat)).bind fun r2=>
 some ((r2.1.1,y1.2.2.2.2.1,()),()))
 (none))
def qGQ (x:qBs×qBs×Unit):Option (Ex×(qBs×qBs×Unit)):=
 let a0:=x.1
 let b1:=x.2.1
 cond (!(b1==([48]:qBs)))
 ((qHT a0 b1).bind fun r1=>
 some (Ex.normal,(b1,r1.1.2.1,())))
 (some (Ex.exit 0,(a0,b1,())))
def qOe (a0:qBs) (b1:qBs):Option ((qBs×Unit)×Unit):=
 (qPA qGQ (a0,b1,())).bind fun y1=>
 cond (Ex.same y1.1 (Ex.exit 0))
 (some ((y1.2.1,()),()))
 (none)
def qLI (neg0:Bool) (num1:qBs) (den2:qBs):Option ((qRr×Unit)×Unit):=
 (qOe num1 den2).bind fun r1=>
 (qHT num1 r1.1.1).bind fun r2=>
 (qHT den2 r1.1.1).bind fun r3=>
 cond (neg0)
 (some (((!(r2.1.1==([48]:qBs)),r2.1.1,r3.1.1),()),()))
 (some (((false,r2.1.1,r3.1.1),()),()))
def qCB (x0:qRr):Option ((qBs×Unit)×Unit):=
 cond (x0.1)
 (grd (decide (([45]:qBs).length+x0.2.1.length<=qEP)) (
 cond (!(x0.2.2==([49]:qBs)))
 (grd (decide (([47]:qBs).length+x0.2.2.length<=qEP)) (grd (decide ((([45]:qBs)++x0.2.1).length+(([47]:qBs)++x0.2.2).length<=qEP)) (some (((([45]:qBs)++x0.2.1)++(([47]:qBs)++x0.2.2),()),()))))
 (some ((([45]:qBs)++x0.2.1,()),()))))
 (cond (!(x0.2.2==([49]:qBs)))
 (grd (decide (([47]:qBs).length+x0.2.2.length<=qEP)) (grd (decide (x0.2.1.length+(([47]:qBs)++x0.2.2).length<=qEP)) (some ((x0.2.1++(([47]:qBs)++x0.2.2),()),()))))
 (some ((x0.2.1,()),())))
def qTJ (x:qBs×qRr×qRr×qBs×Int×Unit):Option (Ex×(qBs×qRr×qRr×qBs×Int×Unit)):=
 let a0:=x.1
 let t2:=x.2.1
 let x4:=x.2.2.1
 let s5:=x.2.2.2.1
 let i6:=x.2.2.2.2.1
 cond (decide (i6 < (s5.length:Int)))
 (grd (decide (0<=i6)&&decide (i6 < s5.length)) (
 cond (((s5.getD i6.toNat 0).toNat:Int)==47)
 (grd (decide (0<=qI (i6+1))&&decide (qI (i6+1)<=s5.length)) (grd (decide (0<=i6)&&decide (i6<=s5.length)) (some (Ex.exit 0,(a0,(t2.1,t2.2.1,t2.2.2),(x4.1,x4.2.1,s5.drop (qI (i6+1)).toNat),s5.take i6.toNat,i6,())))))
 (some (Ex.normal,(a0,(t2.1,t2.2.1,t2.2.2),(x4.1,x4.2.1,x4.2.2),s5,qI (i6+1),())))))
 (some (Ex.exit 0,(a0,(t2.1,t2.2.1,t2.2.2),(x4.1,x4.2.1,x4.2.2),s5,i6,())))
def qFH (a0:qBs):Option ((qRr×Bool×Unit)×Unit):=
 cond (!(a0==([]:qBs)))
 (grd (decide (0<=(0:Int))&&decide ((0:Int) < a0.length)) (
 cond (((a0.getD (0:Int).toNat 0).toNat:Int)==45)
 (grd (decide (0<=(1:Int))&&decide ((1:Int)<=a0.length)) (
 (qPA qTJ (a0,(false,([]:qBs),([]:qBs)),(true,([]:qBs),([49]:qBs)),a0.drop (1:Int).toNat,0,())).bind fun y1=>
 cond (Ex.same y1.1 (Ex.exit 0))
 ((qTM y1.2.2.2.2.1).bind fun r2=>
 cond (!r2.1.1)
 (some (((false,([]:qBs),([]:qBs)),false,()),()))
 ((qTM y1.2.2.2.1.2.2).bind fun r3=>
 cond (!r3.1.1)
 (some (((false,([]:qBs),([]:qBs)),false,()),()))
 (cond (y1.2.2.2.1.2.2==([48]:qBs))
 (some (((false,([]:qBs),([]:qBs)),false,()),()))
 ((qXO y1.2.2.2.2.1).bind fun r4=>
 cond (!(r4.1.1==y1.2.2.2.2.1))
 (some (((false,([]:qBs),([]:qBs)),false,()),()))
 ((qXO y1.2.2.2.1.2.2).bind fun r5=>
 cond (!(r5.1.1==y1.2.2.2.1.2.2))
 (some (((false,([]:qBs),([]:qBs)),false,()),()))
 ((qLI y1.2.2.2.1.1 y1.2.2.2.2.1 y1.2.2.2.1.2.2).bind fun r6=>
 (qCB (r6.1.1.1,r6.1.1.2.1,r6.1.1.2.2)).bind fun r7=>
 cond (!(r7.1.1==y1.2.1))
 (some (((false,([]:qBs),([]:qBs)),false,()),()))
 (some (((y1.2.2.2.1.1,y1.2.2.2.2.1,y1.2.2.2.1.2.2),true,()),()))))))))
 (none)))
 ((qPA qTJ (a0,(false,([]:qBs),([]:qBs)),(false,([]:qBs),([49]:qBs)),a0,0,())).bind fun y8=>
 cond (Ex.same y8.1 (Ex.exit 0))
 ((qTM y8.2.2.2.2.1).bind fun r9=>
 cond (!r9.1.1)
 (some (((false,([]:qBs),([]:qBs)),false,()),()))
 ((qTM y8.2.2.2.1.2.2).bind fun r10=>
 cond (!r10.1.1)
 (some (((false,([]:qBs),([]:qBs)),false,()),()))
 (cond (y8.2.2.2.1.2.2==([48]:qBs))
 (some (((false,([]:qBs),([]:qBs)),false,()),()))
 ((qXO y8.2.2.2.2.1).bind fun r11=>
 cond (!(r11.1.1==y8.2.2.2.2.1))
 (some (((false,([]:qBs),([]:qBs)),false,()),()))
 ((qXO y8.2.2.2.1.2.2).bind fun r12=>
 cond (!(r12.1.1==y8.2.2.2.1.2.2))
 (some (((false,([]:qBs),([]:qBs)),false,()),()))
 ((qLI y8.2.2.2.1.1 y8.2.2.2.2.1 y8.2.2.2.1.2.2).bind fun r13=>
 (qCB (r13.1.1.1,r13.1.1.2.1,r13.1.1.2.2)).bind fun r14=>
 cond (!(r14.1.1==y8.2.1))
 (some (((false,([]:qBs),([]:qBs)),false,()),()))
 (some (((y8.2.2.2.1.1,y8.2.2.2.2.1,y8.2.2.2.1.2.2),true,()),()))))))))
 (none))))
 ((qPA qTJ (a0,(false,([]:qBs),([]:qBs)),(false,([]:qBs),([49]:qBs)),a0,0,())).bind fun y15=>
 cond (Ex.same y15.1 (Ex.exit 0))
 ((qTM y15.2.2.2.2.1).bind fun r16=>
 cond (!r16.1.1)
 (some (((false,([]:qBs),([]:qBs)),false,()),()))
 ((qTM y15.2.2.2.1.2.2).bind fun r17=>
 cond (!r17.1.1)
 (some (((false,([]:qBs),([]:qBs)),false,()),()))
 (cond (y15.2.2.2.1.2.2==([48]:qBs))
 (some (((false,([]:qBs),([]:qBs)),false,()),()))
 ((qXO y15.2.2.2.2.1).bind fun r18=>
 cond (!(r18.1.1==y15.2.2.2.2.1))
 (some (((false,([]:qBs),([]:qBs)),false,()),()))
 ((qXO y15.2.2.2.1.2.2).bind fun r19=>
 cond (!(r19.1.1==y15.2.2.2.1.2.2))
 (some (((false,([]:qBs),([]:qBs)),false,()),()))
 ((qLI y15.2.2.2.1.1 y15.2.2.2.2.1 y15.2.2.2.1.2.2).bind fun r20=>
 (qCB (r20.1.1.1,r20.1.1.2.1,r20.1.1.2.2)).bind fun r21=>
 cond (!(r21.1.1==y15.2.1))
 (some (((false,([]:qBs),([]:qBs)),false,()),()))
 (some (((y15.2.2.2.1.1,y15.2.2.2.2.1,y15.2.2.2.1.2.2),true,()),()))))))))
 (none))
def qPF (a0:qBs):Option ((Bool×Unit)×Unit):=
 (qFH a0).bind fun r1=>
 cond (r1.1.2.1)
 (some ((r1.1.1.2.2==([49]:qBs),()),()))
 (some ((false,()),()))
def qAN (a0:qBs):Option ((Bool×Unit)×Unit):=
 (qFH a0).bind fun r1=>
 some ((r1.1.2.1,()),())
def qLab (a0:qBs):Option ((qBs×Unit)×Unit):=
 (qFH a0).bind fun r1=>
 cond (!r1.1.2.1)
 (some ((([]:qBs),()),()))
 (cond (!r1.1.1.1)
 ((qCB (!(r1.1.1.2.1==([48]:qBs)),r1.1.1.2.1,r1.1.1.2.2)).bind fun r2=>
 some ((r2.1.1,()),()))
 ((qCB (false,r1.1.1.2.1,r1.1.1.2.2)).bind fun r3=>
 some ((r3.1.1,()),())))
def qEN (x:qBs×qBs×(List Int)×Int×Int×Unit):Option (Ex×(qBs×qBs×(List Int)×Int×Int×Unit)):=
 let a0:=x.1
 let b1:=x.2.1
 let out5:=x.2.2.1
 let i6:=x.2.2.2.1
 let j7:=x.2.2.2.2.1
 cond (decide (j7 < (b1.length:Int)))
 (grd (decide (0<=qI ((qI (i6+j7))+1))&&decide (qI ((qI (i6+j7))+1) < out5.length)) (grd (decide ((qI ((qI (i6+j7))+1)).toNat < out5.length)) (grd (decide (0<=i6)&&decide (i6 < a0.length)) (grd (decide (0<=j7)&&decide (j7 < b1.length)) (grd (decide (0<=qI ((qI (i6+j7))+1))&&decide (qI ((qI (i6+j7))+1) < out5.length)) (grd (decide ((qI ((qI (i6+j7))+1)).toNat < out5.length)) (some (Ex.normal,(a0,b1,out5.set ((qI ((qI (i6+j7))+1)).toNat) (qI ((out5.getD ((qI ((qI (i6+j7))+1)).toNat) (0:Int))+(qI ((qI (IntKind.u8.wrap (((a0.getD i6.toNat 0).toNat:Int) - (48:Int)))) * (qI (IntKind.u8.wrap (((b1.getD j7.toNat 0).toNat:Int) - (48:Int)))))))),i6,qI (j7+1),())))))))))
 (some (Ex.exit 2,(a0,b1,out5,i6,j7,())))
def qUQ (x:qBs×qBs×(List Int)×Int×Unit):Option (Ex×(qBs×qBs×(List Int)×Int×Unit)):=
 let a0:=x.1
 let b1:=x.2.1
 let out5:=x.2.2.1
 let i6:=x.2.2.2.1
 cond (decide (i6 < (a0.length:Int)))
 ((qPA qEN (a0,b1,out5,i6,0,())).bind fun y1=>
 cond (Ex.same y1.1 (Ex.exit 2))
 (some (Ex.normal,(y1.2.1,y1.2.2.1,y1.2.2.2.1,qI (y1.2.2.2.2.1+1),())))
 (none))
 (some (Ex.exit 0,(a0,b1,out5,i6,())))
def qMN (x:(List Int)×(List Int)×Int×Int×Unit):Option (Ex×((List Int)×(List Int)×Int×Int×Unit)):=
 let out5:=x.1
 let s8:=x.2.1
 let carry9:=x.2.2.1
 let k10:=x.2.2.2.1
 cond (decide (k10>=0))
 (grd (decide (0<=k10)&&decide (k10 < out5.length)) (grd (decide (k10.toNat < out5.length)) (grd ((10:Int) !=0) (grd (decide (0<=k10)&&decide (k10 < s8.length)) (grd (decide (k10.toNat < s8.length)) (grd ((10:Int) !=0) (some (Ex.normal,(out5,s8.set k10.toNat (IntKind.u8.wrap (qI ((48:Int)+((qI ((out5.getD k10.toNat (0:Int))+carry9)).tmod 10)))),qI ((qI ((out5.getD k10.toNat (0:Int))+carry9)).tdiv 10),qI (k10 - (1:Int)),())))))))))
 (some (Ex.exit 4,(out5,s8,carry9,k10,())))
def qIN (a0:qBs) (b1:qBs):Option ((qBs×Unit)×Unit):=
 grd (decide (0<=qI ((a0.length:Int)+(b1.length:Int)))&&decide (qI ((a0.length:Int)+(b1.length:Int))<=qI ((a0.length:Int)+(b1.length:Int)))&&decide (qI ((a0.length:Int)+(b1.length:Int))<=qCF)) (
 (qPA qUQ (a0,b1,List.replicate (qI ((a0.length:Int)+(b1.length:Int))).toNat (0:Int),0,())).bind fun y1=>
 cond (Ex.same y1.1 (Ex.exit 0))
 (grd (decide (0<=(y1.2.2.2.1.length:Int))&&decide ((y1.2.2.2.1.length:Int)<=(y1.2.2.2.1.length:Int))&&decide ((y1.2.2.2.1.length:Int)<=qCF)) (
 (qPA qMN (y1.2.2.2.1,List.replicate (y1.2.2.2.1.length:Int).toNat (0:Int),0,qI ((y1.2.2.2.1.length:Int) - (1:Int)),())).bind fun y2=>
 cond (Ex.same y2.1 (Ex.exit 4))
 ((qXO (y2.2.2.1.map fun n=>UInt8.ofNat n.toNat)).bind fun r3=>
 some ((r3.1.1,()),()))
 (none)))
 (none))
def qVG (x:qBs×qBs×Int×(List Int)×Int×Int×Unit):Option (Ex×(qBs×qBs×Int×(List Int)×Int×Int×Unit)):=
 let a0:=x.1
 let b1:=x.2.1
 let n5:=x.2.2.1
 let out6:=x.2.2.2.1
 let carry7:=x.2.2.2.2.1
 let i8:=x.2.2.2.2.2.1
 cond (decide (i8 < n5))
 (cond (decide (i8 < (a0.length:Int)))
 (grd (decide (0<=qI ((qI ((a0.length:Int) - (1:Int))) - i8))&&decide (qI ((qI ((a0.length:Int) - (1:Int))) - i8) < a0.length)) (
 cond (decide (i8 < (b1.length:Int)))
 (grd (decide (0<=qI ((qI ((b1.length:Int) - (1:Int))) - i8))&&decide (qI ((qI ((b1.length:Int) - (1:Int))) - i8) < b1.length)) (grd ((10:Int) !=0) (grd (decide (0<=qI ((qI (n5 - (1:Int))) - i8))&&decide (qI ((qI (n5 - (1:Int))) - i8) < out6.length)) (grd (decide ((qI ((qI (n5 - (1:Int))) - i8)).toNat < out6.length)) (grd ((10:Int) !=0) (some (Ex.normal,(a0,b1,n5,out6.set ((qI ((qI (n5 - (1:Int))) - i8)).toNat) (IntKind.u8.wrap (qI ((48:Int)+((qI ((qI (carry7+(qI (IntKind.u8.wrap (((a0.getD (qI ((qI ((a0.length:Int) - (1:Int))) - i8)).toNat 0).toNat:Int) - (48:Int))))))+(qI (IntKind.u8.wrap (((b1.getD (qI ((qI ((b1.length:Int) - (1:Int))) - i8)).toNat 0).toNat:Int) - (48:Int)))))).tmod 10)))),qI ((qI ((qI (carry7+(qI (IntKind.u8.wrap (((a0.getD (qI ((qI ((a0.length:Int) - (1:Int))) - i8)).toNat 0).toNat:Int) - (48:Int))))))+(qI (IntKind.u8.wrap (((b1.getD (qI ((qI ((b1.length:Int) - (1:Int))) - i8)).toNat 0).toNat:Int) - (48:Int)))))).tdiv 10),qI (i8+1),()))))))))
 (grd ((10:Int) !=0) (grd (decide (0<=qI ((qI (n5 - (1:Int))) - i8))&&decide (qI ((qI (n5 - (1:Int))) - i8) < out6.length)) (grd (decide ((qI ((qI (n5 - (1:Int))) - i8)).toNat < out6.length)) (grd ((10:Int) !=0) (some (Ex.normal,(a0,b1,n5,out6.set ((qI ((qI (n5 - (1:Int))) - i8)).toNat) (IntKind.u8.wrap (qI ((48:Int)+((qI (carry7+(qI (IntKind.u8.wrap (((a0.getD (qI ((qI ((a0.length:Int) - (1:Int))) - i8)).toNat 0).toNat:Int) - (48:Int)))))).tmod 10)))),qI ((qI (carry7+(qI (IntKind.u8.wrap (((a0.getD (qI ((qI ((a0.length:Int) - (1:Int))) - i8)).toNat 0).toNat:Int) - (48:Int)))))).tdiv 10),qI (i8+1),())))))))))
 (cond (decide (i8 < (b1.length:Int)))
 (grd (decide (0<=qI ((qI ((b1.length:Int) - (1:Int))) - i8))&&decide (qI ((qI ((b1.length:Int) - (1:Int))) - i8) < b1.length)) (grd ((10:Int) !=0) (grd (decide (0<=qI ((qI (n5 - (1:Int))) - i8))&&decide (qI ((qI (n5 - (1:Int))) - i8) < out6.length)) (grd (decide ((qI ((qI (n5 - (1:Int))) - i8)).toNat < out6.length)) (grd ((10:Int) !=0) (some (Ex.normal,(a0,b1,n5,out6.set ((qI ((qI (n5 - (1:Int))) - i8)).toNat) (IntKind.u8.wrap (qI ((48:Int)+((qI (carry7+(qI (IntKind.u8.wrap (((b1.getD (qI ((qI ((b1.length:Int) - (1:Int))) - i8)).toNat 0).toNat:Int) - (48:Int)))))).tmod 10)))),qI ((qI (carry7+(qI (IntKind.u8.wrap (((b1.getD (qI ((qI ((b1.length:Int) - (1:Int))) - i8)).toNat 0).toNat:Int) - (48:Int)))))).tdiv 10),qI (i8+1),()))))))))
 (grd ((10:Int) !=0) (grd (decide (0<=qI ((qI (n5 - (1:Int))) - i8))&&decide (qI ((qI (n5 - (1:Int))) - i8) < out6.length)) (grd (decide ((qI ((qI (n5 - (1:Int))) - i8)).toNat < out6.length)) (grd ((10:Int) !=0) (some (Ex.normal,(a0,b1,n5,out6.set ((qI ((qI (n5 - (1:Int))) - i8)).toNat) (IntKind.u8.wrap (qI ((48:Int)+(carry7.tmod 10)))),qI (carry7.tdiv 10),qI (i8+1),())))))))))
 (some (Ex.exit 0,(a0,b1,n5,out6,carry7,i8,())))
def qPY (a0:qBs) (b1:qBs):Option ((qBs×Unit)×Unit):=
 grd (decide (0<=qI ((qJc (a0.length:Int) (b1.length:Int))+1))&&decide (qI ((qJc (a0.length:Int) (b1.length:Int))+1)<=qI ((qJc (a0.length:Int) (b1.length:Int))+1))&&decide (qI ((qJc (a0.length:Int) (b1.length:Int))+1)<=qCF)) (
 (qPA qVG (a0,b1,qI ((qJc (a0.length:Int) (b1.length:Int))+1),List.replicate (qI ((qJc (a0.length:Int) (b1.length:Int))+1)).toNat (0:Int),0,0,())).bind fun y1=>
 cond (Ex.same y1.1 (Ex.exit 0))
 ((qXO (y1.2.2.2.2.1.map fun n=>UInt8.ofNat n.toNat)).bind fun r2=>
 some ((r2.1.1,()),()))
 (none))
def qTz (a0:qBs) (b1:qBs):Option ((qBs×Unit)×Unit):=
 (qFH a0).bind fun r1=>
 (qFH b1).bind fun r2=>
 cond (!r1.1.2.1)
 (some ((([]:qBs),()),()))
 (cond (!r2.1.2.1)
 (some ((([]:qBs),()),()))
 ((qIN r1.1.1.2.1 r2.1.1.2.2).bind fun r3=>
 (qIN r2.1.1.2.1 r1.1.1.2.2).bind fun r4=>
 (qIN r1.1.1.2.2 r2.1.1.2.2).bind fun r5=>
 cond (r1.1.1.1==r2.1.1.1)
 ((qPY r3.1.1 r4.1.1).bind fun r6=>
 (qLI r1.1.1.1 r6.1.1 r5.1.1).bind fun r7=>
 (qCB (r7.1.1.1,r7.1.1.2.1,r7.1.1.2.2)).bind fun r8=>
 some ((r8.1.1,()),()))
 ((qMZ r3.1.1 r4.1.1).bind fun r9=>
 cond (decide (r9.1.1>=0))
 ((qUV r3.1.1 r4.1.1).bind fun r10=>
 (qLI r1.1.1.1 r10.1.1 r5.1.1).bind fun r11=>
 (qCB (r11.1.1.1,r11.1.1.2.1,r11.1.1.2.2)).bind fun r12=>
 some ((r12.1.1,()),()))
 ((qUV r4.1.1 r3.1.1).bind fun r13=>
 (qLI r2.1.1.1 r13.1.1 r5.1.1).bind fun r14=>
 (qCB (r14.1.1.1,r14.1.1.2.1,r14.1.1.2.2)).bind fun r15=>
 some ((r15.1.1,()),())))))
def qJaf (a0:qBs) (b1:qBs):Option ((qBs×Unit)×Unit):=
 (qLab b1).bind fun r1=>
 (qTz a0 r1.1.1).bind fun r2=>
 some ((r2.1.1,()),())
def qSd (a0:qBs):Option ((Int×Unit)×Unit):=
 (qFH a0).bind fun r1=>
 cond (!r1.1.2.1)
 (some ((0,()),()))
 (cond (r1.1.1.2.1==([48]:qBs))
 (some ((0,()),()))
 (cond (r1.1.1.1)
 (some ((-1,()),()))
 (some ((1,()),()))))
def qVc (a0:qBs) (b1:qBs):Option ((Int×Unit)×Unit):=
 (qAN a0).bind fun r1=>
 cond (!r1.1.1)
 (some ((0,()),()))
 ((qAN b1).bind fun r2=>
 cond (!r2.1.1)
 (some ((0,()),()))
 ((qJaf a0 b1).bind fun r3=>
 (qSd r3.1.1).bind fun r4=>
 some ((r4.1.1,()),())))
def qTC (x:Val×Bool×Int×Unit):Option (Ex×(Val×Bool×Int×Unit)):=
 let v1:=x.1
 let t2:=x.2.1
 let i3:=x.2.2.1
 cond (decide (i3 < (v1.2.2.2.1.length:Int)))
 (grd (decide (0<=i3)&&decide (i3 < v1.2.2.2.1.length)) (
 (qPF (v1.2.2.2.1.getD i3.toNat ([]:qBs))).bind fun r1=>
 cond (!r1.1.1)
 (some (Ex.ret,(v1,false,i3,())))
 (grd (decide (0<=i3)&&decide (i3 < v1.2.2.2.2.length)) (
 (qPF (v1.2.2.2.2.getD i3.toNat ([]:qBs))).bind fun r2=>
 cond (!r2.1.1)
 (some (Ex.ret,(v1,false,i3,())))
 (grd (decide (0<=i3)&&decide (i3 < v1.2.2.2.2.length)) (
 cond ((v1.2.2.2.2.getD i3.toNat ([]:qBs))==v1.2.2.1)
 (some (Ex.ret,(v1,false,i3,())))
 (cond (decide (i3 > (0:Int)))
 (grd (decide (0<=qI (i3 - (1:Int)))&&decide (qI (i3 - (1:Int)) < v1.2.2.2.1.length)) (
 grd (decide (0<=i3)&&decide (i3 < v1.2.2.2.1.length)) (
 (qVc (v1.2.2.2.1.getD (qI (i3 - (1:Int))).toNat ([]:qBs)) (v1.2.2.2.1.getD i3.toNat ([]:qBs))).bind fun r3=>
 cond (decide (r3.1.1>=0))
 (some (Ex.ret,(v1,false,i3,())))
 (some (Ex.normal,(v1,t2,qI (i3+1),()))))))
 (some (Ex.normal,(v1,t2,qI (i3+1),()))))))))))
 (some (Ex.exit 1,(v1,t2,i3,())))
def qTF (v0:Val):Option ((Bool×Unit)×Unit):=
 cond (v0.1 !=(4:Int))
 (cond (decide ((v0.2.2.2.1.length:Int) > (0:Int)))
 (some ((false,()),()))
 (cond (decide ((v0.2.2.2.2.length:Int) > (0:Int)))
 (some ((false,()),()))
 (cond (v0.1 !=(1:Int))
 (cond (v0.2.1)
 (some ((false,()),()))
 (cond (v0.1==1)
 (some ((v0.2.2.1==([]:qBs),()),()))
 (cond (v0.1==2)
 ((qPF v0.2.2.1).bind fun r1=>
 some ((r1.1.1,()),()))
 (cond (v0.1==3)
 ((qAN v0.2.2.1).bind fun r2=>
 some ((r2.1.1,()),()))
 (cond (v0.1==4)
 ((qPF v0.2.2.1).bind fun r3=>
 cond (!r3.1.1)
 (some ((false,()),()))
 (cond ((v0.2.2.2.1.length:Int) !=(v0.2.2.2.2.length:Int))
 (some ((false,()),()))
 ((qPA qTC (v0,false,0,())).bind fun y4=>
 cond (Ex.same y4.1 (Ex.exit 1))
 (some ((true,()),()))
 (cond (Ex.same y4.1 Ex.ret)
 (some ((y4.2.2.1,()),()))
 (none)))))
 (some ((false,()),())))))))
 (cond (v0.1==1)
 (some ((v0.2.2.1==([]:qBs),()),()))
 (cond (v0.1==2)
 ((qPF v0.2.2.1).bind fun r5=>
 some ((r5.1.1,()),()))
 (cond (v0.1==3)
 ((qAN v0.2.2.1).bind fun r6=>
 some ((r6.1.1,()),()))
 (cond (v0.1==4)
 ((qPF v0.2.2.1).bind fun r7=>
 cond (!r7.1.1)
 (some ((false,()),()))
 (cond ((v0.2.2.2.1.length:Int) !=(v0.2.2.2.2.length:Int))
 (some ((false,()),()))
 ((qPA qTC (v0,false,0,())).bind fun y8=>
 cond (Ex.same y8.1 (Ex.exit 1))
 (some ((true,()),()))
 (cond (Ex.same y8.1 Ex.ret)
 (some ((y8.2.2.1,()),()))
 (none)))))
 (some ((false,()),())))))))))
 (cond (v0.1 !=(1:Int))
 (cond (v0.2.1)
 (some ((false,()),()))
 (cond (v0.1==1)
 (some ((v0.2.2.1==([]:qBs),()),()))
 (cond (v0.1==2)
 ((qPF v0.2.2.1).bind fun r9=>
 some ((r9.1.1,()),()))
 (cond (v0.1==3)
 ((qAN v0.2.2.1).bind fun r10=>
 some ((r10.1.1,()),()))
 (cond (v0.1==4)
 ((qPF v0.2.2.1).bind fun r11=>
 cond (!r11.1.1)
 (some ((false,()),()))
 (cond ((v0.2.2.2.1.length:Int) !=(v0.2.2.2.2.length:Int))
 (some ((false,()),()))
 ((qPA qTC (v0,false,0,())).bind fun y12=>
 cond (Ex.same y12.1 (Ex.exit 1))
 (some ((true,()),()))
 (cond (Ex.same y12.1 Ex.ret)
 (some ((y12.2.2.1,()),()))
 (none)))))
 (some ((false,()),())))))))
 (cond (v0.1==1)
 (some ((v0.2.2.1==([]:qBs),()),()))
 (cond (v0.1==2)
 ((qPF v0.2.2.1).bind fun r13=>
 some ((r13.1.1,()),()))
 (cond (v0.1==3)
 ((qAN v0.2.2.1).bind fun r14=>
 some ((r14.1.1,()),()))
 (cond (v0.1==4)
 ((qPF v0.2.2.1).bind fun r15=>
 cond (!r15.1.1)
 (some ((false,()),()))
 (cond ((v0.2.2.2.1.length:Int) !=(v0.2.2.2.2.length:Int))
 (some ((false,()),()))
 ((qPA qTC (v0,false,0,())).bind fun y16=>
 cond (Ex.same y16.1 (Ex.exit 1))
 (some ((true,()),()))
 (cond (Ex.same y16.1 Ex.ret)
 (some ((y16.2.2.1,()),()))
 (none)))))
 (some ((false,()),())))))))
def qMC (x:qBs×qBs×Val×Val×(Int×Bool×qBs×(List qBs)×List qBs)×Bool×Int×Unit):Option (Ex×(qBs×qBs×Val×Val×(Int×Bool×qBs×(List qBs)×List qBs)×Bool×Int×Unit)):=
 let index1:=x.1
 let num2:=x.2.1
 let a3:=x.2.2.1
 let t6:=x.2.2.2.1
 let out8:=x.2.2.2.2.1
 let put9:=x.2.2.2.2.2.1
 let i10:=x.2.2.2.2.2.2.1
 cond (decide (i10<=(a3.2.2.2.1.length:Int)))
 (cond (!put9)
 (cond (i10==(a3.2.2.2.1.length:Int))
 (cond (!(num2==a3.2.2.1))
 (grd (decide (out8.2.2.2.1.length+([index1]:List qBs).length<=qCF)) (
 grd (decide (out8.2.2.2.2.length+([num2]:List qBs).length<=qCF)) (
 cond (decide (i10 < (a3.2.2.2.1.length:Int)))
 (grd (decide (0<=i10)&&decide (i10 < a3.2.2.2.1.length)) (
 cond (!((a3.2.2.2.1.getD i10.toNat ([]:qBs))==index1))
 (grd (decide (0<=i10)&&decide (i10 < a3.2.2.2.1.length)) (grd (decide ((out8.2.2.2.1++([index1]:List qBs)).length+([a3.2.2.2.1.getD i10.toNat ([]:qBs)]:List qBs).length<=qCF)) (grd (decide (0<=i10)&&decide (i10 < a3.2.2.2.2.length)) (grd (decide ((out8.2.2.2.2++([num2]:List qBs)).length+([a3.2.2.2.2.getD i10.toNat ([]:qBs)]:List qBs).length<=qCF)) (some (Ex.normal,(index1,num2,a3,t6,(out8.1,out8.2.1,out8.2.2.1,(out8.2.2.2.1++([index1]:List qBs))++([a3.2.2.2.1.getD i10.toNat ([]:qBs)]:List qBs),(out8.2.2.2.2++([num2]:List qBs))++([a3.2.2.2.2.getD i10.toNat ([]:qBs)]:List qBs)),true,qI (i10+1),())))))))
 (some (Ex.normal,(index1,num2,a3,t6,(out8.1,out8.2.1,out8.2.2.1,out8.2.2.2.1++([index1]:List qBs),out8.2.2.2.2++([num2]:List qBs)),true,qI (i10+1),())))))
 (some (Ex.normal,(index1,num2,a3,t6,(out8.1,out8.2.1,out8.2.2.1,out8.2.2.2.1++([index1]:List qBs),out8.2.2.2.2++([num2]:List qBs)),true,qI (i10+1),()))))))
 (cond (decide (i10 < (a3.2.2.2.1.length:Int)))
 (grd (decide (0<=i10)&&decide (i10 < a3.2.2.2.1.length)) (
 cond (!((a3.2.2.2.1.getD i10.toNat ([]:qBs))==index1))
 (grd (decide (0<=i10)&&decide (i10 < a3.2.2.2.1.length)) (grd (decide (out8.2.2.2.1.length+([a3.2.2.2.1.getD i10.toNat ([]:qBs)]:List qBs).length<=qCF)) (grd (decide (0<=i10)&&decide (i10 < a3.2.2.2.2.length)) (grd (decide (out8.2.2.2.2.length+([a3.2.2.2.2.getD i10.toNat ([]:qBs)]:List qBs).length<=qCF)) (some (Ex.normal,(index1,num2,a3,t6,(out8.1,out8.2.1,out8.2.2.1,out8.2.2.2.1++([a3.2.2.2.1.getD i10.toNat ([]:qBs)]:List qBs),out8.2.2.2.2++([a3.2.2.2.2.getD i10.toNat ([]:qBs)]:List qBs)),true,qI (i10+1),())))))))
 (some (Ex.normal,(index1,num2,a3,t6,out8,true,qI (i10+1),())))))
 (some (Ex.normal,(index1,num2,a3,t6,out8,true,qI (i10+1),())))))
 (grd (decide (0<=i10)&&decide (i10 < a3.2.2.2.1.length)) (
 (qVc (a3.2.2.2.1.getD i10.toNat ([]:qBs)) index1).bind fun r1=>
 cond (decide (r1.1.1>=0))
 (cond (!(num2==a3.2.2.1))
 (grd (decide (out8.2.2.2.1.length+([index1]:List qBs).length<=qCF)) (
 grd (decide (out8.2.2.2.2.length+([num2]:List qBs).length<=qCF)) (
 cond (decide (i10 < (a3.2.2.2.1.length:Int)))
 (grd (decide (0<=i10)&&decide (i10 < a3.2.2.2.1.length)) (
 cond (!((a3.2.2.2.1.getD i10.toNat ([]:qBs))==index1))
 (grd (decide (0<=i10)&&decide (i10 < a3.2.2.2.1.length)) (grd (decide ((out8.2.2.2.1++([index1]:List qBs)).length+([a3.2.2.2.1.getD i10.toNat ([]:qBs)]:List qBs).length<=qCF)) (grd (decide (0<=i10)&&decide (i10 < a3.2.2.2.2.length)) (grd (decide ((out8.2.2.2.2++([num2]:List qBs)).length+([a3.2.2.2.2.getD i10.toNat ([]:qBs)]:List qBs).length<=qCF)) (some (Ex.normal,(index1,num2,a3,t6,(out8.1,out8.2.1,out8.2.2.1,(out8.2.2.2.1++([index1]:List qBs))++([a3.2.2.2.1.getD i10.toNat ([]:qBs)]:List qBs),(out8.2.2.2.2++([num2]:List qBs))++([a3.2.2.2.2.getD i10.toNat ([]:qBs)]:List qBs)),true,qI (i10+1),())))))))
 (some (Ex.normal,(index1,num2,a3,t6,(out8.1,out8.2.1,out8.2.2.1,out8.2.2.2.1++([index1]:List qBs),out8.2.2.2.2++([num2]:List qBs)),true,qI (i10+1),())))))
 (some (Ex.normal,(index1,num2,a3,t6,(out8.1,out8.2.1,out8.2.2.1,out8.2.2.2.1++([index1]:List qBs),out8.2.2.2.2++([num2]:List qBs)),true,qI (i10+1),()))))))
 (cond (decide (i10 < (a3.2.2.2.1.length:Int)))
 (grd (decide (0<=i10)&&decide (i10 < a3.2.2.2.1.length)) (
 cond (!((a3.2.2.2.1.getD i10.toNat ([]:qBs))==index1))
 (grd (decide (0<=i10)&&decide (i10 < a3.2.2.2.1.length)) (grd (decide (out8.2.2.2.1.length+([a3.2.2.2.1.getD i10.toNat ([]:qBs)]:List qBs).length<=qCF)) (grd (decide (0<=i10)&&decide (i10 < a3.2.2.2.2.length)) (grd (decide (out8.2.2.2.2.length+([a3.2.2.2.2.getD i10.toNat ([]:qBs)]:List qBs).length<=qCF)) (some (Ex.normal,(index1,num2,a3,t6,(out8.1,out8.2.1,out8.2.2.1,out8.2.2.2.1++([a3.2.2.2.1.getD i10.toNat ([]:qBs)]:List qBs),out8.2.2.2.2++([a3.2.2.2.2.getD i10.toNat ([]:qBs)]:List qBs)),true,qI (i10+1),())))))))
 (some (Ex.normal,(index1,num2,a3,t6,out8,true,qI (i10+1),())))))
 (some (Ex.normal,(index1,num2,a3,t6,out8,true,qI (i10+1),())))))
 (cond (decide (i10 < (a3.2.2.2.1.length:Int)))
 (grd (decide (0<=i10)&&decide (i10 < a3.2.2.2.1.length)) (
 cond (!((a3.2.2.2.1.getD i10.toNat ([]:qBs))==index1))
 (grd (decide (0<=i10)&&decide (i10 < a3.2.2.2.1.length)) (grd (decide (out8.2.2.2.1.length+([a3.2.2.2.1.getD i10.toNat ([]:qBs)]:List qBs).length<=qCF)) (grd (decide (0<=i10)&&decide (i10 < a3.2.2.2.2.length)) (grd (decide (out8.2.2.2.2.length+([a3.2.2.2.2.getD i10.toNat ([]:qBs)]:List qBs).length<=qCF)) (some (Ex.normal,(index1,num2,a3,t6,(out8.1,out8.2.1,out8.2.2.1,out8.2.2.2.1++([a3.2.2.2.1.getD i10.toNat ([]:qBs)]:List qBs),out8.2.2.2.2++([a3.2.2.2.2.getD i10.toNat ([]:qBs)]:List qBs)),put9,qI (i10+1),())))))))
 (some (Ex.normal,(index1,num2,a3,t6,out8,put9,qI (i10+1),())))))
 (some (Ex.normal,(index1,num2,a3,t6,out8,put9,qI (i10+1),())))))))
 (cond (decide (i10 < (a3.2.2.2.1.length:Int)))
 (grd (decide (0<=i10)&&decide (i10 < a3.2.2.2.1.length)) (
 cond (!((a3.2.2.2.1.getD i10.toNat ([]:qBs))==index1))
 (grd (decide (0<=i10)&&decide (i10 < a3.2.2.2.1.length)) (grd (decide (out8.2.2.2.1.length+([a3.2.2.2.1.getD i10.toNat ([]:qBs)]:List qBs).length<=qCF)) (grd (decide (0<=i10)&&decide (i10 < a3.2.2.2.2.length)) (grd (decide (out8.2.2.2.2.length+([a3.2.2.2.2.getD i10.toNat ([]:qBs)]:List qBs).length<=qCF)) (some (Ex.normal,(index1,num2,a3,t6,(out8.1,out8.2.1,out8.2.2.1,out8.2.2.2.1++([a3.2.2.2.1.getD i10.toNat ([]:qBs)]:List qBs),out8.2.2.2.2++([a3.2.2.2.2.getD i10.toNat ([]:qBs)]:List qBs)),put9,qI (i10+1),())))))))
 (some (Ex.normal,(index1,num2,a3,t6,out8,put9,qI (i10+1),())))))
 (some (Ex.normal,(index1,num2,a3,t6,out8,put9,qI (i10+1),())))))
 (some (Ex.exit 0,(index1,num2,a3,t6,out8,put9,i10,())))
def qXb (a0:Val) (index1:qBs) (num2:qBs):Option ((Val×Int×Unit)×Unit):=
 cond (a0.1 !=(4:Int))
 (some ((((0:Int),false,([]:qBs),([]:List qBs),([]:List qBs)),1,()),()))
 ((qTF a0).bind fun r1=>
 cond (!r1.1.1)
 (some ((((0:Int),false,([]:qBs),([]:List qBs),([]:List qBs)),1,()),()))
 ((qPF index1).bind fun r2=>
 cond (!r2.1.1)
 (some ((((0:Int),false,([]:qBs),([]:List qBs),([]:List qBs)),1,()),()))
 ((qPF num2).bind fun r3=>
 cond (!r3.1.1)
 (some ((((0:Int),false,([]:qBs),([]:List qBs),([]:List qBs)),1,()),()))
 ((qPA qMC (index1,num2,a0,((0:Int),false,([]:qBs),([]:List qBs),([]:List qBs)),(a0.1,false,a0.2.2.1,([]:List qBs),([]:List qBs)),false,0,())).bind fun y4=>
 cond (Ex.same y4.1 (Ex.exit 0))
 (some ((y4.2.2.2.2.2.1,0,()),()))
 (none)))))
def qJF (c0:qCA) (sort1:Int):Option ((Val×Unit)×(qCA×Unit)):=
 cond (sort1==1)
 ((qGA c0 2).bind fun r1=>
 some (((sort1,r1.1.1==1,([]:qBs),([]:List qBs),([]:List qBs)),()),r1.2.1,()))
 (cond (sort1==4)
 ((qGA c0 3).bind fun r2=>
 (qNG r2.1.1).bind fun r3=>
 (qGA r2.2.1 3).bind fun r4=>
 (qNG r4.1.1).bind fun r5=>
 (qGA r4.2.1 3).bind fun r6=>
 (qNG r6.1.1).bind fun r7=>
 (qXb (sort1,false,r3.1.1,([]:List qBs),([]:List qBs)) r5.1.1 r7.1.1).bind fun r8=>
 some ((r8.1.1,()),r6.2.1,()))
 ((qGA c0 6).bind fun r9=>
 (qNG (qI (r9.1.1 - (2:Int)))).bind fun r10=>
 some (((sort1,false,r10.1.1,([]:List qBs),([]:List qBs)),()),r9.2.1,())))
def qNm (b0:Bool):Option (((List Nod)×Unit)×Unit):=
 cond (b0)
 (some ((([(1,(0:Int),([]:qBs),([]:qBs),(0:Int))]:List Nod),()),()))
 (some ((([(2,(0:Int),([]:qBs),([]:qBs),(0:Int))]:List Nod),()),()))
def qWO (sort0:Int) (num1:qBs):Option (((List Nod)×Unit)×Unit):=
 some ((([(3,sort0,([]:qBs),num1,(0:Int))]:List Nod),()),())
def qTU (x:(List (List Nod))×(List Nod)×Int×Unit):Option (Ex×((List (List Nod))×(List Nod)×Int×Unit)):=
 let kids1:=x.1
 let t5:=x.2.1
 let i6:=x.2.2.1
 cond (decide (i6 < (kids1.length:Int)))
 (grd (decide (0<=i6)&&decide (i6 < kids1.length)) (grd (decide (t5.length+(kids1.getD i6.toNat ([]:List Nod)).length<=qCF)) (some (Ex.normal,(kids1,t5++(kids1.getD i6.toNat ([]:List Nod)),qI (i6+1),())))))
 (some (Ex.exit 0,(kids1,t5,i6,())))
def qWd (n0:Nod) (kids1:List (List Nod)):Option (((List Nod)×Unit)×Unit):=
 (qPA qTU (kids1,([(n0.1,n0.2.1,n0.2.2.1,n0.2.2.2.1,(kids1.length:Int))]:List Nod),0,())).bind fun y1=>
 cond (Ex.same y1.1 (Ex.exit 0))
 (some ((y1.2.2.1,()),()))
 (none)
def qPc:Option (((List qBs)×Unit)×Unit):=
 some ((([([97,110,100]:qBs),([111,114]:qBs),([110,111,116]:qBs),([105,116,101]:qBs),([116,114,117,101]:qBs),([102,97,108,115,101]:qBs),([108,101,116]:qBs),([102,111,114,97,108,108]:qBs),([101,120,105,115,116,115]:qBs),([100,105,115,116,105,110,99,116]:qBs),([100,105,118]:qBs),([109,111,100]:qBs),([115,101,108,101,99,116]:qBs),([115,116,111,114,101]:qBs),([99,111,110,115,116]:qBs),([66,111,111,108]:qBs),([73,110,116]:qBs),([82,101,97,108]:qBs),([65,114,114,97,121]:qBs)]:List qBs),()),())
def qNf (x:(List qBs)×qBs×Bool×Int×Unit):Option (Ex×((List qBs)×qBs×Bool×Int×Unit)):=
 let l0:=x.1
 let s1:=x.2.1
 let t4:=x.2.2.1
 let i5:=x.2.2.2.1
 cond (decide (i5 < (l0.length:Int)))
 (grd (decide (0<=i5)&&decide (i5 < l0.length)) (
 cond ((l0.getD i5.toNat ([]:qBs))==s1)
 (some (Ex.ret,(l0,s1,true,i5,())))
 (some (Ex.normal,(l0,s1,t4,qI (i5+1),())))))
 (some (Ex.exit 0,(l0,s1,t4,i5,())))
def r_in (l0:List qBs) (s1:qBs):Option ((Bool×Unit)×Unit):=
 (qPA qNf (l0,s1,false,0,())).bind fun y1=>
 cond (Ex.same y1.1 (Ex.exit 0))
 (some ((false,()),()))
 (cond (Ex.same y1.1 Ex.ret)
 (some ((y1.2.2.2.1,()),()))
 (none))
def qXe (c0:Int):Option ((Bool×Unit)×Unit):=
 cond (decide (c0>=97))
 (cond (decide (c0<=122))
 (some ((true,()),()))
 (cond (decide (c0>=65))
 (some ((decide (c0<=90),()),()))
 (some ((false,()),()))))
 (cond (decide (c0>=65))
 (some ((decide (c0<=90),()),()))
 (some ((false,()),())))
def qMU (x:qBs×Bool×Int×Unit):Option (Ex×(qBs×Bool×Int×Unit)):=
 let s0:=x.1
 let t2:=x.2.1
 let i3:=x.2.2.1
 cond (decide (i3 < (s0.length:Int)))
 (grd (decide (0<=i3)&&decide (i3 < s0.length)) (
 (qXe ((s0.getD i3.toNat 0).toNat:Int)).bind fun r1=>
 cond (r1.1.1)
 (some (Ex.normal,(s0,t2,qI (i3+1),())))
 (cond (((s0.getD i3.toNat 0).toNat:Int)==95)
 (some (Ex.normal,(s0,t2,qI (i3+1),())))
 (cond (((s0.getD i3.toNat 0).toNat:Int)==36)
 (some (Ex.normal,(s0,t2,qI (i3+1),())))
 (cond (!(((s0.getD i3.toNat 0).toNat:Int)==33))
 (cond (i3==0)
 (some (Ex.ret,(s0,false,i3,())))
 (cond (decide (((s0.getD i3.toNat 0).toNat:Int) < (48:Int)))
 (cond (((s0.getD i3.toNat 0).toNat:Int) !=(46:Int))
 (cond (((s0.getD i3.toNat 0).toNat:Int) !=(64:Int))
 (some (Ex.ret,(s0,false,i3,())))
 (some (Ex.normal,(s0,t2,qI (i3+1),()))))
 (some (Ex.normal,(s0,t2,qI (i3+1),()))))
 (cond (decide (((s0.getD i3.toNat 0).toNat:Int) > (57:Int)))
 (cond (((s0.getD i3.toNat 0).toNat:Int) !=(46:Int))
 (cond (((s0.getD i3.toNat 0).toNat:Int) !=(64:Int))
 (some (Ex.ret,(s0,false,i3,())))
 (some (Ex.normal,(s0,t2,qI (i3+1),()))))
 (some (Ex.normal,(s0,t2,qI (i3+1),()))))
 (some (Ex.normal,(s0,t2,qI (i3+1),()))))))
 (some (Ex.normal,(s0,t2,qI (i3+1),()))))))))
 (some (Ex.exit 0,(s0,t2,i3,())))
def qNq (s0:qBs):Option ((Bool×Unit)×Unit):=
 cond (s0==([]:qBs))
 (some ((false,()),()))
 (cond (decide ((s0.length:Int) > (40:Int)))
 (some ((false,()),()))
 (qPc.bind fun r1=>
 (r_in r1.1.1 s0).bind fun r2=>
 cond (r2.1.1)
 (some ((false,()),()))
 ((qPA qMU (s0,false,0,())).bind fun y3=>
 cond (Ex.same y3.1 (Ex.exit 0))
 (some ((true,()),()))
 (cond (Ex.same y3.1 Ex.ret)
 (some ((y3.2.2.1,()),()))
 (none)))))
def qTe (s0:Int):Option ((Bool×Unit)×Unit):=
 cond (decide (s0>=1))
 (some ((decide (s0<=4),()),()))
 (some ((false,()),()))
def qFf (x0:Nod):Option ((Bool×Unit)×Unit):=
 cond (x0.1==3)
 (cond (x0.2.2.1==([]:qBs))
 (cond (x0.2.1==2)
 ((qPF x0.2.2.2.1).bind fun r1=>
 cond (r1.1.1)
 (some ((true,()),()))
 (cond (x0.2.1==3)
 ((qAN x0.2.2.2.1).bind fun r2=>
 some ((r2.1.1,()),()))
 (some ((false,()),()))))
 (cond (x0.2.1==3)
 ((qAN x0.2.2.2.1).bind fun r3=>
 some ((r3.1.1,()),()))
 (some ((false,()),()))))
 (some ((false,()),())))
 (cond (x0.1==4)
 (cond (x0.2.2.2.1==([]:qBs))
 ((qNq x0.2.2.1).bind fun r4=>
 cond (r4.1.1)
 ((qTe x0.2.1).bind fun r5=>
 some ((r5.1.1,()),()))
 (some ((false,()),())))
 (some ((false,()),())))
 (cond (x0.1==5)
 (cond (x0.2.2.2.1==([]:qBs))
 ((qNq x0.2.2.1).bind fun r6=>
 cond (r6.1.1)
 ((qTe x0.2.1).bind fun r7=>
 some ((r7.1.1,()),()))
 (some ((false,()),())))
 (some ((false,()),())))
 (cond (x0.1==16)
 (cond (x0.2.1==0)
 (cond (x0.2.2.1==([]:qBs))
 ((qPF x0.2.2.2.1).bind fun r8=>
 cond (r8.1.1)
 ((qSd x0.2.2.2.1).bind fun r9=>
 some ((decide (r9.1.1 > (0:Int)),()),()))
 (some ((false,()),())))
 (some ((false,()),())))
 (some ((false,()),())))
 (cond (x0.1==17)
 (cond (x0.2.1==0)
 (cond (x0.2.2.1==([]:qBs))
 ((qPF x0.2.2.2.1).bind fun r10=>
 cond (r10.1.1)
 ((qSd x0.2.2.2.1).bind fun r11=>
 some ((decide (r11.1.1 > (0:Int)),()),()))
 (some ((false,()),())))
 (some ((false,()),())))
 (some ((false,()),())))
 (cond (decide (x0.1>=1))
 (cond (decide (x0.1<=20))
 (cond (x0.2.1==0)
 (cond (x0.2.2.1==([]:qBs))
 (some ((x0.2.2.2.1==([]:qBs),()),()))
 (some ((false,()),())))
 (some ((false,()),())))
 (some ((false,()),())))
 (some ((false,()),())))))))
def qQi (op0:Int) (n1:Int):Option ((Bool×Unit)×Unit):=
 cond (op0==1)
 (some ((n1==0,()),()))
 (cond (op0==2)
 (some ((n1==0,()),()))
 (cond (op0==3)
 (some ((n1==0,()),()))
 (cond (op0==4)
 (some ((n1==0,()),()))
 (cond (op0==5)
 (cond (decide (n1>=1))
 (some ((decide (n1<=40),()),()))
 (some ((false,()),())))
 (cond (op0==6)
 (some ((n1==1,()),()))
 (cond (op0==16)
 (some ((n1==1,()),()))
 (cond (op0==17)
 (some ((n1==1,()),()))
 (cond (op0==20)
 (some ((n1==1,()),()))
 (cond (op0==7)
 (some ((decide (n1>=0),()),()))
 (cond (op0==8)
 (some ((decide (n1>=0),()),()))
 (cond (op0==10)
 (some ((n1==3,()),()))
 (cond (op0==19)
 (some ((n1==3,()),()))
 (cond (op0==14)
 (some ((decide (n1>=1),()),()))
 (some ((n1==2,()),())))))))))))))))
def qCV (x:(List Int)×Int×Int×Int×Int×Unit):Option (Ex×((List Int)×Int×Int×Int×Int×Unit)):=
 let s0:=x.1
 let sort1:=x.2.1
 let out2:=x.2.2.1
 let t6:=x.2.2.2.1
 let i7:=x.2.2.2.2.1
 cond (decide (i7 < (s0.length:Int)))
 (grd (decide (0<=i7)&&decide (i7 < s0.length)) (
 cond ((s0.getD i7.toNat (0:Int)) !=sort1)
 (some (Ex.ret,(s0,sort1,out2,0,i7,())))
 (some (Ex.normal,(s0,sort1,out2,t6,qI (i7+1),())))))
 (some (Ex.exit 0,(s0,sort1,out2,t6,i7,())))
def qCQ (s0:List Int) (sort1:Int) (out2:Int):Option ((Int×Unit)×Unit):=
 (qPA qCV (s0,sort1,out2,0,0,())).bind fun y1=>
 cond (Ex.same y1.1 (Ex.exit 0))
 (some ((y1.2.2.2.1,()),()))
 (cond (Ex.same y1.1 Ex.ret)
 (some ((y1.2.2.2.2.1,()),()))
 (none))
def qIU (s0:Int):Option ((Bool×Unit)×Unit):=
 cond (s0==2)
 (some ((true,()),()))
 (some ((s0==3,()),()))
def qLZ (x0:Nod) (first1:Int) (s2:List Int):Option ((Int×Unit)×Unit):=
 cond (x0.1==1)
 (some ((1,()),()))
 (cond (x0.1==2)
 (some ((1,()),()))
 (cond (x0.1==3)
 (some ((x0.2.1,()),()))
 (cond (x0.1==4)
 (some ((x0.2.1,()),()))
 (cond (x0.1==5)
 (some ((x0.2.1,()),()))
 (cond (x0.1==6)
 ((qCQ s2 1 1).bind fun r1=>
 some ((r1.1.1,()),()))
 (cond (x0.1==7)
 ((qCQ s2 1 1).bind fun r2=>
 some ((r2.1.1,()),()))
 (cond (x0.1==8)
 ((qCQ s2 1 1).bind fun r3=>
 some ((r3.1.1,()),()))
 (cond (x0.1==9)
 ((qCQ s2 1 1).bind fun r4=>
 some ((r4.1.1,()),()))
 (cond (x0.1==10)
 (grd (decide (0<=(0:Int))&&decide ((0:Int) < s2.length)) (
 cond ((s2.getD (0:Int).toNat (0:Int))==1)
 (grd (decide (0<=(1:Int))&&decide ((1:Int) < s2.length)) (
 grd (decide (0<=(2:Int))&&decide ((2:Int) < s2.length)) (
 cond ((s2.getD (1:Int).toNat (0:Int))==(s2.getD (2:Int).toNat (0:Int)))
 (grd (decide (0<=(1:Int))&&decide ((1:Int) < s2.length)) (some ((s2.getD (1:Int).toNat (0:Int),()),())))
 (some ((0,()),())))))
 (some ((0,()),()))))
 (cond (x0.1==11)
 (grd (decide (0<=(0:Int))&&decide ((0:Int) < s2.length)) (
 (qCQ s2 (s2.getD (0:Int).toNat (0:Int)) 1).bind fun r5=>
 some ((r5.1.1,()),())))
 (cond (x0.1==12)
 (grd (decide (0<=(0:Int))&&decide ((0:Int) < s2.length)) (
 (qIU (s2.getD (0:Int).toNat (0:Int))).bind fun r6=>
 cond (r6.1.1)
 (grd (decide (0<=(0:Int))&&decide ((0:Int) < s2.length)) (
 (qCQ s2 (s2.getD (0:Int).toNat (0:Int)) 1).bind fun r7=>
 some ((r7.1.1,()),())))
 (some ((0,()),()))))
 (cond (x0.1==13)
 (grd (decide (0<=(0:Int))&&decide ((0:Int) < s2.length)) (
 (qIU (s2.getD (0:Int).toNat (0:Int))).bind fun r8=>
 cond (r8.1.1)
 (grd (decide (0<=(0:Int))&&decide ((0:Int) < s2.length)) (
 (qCQ s2 (s2.getD (0:Int).toNat (0:Int)) 1).bind fun r9=>
 some ((r9.1.1,()),())))
 (some ((0,()),()))))
 (cond (x0.1==14)
 (grd (decide (0<=(0:Int))&&decide ((0:Int) < s2.length)) (
 (qIU (s2.getD (0:Int).toNat (0:Int))).bind fun r10=>
 cond (r10.1.1)
 (grd (decide (0<=(0:Int))&&decide ((0:Int) < s2.length)) (
 grd (decide (0<=(0:Int))&&decide ((0:Int) < s2.length)) (
 (qCQ s2 (s2.getD (0:Int).toNat (0:Int)) (s2.getD (0:Int).toNat (0:Int))).bind fun r11=>
 some ((r11.1.1,()),()))))
 (some ((0,()),()))))
 (cond (x0.1==15)
 (cond (first1==3)
 (grd (decide (0<=(0:Int))&&decide ((0:Int) < s2.length)) (
 grd (decide (0<=(0:Int))&&decide ((0:Int) < s2.length)) (
 (qCQ s2 (s2.getD (0:Int).toNat (0:Int)) (s2.getD (0:Int).toNat (0:Int))).bind fun r12=>
 some ((r12.1.1,()),()))))
 (some ((0,()),())))
 (cond (x0.1==16)
 ((qCQ s2 2 2).bind fun r13=>
 some ((r13.1.1,()),()))
 (cond (x0.1==17)
 ((qCQ s2 2 2).bind fun r14=>
 some ((r14.1.1,()),()))
 (cond (x0.1==20)
 ((qCQ s2 2 4).bind fun r15=>
 some ((r15.1.1,()),()))
 (cond (x0.1==18)
 (grd (decide (0<=(0:Int))&&decide ((0:Int) < s2.length)) (
 cond ((s2.getD (0:Int).toNat (0:Int))==4)
 (grd (decide (0<=(1:Int))&&decide ((1:Int) < s2.length)) (
 cond ((s2.getD (1:Int).toNat (0:Int))==2)
 (some ((2,()),()))
 (some ((0,()),()))))
 (some ((0,()),()))))
 (cond (x0.1==19)
 (grd (decide (0<=(0:Int))&&decide ((0:Int) < s2.length)) (
 cond ((s2.getD (0:Int).toNat (0:Int))==4)
 (grd (decide (0<=(1:Int))&&decide ((1:Int) < s2.length)) (
 cond ((s2.getD (1:Int).toNat (0:Int))==2)
 (grd (decide (0<=(2:Int))&&decide ((2:Int) < s2.length)) (
 cond ((s2.getD (2:Int).toNat (0:Int))==2)
 (some ((4,()),()))
 (some ((0,()),()))))
 (some ((0,()),()))))
 (some ((0,()),()))))
 (some ((0,()),())))))))))))))))))))))
def qVN (qSaE:List Nod->Int->Int->Option ((Int×Int×Unit)×Unit)) (x:(List Nod)×Int×Int×Int×Int×(List Int)×Int×Bool×Int×Unit):Option (Ex×((List Nod)×Int×Int×Int×Int×(List Int)×Int×Bool×Int×Unit)):=
 let t0:=x.1
 let i1:=x.2.1
 let depth2:=x.2.2.1
 let t6:=x.2.2.2.1
 let t7:=x.2.2.2.2.1
 let s8:=x.2.2.2.2.2.1
 let end9:=x.2.2.2.2.2.2.1
 let good10:=x.2.2.2.2.2.2.2.1
 let k11:=x.2.2.2.2.2.2.2.2.1
 grd (decide (0<=i1)&&decide (i1 < t0.length)) (
 cond (decide (k11 < (((((t0.getD i1.toNat qHF).2).2).2).2)))
 ((qSaE t0 end9 (qI (depth2+1))).bind fun r1=>
 cond (decide (r1.1.1 < (0:Int)))
 (some (Ex.ret,(t0,i1,depth2,-1,0,s8,r1.1.1,good10,k11,())))
 (cond (good10)
 (grd (decide (s8.length+([r1.1.2.1]:List Int).length<=qCF)) (some (Ex.normal,(t0,i1,depth2,t6,t7,s8++([r1.1.2.1]:List Int),r1.1.1,decide (r1.1.2.1 > (0:Int)),qI (k11+1),()))))
 (grd (decide (s8.length+([r1.1.2.1]:List Int).length<=qCF)) (some (Ex.normal,(t0,i1,depth2,t6,t7,s8++([r1.1.2.1]:List Int),r1.1.1,false,qI (k11+1),()))))))
 (some (Ex.exit 0,(t0,i1,depth2,t6,t7,s8,end9,good10,k11,()))))
def qEf (qSaE:List Nod->Int->Int->Option ((Int×Int×Unit)×Unit)) (t0:List Nod) (i1:Int) (depth2:Int):Option ((Int×Int×Unit)×Unit):=
 cond (decide (i1>=(t0.length:Int)))
 (some ((-1,0,()),()))
 (cond (decide (depth2 > (256:Int)))
 (some ((-1,0,()),()))
 (grd (decide (0<=i1)&&decide (i1 < t0.length)) (
 (qFf (t0.getD i1.toNat qHF)).bind fun r1=>
 cond (!r1.1.1)
 (some ((-1,0,()),()))
 (grd (decide (0<=i1)&&decide (i1 < t0.length)) (
 grd (decide (0<=i1)&&decide (i1 < t0.length)) (
 (qQi ((t0.getD i1.toNat qHF).1) (((((t0.getD i1.toNat qHF).2).2).2).2)).bind fun r2=>
 cond (!r2.1.1)
 (some ((-1,0,()),()))
 (grd (decide (0<=i1)&&decide (i1 < t0.length)) (
 cond (decide ((((((t0.getD i1.toNat qHF).2).2).2).2) > (t0.length:Int)))
 (some ((-1,0,()),()))
 ((qPA (qVN qSaE) (t0,i1,depth2,0,0,([]:List Int),qI (i1+1),true,0,())).bind fun y3=>
 cond (Ex.same y3.1 (Ex.exit 0))
 (cond (!y3.2.2.2.2.2.2.2.2.1)
 (some ((y3.2.2.2.2.2.2.2.1,0,()),()))
 (cond (decide ((y3.2.2.2.2.2.2.1.length:Int) > (0:Int)))
 (grd (decide (0<=qI (y3.2.2.1+1))&&decide (qI (y3.2.2.1+1) < y3.2.1.length)) (
 grd (decide (0<=y3.2.2.1)&&decide (y3.2.2.1 < y3.2.1.length)) (
 (qLZ (y3.2.1.getD y3.2.2.1.toNat qHF) ((y3.2.1.getD (qI (y3.2.2.1+1)).toNat qHF).1) y3.2.2.2.2.2.2.1).bind fun r4=>
 some ((y3.2.2.2.2.2.2.2.1,r4.1.1,()),()))))
 (grd (decide (0<=y3.2.2.1)&&decide (y3.2.2.1 < y3.2.1.length)) (
 (qLZ (y3.2.1.getD y3.2.2.1.toNat qHF) 0 y3.2.2.2.2.2.2.1).bind fun r5=>
 some ((y3.2.2.2.2.2.2.2.1,r5.1.1,()),())))))
 (cond (Ex.same y3.1 Ex.ret)
 (some ((y3.2.2.2.2.1,y3.2.2.2.2.2.1,()),()))
 (none)))))))))))
def qIa:Nat->List Nod->Int->Int->Option ((Int×Int×Unit)×Unit)
 |0=>fun _ _ _=>none
 |n+1=>qEf (qIa n)
def qIH (x:(List Nod)×Int×(List Int)×Int×Int×Unit):Option (Ex×((List Nod)×Int×(List Int)×Int×Int×Unit)):=
 let t0:=x.1
 let i1:=x.2.1
 let out5:=x.2.2.1
 let at6:=x.2.2.2.1
 let k7:=x.2.2.2.2.1
 grd (decide (0<=i1)&&decide (i1 < t0.length)) (
 cond (decide (k7 < (((((t0.getD i1.toNat qHF).2).2).2).2)))
 ((qIa big t0 at6 0).bind fun r1=>
 grd (decide (out5.length+([r1.1.2.1]:List Int).length<=qCF)) (some (Ex.normal,(t0,i1,out5++([r1.1.2.1]:List Int),r1.1.1,qI (k7+1),()))))
 (some (Ex.exit 0,(t0,i1,out5,at6,k7,()))))
def qFR (t0:List Nod) (i1:Int):Option (((List Int)×Unit)×Unit):=
 (qPA qIH (t0,i1,([]:List Int),qI (i1+1),0,())).bind fun y1=>
 cond (Ex.same y1.1 (Ex.exit 0))
 (some ((y1.2.2.2.1,()),()))
 (none)
def qGf (t0:List Nod) (i1:Int):Option (((qBs×qCA)×Unit)×Unit):=
 grd (decide (0<=i1)&&decide (i1 < t0.length)) (
 (qFR t0 i1).bind fun r1=>
 grd (decide (0<=i1)&&decide (i1 < t0.length)) (some ((((((t0.getD i1.toNat qHF).2).2).1,r1.1.1,((t0.getD i1.toNat qHF).2).1),()),())))
def qSK (x:(List Int)×(List Int)×Bool×Int×Unit):Option (Ex×((List Int)×(List Int)×Bool×Int×Unit)):=
 let a0:=x.1
 let b1:=x.2.1
 let t4:=x.2.2.1
 let i5:=x.2.2.2.1
 cond (decide (i5 < (a0.length:Int)))
 (grd (decide (0<=i5)&&decide (i5 < a0.length)) (
 grd (decide (0<=i5)&&decide (i5 < b1.length)) (
 cond ((a0.getD i5.toNat (0:Int)) !=(b1.getD i5.toNat (0:Int)))
 (some (Ex.ret,(a0,b1,false,i5,())))
 (some (Ex.normal,(a0,b1,t4,qI (i5+1),()))))))
 (some (Ex.exit 0,(a0,b1,t4,i5,())))
def qGT (a0:List Int) (b1:List Int):Option ((Bool×Unit)×Unit):=
 cond ((a0.length:Int) !=(b1.length:Int))
 (some ((false,()),()))
 ((qPA qSK (a0,b1,false,0,())).bind fun y1=>
 cond (Ex.same y1.1 (Ex.exit 0))
 (some ((true,()),()))
 (cond (Ex.same y1.1 Ex.ret)
 (some ((y1.2.2.2.1,()),()))
 (none)))
def qQH (x:(List Nod)×Bool×(List Vr)×(List (qBs×qCA))×Int×Bool×Int×Unit):Option (Ex×((List Nod)×Bool×(List Vr)×(List (qBs×qCA))×Int×Bool×Int×Unit)):=
 let t0:=x.1
 let t2:=x.2.1
 let vars3:=x.2.2.1
 let funcs4:=x.2.2.2.1
 let i5:=x.2.2.2.2.1
 let known6:=x.2.2.2.2.2.1
 let k7:=x.2.2.2.2.2.2.1
 cond (decide (k7 < (vars3.length:Int)))
 (grd (decide (0<=k7)&&decide (k7 < vars3.length)) (
 grd (decide (k7.toNat < vars3.length)) (
 grd (decide (0<=i5)&&decide (i5 < t0.length)) (
 cond (((vars3.getD k7.toNat zVr).1)==((((t0.getD i5.toNat qHF).2).2).1))
 (grd (decide (0<=k7)&&decide (k7 < vars3.length)) (
 grd (decide (k7.toNat < vars3.length)) (
 grd (decide (0<=i5)&&decide (i5 < t0.length)) (
 cond (((vars3.getD k7.toNat zVr).2) !=(((t0.getD i5.toNat qHF).2).1))
 (some (Ex.ret,(t0,false,vars3,funcs4,i5,true,k7,())))
 (some (Ex.normal,(t0,t2,vars3,funcs4,i5,true,qI (k7+1),())))))))
 (some (Ex.normal,(t0,t2,vars3,funcs4,i5,known6,qI (k7+1),())))))))
 (some (Ex.exit 3,(t0,t2,vars3,funcs4,i5,known6,k7,())))
def qTH (x:(List Nod)×Bool×(List Vr)×(List (qBs×qCA))×Int×(qBs×qCA)×Bool×Int×Unit):Option (Ex×((List Nod)×Bool×(List Vr)×(List (qBs×qCA))×Int×(qBs×qCA)×Bool×Int×Unit)):=
 let t0:=x.1
 let t2:=x.2.1
 let vars3:=x.2.2.1
 let funcs4:=x.2.2.2.1
 let i5:=x.2.2.2.2.1
 let f8:=x.2.2.2.2.2.1
 let known9:=x.2.2.2.2.2.2.1
 let k10:=x.2.2.2.2.2.2.2.1
 cond (decide (k10 < (funcs4.length:Int)))
 (grd (decide (0<=k10)&&decide (k10 < funcs4.length)) (
 grd (decide (k10.toNat < funcs4.length)) (
 cond (((funcs4.getD k10.toNat (([]:qBs),([]:List Int),(0:Int))).1)==f8.1)
 (grd (decide (0<=k10)&&decide (k10 < funcs4.length)) (
 grd (decide (k10.toNat < funcs4.length)) (
 cond ((((funcs4.getD k10.toNat (([]:qBs),([]:List Int),(0:Int))).2).2) !=f8.2.2)
 (some (Ex.ret,(t0,false,vars3,funcs4,i5,f8,true,k10,())))
 (grd (decide (0<=k10)&&decide (k10 < funcs4.length)) (
 grd (decide (k10.toNat < funcs4.length)) (
 (qGT (((funcs4.getD k10.toNat (([]:qBs),([]:List Int),(0:Int))).2).1) f8.2.1).bind fun r1=>
 cond (!r1.1.1)
 (some (Ex.ret,(t0,false,vars3,funcs4,i5,f8,true,k10,())))
 (some (Ex.normal,(t0,t2,vars3,funcs4,i5,f8,true,qI (k10+1),())))))))))
 (some (Ex.normal,(t0,t2,vars3,funcs4,i5,f8,known9,qI (k10+1),()))))))
 (some (Ex.exit 5,(t0,t2,vars3,funcs4,i5,f8,known9,k10,())))
def qNH (x:(List Nod)×Bool×(List Vr)×(List (qBs×qCA))×Int×Unit):Option (Ex×((List Nod)×Bool×(List Vr)×(List (qBs×qCA))×Int×Unit)):=
 let t0:=x.1
 let t2:=x.2.1
 let vars3:=x.2.2.1
 let funcs4:=x.2.2.2.1
 let i5:=x.2.2.2.2.1
 cond (decide (i5 < (t0.length:Int)))
 (grd (decide (0<=i5)&&decide (i5 < t0.length)) (
 cond (((t0.getD i5.toNat qHF).1)==4)
 ((qPA qQH (t0,t2,vars3,funcs4,i5,false,0,())).bind fun y1=>
 cond (Ex.same y1.1 (Ex.exit 3))
 (cond (!y1.2.2.2.2.2.2.1)
 (grd (decide (0<=y1.2.2.2.2.2.1)&&decide (y1.2.2.2.2.2.1 < y1.2.1.length)) (grd (decide (0<=y1.2.2.2.2.2.1)&&decide (y1.2.2.2.2.2.1 < y1.2.1.length)) (grd (decide (y1.2.2.2.1.length+([((((y1.2.1.getD y1.2.2.2.2.2.1.toNat qHF).2).2).1,((y1.2.1.getD y1.2.2.2.2.2.1.toNat qHF).2).1)]:List Vr).length<=qCF)) (some (Ex.normal,(y1.2.1,y1.2.2.1,y1.2.2.2.1++([((((y1.2.1.getD y1.2.2.2.2.2.1.toNat qHF).2).2).1,((y1.2.1.getD y1.2.2.2.2.2.1.toNat qHF).2).1)]:List Vr),y1.2.2.2.2.1,qI (y1.2.2.2.2.2.1+1),()))))))
 (some (Ex.normal,(y1.2.1,y1.2.2.1,y1.2.2.2.1,y1.2.2.2.2.1,qI (y1.2.2.2.2.2.1+1),()))))
 (cond (Ex.same y1.1 Ex.ret)
 (some (Ex.ret,(y1.2.1,y1.2.2.1,y1.2.2.2.1,y1.2.2.2.2.1,y1.2.2.2.2.2.1,())))
 (none)))
 (cond (((t0.getD i5.toNat qHF).1)==5)
 ((qGf t0 i5).bind fun r2=>
 (qPA qTH (t0,t2,vars3,funcs4,i5,r2.1.1,false,0,())).bind fun y3=>
 cond (Ex.same y3.1 (Ex.exit 5))
 (cond (!y3.2.2.2.2.2.2.2.1)
 (grd (decide (y3.2.2.2.2.1.length+([y3.2.2.2.2.2.2.1]:List (qBs×qCA)).length<=qCF)) (some (Ex.normal,(y3.2.1,y3.2.2.1,y3.2.2.2.1,y3.2.2.2.2.1++([y3.2.2.2.2.2.2.1]:List (qBs×qCA)),qI (y3.2.2.2.2.2.1+1),()))))
 (some (Ex.normal,(y3.2.1,y3.2.2.1,y3.2.2.2.1,y3.2.2.2.2.1,qI (y3.2.2.2.2.2.1+1),()))))
 (cond (Ex.same y3.1 Ex.ret)
 (some (Ex.ret,(y3.2.1,y3.2.2.1,y3.2.2.2.1,y3.2.2.2.2.1,y3.2.2.2.2.2.1,())))
 (none)))
 (some (Ex.normal,(t0,t2,vars3,funcs4,qI (i5+1),()))))))
 (some (Ex.exit 0,(t0,t2,vars3,funcs4,i5,())))
def qWH (x:Bool×(List Vr)×(List (qBs×qCA))×Int×Int×Unit):Option (Ex×(Bool×(List Vr)×(List (qBs×qCA))×Int×Int×Unit)):=
 let t2:=x.1
 let vars3:=x.2.1
 let funcs4:=x.2.2.1
 let i11:=x.2.2.2.1
 let k12:=x.2.2.2.2.1
 cond (decide (k12 < (funcs4.length:Int)))
 (grd (decide (0<=i11)&&decide (i11 < vars3.length)) (
 grd (decide (i11.toNat < vars3.length)) (
 grd (decide (0<=k12)&&decide (k12 < funcs4.length)) (
 grd (decide (k12.toNat < funcs4.length)) (
 cond (((vars3.getD i11.toNat zVr).1)==((funcs4.getD k12.toNat (([]:qBs),([]:List Int),(0:Int))).1))
 (some (Ex.ret,(false,vars3,funcs4,i11,k12,())))
 (some (Ex.normal,(t2,vars3,funcs4,i11,qI (k12+1),()))))))))
 (some (Ex.exit 9,(t2,vars3,funcs4,i11,k12,())))
def qOG (x:Bool×(List Vr)×(List (qBs×qCA))×Int×Unit):Option (Ex×(Bool×(List Vr)×(List (qBs×qCA))×Int×Unit)):=
 let t2:=x.1
 let vars3:=x.2.1
 let funcs4:=x.2.2.1
 let i11:=x.2.2.2.1
 cond (decide (i11 < (vars3.length:Int)))
 ((qPA qWH (t2,vars3,funcs4,i11,0,())).bind fun y1=>
 cond (Ex.same y1.1 (Ex.exit 9))
 (some (Ex.normal,(y1.2.1,y1.2.2.1,y1.2.2.2.1,qI (y1.2.2.2.2.1+1),())))
 (cond (Ex.same y1.1 Ex.ret)
 (some (Ex.ret,(y1.2.1,y1.2.2.1,y1.2.2.2.1,y1.2.2.2.2.1,())))
 (none)))
 (some (Ex.exit 7,(t2,vars3,funcs4,i11,())))
def qJZ (t0:List Nod):Option ((Bool×Unit)×Unit):=
 (qPA qNH (t0,false,([]:List Vr),([]:List (qBs×qCA)),0,())).bind fun y1=>
 cond (Ex.same y1.1 (Ex.exit 0))
 ((qPA qOG (y1.2.2.1,y1.2.2.2.1,y1.2.2.2.2.1,0,())).bind fun y2=>
 cond (Ex.same y2.1 (Ex.exit 7))
 (some ((true,()),()))
 (cond (Ex.same y2.1 Ex.ret)
 (some ((y2.2.1,()),()))
 (none)))
 (cond (Ex.same y1.1 Ex.ret)
 (some ((y1.2.2.1,()),()))
 (none))
def qKa (t0:List Nod):Option ((Int×Unit)×Unit):=
 cond (decide ((t0.length:Int) > (20000:Int)))
 (some ((0,()),()))
 ((qIa big t0 0 0).bind fun r1=>
 cond (r1.1.1 !=(t0.length:Int))
 (some ((0,()),()))
 (cond (r1.1.2.1==0)
 (some ((0,()),()))
 ((qJZ t0).bind fun r2=>
 cond (!r2.1.1)
 (some ((0,()),()))
 (some ((r1.1.2.1,()),())))))
def qBQ (t0:List Nod):Option ((Bool×Unit)×Unit):=
 (qKa t0).bind fun r1=>
 some ((decide (r1.1.1 > (0:Int)),()),())
def qDH (x:Val×(List Nod)×Int×(List Nod)×Int×Unit):Option (Ex×(Val×(List Nod)×Int×(List Nod)×Int×Unit)):=
 let v1:=x.1
 let t2:=x.2.1
 let t3:=x.2.2.1
 let t4:=x.2.2.2.1
 let i5:=x.2.2.2.2.1
 cond (decide (i5 < (v1.2.2.2.1.length:Int)))
 (cond (decide ((t4.length:Int) > (20000:Int)))
 (some (Ex.ret,(v1,([]:List Nod),6,t4,i5,())))
 (grd (decide (0<=i5)&&decide (i5 < v1.2.2.2.1.length)) (
 (qWO 2 (v1.2.2.2.1.getD i5.toNat ([]:qBs))).bind fun r1=>
 grd (decide (0<=i5)&&decide (i5 < v1.2.2.2.2.length)) (
 (qWO 2 (v1.2.2.2.2.getD i5.toNat ([]:qBs))).bind fun r2=>
 (qWd (19,(0:Int),([]:qBs),([]:qBs),(0:Int)) ([t4,r1.1.1,r2.1.1]:List (List Nod))).bind fun r3=>
 some (Ex.normal,(v1,t2,t3,r3.1.1,qI (i5+1),()))))))
 (some (Ex.exit 1,(v1,t2,t3,t4,i5,())))
def qHJ (v0:Val):Option (((List Nod)×Int×Unit)×Unit):=
 (qTF v0).bind fun r1=>
 cond (!r1.1.1)
 (some ((([]:List Nod),1,()),()))
 (cond (v0.1==1)
 ((qNm v0.2.1).bind fun r2=>
 some ((r2.1.1,0,()),()))
 (cond (v0.1==2)
 ((qWO v0.1 v0.2.2.1).bind fun r3=>
 some ((r3.1.1,0,()),()))
 (cond (v0.1==3)
 ((qWO v0.1 v0.2.2.1).bind fun r4=>
 some ((r4.1.1,0,()),()))
 ((qWO 2 v0.2.2.1).bind fun r5=>
 (qWd (20,(0:Int),([]:qBs),([]:qBs),(0:Int)) ([r5.1.1]:List (List Nod))).bind fun r6=>
 (qPA qDH (v0,([]:List Nod),0,r6.1.1,0,())).bind fun y7=>
 cond (Ex.same y7.1 (Ex.exit 1))
 ((qBQ y7.2.2.2.2.1).bind fun r8=>
 cond (!r8.1.1)
 (some ((([]:List Nod),6,()),()))
 (some ((y7.2.2.2.2.1,0,()),())))
 (cond (Ex.same y7.1 Ex.ret)
 (some ((y7.2.2.1,y7.2.2.2.1,()),()))
 (none))))))
def qOD (x:qCA×Int×(List Vr)×(List Vr)×Int×Unit):Option (Ex×(qCA×Int×(List Vr)×(List Vr)×Int×Unit)):=
 let c0:=x.1
 let sort1:=x.2.1
 let vars2:=x.2.2.1
 let l7:=x.2.2.2.1
 let i8:=x.2.2.2.2.1
 cond (decide (i8 < (vars2.length:Int)))
 (grd (decide (0<=i8)&&decide (i8 < vars2.length)) (
 cond (((vars2.getD i8.toNat zVr).2)==sort1)
 (grd (decide (0<=i8)&&decide (i8 < vars2.length)) (grd (decide (l7.length+([vars2.getD i8.toNat zVr]:List Vr).length<=qCF)) (some (Ex.normal,(c0,sort1,vars2,l7++([vars2.getD i8.toNat zVr]:List Vr),qI (i8+1),())))))
 (some (Ex.normal,(c0,sort1,vars2,l7,qI (i8+1),())))))
 (some (Ex.exit 0,(c0,sort1,vars2,l7,i8,())))
def qFB (c0:qCA) (sort1:Int) (vars2:List Vr):Option (((List Nod)×Unit)×(qCA×Unit)):=
 (qPA qOD (c0,sort1,vars2,([]:List Vr),0,())).bind fun y1=>
 cond (Ex.same y1.1 (Ex.exit 0))
 (cond ((y1.2.2.2.2.1.length:Int)==0)
 ((qJF y1.2.1 y1.2.2.1).bind fun r2=>
 (qHJ r2.1.1).bind fun r3=>
 some ((r3.1.1,()),r2.2.1,()))
 ((qGA y1.2.1 (y1.2.2.2.2.1.length:Int)).bind fun r4=>
 grd (decide (0<=r4.1.1)&&decide (r4.1.1 < y1.2.2.2.2.1.length)) (grd (decide (r4.1.1.toNat < y1.2.2.2.2.1.length)) (some ((([(4,y1.2.2.1,(y1.2.2.2.2.1.getD r4.1.1.toNat zVr).1,([]:qBs),(0:Int))]:List Nod),()),r4.2.1,())))))
 (none)
def qKN (c0:qCA):Option ((Bool×Unit)×(qCA×Unit)):=
 some ((decide (c0.2 < (c0.1.length:Int)),()),c0,())
def qEe (o0:Int) (l1:List (List Nod)):Option (((List Nod)×Unit)×Unit):=
 (qWd (o0,(0:Int),([]:qBs),([]:qBs),(0:Int)) l1).bind fun r1=>
 some ((r1.1.1,()),())
def qKt (a0:qBs) (b1:qBs):Option ((qBs×Unit)×Unit):=
 (qFH a0).bind fun r1=>
 (qFH b1).bind fun r2=>
 cond (!r1.1.2.1)
 (some ((([]:qBs),()),()))
 (cond (!r2.1.2.1)
 (some ((([]:qBs),()),()))
 ((qIN r1.1.1.2.1 r2.1.1.2.1).bind fun r3=>
 (qIN r1.1.1.2.2 r2.1.1.2.2).bind fun r4=>
 (qLI (!(r1.1.1.1==r2.1.1.1)) r3.1.1 r4.1.1).bind fun r5=>
 (qCB (r5.1.1.1,r5.1.1.2.1,r5.1.1.2.2)).bind fun r6=>
 some ((r6.1.1,()),())))
def qJC (c0:qCA):Option ((qBs×Unit)×(qCA×Unit)):=
 (qGA (c0.1,c0.2) 8).bind fun r1=>
 cond (r1.1.1==6)
 ((qGA (r1.2.1.1,r1.2.1.2) 2001).bind fun r2=>
 (qNG (qI (r2.1.1 - (1000:Int)))).bind fun r3=>
 some ((r3.1.1,()),(r2.2.1.1,r2.2.1.2),()))
 (cond (r1.1.1==7)
 ((qGA (r1.2.1.1,r1.2.1.2) 1099511627776).bind fun r4=>
 (qNG (qI (r4.1.1 - (549755813888:Int)))).bind fun r5=>
 (qGA (r4.2.1.1,r4.2.1.2) 1099511627776).bind fun r6=>
 (qNG r6.1.1).bind fun r7=>
 (qKt r5.1.1 r7.1.1).bind fun r8=>
 some ((r8.1.1,()),(r6.2.1.1,r6.2.1.2),()))
 ((qGA (r1.2.1.1,r1.2.1.2) 9).bind fun r9=>
 (qNG (qI (r9.1.1 - (4:Int)))).bind fun r10=>
 some ((r10.1.1,()),(r9.2.1.1,r9.2.1.2),())))
def qFaf (a0:qBs) (b1:qBs):Option ((qBs×Unit)×Unit):=
 (qFH a0).bind fun r1=>
 (qFH b1).bind fun r2=>
 cond (!r1.1.2.1)
 (some ((([]:qBs),()),()))
 (cond (!r2.1.2.1)
 (some ((([]:qBs),()),()))
 (cond (r2.1.1.2.1==([48]:qBs))
 (some ((([]:qBs),()),()))
 ((qIN r1.1.1.2.1 r2.1.1.2.2).bind fun r3=>
 (qIN r1.1.1.2.2 r2.1.1.2.1).bind fun r4=>
 (qLI (!(r1.1.1.1==r2.1.1.1)) r3.1.1 r4.1.1).bind fun r5=>
 (qCB (r5.1.1.1,r5.1.1.2.1,r5.1.1.2.2)).bind fun r6=>
 some ((r6.1.1,()),()))))
def qTK (c0:qCA):Option ((qBs×Unit)×(qCA×Unit)):=
 (qJC (c0.1,c0.2)).bind fun r1=>
 (qGA (r1.2.1.1,r1.2.1.2) 4).bind fun r2=>
 (qNG (qI ((1:Int)+r2.1.1))).bind fun r3=>
 (qFaf r1.1.1 r3.1.1).bind fun r4=>
 some ((r4.1.1,()),(r2.2.1.1,r2.2.1.2),())
def qKE (c0:qCA) (sort1:Int):Option ((qBs×Unit)×(qCA×Unit)):=
 cond (sort1==2)
 ((qJC c0).bind fun r1=>
 some ((r1.1.1,()),r1.2.1,()))
 ((qTK c0).bind fun r2=>
 some ((r2.1.1,()),r2.2.1,()))
def qJG (qNaE:qCA->Int->Int->List Vr->Option (((List Nod)×Unit)×(qCA×Unit))) (qMaE:qCA->Int->List Vr->Option (((List Nod)×Unit)×(qCA×Unit))) (qQaE:qCA->Int->Int->List Vr->Option (((List Nod)×Unit)×(qCA×Unit))) (qOaE:qCA->Int->Int->List Vr->Option (((List Nod)×Unit)×(qCA×Unit))) (qPaE:qCA->Int->List Vr->Option (((List Nod)×Unit)×(qCA×Unit))) (c0:qCA) (sort1:Int) (depth2:Int) (vars3:List Vr):Option (((List Nod)×Unit)×(qCA×Unit)):=
 cond (decide (depth2<=0))
 ((qGA c0 3).bind fun r1=>
 cond (r1.1.1==0)
 ((qJF r1.2.1 sort1).bind fun r2=>
 (qHJ r2.1.1).bind fun r3=>
 some ((r3.1.1,()),r2.2.1,()))
 ((qFB r1.2.1 sort1 vars3).bind fun r4=>
 some ((r4.1.1,()),r4.2.1,())))
 ((qKN c0).bind fun r5=>
 cond (!r5.1.1)
 ((qGA r5.2.1 3).bind fun r6=>
 cond (r6.1.1==0)
 ((qJF r6.2.1 sort1).bind fun r7=>
 (qHJ r7.1.1).bind fun r8=>
 some ((r8.1.1,()),r7.2.1,()))
 ((qFB r6.2.1 sort1 vars3).bind fun r9=>
 some ((r9.1.1,()),r9.2.1,())))
 (cond (sort1==1)
 ((qMaE r5.2.1 depth2 vars3).bind fun r10=>
 some ((r10.1.1,()),r10.2.1,()))
 (cond (sort1==4)
 ((qGA r5.2.1 5).bind fun r11=>
 cond (r11.1.1==0)
 ((qNaE r11.2.1 2 (qI (depth2 - (1:Int))) vars3).bind fun r12=>
 (qEe 20 ([r12.1.1]:List (List Nod))).bind fun r13=>
 some ((r13.1.1,()),r12.2.1,()))
 (cond (r11.1.1==1)
 ((qNaE r11.2.1 4 (qI (depth2 - (1:Int))) vars3).bind fun r14=>
 (qNaE r14.2.1 2 (qI (depth2 - (1:Int))) vars3).bind fun r15=>
 (qNaE r15.2.1 2 (qI (depth2 - (1:Int))) vars3).bind fun r16=>
 (qEe 19 ([r14.1.1,r15.1.1,r16.1.1]:List (List Nod))).bind fun r17=>
 some ((r17.1.1,()),r16.2.1,()))
 (cond (r11.1.1==2)
 ((qNaE r11.2.1 4 (qI (depth2 - (1:Int))) vars3).bind fun r18=>
 (qNaE r18.2.1 2 (qI (depth2 - (1:Int))) vars3).bind fun r19=>
 (qNaE r19.2.1 2 (qI (depth2 - (1:Int))) vars3).bind fun r20=>
 (qEe 19 ([r18.1.1,r19.1.1,r20.1.1]:List (List Nod))).bind fun r21=>
 some ((r21.1.1,()),r20.2.1,()))
 (cond (r11.1.1==3)
 ((qQaE r11.2.1 sort1 depth2 vars3).bind fun r22=>
 some ((r22.1.1,()),r22.2.1,()))
 ((qFB r11.2.1 sort1 vars3).bind fun r23=>
 some ((r23.1.1,()),r23.2.1,()))))))
 ((qOaE r5.2.1 sort1 depth2 vars3).bind fun r24=>
 some ((r24.1.1,()),r24.2.1,())))))
def qUB (qNaE:qCA->Int->Int->List Vr->Option (((List Nod)×Unit)×(qCA×Unit))) (qMaE:qCA->Int->List Vr->Option (((List Nod)×Unit)×(qCA×Unit))) (qQaE:qCA->Int->Int->List Vr->Option (((List Nod)×Unit)×(qCA×Unit))) (qOaE:qCA->Int->Int->List Vr->Option (((List Nod)×Unit)×(qCA×Unit))) (qPaE:qCA->Int->List Vr->Option (((List Nod)×Unit)×(qCA×Unit))) (x:qCA×Int×(List Vr)×(List (List Nod))×Int×Unit):Option (Ex×(qCA×Int×(List Vr)×(List (List Nod))×Int×Unit)):=
 let c0:=x.1
 let depth1:=x.2.1
 let vars2:=x.2.2.1
 let l7:=x.2.2.2.1
 let n8:=x.2.2.2.2.1
 cond (decide (n8 > (0:Int)))
 ((qMaE c0 (qI (depth1 - (1:Int))) vars2).bind fun r1=>
 grd (decide (l7.length+([r1.1.1]:List (List Nod)).length<=qCF)) (some (Ex.normal,(r1.2.1,depth1,vars2,l7++([r1.1.1]:List (List Nod)),qI (n8 - (1:Int)),()))))
 (some (Ex.exit 1,(c0,depth1,vars2,l7,n8,())))
def qBF (qNaE:qCA->Int->Int->List Vr->Option (((List Nod)×Unit)×(qCA×Unit))) (qMaE:qCA->Int->List Vr->Option (((List Nod)×Unit)×(qCA×Unit))) (qQaE:qCA->Int->Int->List Vr->Option (((List Nod)×Unit)×(qCA×Unit))) (qOaE:qCA->Int->Int->List Vr->Option (((List Nod)×Unit)×(qCA×Unit))) (qPaE:qCA->Int->List Vr->Option (((List Nod)×Unit)×(qCA×Unit))) (c0:qCA) (depth1:Int) (vars2:List Vr):Option (((List Nod)×Unit)×(qCA×Unit)):=
 cond (decide (depth1<=0))
 ((qPaE c0 0 vars2).bind fun r1=>
 some ((r1.1.1,()),r1.2.1,()))
 ((qKN c0).bind fun r2=>
 cond (!r2.1.1)
 ((qPaE r2.2.1 0 vars2).bind fun r3=>
 some ((r3.1.1,()),r3.2.1,()))
 ((qGA r2.2.1 12).bind fun r4=>
 cond (r4.1.1==0)
 ((qMaE r4.2.1 (qI (depth1 - (1:Int))) vars2).bind fun r5=>
 (qEe 6 ([r5.1.1]:List (List Nod))).bind fun r6=>
 some ((r6.1.1,()),r5.2.1,()))
 (cond (r4.1.1==1)
 ((qMaE r4.2.1 (qI (depth1 - (1:Int))) vars2).bind fun r7=>
 (qEe 6 ([r7.1.1]:List (List Nod))).bind fun r8=>
 some ((r8.1.1,()),r7.2.1,()))
 (cond (r4.1.1==2)
 ((qGA r4.2.1 4).bind fun r9=>
 (qPA (qUB qNaE qMaE qQaE qOaE qPaE) (r9.2.1,depth1,vars2,([]:List (List Nod)),r9.1.1,())).bind fun y10=>
 cond (Ex.same y10.1 (Ex.exit 1))
 ((qGA y10.2.1 2).bind fun r11=>
 (qEe (qI ((7:Int)+r11.1.1)) y10.2.2.2.2.1).bind fun r12=>
 some ((r12.1.1,()),r11.2.1,()))
 (none))
 (cond (r4.1.1==3)
 ((qGA r4.2.1 4).bind fun r13=>
 (qPA (qUB qNaE qMaE qQaE qOaE qPaE) (r13.2.1,depth1,vars2,([]:List (List Nod)),r13.1.1,())).bind fun y14=>
 cond (Ex.same y14.1 (Ex.exit 1))
 ((qGA y14.2.1 2).bind fun r15=>
 (qEe (qI ((7:Int)+r15.1.1)) y14.2.2.2.2.1).bind fun r16=>
 some ((r16.1.1,()),r15.2.1,()))
 (none))
 (cond (r4.1.1==4)
 ((qGA r4.2.1 4).bind fun r17=>
 (qPA (qUB qNaE qMaE qQaE qOaE qPaE) (r17.2.1,depth1,vars2,([]:List (List Nod)),r17.1.1,())).bind fun y18=>
 cond (Ex.same y18.1 (Ex.exit 1))
 ((qGA y18.2.1 2).bind fun r19=>
 (qEe (qI ((7:Int)+r19.1.1)) y18.2.2.2.2.1).bind fun r20=>
 some ((r20.1.1,()),r19.2.1,()))
 (none))
 (cond (r4.1.1==5)
 ((qGA r4.2.1 4).bind fun r21=>
 (qPA (qUB qNaE qMaE qQaE qOaE qPaE) (r21.2.1,depth1,vars2,([]:List (List Nod)),r21.1.1,())).bind fun y22=>
 cond (Ex.same y22.1 (Ex.exit 1))
 ((qGA y22.2.1 2).bind fun r23=>
 (qEe (qI ((7:Int)+r23.1.1)) y22.2.2.2.2.1).bind fun r24=>
 some ((r24.1.1,()),r23.2.1,()))
 (none))
 (cond (r4.1.1==6)
 ((qMaE r4.2.1 (qI (depth1 - (1:Int))) vars2).bind fun r25=>
 (qMaE r25.2.1 (qI (depth1 - (1:Int))) vars2).bind fun r26=>
 (qEe 9 ([r25.1.1,r26.1.1]:List (List Nod))).bind fun r27=>
 some ((r27.1.1,()),r26.2.1,()))
 (cond (r4.1.1==7)
 ((qQaE r4.2.1 1 depth1 vars2).bind fun r28=>
 some ((r28.1.1,()),r28.2.1,()))
 (cond (r4.1.1==8)
 ((qMaE r4.2.1 (qI (depth1 - (1:Int))) vars2).bind fun r29=>
 (qMaE r29.2.1 (qI (depth1 - (1:Int))) vars2).bind fun r30=>
 (qEe 11 ([r29.1.1,r30.1.1]:List (List Nod))).bind fun r31=>
 some ((r31.1.1,()),r30.2.1,()))
 ((qPaE r4.2.1 (qI (depth1 - (1:Int))) vars2).bind fun r32=>
 some ((r32.1.1,()),r32.2.1,()))))))))))))
def qSM (qNaE:qCA->Int->Int->List Vr->Option (((List Nod)×Unit)×(qCA×Unit))) (qMaE:qCA->Int->List Vr->Option (((List Nod)×Unit)×(qCA×Unit))) (qQaE:qCA->Int->Int->List Vr->Option (((List Nod)×Unit)×(qCA×Unit))) (qOaE:qCA->Int->Int->List Vr->Option (((List Nod)×Unit)×(qCA×Unit))) (qPaE:qCA->Int->List Vr->Option (((List Nod)×Unit)×(qCA×Unit))) (c0:qCA) (sort1:Int) (depth2:Int) (vars3:List Vr):Option (((List Nod)×Unit)×(qCA×Unit)):=
 (qMaE c0 (qI (depth2 - (1:Int))) vars3).bind fun r1=>
 (qNaE r1.2.1 sort1 (qI (depth2 - (1:Int))) vars3).bind fun r2=>
 (qNaE r2.2.1 sort1 (qI (depth2 - (1:Int))) vars3).bind fun r3=>
 (qEe 10 ([r1.1.1,r2.1.1,r3.1.1]:List (List Nod))).bind fun r4=>
 some ((r4.1.1,()),r3.2.1,())
def qIE (qNaE:qCA->Int->Int->List Vr->Option (((List Nod)×Unit)×(qCA×Unit))) (qMaE:qCA->Int->List Vr->Option (((List Nod)×Unit)×(qCA×Unit))) (qQaE:qCA->Int->Int->List Vr->Option (((List Nod)×Unit)×(qCA×Unit))) (qOaE:qCA->Int->Int->List Vr->Option (((List Nod)×Unit)×(qCA×Unit))) (qPaE:qCA->Int->List Vr->Option (((List Nod)×Unit)×(qCA×Unit))) (x:qCA×Int×Int×(List Vr)×(List (List Nod))×Int×Unit):Option (Ex×(qCA×Int×Int×(List Vr)×(List (List Nod))×Int×Unit)):=
 let c0:=x.1
 let sort1:=x.2.1
 let depth2:=x.2.2.1
 let vars3:=x.2.2.2.1
 let l10:=x.2.2.2.2.1
 let n11:=x.2.2.2.2.2.1
 cond (decide (n11 > (0:Int)))
 ((qNaE c0 sort1 (qI (depth2 - (1:Int))) vars3).bind fun r1=>
 grd (decide (l10.length+([r1.1.1]:List (List Nod)).length<=qCF)) (some (Ex.normal,(r1.2.1,sort1,depth2,vars3,l10++([r1.1.1]:List (List Nod)),qI (n11 - (1:Int)),()))))
 (some (Ex.exit 1,(c0,sort1,depth2,vars3,l10,n11,())))
def qDG (qNaE:qCA->Int->Int->List Vr->Option (((List Nod)×Unit)×(qCA×Unit))) (qMaE:qCA->Int->List Vr->Option (((List Nod)×Unit)×(qCA×Unit))) (qQaE:qCA->Int->Int->List Vr->Option (((List Nod)×Unit)×(qCA×Unit))) (qOaE:qCA->Int->Int->List Vr->Option (((List Nod)×Unit)×(qCA×Unit))) (qPaE:qCA->Int->List Vr->Option (((List Nod)×Unit)×(qCA×Unit))) (c0:qCA) (sort1:Int) (depth2:Int) (vars3:List Vr):Option (((List Nod)×Unit)×(qCA×Unit)):=
 (qGA c0 10).bind fun r1=>
 cond (decide (r1.1.1 < (3:Int)))
 ((qNaE r1.2.1 sort1 (qI (depth2 - (1:Int))) vars3).bind fun r2=>
 (qGA r2.2.1 3).bind fun r3=>
 (qPA (qIE qNaE qMaE qQaE qOaE qPaE) (r3.2.1,sort1,depth2,vars3,([r2.1.1]:List (List Nod)),r3.1.1,())).bind fun y4=>
 cond (Ex.same y4.1 (Ex.exit 1))
 ((qEe 14 y4.2.2.2.2.2.1).bind fun r5=>
 some ((r5.1.1,()),y4.2.1,()))
 (none))
 (cond (decide (r1.1.1 < (5:Int)))
 ((qKE r1.2.1 sort1).bind fun r6=>
 (qWO sort1 r6.1.1).bind fun r7=>
 (qNaE r6.2.1 sort1 (qI (depth2 - (1:Int))) vars3).bind fun r8=>
 (qEe 15 ([r7.1.1,r8.1.1]:List (List Nod))).bind fun r9=>
 some ((r9.1.1,()),r8.2.1,()))
 (cond (r1.1.1==5)
 ((qQaE r1.2.1 sort1 depth2 vars3).bind fun r10=>
 some ((r10.1.1,()),r10.2.1,()))
 (cond (r1.1.1==6)
 (cond (sort1==2)
 ((qGA r1.2.1 2).bind fun r11=>
 (qGA r11.2.1 5).bind fun r12=>
 (qNG (qI ((1:Int)+r12.1.1))).bind fun r13=>
 (qNaE r12.2.1 sort1 (qI (depth2 - (1:Int))) vars3).bind fun r14=>
 (qWd (qI ((16:Int)+r11.1.1),(0:Int),([]:qBs),r13.1.1,(0:Int)) ([r14.1.1]:List (List Nod))).bind fun r15=>
 some ((r15.1.1,()),r14.2.1,()))
 (cond (r1.1.1==7)
 (cond (sort1==2)
 ((qNaE r1.2.1 4 (qI (depth2 - (1:Int))) vars3).bind fun r16=>
 (qNaE r16.2.1 sort1 (qI (depth2 - (1:Int))) vars3).bind fun r17=>
 (qEe 18 ([r16.1.1,r17.1.1]:List (List Nod))).bind fun r18=>
 some ((r18.1.1,()),r17.2.1,()))
 (cond (r1.1.1==8)
 ((qKE r1.2.1 sort1).bind fun r19=>
 (qWO sort1 r19.1.1).bind fun r20=>
 some ((r20.1.1,()),r19.2.1,()))
 ((qFB r1.2.1 sort1 vars3).bind fun r21=>
 some ((r21.1.1,()),r21.2.1,()))))
 (cond (r1.1.1==8)
 ((qKE r1.2.1 sort1).bind fun r22=>
 (qWO sort1 r22.1.1).bind fun r23=>
 some ((r23.1.1,()),r22.2.1,()))
 ((qFB r1.2.1 sort1 vars3).bind fun r24=>
 some ((r24.1.1,()),r24.2.1,())))))
 (cond (r1.1.1==7)
 (cond (sort1==2)
 ((qNaE r1.2.1 4 (qI (depth2 - (1:Int))) vars3).bind fun r25=>
 (qNaE r25.2.1 sort1 (qI (depth2 - (1:Int))) vars3).bind fun r26=>
 (qEe 18 ([r25.1.1,r26.1.1]:List (List Nod))).bind fun r27=>
 some ((r27.1.1,()),r26.2.1,()))
 (cond (r1.1.1==8)
 ((qKE r1.2.1 sort1).bind fun r28=>
 (qWO sort1 r28.1.1).bind fun r29=>
 some ((r29.1.1,()),r28.2.1,()))
 ((qFB r1.2.1 sort1 vars3).bind fun r30=>
 some ((r30.1.1,()),r30.2.1,()))))
 (cond (r1.1.1==8)
 ((qKE r1.2.1 sort1).bind fun r31=>
 (qWO sort1 r31.1.1).bind fun r32=>
 some ((r32.1.1,()),r31.2.1,()))
 ((qFB r1.2.1 sort1 vars3).bind fun r33=>
 some ((r33.1.1,()),r33.2.1,())))))))
def qXK (qNaE:qCA->Int->Int->List Vr->Option (((List Nod)×Unit)×(qCA×Unit))) (qMaE:qCA->Int->List Vr->Option (((List Nod)×Unit)×(qCA×Unit))) (qQaE:qCA->Int->Int->List Vr->Option (((List Nod)×Unit)×(qCA×Unit))) (qOaE:qCA->Int->Int->List Vr->Option (((List Nod)×Unit)×(qCA×Unit))) (qPaE:qCA->Int->List Vr->Option (((List Nod)×Unit)×(qCA×Unit))) (c0:qCA) (depth1:Int) (vars2:List Vr):Option (((List Nod)×Unit)×(qCA×Unit)):=
 (qGA c0 5).bind fun r1=>
 grd (decide (0<=r1.1.1)&&decide (r1.1.1 < ([2,2,3,4,1]:List Int).length)) (
 cond ((([2,2,3,4,1]:List Int).getD r1.1.1.toNat (0:Int))==1)
 ((qGA r1.2.1 3).bind fun r2=>
 cond (r2.1.1==0)
 ((qGA r2.2.1 2).bind fun r3=>
 (qNm (r3.1.1==1)).bind fun r4=>
 some ((r4.1.1,()),r3.2.1,()))
 ((qFB r2.2.1 (([2,2,3,4,1]:List Int).getD r1.1.1.toNat (0:Int)) vars2).bind fun r5=>
 some ((r5.1.1,()),r5.2.1,())))
 (cond ((([2,2,3,4,1]:List Int).getD r1.1.1.toNat (0:Int)) !=(4:Int))
 ((qGA r1.2.1 3).bind fun r6=>
 (qNaE r6.2.1 (([2,2,3,4,1]:List Int).getD r1.1.1.toNat (0:Int)) depth1 vars2).bind fun r7=>
 (qNaE r7.2.1 (([2,2,3,4,1]:List Int).getD r1.1.1.toNat (0:Int)) depth1 vars2).bind fun r8=>
 (qEe (qI ((11:Int)+r6.1.1)) ([r7.1.1,r8.1.1]:List (List Nod))).bind fun r9=>
 some ((r9.1.1,()),r8.2.1,()))
 ((qNaE r1.2.1 (([2,2,3,4,1]:List Int).getD r1.1.1.toNat (0:Int)) depth1 vars2).bind fun r10=>
 (qNaE r10.2.1 (([2,2,3,4,1]:List Int).getD r1.1.1.toNat (0:Int)) depth1 vars2).bind fun r11=>
 (qEe 11 ([r10.1.1,r11.1.1]:List (List Nod))).bind fun r12=>
 some ((r12.1.1,()),r11.2.1,()))))
def qHA:Nat->(qCA->Int->Int->List Vr->Option (((List Nod)×Unit)×(qCA×Unit)))×(qCA->Int->List Vr->Option (((List Nod)×Unit)×(qCA×Unit)))×(qCA->Int->Int->List Vr->Option (((List Nod)×Unit)×(qCA×Unit)))×(qCA->Int->Int->List Vr->Option (((List Nod)×Unit)×(qCA×Unit)))×(qCA->Int->List Vr->Option (((List Nod)×Unit)×(qCA×Unit)))
 |0=>(fun _ _ _ _=>none,fun _ _ _=>none,fun _ _ _ _=>none,fun _ _ _ _=>none,fun _ _ _=>none)
 |n+1=>(qJG (qHA n).1 (qHA n).2.1 (qHA n).2.2.1 (qHA n).2.2.2.1 (qHA n).2.2.2.2,qBF (qHA n).1 (qHA n).2.1 (qHA n).2.2.1 (qHA n).2.2.2.1 (qHA n).2.2.2.2,qSM (qHA n).1 (qHA n).2.1 (qHA n).2.2.1 (qHA n).2.2.2.1 (qHA n).2.2.2.2,qDG (qHA n).1 (qHA n).2.1 (qHA n).2.2.1 (qHA n).2.2.2.1 (qHA n).2.2.2.2,qXK (qHA n).1 (qHA n).2.1 (qHA n).2.2.1 (qHA n).2.2.2.1 (qHA n).2.2.2.2)
def qBB (n:Nat):qCA->Int->Int->List Vr->Option (((List Nod)×Unit)×(qCA×Unit)):=(qHA n).1
def qVA (n:Nat):qCA->Int->List Vr->Option (((List Nod)×Unit)×(qCA×Unit)):=(qHA n).2.1
def qBC (n:Nat):qCA->Int->Int->List Vr->Option (((List Nod)×Unit)×(qCA×Unit)):=(qHA n).2.2.1
def qRA (n:Nat):qCA->Int->Int->List Vr->Option (((List Nod)×Unit)×(qCA×Unit)):=(qHA n).2.2.2.1
def qMB (n:Nat):qCA->Int->List Vr->Option (((List Nod)×Unit)×(qCA×Unit)):=(qHA n).2.2.2.2
def qQG (x:qCA×Val×Val×Int×Unit):Option (Ex×(qCA×Val×Val×Int×Unit)):=
 let c0:=x.1
 let t4:=x.2.1
 let v5:=x.2.2.1
 let n6:=x.2.2.2.1
 cond (decide (n6 > (0:Int)))
 ((qJC c0).bind fun r1=>
 (qJC r1.2.1).bind fun r2=>
 (qXb v5 r1.1.1 r2.1.1).bind fun r3=>
 some (Ex.normal,(r2.2.1,t4,r3.1.1,qI (n6 - (1:Int)),())))
 (some (Ex.exit 1,(c0,t4,v5,n6,())))
def qXF (c0:qCA) (sort1:Int):Option ((Val×Unit)×(qCA×Unit)):=
 cond (sort1==1)
 ((qGA c0 2).bind fun r1=>
 some (((sort1,r1.1.1==1,([]:qBs),([]:List qBs),([]:List qBs)),()),r1.2.1,()))
 (cond (sort1==4)
 ((qJC c0).bind fun r2=>
 (qGA r2.2.1 4).bind fun r3=>
 (qPA qQG (r3.2.1,((0:Int),false,([]:qBs),([]:List qBs),([]:List qBs)),(sort1,false,r2.1.1,([]:List qBs),([]:List qBs)),r3.1.1,())).bind fun y4=>
 cond (Ex.same y4.1 (Ex.exit 1))
 (some ((y4.2.2.2.1,()),y4.2.1,()))
 (none))
 ((qKE c0 sort1).bind fun r5=>
 some (((sort1,false,r5.1.1,([]:List qBs),([]:List qBs)),()),r5.2.1,())))
def qBG (x:qCA×(List Vr)×(List Val)×Int×Unit):Option (Ex×(qCA×(List Vr)×(List Val)×Int×Unit)):=
 let c0:=x.1
 let vars1:=x.2.1
 let out5:=x.2.2.1
 let i6:=x.2.2.2.1
 cond (decide (i6 < (vars1.length:Int)))
 (grd (decide (0<=i6)&&decide (i6 < vars1.length)) (
 (qXF c0 ((vars1.getD i6.toNat zVr).2)).bind fun r1=>
 grd (decide (out5.length+([r1.1.1]:List Val).length<=qCF)) (some (Ex.normal,(r1.2.1,vars1,out5++([r1.1.1]:List Val),qI (i6+1),())))))
 (some (Ex.exit 0,(c0,vars1,out5,i6,())))
def qTO (c0:qCA) (vars1:List Vr):Option (((List Val)×Unit)×(qCA×Unit)):=
 (qPA qBG (c0,vars1,([]:List Val),0,())).bind fun y1=>
 cond (Ex.same y1.1 (Ex.exit 0))
 (some ((y1.2.2.2.1,()),y1.2.1,()))
 (none)
def qHZ (x:(List Vr)×(List Val)×(List qSJ)×Int×Unit):Option (Ex×((List Vr)×(List Val)×(List qSJ)×Int×Unit)):=
 let vars0:=x.1
 let vals1:=x.2.1
 let out5:=x.2.2.1
 let i6:=x.2.2.2.1
 cond (decide (i6 < (vars0.length:Int)))
 (grd (decide (0<=i6)&&decide (i6 < vars0.length)) (grd (decide (0<=i6)&&decide (i6 < vals1.length)) (grd (decide (out5.length+([((vars0.getD i6.toNat zVr).1,vals1.getD i6.toNat qHD)]:List qSJ).length<=qCF)) (some (Ex.normal,(vars0,vals1,out5++([((vars0.getD i6.toNat zVr).1,vals1.getD i6.toNat qHD)]:List qSJ),qI (i6+1),()))))))
 (some (Ex.exit 0,(vars0,vals1,out5,i6,())))
def qGap (vars0:List Vr) (vals1:List Val):Option (((List qSJ)×Unit)×Unit):=
 (qPA qHZ (vars0,vals1,([]:List qSJ),0,())).bind fun y1=>
 cond (Ex.same y1.1 (Ex.exit 0))
 (some ((y1.2.2.2.1,()),()))
 (none)
def qIP (c0:qCA) (vars1:List Vr):Option (((List qSJ)×Unit)×(qCA×Unit)):=
 (qTO c0 vars1).bind fun r1=>
 (qGap vars1 r1.1.1).bind fun r2=>
 some ((r2.1.1,()),r1.2.1,())
def qWai (l0:List Int):Option ((Val×Unit)×Unit):=
 (qFaa l0).bind fun r1=>
 (qGA r1.1.1 4).bind fun r2=>
 (qXF r2.2.1 (qI ((1:Int)+r2.1.1))).bind fun r3=>
 some ((r3.1.1,()),())
def qBW (v0:Val):Option ((Bool×Unit)×Unit):=
 cond ((v0.2.2.2.1.length:Int)==0)
 (some (((v0.2.2.2.2.length:Int)==0,()),()))
 (some ((false,()),()))
def qSG (x:qBs×Bool×(List Int)×Int×Int×Unit):Option (Ex×(qBs×Bool×(List Int)×Int×Int×Unit)):=
 let s0:=x.1
 let t2:=x.2.1
 let t6:=x.2.2.1
 let t7:=x.2.2.2.1
 let t8:=x.2.2.2.2.1
 cond (decide (t8 < t7))
 (grd (decide (0<=t8)&&decide (t8 < t6.length)) (
 cond (decide ((t6.getD t8.toNat (0:Int)) < (48:Int)))
 (some (Ex.ret,(s0,false,t6,t7,t8,())))
 (cond (decide ((t6.getD t8.toNat (0:Int)) > (57:Int)))
 (some (Ex.ret,(s0,false,t6,t7,t8,())))
 (some (Ex.normal,(s0,t2,t6,t7,qI (t8+1),()))))))
 (some (Ex.exit 0,(s0,t2,t6,t7,t8,())))
def qIK (s0:qBs):Option ((Bool×Unit)×Unit):=
 (qPA qSG (s0,false,s0.map fun b=>(b.toNat:Int),((s0.map fun b=>(b.toNat:Int)).length:Int),0,())).bind fun y1=>
 cond (Ex.same y1.1 (Ex.exit 0))
 (cond (y1.2.1==([48]:qBs))
 (some ((true,()),()))
 (cond (!(y1.2.1==([]:qBs)))
 (grd (decide (0<=(0:Int))&&decide ((0:Int) < y1.2.1.length)) (some ((((y1.2.1.getD (0:Int).toNat 0).toNat:Int) !=(48:Int),()),())))
 (some ((false,()),()))))
 (cond (Ex.same y1.1 Ex.ret)
 (some ((y1.2.2.1,()),()))
 (none))
def qJI (a0:qBs):Option ((Bool×Unit)×Unit):=
 (strings_CutPrefix a0 ([45]:qBs)).bind fun r1=>
 (qIK r1.1.1).bind fun r2=>
 cond (r2.1.1)
 (cond (r1.1.2.1)
 (some ((!(r1.1.1==([48]:qBs)),()),()))
 (some ((true,()),())))
 (some ((false,()),()))
def qKO (x:Int×Int×Unit):Option (Ex×(Int×Int×Unit)):=
 let a0:=x.1
 let b1:=x.2.1
 cond (b1 !=(0:Int))
 (grd (b1 !=0) (some (Ex.normal,(b1,a0.tmod b1,()))))
 (some (Ex.exit 0,(a0,b1,())))
def qPQ (a0:Int) (b1:Int):Option ((Int×Unit)×Unit):=
 (qPA qKO (a0,b1,())).bind fun y1=>
 cond (Ex.same y1.1 (Ex.exit 0))
 (some ((y1.2.1,()),()))
 (none)
def qEC (a0:qBs):Option ((Sml×Bool×Unit)×Unit):=
 (strings_CutPrefix a0 ([45]:qBs)).bind fun r1=>
 (strings_Cut r1.1.1 ([47]:qBs)).bind fun r2=>
 cond (decide ((r2.1.1.length:Int) > (9:Int)))
 (some ((((0:Int),(0:Int)),false,()),()))
 (cond (decide ((r2.1.2.1.length:Int) > (9:Int)))
 (some ((((0:Int),(0:Int)),false,()),()))
 ((qIK r2.1.1).bind fun r3=>
 cond (!r3.1.1)
 (some ((((0:Int),(0:Int)),false,()),()))
 (cond (r2.1.1==([48]:qBs))
 (cond (r1.1.2.1)
 (some ((((0:Int),(0:Int)),false,()),()))
 (cond (r2.1.2.2.1)
 (some ((((0:Int),(0:Int)),false,()),()))
 ((qOE r2.1.1 10 64).bind fun r4=>
 cond (r2.1.2.2.1)
 ((qIK r2.1.2.1).bind fun r5=>
 cond (!r5.1.1)
 (some ((((0:Int),(0:Int)),false,()),()))
 ((qOE r2.1.2.1 10 64).bind fun r6=>
 cond (decide (r6.1.1 < (2:Int)))
 (some ((((0:Int),(0:Int)),false,()),()))
 ((qPQ r4.1.1 r6.1.1).bind fun r7=>
 cond (r7.1.1 !=(1:Int))
 (some ((((0:Int),(0:Int)),false,()),()))
 (cond (r1.1.2.1)
 (some (((qI (0 - r4.1.1),r6.1.1),true,()),()))
 (some (((r4.1.1,r6.1.1),true,()),()))))))
 (cond (r1.1.2.1)
 (some (((qI (0 - r4.1.1),1),true,()),()))
 (some (((r4.1.1,1),true,()),()))))))
 ((qOE r2.1.1 10 64).bind fun r8=>
 cond (r2.1.2.2.1)
 ((qIK r2.1.2.1).bind fun r9=>
 cond (!r9.1.1)
 (some ((((0:Int),(0:Int)),false,()),()))
 ((qOE r2.1.2.1 10 64).bind fun r10=>
 cond (decide (r10.1.1 < (2:Int)))
 (some ((((0:Int),(0:Int)),false,()),()))
 ((qPQ r8.1.1 r10.1.1).bind fun r11=>
 cond (r11.1.1 !=(1:Int))
 (some ((((0:Int),(0:Int)),false,()),()))
 (cond (r1.1.2.1)
 (some (((qI (0 - r8.1.1),r10.1.1),true,()),()))
 (some (((r8.1.1,r10.1.1),true,()),()))))))
 (cond (r1.1.2.1)
 (some (((qI (0 - r8.1.1),1),true,()),()))
 (some (((r8.1.1,1),true,()),())))))))
def qGD (x:(List Int)×Int×Unit):Option (Ex×((List Int)×Int×Unit)):=
 let a0:=x.1
 let n3:=x.2.1
 cond (decide (n3 > (0:Int)))
 (grd (decide (0<=qI (n3 - (1:Int)))&&decide (qI (n3 - (1:Int)) < a0.length)) (
 cond ((a0.getD (qI (n3 - (1:Int))).toNat (0:Int))==0)
 (some (Ex.normal,(a0,qI (n3 - (1:Int)),())))
 (some (Ex.exit 0,(a0,n3,())))))
 (some (Ex.exit 0,(a0,n3,())))
def qKG (a0:List Int):Option (((List Int)×Unit)×Unit):=
 (qPA qGD (a0,(a0.length:Int),())).bind fun y1=>
 cond (Ex.same y1.1 (Ex.exit 0))
 (grd (decide (0<=y1.2.2.1)&&decide (y1.2.2.1<=y1.2.1.length)) (some ((y1.2.1.take y1.2.2.1.toNat,()),())))
 (none)
def qNP (x:qBs×(List Int)×Int×Int×(List Int)×Int×Int×Unit):Option (Ex×(qBs×(List Int)×Int×Int×(List Int)×Int×Int×Unit)):=
 let s0:=x.1
 let out3:=x.2.1
 let end4:=x.2.2.1
 let v5:=x.2.2.2.1
 let t20:=x.2.2.2.2.1
 let t21:=x.2.2.2.2.2.1
 let t22:=x.2.2.2.2.2.2.1
 cond (decide (t22 < t21))
 (grd (decide (0<=t22)&&decide (t22 < t20.length)) (some (Ex.normal,(s0,out3,end4,IntKind.u32.wrap ((IntKind.u32.wrap (v5 * (10:Int)))+(IntKind.u32.wrap (IntKind.u8.wrap ((t20.getD t22.toNat (0:Int)) - (48:Int))))),t20,t21,qI (t22+1),()))))
 (some (Ex.exit 2,(s0,out3,end4,v5,t20,t21,t22,())))
def qUR (x:qBs×(List Int)×Int×Unit):Option (Ex×(qBs×(List Int)×Int×Unit)):=
 let s0:=x.1
 let out3:=x.2.1
 let end4:=x.2.2.1
 cond (decide (end4 > (0:Int)))
 (grd (decide (0<=qJc (qI (end4 - (9:Int))) (0:Int))&&decide (qJc (qI (end4 - (9:Int))) (0:Int)<=end4)&&decide (end4<=s0.length)) (
 (qPA qNP (s0,out3,end4,0,((s0.take end4.toNat).drop (qJc (qI (end4 - (9:Int))) (0:Int)).toNat).map fun b=>(b.toNat:Int),((((s0.take end4.toNat).drop (qJc (qI (end4 - (9:Int))) (0:Int)).toNat).map fun b=>(b.toNat:Int)).length:Int),0,())).bind fun y1=>
 cond (Ex.same y1.1 (Ex.exit 2))
 (grd (decide (y1.2.2.1.length+([y1.2.2.2.2.1]:List Int).length<=qCF)) (some (Ex.normal,(y1.2.1,y1.2.2.1++([y1.2.2.2.2.1]:List Int),qI (y1.2.2.2.1 - (9:Int)),()))))
 (none)))
 (some (Ex.exit 0,(s0,out3,end4,())))
def qLY (s0:qBs):Option (((List Int)×Unit)×Unit):=
 (qPA qUR (s0,([]:List Int),(s0.length:Int),())).bind fun y1=>
 cond (Ex.same y1.1 (Ex.exit 0))
 ((qKG y1.2.2.1).bind fun r2=>
 some ((r2.1.1,()),()))
 (none)
def qIL (x:(List Int)×(List Int)×Int×Int×Unit):Option (Ex×((List Int)×(List Int)×Int×Int×Unit)):=
 let a0:=x.1
 let b1:=x.2.1
 let t4:=x.2.2.1
 let i5:=x.2.2.2.1
 cond (decide (i5>=0))
 (grd (decide (0<=i5)&&decide (i5 < a0.length)) (
 grd (decide (0<=i5)&&decide (i5 < b1.length)) (
 cond ((a0.getD i5.toNat (0:Int)) !=(b1.getD i5.toNat (0:Int)))
 (grd (decide (0<=i5)&&decide (i5 < a0.length)) (grd (decide (0<=i5)&&decide (i5 < b1.length)) (some (Ex.ret,(a0,b1,qI ((qI (a0.getD i5.toNat (0:Int))) - (qI (b1.getD i5.toNat (0:Int)))),i5,())))))
 (some (Ex.normal,(a0,b1,t4,qI (i5 - (1:Int)),()))))))
 (some (Ex.exit 0,(a0,b1,t4,i5,())))
def qIQ (a0:List Int) (b1:List Int):Option ((Int×Unit)×Unit):=
 cond ((a0.length:Int) !=(b1.length:Int))
 (some ((qI ((a0.length:Int) - (b1.length:Int)),()),()))
 ((qPA qIL (a0,b1,0,qI ((a0.length:Int) - (1:Int)),())).bind fun y1=>
 cond (Ex.same y1.1 (Ex.exit 0))
 (some ((0,()),()))
 (cond (Ex.same y1.1 Ex.ret)
 (some ((y1.2.2.2.1,()),()))
 (none)))
def qGI (x:(List Int)×Int×(List Int)×Int×Int×Unit):Option (Ex×((List Int)×Int×(List Int)×Int×Int×Unit)):=
 let a0:=x.1
 let b1:=x.2.1
 let q6:=x.2.2.1
 let rest7:=x.2.2.2.1
 let i8:=x.2.2.2.2.1
 cond (decide (i8>=0))
 (grd (decide (0<=i8)&&decide (i8 < a0.length)) (grd ((qU (b1)) !=0) (grd ((qU (b1)) !=0) (grd (decide (0<=i8)&&decide (i8 < q6.length)) (grd (decide (i8.toNat < q6.length)) (some (Ex.normal,(a0,b1,q6.set i8.toNat (IntKind.u32.wrap (qU ((qU ((qU (rest7 * (1000000000:Int)))+(qU (a0.getD i8.toNat (0:Int))))).tdiv (qU (b1))))),(qU ((qU (rest7 * (1000000000:Int)))+(qU (a0.getD i8.toNat (0:Int))))).tmod (qU (b1)),qI (i8 - (1:Int)),()))))))))
 (some (Ex.exit 0,(a0,b1,q6,rest7,i8,())))
def qVJ (a0:List Int) (b1:Int):Option (((List Int)×(List Int)×Unit)×Unit):=
 grd (decide (0<=(a0.length:Int))&&decide ((a0.length:Int)<=(a0.length:Int))&&decide ((a0.length:Int)<=qCF)) (
 (qPA qGI (a0,b1,List.replicate (a0.length:Int).toNat (0:Int),0,qI ((a0.length:Int) - (1:Int)),())).bind fun y1=>
 cond (Ex.same y1.1 (Ex.exit 0))
 ((qKG y1.2.2.2.1).bind fun r2=>
 (qKG ([IntKind.u32.wrap (y1.2.2.2.2.1)]:List Int)).bind fun r3=>
 some ((r2.1.1,r3.1.1,()),()))
 (none))
def qIM (x:(List Int)×Int×Unit):Option (Ex×((List Int)×Int×Unit)):=
 let a0:=x.1
 let n3:=x.2.1
 cond (decide (n3 > (0:Int)))
 (grd (decide (0<=qI (n3 - (1:Int)))&&decide (qI (n3 - (1:Int)) < a0.length)) (
 grd (decide ((qI (n3 - (1:Int))).toNat < a0.length)) (
 cond ((a0.getD ((qI (n3 - (1:Int))).toNat) (0:Int))==0)
 (some (Ex.normal,(a0,qI (n3 - (1:Int)),())))
 (some (Ex.exit 0,(a0,n3,()))))))
 (some (Ex.exit 0,(a0,n3,())))
def qAR (a0:List Int):Option ((Nat×Unit)×((List Int)×Unit)):=
 (qPA qIM (a0,(a0.length:Int),())).bind fun y1=>
 cond (Ex.same y1.1 (Ex.exit 0))
 (grd (decide (0<=y1.2.2.1)&&decide (y1.2.2.1<=y1.2.1.length)) (some ((y1.2.2.1.toNat,()),y1.2.1,())))
 (none)
def qHX (x:(List Int)×(List Int)×Int×Int×Int×(List Int)×Int×Int×(List Int)×Int×Int×Unit):Option (Ex×((List Int)×(List Int)×Int×Int×Int×(List Int)×Int×Int×(List Int)×Int×Int×Unit)):=
 let b1:=x.1
 let out5:=x.2.1
 let i6:=x.2.2.1
 let x7:=x.2.2.2.1
 let carry8:=x.2.2.2.2.1
 let t18:=x.2.2.2.2.2.1
 let t19:=x.2.2.2.2.2.2.1
 let t20:=x.2.2.2.2.2.2.2.1
 let t25:=x.2.2.2.2.2.2.2.2.1
 let t26:=x.2.2.2.2.2.2.2.2.2.1
 let t27:=x.2.2.2.2.2.2.2.2.2.2.1
 cond (decide (t27 < t26))
 (grd (decide (0<=t27)&&decide (t27 < t25.length)) (grd (decide (0<=qI (i6+t27))&&decide (qI (i6+t27) < out5.length)) (grd (decide ((qI (i6+t27)).toNat < out5.length)) (grd ((1000000000:Int) !=0) (grd ((1000000000:Int) !=0) (grd (decide (0<=qI (i6+t27))&&decide (qI (i6+t27) < out5.length)) (grd (decide ((qI (i6+t27)).toNat < out5.length)) (some (Ex.normal,(b1,out5.set ((qI (i6+t27)).toNat) (IntKind.u32.wrap ((qU ((qU ((qU (out5.getD ((qI (i6+t27)).toNat) (0:Int)))+(qU ((qU (x7)) * (qU (t25.getD t27.toNat (0:Int)))))))+carry8)).tmod 1000000000)),i6,x7,qU ((qU ((qU ((qU (out5.getD ((qI (i6+t27)).toNat) (0:Int)))+(qU ((qU (x7)) * (qU (t25.getD t27.toNat (0:Int)))))))+carry8)).tdiv 1000000000),t18,t19,t20,t25,t26,qI (t27+1),()))))))))))
 (some (Ex.exit 2,(b1,out5,i6,x7,carry8,t18,t19,t20,t25,t26,t27,())))
def qQR (x:(List Int)×(List Int)×(List Int)×Int×Int×Unit):Option (Ex×((List Int)×(List Int)×(List Int)×Int×Int×Unit)):=
 let b1:=x.1
 let out5:=x.2.1
 let t18:=x.2.2.1
 let t19:=x.2.2.2.1
 let t20:=x.2.2.2.2.1
 cond (decide (t20 < t19))
 (grd (decide (0<=t20)&&decide (t20 < t18.length)) (
 (qPA qHX (b1,out5,t20,t18.getD t20.toNat (0:Int),0,t18,t19,t20,b1,(b1.length:Int),0,())).bind fun y1=>
 cond (Ex.same y1.1 (Ex.exit 2))
 (grd (decide (0<=qI (y1.2.2.2.1+(y1.2.1.length:Int)))&&decide (qI (y1.2.2.2.1+(y1.2.1.length:Int)) < y1.2.2.1.length)) (grd (decide ((qI (y1.2.2.2.1+(y1.2.1.length:Int))).toNat < y1.2.2.1.length)) (some (Ex.normal,(y1.2.1,y1.2.2.1.set ((qI (y1.2.2.2.1+(y1.2.1.length:Int))).toNat) (IntKind.u32.wrap (y1.2.2.2.2.2.1)),y1.2.2.2.2.2.2.1,y1.2.2.2.2.2.2.2.1,qI (y1.2.2.2.2.2.2.2.2.1+1),())))))
 (none)))
 (some (Ex.exit 0,(b1,out5,t18,t19,t20,())))
def qAQ (a0:List Int) (b1:List Int):Option (((List Int)×Unit)×Unit):=
 grd (decide (0<=qI ((a0.length:Int)+(b1.length:Int)))&&decide (qI ((a0.length:Int)+(b1.length:Int))<=qI ((a0.length:Int)+(b1.length:Int)))&&decide (qI ((a0.length:Int)+(b1.length:Int))<=qCF)) (
 (qPA qQR (b1,List.replicate (qI ((a0.length:Int)+(b1.length:Int))).toNat (0:Int),a0,(a0.length:Int),0,())).bind fun y1=>
 cond (Ex.same y1.1 (Ex.exit 0))
 ((qAR y1.2.2.1).bind fun r2=>
 some ((r2.2.1.take r2.1.1,()),()))
 (none))
def qDF (x:(List Int)×(List Int)×Int×Int×Int×Int×Int×Unit):Option (Ex×((List Int)×(List Int)×Int×Int×Int×Int×Int×Unit)):=
 let u0:=x.1
 let v1:=x.2.1
 let times2:=x.2.2.1
 let carry7:=x.2.2.2.1
 let borrow8:=x.2.2.2.2.1
 let t12:=x.2.2.2.2.2.1
 let t13:=x.2.2.2.2.2.2.1
 cond (decide (t13 < t12))
 (cond (decide (t13 < (v1.length:Int)))
 (grd (decide (0<=t13)&&decide (t13 < v1.length)) (
 grd (decide (0<=t13)&&decide (t13 < u0.length)) (
 grd (decide (t13.toNat < u0.length)) (
 grd ((1000000000:Int) !=0) (
 grd ((1000000000:Int) !=0) (
 cond (decide ((qI ((qI ((qI (u0.getD t13.toNat (0:Int))) - borrow8)) - (qI ((qU (carry7+(qU (times2 * (qU (v1.getD t13.toNat (0:Int))))))).tmod 1000000000)))) < (0:Int)))
 (grd (decide (0<=t13)&&decide (t13 < u0.length)) (grd (decide (t13.toNat < u0.length)) (some (Ex.normal,(u0.set t13.toNat (IntKind.u32.wrap (qI ((qI ((qI ((qI (u0.getD t13.toNat (0:Int))) - borrow8)) - (qI ((qU (carry7+(qU (times2 * (qU (v1.getD t13.toNat (0:Int))))))).tmod 1000000000))))+1000000000))),v1,times2,qU ((qU (carry7+(qU (times2 * (qU (v1.getD t13.toNat (0:Int))))))).tdiv 1000000000),1,t12,qI (t13+1),())))))
 (grd (decide (0<=t13)&&decide (t13 < u0.length)) (grd (decide (t13.toNat < u0.length)) (some (Ex.normal,(u0.set t13.toNat (IntKind.u32.wrap (qI ((qI ((qI (u0.getD t13.toNat (0:Int))) - borrow8)) - (qI ((qU (carry7+(qU (times2 * (qU (v1.getD t13.toNat (0:Int))))))).tmod 1000000000))))),v1,times2,qU ((qU (carry7+(qU (times2 * (qU (v1.getD t13.toNat (0:Int))))))).tdiv 1000000000),0,t12,qI (t13+1),())))))))))))
 (grd (decide (0<=t13)&&decide (t13 < u0.length)) (
 grd (decide (t13.toNat < u0.length)) (
 grd ((1000000000:Int) !=0) (
 grd ((1000000000:Int) !=0) (
 cond (decide ((qI ((qI ((qI (u0.getD t13.toNat (0:Int))) - borrow8)) - (qI (carry7.tmod 1000000000)))) < (0:Int)))
 (grd (decide (0<=t13)&&decide (t13 < u0.length)) (grd (decide (t13.toNat < u0.length)) (some (Ex.normal,(u0.set t13.toNat (IntKind.u32.wrap (qI ((qI ((qI ((qI (u0.getD t13.toNat (0:Int))) - borrow8)) - (qI (carry7.tmod 1000000000))))+1000000000))),v1,times2,qU (carry7.tdiv 1000000000),1,t12,qI (t13+1),())))))
 (grd (decide (0<=t13)&&decide (t13 < u0.length)) (grd (decide (t13.toNat < u0.length)) (some (Ex.normal,(u0.set t13.toNat (IntKind.u32.wrap (qI ((qI ((qI (u0.getD t13.toNat (0:Int))) - borrow8)) - (qI (carry7.tmod 1000000000))))),v1,times2,qU (carry7.tdiv 1000000000),0,t12,qI (t13+1),())))))))))))
 (some (Ex.exit 0,(u0,v1,times2,carry7,borrow8,t12,t13,())))
def qCS (u0:List Int) (v1:List Int) (times2:Int):Option ((Bool×Unit)×((List Int)×Unit)):=
 (qPA qDF (u0,v1,times2,0,0,(u0.length:Int),0,())).bind fun y1=>
 cond (Ex.same y1.1 (Ex.exit 0))
 (some ((decide (y1.2.2.2.2.2.1 > (0:Int)),()),y1.2.1,()))
 (none)
def qOS (a0:List Int) (i1:Int):Option ((Int×Unit)×Unit):=
 cond (decide (i1>=(a0.length:Int)))
 (some ((0,()),()))
 (grd (decide (0<=i1)&&decide (i1 < a0.length)) (some ((a0.getD i1.toNat (0:Int),()),())))
def qAO (x:(List Int)×(List Int)×Int×Int×Int×Unit):Option (Ex×((List Int)×(List Int)×Int×Int×Int×Unit)):=
 let u0:=x.1
 let v1:=x.2.1
 let carry4:=x.2.2.1
 let t8:=x.2.2.2.1
 let t9:=x.2.2.2.2.1
 cond (decide (t9 < t8))
 (grd (decide (0<=t9)&&decide (t9 < u0.length)) (
 grd (decide (t9.toNat < u0.length)) (
 (qOS v1 t9).bind fun r1=>
 grd ((1000000000:Int) !=0) (grd ((1000000000:Int) !=0) (grd (decide (0<=t9)&&decide (t9 < u0.length)) (grd (decide (t9.toNat < u0.length)) (some (Ex.normal,(u0.set t9.toNat ((IntKind.u32.wrap ((IntKind.u32.wrap ((u0.getD t9.toNat (0:Int))+r1.1.1))+carry4)).tmod 1000000000),v1,IntKind.u32.wrap ((IntKind.u32.wrap ((IntKind.u32.wrap ((u0.getD t9.toNat (0:Int))+r1.1.1))+carry4)).tdiv 1000000000),t8,qI (t9+1),())))))))))
 (some (Ex.exit 0,(u0,v1,carry4,t8,t9,())))
def qNU (u0:List Int) (v1:List Int):Option ((Unit)×((List Int)×Unit)):=
 (qPA qAO (u0,v1,0,(u0.length:Int),0,())).bind fun y1=>
 cond (Ex.same y1.1 (Ex.exit 0))
 (some ((),y1.2.1,()))
 (none)
def qVF (x:(List Int)×(List Int)×Int×Int×Int×Int×Unit):Option (Ex×((List Int)×(List Int)×Int×Int×Int×Int×Unit)):=
 let u0:=x.1
 let v1:=x.2.1
 let n5:=x.2.2.1
 let first7:=x.2.2.2.1
 let guess8:=x.2.2.2.2.1
 let rest9:=x.2.2.2.2.2.1
 cond (decide (guess8>=1000000000))
 (cond (decide ((qU (rest9+first7))>=1000000000))
 (some (Ex.exit 0,(u0,v1,n5,first7,qU (guess8 - (1:Int)),qU (rest9+first7),())))
 (some (Ex.normal,(u0,v1,n5,first7,qU (guess8 - (1:Int)),qU (rest9+first7),()))))
 (grd (decide (0<=qI (n5 - (2:Int)))&&decide (qI (n5 - (2:Int)) < v1.length)) (
 grd (decide (0<=qI (n5 - (2:Int)))&&decide (qI (n5 - (2:Int)) < u0.length)) (
 grd (decide ((qI (n5 - (2:Int))).toNat < u0.length)) (
 cond (decide ((qU (guess8 * (qU (v1.getD (qI (n5 - (2:Int))).toNat (0:Int))))) > (qU ((qU (rest9 * (1000000000:Int)))+(qU (u0.getD ((qI (n5 - (2:Int))).toNat) (0:Int)))))))
 (cond (decide ((qU (rest9+first7))>=1000000000))
 (some (Ex.exit 0,(u0,v1,n5,first7,qU (guess8 - (1:Int)),qU (rest9+first7),())))
 (some (Ex.normal,(u0,v1,n5,first7,qU (guess8 - (1:Int)),qU (rest9+first7),()))))
 (some (Ex.exit 0,(u0,v1,n5,first7,guess8,rest9,())))))))
def qFZ (u0:List Int) (v1:List Int):Option ((Int×Unit)×((List Int)×Unit)):=
 grd (decide (0<=(v1.length:Int))&&decide ((v1.length:Int) < u0.length)) (
 grd (decide ((v1.length:Int).toNat < u0.length)) (
 grd (decide (0<=qI ((v1.length:Int) - (1:Int)))&&decide (qI ((v1.length:Int) - (1:Int)) < u0.length)) (
 grd (decide ((qI ((v1.length:Int) - (1:Int))).toNat < u0.length)) (
 grd (decide (0<=qI ((v1.length:Int) - (1:Int)))&&decide (qI ((v1.length:Int) - (1:Int)) < v1.length)) (
 grd ((qU (v1.getD (qI ((v1.length:Int) - (1:Int))).toNat (0:Int))) !=0) (
 grd ((qU (v1.getD (qI ((v1.length:Int) - (1:Int))).toNat (0:Int))) !=0) (
 (qPA qVF (u0,v1,(v1.length:Int),qU (v1.getD (qI ((v1.length:Int) - (1:Int))).toNat (0:Int)),qU ((qU ((qU ((qU (u0.getD ((v1.length:Int).toNat) (0:Int))) * (1000000000:Int)))+(qU (u0.getD ((qI ((v1.length:Int) - (1:Int))).toNat) (0:Int))))).tdiv (qU (v1.getD (qI ((v1.length:Int) - (1:Int))).toNat (0:Int)))),(qU ((qU ((qU (u0.getD ((v1.length:Int).toNat) (0:Int))) * (1000000000:Int)))+(qU (u0.getD ((qI ((v1.length:Int) - (1:Int))).toNat) (0:Int))))).tmod (qU (v1.getD (qI ((v1.length:Int) - (1:Int))).toNat (0:Int))),())).bind fun y1=>
 cond (Ex.same y1.1 (Ex.exit 0))
 ((qCS y1.2.1 y1.2.2.1 y1.2.2.2.2.2.1).bind fun r2=>
 cond (r2.1.1)
 ((qNU r2.2.1 y1.2.2.1).bind fun r3=>
 some ((IntKind.u32.wrap (qU (y1.2.2.2.2.2.1 - (1:Int))),()),r3.2.1,()))
 (some ((IntKind.u32.wrap (y1.2.2.2.2.2.1),()),r2.2.1,())))
 (none))))))))
def qHH (x:(List Int)×(List Int)×(List Int)×(List Int)×Unit):Option (Ex×((List Int)×(List Int)×(List Int)×(List Int)×Unit)):=
 let a0:=x.1
 let scale6:=x.2.1
 let u7:=x.2.2.1
 let v8:=x.2.2.2.1
 cond (decide ((u7.length:Int)<=(a0.length:Int)))
 (grd (decide (u7.length+([0]:List Int).length<=qCF)) (some (Ex.normal,(a0,scale6,u7++([0]:List Int),v8,()))))
 (some (Ex.exit 1,(a0,scale6,u7,v8,())))
def qIG (x:(List Int)×(List Int)×(List Int)×(List Int)×Int×Unit):Option (Ex×((List Int)×(List Int)×(List Int)×(List Int)×Int×Unit)):=
 let scale6:=x.1
 let u7:=x.2.1
 let v8:=x.2.2.1
 let q9:=x.2.2.2.1
 let j10:=x.2.2.2.2.1
 cond (decide (j10>=0))
 (grd (decide (0<=j10)&&decide (j10<=qI ((qI (j10+(v8.length:Int)))+1))&&decide (qI ((qI (j10+(v8.length:Int)))+1)<=u7.length)) (
 (qFZ ((u7.drop j10.toNat).take ((qI ((qI (j10+(v8.length:Int)))+1)).toNat - j10.toNat)) v8).bind fun r1=>
 grd (decide (0<=j10)&&decide (j10 < q9.length)) (grd (decide (j10.toNat < q9.length)) (some (Ex.normal,(scale6,u7.take j10.toNat++r1.2.1++u7.drop (j10.toNat+((qI ((qI (j10+(v8.length:Int)))+1)).toNat - j10.toNat)),v8,q9.set j10.toNat r1.1.1,qI (j10 - (1:Int)),()))))))
 (some (Ex.exit 3,(scale6,u7,v8,q9,j10,())))
def qGJ (a0:List Int) (b1:List Int):Option (((List Int)×(List Int)×Unit)×Unit):=
 (qIQ a0 b1).bind fun r1=>
 cond (decide (r1.1.1 < (0:Int)))
 (some ((([]:List Int),a0,()),()))
 (cond ((b1.length:Int)==1)
 (grd (decide (0<=(0:Int))&&decide ((0:Int) < b1.length)) (
 (qVJ a0 (b1.getD (0:Int).toNat (0:Int))).bind fun r2=>
 some ((r2.1.1,r2.1.2.1,()),())))
 (grd (decide (0<=qI ((b1.length:Int) - (1:Int)))&&decide (qI ((b1.length:Int) - (1:Int)) < b1.length)) (
 grd ((qU ((qU (b1.getD (qI ((b1.length:Int) - (1:Int))).toNat (0:Int)))+1)) !=0) (
 (qAQ a0 ([IntKind.u32.wrap (qU ((1000000000:Int).tdiv (qU ((qU (b1.getD (qI ((b1.length:Int) - (1:Int))).toNat (0:Int)))+1))))]:List Int)).bind fun r3=>
 (qAQ b1 ([IntKind.u32.wrap (qU ((1000000000:Int).tdiv (qU ((qU (b1.getD (qI ((b1.length:Int) - (1:Int))).toNat (0:Int)))+1))))]:List Int)).bind fun r4=>
 (qPA qHH (a0,([IntKind.u32.wrap (qU ((1000000000:Int).tdiv (qU ((qU (b1.getD (qI ((b1.length:Int) - (1:Int))).toNat (0:Int)))+1))))]:List Int),r3.1.1,r4.1.1,())).bind fun y5=>
 cond (Ex.same y5.1 (Ex.exit 1))
 (grd (decide (0<=qI ((y5.2.2.2.1.length:Int) - (y5.2.2.2.2.1.length:Int)))&&decide (qI ((y5.2.2.2.1.length:Int) - (y5.2.2.2.2.1.length:Int))<=qI ((y5.2.2.2.1.length:Int) - (y5.2.2.2.2.1.length:Int)))&&decide (qI ((y5.2.2.2.1.length:Int) - (y5.2.2.2.2.1.length:Int))<=qCF)) (
 (qPA qIG (y5.2.2.1,y5.2.2.2.1,y5.2.2.2.2.1,List.replicate (qI ((y5.2.2.2.1.length:Int) - (y5.2.2.2.2.1.length:Int))).toNat (0:Int),qI (((List.replicate (qI ((y5.2.2.2.1.length:Int) - (y5.2.2.2.2.1.length:Int))).toNat (0:Int)).length:Int) - (1:Int)),())).bind fun y6=>
 cond (Ex.same y6.1 (Ex.exit 3))
 ((qKG y6.2.2.1).bind fun r7=>
 grd (decide (0<=(0:Int))&&decide ((0:Int) < y6.2.1.length)) (
 (qVJ r7.1.1 (y6.2.1.getD (0:Int).toNat (0:Int))).bind fun r8=>
 (qKG y6.2.2.2.2.1).bind fun r9=>
 some ((r9.1.1,r8.1.1,()),())))
 (none)))
 (none)))))
def qHa (x:(List Int)×(List Int)×Unit):Option (Ex×((List Int)×(List Int)×Unit)):=
 let a0:=x.1
 let b1:=x.2.1
 cond (decide ((b1.length:Int) > (0:Int)))
 ((qGJ a0 b1).bind fun r1=>
 some (Ex.normal,(b1,r1.1.2.1,())))
 (some (Ex.exit 0,(a0,b1,())))
def qZaa (a0:List Int) (b1:List Int):Option (((List Int)×Unit)×Unit):=
 (qPA qHa (a0,b1,())).bind fun y1=>
 cond (Ex.same y1.1 (Ex.exit 0))
 (some ((y1.2.1,()),()))
 (none)
def qMK (a0:List Int):Option ((Bool×Unit)×Unit):=
 cond ((a0.length:Int)==1)
 (grd (decide (0<=(0:Int))&&decide ((0:Int) < a0.length)) (some (((a0.getD (0:Int).toNat (0:Int))==1,()),())))
 (some ((false,()),()))
def qOH (a0:qBs):Option ((Rt×Bool×Unit)×Unit):=
 (strings_CutPrefix a0 ([45]:qBs)).bind fun r1=>
 (strings_Cut r1.1.1 ([47]:qBs)).bind fun r2=>
 (qIK r2.1.1).bind fun r3=>
 cond (!r3.1.1)
 (some (((false,([]:List Int),([]:List Int)),false,()),()))
 (cond (r2.1.1==([48]:qBs))
 (cond (r1.1.2.1)
 (some (((false,([]:List Int),([]:List Int)),false,()),()))
 (cond (r2.1.2.2.1)
 (some (((false,([]:List Int),([]:List Int)),false,()),()))
 ((qLY r2.1.1).bind fun r4=>
 cond (!r2.1.2.2.1)
 (some (((r1.1.2.1,r4.1.1,([1]:List Int)),true,()),()))
 ((qIK r2.1.2.1).bind fun r5=>
 cond (!r5.1.1)
 (some (((false,([]:List Int),([]:List Int)),false,()),()))
 (cond (r2.1.2.1==([48]:qBs))
 (some (((false,([]:List Int),([]:List Int)),false,()),()))
 (cond (r2.1.2.1==([49]:qBs))
 (some (((false,([]:List Int),([]:List Int)),false,()),()))
 ((qLY r2.1.2.1).bind fun r6=>
 (qZaa r4.1.1 r6.1.1).bind fun r7=>
 (qMK r7.1.1).bind fun r8=>
 some (((r1.1.2.1,r4.1.1,r6.1.1),r8.1.1,()),()))))))))
 ((qLY r2.1.1).bind fun r9=>
 cond (!r2.1.2.2.1)
 (some (((r1.1.2.1,r9.1.1,([1]:List Int)),true,()),()))
 ((qIK r2.1.2.1).bind fun r10=>
 cond (!r10.1.1)
 (some (((false,([]:List Int),([]:List Int)),false,()),()))
 (cond (r2.1.2.1==([48]:qBs))
 (some (((false,([]:List Int),([]:List Int)),false,()),()))
 (cond (r2.1.2.1==([49]:qBs))
 (some (((false,([]:List Int),([]:List Int)),false,()),()))
 ((qLY r2.1.2.1).bind fun r11=>
 (qZaa r9.1.1 r11.1.1).bind fun r12=>
 (qMK r12.1.1).bind fun r13=>
 some (((r1.1.2.1,r9.1.1,r11.1.1),r13.1.1,()),())))))))
def qNR (a0:qBs):Option ((Bool×Unit)×Unit):=
 (qEC a0).bind fun r1=>
 cond (r1.1.2.1)
 (some ((true,()),()))
 ((qOH a0).bind fun r2=>
 some ((r2.1.2.1,()),()))
def qGb (a0:qBs):Option ((Int×Unit)×Unit):=
 (qNR a0).bind fun r1=>
 cond (!r1.1.1)
 (some ((0,()),()))
 (cond (a0==([48]:qBs))
 (some ((0,()),()))
 (grd (decide (0<=(0:Int))&&decide ((0:Int) < a0.length)) (
 cond (((a0.getD (0:Int).toNat 0).toNat:Int)==45)
 (some ((-1,()),()))
 (some ((1,()),())))))
def qIai (a0:qBs):Option ((qBs×Unit)×Unit):=
 (qGb a0).bind fun r1=>
 cond (decide (r1.1.1 < (0:Int)))
 (grd (decide (0<=(1:Int))&&decide ((1:Int)<=a0.length)) (some ((a0.drop (1:Int).toNat,()),())))
 ((qGb a0).bind fun r2=>
 cond (decide (r2.1.1 > (0:Int)))
 (grd (decide (([45]:qBs).length+a0.length<=qEP)) (some ((([45]:qBs)++a0,()),())))
 (cond (a0==([48]:qBs))
 (some ((a0,()),()))
 (some ((([]:qBs),()),()))))
def qWM (n0:Int) (d1:Int):Option ((qBs×Unit)×Unit):=
 cond (decide (d1 < (0:Int)))
 ((qPQ (qJc (qI (0 - n0)) (qI (0 - (qI (0 - n0))))) (qI (0 - d1))).bind fun r1=>
 grd (r1.1.1 !=0) (
 grd (r1.1.1 !=0) (
 (qVC (qI ((qI (0 - n0)).tdiv r1.1.1)) 10).bind fun r2=>
 cond (decide ((qI ((qI (0 - d1)).tdiv r1.1.1)) > (1:Int)))
 ((qVC (qI ((qI (0 - d1)).tdiv r1.1.1)) 10).bind fun r3=>
 grd (decide (([47]:qBs).length+r3.1.1.length<=qEP)) (grd (decide (r2.1.1.length+(([47]:qBs)++r3.1.1).length<=qEP)) (some ((r2.1.1++(([47]:qBs)++r3.1.1),()),()))))
 (some ((r2.1.1,()),())))))
 ((qPQ (qJc n0 (qI (0 - n0))) d1).bind fun r4=>
 grd (r4.1.1 !=0) (
 grd (r4.1.1 !=0) (
 (qVC (qI (n0.tdiv r4.1.1)) 10).bind fun r5=>
 cond (decide ((qI (d1.tdiv r4.1.1)) > (1:Int)))
 ((qVC (qI (d1.tdiv r4.1.1)) 10).bind fun r6=>
 grd (decide (([47]:qBs).length+r6.1.1.length<=qEP)) (grd (decide (r5.1.1.length+(([47]:qBs)++r6.1.1).length<=qEP)) (some ((r5.1.1++(([47]:qBs)++r6.1.1),()),()))))
 (some ((r5.1.1,()),())))))
def qXf (x0:Sml) (y1:Sml):Option ((qBs×Unit)×Unit):=
 (qWM (qI ((qI (x0.1 * y1.2))+(qI (y1.1 * x0.2)))) (qI (x0.2 * y1.2))).bind fun r1=>
 some ((r1.1.1,()),())
def qQL (x:(List Int)×(List Int)×Int×Int×Int×(List Int)×Int×Int×(List Int)×Int×Int×Unit):Option (Ex×((List Int)×(List Int)×Int×Int×Int×(List Int)×Int×Int×(List Int)×Int×Int×Unit)):=
 let b1:=x.1
 let out5:=x.2.1
 let i6:=x.2.2.1
 let x7:=x.2.2.2.1
 let carry8:=x.2.2.2.2.1
 let t18:=x.2.2.2.2.2.1
 let t19:=x.2.2.2.2.2.2.1
 let t20:=x.2.2.2.2.2.2.2.1
 let t25:=x.2.2.2.2.2.2.2.2.1
 let t26:=x.2.2.2.2.2.2.2.2.2.1
 let t27:=x.2.2.2.2.2.2.2.2.2.2.1
 cond (decide (t27 < t26))
 (grd (decide (0<=t27)&&decide (t27 < t25.length)) (grd (decide (0<=qI (i6+t27))&&decide (qI (i6+t27) < out5.length)) (grd (decide ((qI (i6+t27)).toNat < out5.length)) (grd ((1000000000:Int) !=0) (grd ((1000000000:Int) !=0) (grd (decide (0<=qI (i6+t27))&&decide (qI (i6+t27) < out5.length)) (grd (decide ((qI (i6+t27)).toNat < out5.length)) (some (Ex.normal,(b1,out5.set ((qI (i6+t27)).toNat) (IntKind.u32.wrap ((qU ((qU ((qU (out5.getD ((qI (i6+t27)).toNat) (0:Int)))+(qU ((qU (x7)) * (qU (t25.getD t27.toNat (0:Int)))))))+carry8)).tmod 1000000000)),i6,x7,qU ((qU ((qU ((qU (out5.getD ((qI (i6+t27)).toNat) (0:Int)))+(qU ((qU (x7)) * (qU (t25.getD t27.toNat (0:Int)))))))+carry8)).tdiv 1000000000),t18,t19,t20,t25,t26,qI (t27+1),()))))))))))
 (some (Ex.exit 2,(b1,out5,i6,x7,carry8,t18,t19,t20,t25,t26,t27,())))
def qFJ (x:(List Int)×(List Int)×(List Int)×Int×Int×Unit):Option (Ex×((List Int)×(List Int)×(List Int)×Int×Int×Unit)):=
 let b1:=x.1
 let out5:=x.2.1
 let t18:=x.2.2.1
 let t19:=x.2.2.2.1
 let t20:=x.2.2.2.2.1
 cond (decide (t20 < t19))
 (grd (decide (0<=t20)&&decide (t20 < t18.length)) (
 (qPA qQL (b1,out5,t20,t18.getD t20.toNat (0:Int),0,t18,t19,t20,b1,(b1.length:Int),0,())).bind fun y1=>
 cond (Ex.same y1.1 (Ex.exit 2))
 (grd (decide (0<=qI (y1.2.2.2.1+(y1.2.1.length:Int)))&&decide (qI (y1.2.2.2.1+(y1.2.1.length:Int)) < y1.2.2.1.length)) (grd (decide ((qI (y1.2.2.2.1+(y1.2.1.length:Int))).toNat < y1.2.2.1.length)) (some (Ex.normal,(y1.2.1,y1.2.2.1.set ((qI (y1.2.2.2.1+(y1.2.1.length:Int))).toNat) (IntKind.u32.wrap (y1.2.2.2.2.2.1)),y1.2.2.2.2.2.2.1,y1.2.2.2.2.2.2.2.1,qI (y1.2.2.2.2.2.2.2.2.1+1),())))))
 (none)))
 (some (Ex.exit 0,(b1,out5,t18,t19,t20,())))
def qFM (a0:List Int) (b1:List Int):Option (((List Int)×Unit)×Unit):=
 grd (decide (0<=qI ((a0.length:Int)+(b1.length:Int)))&&decide (qI ((a0.length:Int)+(b1.length:Int))<=qI ((a0.length:Int)+(b1.length:Int)))&&decide (qI ((a0.length:Int)+(b1.length:Int))<=qCF)) (
 (qPA qFJ (b1,List.replicate (qI ((a0.length:Int)+(b1.length:Int))).toNat (0:Int),a0,(a0.length:Int),0,())).bind fun y1=>
 cond (Ex.same y1.1 (Ex.exit 0))
 ((qKG y1.2.2.1).bind fun r2=>
 some ((r2.1.1,()),()))
 (none))
def qUN (x:(List Int)×(List Int)×(List Int)×Int×Int×Int×Unit):Option (Ex×((List Int)×(List Int)×(List Int)×Int×Int×Int×Unit)):=
 let a0:=x.1
 let b1:=x.2.1
 let out5:=x.2.2.1
 let carry6:=x.2.2.2.1
 let t20:=x.2.2.2.2.1
 let t21:=x.2.2.2.2.2.1
 cond (decide (t21 < t20))
 ((qOS a0 t21).bind fun r1=>
 (qOS b1 t21).bind fun r2=>
 grd ((1000000000:Int) !=0) (grd (decide (out5.length+([(IntKind.u32.wrap ((IntKind.u32.wrap (r1.1.1+r2.1.1))+carry6)).tmod 1000000000]:List Int).length<=qCF)) (grd ((1000000000:Int) !=0) (some (Ex.normal,(a0,b1,out5++([(IntKind.u32.wrap ((IntKind.u32.wrap (r1.1.1+r2.1.1))+carry6)).tmod 1000000000]:List Int),IntKind.u32.wrap ((IntKind.u32.wrap ((IntKind.u32.wrap (r1.1.1+r2.1.1))+carry6)).tdiv 1000000000),t20,qI (t21+1),()))))))
 (some (Ex.exit 0,(a0,b1,out5,carry6,t20,t21,())))
def qES (a0:List Int) (b1:List Int):Option (((List Int)×Unit)×Unit):=
 grd (decide (0<=(0:Int))&&decide ((0:Int)<=qI ((qJc (a0.length:Int) (b1.length:Int))+1))&&decide (qI ((qJc (a0.length:Int) (b1.length:Int))+1)<=qCF)) (
 (qPA qUN (a0,b1,List.replicate (0:Int).toNat (0:Int),0,qJc (a0.length:Int) (b1.length:Int),0,())).bind fun y1=>
 cond (Ex.same y1.1 (Ex.exit 0))
 (grd (decide (y1.2.2.2.1.length+([y1.2.2.2.2.1]:List Int).length<=qCF)) (
 (qKG (y1.2.2.2.1++([y1.2.2.2.2.1]:List Int))).bind fun r2=>
 some ((r2.1.1,()),())))
 (none))
def qKR (neg0:Bool) (num1:List Int) (den2:List Int):Option ((Rt×Unit)×Unit):=
 (qZaa num1 den2).bind fun r1=>
 (qMK r1.1.1).bind fun r2=>
 cond (!r2.1.1)
 ((qGJ num1 r1.1.1).bind fun r3=>
 (qGJ den2 r1.1.1).bind fun r4=>
 some (((neg0,r3.1.1,r4.1.1),()),()))
 (some (((neg0,num1,den2),()),()))
def qML (x:(List Int)×(List Int)×(List Int)×Int×Int×Int×Unit):Option (Ex×((List Int)×(List Int)×(List Int)×Int×Int×Int×Unit)):=
 let a0:=x.1
 let b1:=x.2.1
 let out5:=x.2.2.1
 let borrow6:=x.2.2.2.1
 let t13:=x.2.2.2.2.1
 let t14:=x.2.2.2.2.2.1
 cond (decide (t14 < t13))
 (grd (decide (0<=t14)&&decide (t14 < a0.length)) (
 (qOS b1 t14).bind fun r1=>
 cond (decide ((qI ((qI ((qI (a0.getD t14.toNat (0:Int))) - (qI (r1.1.1)))) - borrow6)) < (0:Int)))
 (grd (decide (out5.length+([IntKind.u32.wrap (qI ((qI ((qI ((qI (a0.getD t14.toNat (0:Int))) - (qI (r1.1.1)))) - borrow6))+1000000000))]:List Int).length<=qCF)) (some (Ex.normal,(a0,b1,out5++([IntKind.u32.wrap (qI ((qI ((qI ((qI (a0.getD t14.toNat (0:Int))) - (qI (r1.1.1)))) - borrow6))+1000000000))]:List Int),1,t13,qI (t14+1),()))))
 (grd (decide (out5.length+([IntKind.u32.wrap (qI ((qI ((qI (a0.getD t14.toNat (0:Int))) - (qI (r1.1.1)))) - borrow6))]:List Int).length<=qCF)) (some (Ex.normal,(a0,b1,out5++([IntKind.u32.wrap (qI ((qI ((qI (a0.getD t14.toNat (0:Int))) - (qI (r1.1.1)))) - borrow6))]:List Int),0,t13,qI (t14+1),()))))))
 (some (Ex.exit 0,(a0,b1,out5,borrow6,t13,t14,())))
def qJQ (a0:List Int) (b1:List Int):Option (((List Int)×Unit)×Unit):=
 grd (decide (0<=(0:Int))&&decide ((0:Int)<=(a0.length:Int))&&decide ((a0.length:Int)<=qCF)) (
 (qPA qML (a0,b1,List.replicate (0:Int).toNat (0:Int),0,(a0.length:Int),0,())).bind fun y1=>
 cond (Ex.same y1.1 (Ex.exit 0))
 ((qKG y1.2.2.2.1).bind fun r2=>
 some ((r2.1.1,()),()))
 (none))
def qGa (x0:Rt) (y1:Rt):Option ((Rt×Unit)×Unit):=
 (qFM x0.2.1 y1.2.2).bind fun r1=>
 (qFM y1.2.1 x0.2.2).bind fun r2=>
 (qFM x0.2.2 y1.2.2).bind fun r3=>
 cond (x0.1==y1.1)
 ((qES r1.1.1 r2.1.1).bind fun r4=>
 (qKR x0.1 r4.1.1 r3.1.1).bind fun r5=>
 some (((r5.1.1.1,r5.1.1.2.1,r5.1.1.2.2),()),()))
 ((qIQ r1.1.1 r2.1.1).bind fun r6=>
 cond (decide (r6.1.1>=0))
 ((qJQ r1.1.1 r2.1.1).bind fun r7=>
 (qKR x0.1 r7.1.1 r3.1.1).bind fun r8=>
 some (((r8.1.1.1,r8.1.1.2.1,r8.1.1.2.2),()),()))
 ((qJQ r2.1.1 r1.1.1).bind fun r9=>
 (qKR y1.1 r9.1.1 r3.1.1).bind fun r10=>
 some (((r10.1.1.1,r10.1.1.2.1,r10.1.1.2.2),()),())))
def qQA (b0:Unit×List Int) (s1:qBs):Option ((Int×Bool×Unit)×((Unit×List Int)×Unit)):=
 (qEF ((),b0.2)).bind fun r1=>
 grd (decide (r1.2.1.2.length+(s1.map fun c=>((c.toNat:Nat):Int)).length<=qCF)) (some (((s1.length:Int),false,()),((),r1.2.1.2++(s1.map fun c=>((c.toNat:Nat):Int))),()))
def qXJ (v:Int) (i:Nat) (x:(Unit×List Int)×Unit):Option ((Unit×List Int)×Unit):=
 let b3:=x.1
 (qKF (qU (v)) 10).bind fun r1=>
 grd (decide (0<=(r1.1.1.length:Int))&&decide ((r1.1.1.length:Int)<=([48,48,48,48,48,48,48,48,48]:qBs).length)) (
 (qQA ((),b3.2) (([48,48,48,48,48,48,48,48,48]:qBs).drop (r1.1.1.length:Int).toNat)).bind fun r2=>
 (qQA ((),r2.2.1.2) r1.1.1).bind fun r3=>
 some (((),r3.2.1.2),()))
def qOM (y:(Unit×List Int)×Unit) (o:(Unit×List Int)×Unit):(Unit×List Int)×Unit:=(o.1,())
def qVL (y:(Unit×List Int)×Unit):(Unit×List Int)×Unit:=(y.1,())
def qCN (a0:List Int):Option ((qBs×Unit)×Unit):=
 cond ((a0.length:Int)==0)
 (some ((([48]:qBs),()),()))
 (grd (decide (0<=qI ((a0.length:Int) - (1:Int)))&&decide (qI ((a0.length:Int) - (1:Int)) < a0.length)) (
 (qKF (qU (a0.getD (qI ((a0.length:Int) - (1:Int))).toNat (0:Int))) 10).bind fun r1=>
 (qQA ((),([]:List Int)) r1.1.1).bind fun r2=>
 grd (decide (0<=qI ((a0.length:Int) - (1:Int)))&&decide (qI ((a0.length:Int) - (1:Int))<=a0.length)) (
 grd (decide ((a0.take (qI ((a0.length:Int) - (1:Int))).toNat).length<=qCF)) (((foldO (fun p y=>(qXJ p.1 p.2 y).bind fun o=>some (qOM y o)) (a0.take (qI ((a0.length:Int) - (1:Int))).toNat).zipIdx.reverse (((),r2.2.1.2),())).bind fun y=>some ((),qVL y)).bind fun y3=>
 (qTE ((),y3.2.1.2)).bind fun r4=>
 some ((r4.1.1,()),())))))
def qPL (x0:Rt):Option ((qBs×Unit)×Unit):=
 (qCN x0.2.1).bind fun r1=>
 cond (x0.1)
 (cond (decide ((x0.2.1.length:Int) > (0:Int)))
 (grd (decide (([45]:qBs).length+r1.1.1.length<=qEP)) (
 (qMK x0.2.2).bind fun r2=>
 cond (!r2.1.1)
 ((qCN x0.2.2).bind fun r3=>
 grd (decide (([47]:qBs).length+r3.1.1.length<=qEP)) (grd (decide ((([45]:qBs)++r1.1.1).length+(([47]:qBs)++r3.1.1).length<=qEP)) (some (((([45]:qBs)++r1.1.1)++(([47]:qBs)++r3.1.1),()),()))))
 (some ((([45]:qBs)++r1.1.1,()),()))))
 ((qMK x0.2.2).bind fun r4=>
 cond (!r4.1.1)
 ((qCN x0.2.2).bind fun r5=>
 grd (decide (([47]:qBs).length+r5.1.1.length<=qEP)) (grd (decide (r1.1.1.length+(([47]:qBs)++r5.1.1).length<=qEP)) (some ((r1.1.1++(([47]:qBs)++r5.1.1),()),()))))
 (some ((r1.1.1,()),()))))
 ((qMK x0.2.2).bind fun r6=>
 cond (!r6.1.1)
 ((qCN x0.2.2).bind fun r7=>
 grd (decide (([47]:qBs).length+r7.1.1.length<=qEP)) (grd (decide (r1.1.1.length+(([47]:qBs)++r7.1.1).length<=qEP)) (some ((r1.1.1++(([47]:qBs)++r7.1.1),()),()))))
 (some ((r1.1.1,()),())))
def qCg (x0:Rt) (y1:Rt):Option ((qBs×Unit)×Unit):=
 (qGa (x0.1,x0.2.1,x0.2.2) (y1.1,y1.2.1,y1.2.2)).bind fun r1=>
 (qPL (r1.1.1.1,r1.1.1.2.1,r1.1.1.2.2)).bind fun r2=>
 some ((r2.1.1,()),())
def qUD (a0:qBs) (b1:qBs) (small2:Unit) (all3:Unit):Option ((qBs×Unit)×Unit):=
 (qEC a0).bind fun r1=>
 (qEC b1).bind fun r2=>
 cond (r1.1.2.1)
 (cond (r2.1.2.1)
 ((qXf (r1.1.1.1,r1.1.1.2) (r2.1.1.1,r2.1.1.2)).bind fun r3=>
 some ((r3.1.1,()),()))
 ((qOH a0).bind fun r4=>
 (qOH b1).bind fun r5=>
 cond (!r4.1.2.1)
 (some ((([]:qBs),()),()))
 (cond (!r5.1.2.1)
 (some ((([]:qBs),()),()))
 ((qCg (r4.1.1.1,r4.1.1.2.1,r4.1.1.2.2) (r5.1.1.1,r5.1.1.2.1,r5.1.1.2.2)).bind fun r6=>
 some ((r6.1.1,()),())))))
 ((qOH a0).bind fun r7=>
 (qOH b1).bind fun r8=>
 cond (!r7.1.2.1)
 (some ((([]:qBs),()),()))
 (cond (!r8.1.2.1)
 (some ((([]:qBs),()),()))
 ((qCg (r7.1.1.1,r7.1.1.2.1,r7.1.1.2.2) (r8.1.1.1,r8.1.1.2.1,r8.1.1.2.2)).bind fun r9=>
 some ((r9.1.1,()),()))))
def qAab (a0:qBs) (b1:qBs):Option ((qBs×Unit)×Unit):=
 (qUD a0 b1 () ()).bind fun r1=>
 some ((r1.1.1,()),())
def qYae (a0:qBs) (b1:qBs):Option ((qBs×Unit)×Unit):=
 (qIai b1).bind fun r1=>
 (qAab a0 r1.1.1).bind fun r2=>
 some ((r2.1.1,()),())
def qTW (a0:qBs) (b1:qBs):Option ((Int×Unit)×Unit):=
 (qYae a0 b1).bind fun r1=>
 (qGb r1.1.1).bind fun r2=>
 some ((r2.1.1,()),())
def qLM (x:Val×Bool×(List qBs)×Int×Int×Unit):Option (Ex×(Val×Bool×(List qBs)×Int×Int×Unit)):=
 let v1:=x.1
 let t2:=x.2.1
 let t13:=x.2.2.1
 let t14:=x.2.2.2.1
 let t15:=x.2.2.2.2.1
 cond (decide (t15 < t14))
 (grd (decide (0<=t15)&&decide (t15 < t13.length)) (
 (qJI (t13.getD t15.toNat ([]:qBs))).bind fun r1=>
 cond (!r1.1.1)
 (some (Ex.ret,(v1,false,t13,t14,t15,())))
 (grd (decide (0<=t15)&&decide (t15 < v1.2.2.2.2.length)) (
 (qJI (v1.2.2.2.2.getD t15.toNat ([]:qBs))).bind fun r2=>
 cond (!r2.1.1)
 (some (Ex.ret,(v1,false,t13,t14,t15,())))
 (grd (decide (0<=t15)&&decide (t15 < v1.2.2.2.2.length)) (
 cond ((v1.2.2.2.2.getD t15.toNat ([]:qBs))==v1.2.2.1)
 (some (Ex.ret,(v1,false,t13,t14,t15,())))
 (cond (decide (t15 > (0:Int)))
 (grd (decide (0<=qI (t15 - (1:Int)))&&decide (qI (t15 - (1:Int)) < v1.2.2.2.1.length)) (
 (qTW (v1.2.2.2.1.getD (qI (t15 - (1:Int))).toNat ([]:qBs)) (t13.getD t15.toNat ([]:qBs))).bind fun r3=>
 cond (decide (r3.1.1>=0))
 (some (Ex.ret,(v1,false,t13,t14,t15,())))
 (some (Ex.normal,(v1,t2,t13,t14,qI (t15+1),())))))
 (some (Ex.normal,(v1,t2,t13,t14,qI (t15+1),()))))))))))
 (some (Ex.exit 0,(v1,t2,t13,t14,t15,())))
def qCW (v0:Val):Option ((Bool×Unit)×Unit):=
 cond ((v0.2.2.2.1.length:Int) !=(v0.2.2.2.2.length:Int))
 (some ((false,()),()))
 ((qPA qLM (v0,false,v0.2.2.2.1,(v0.2.2.2.1.length:Int),0,())).bind fun y1=>
 cond (Ex.same y1.1 (Ex.exit 0))
 (some ((true,()),()))
 (cond (Ex.same y1.1 Ex.ret)
 (some ((y1.2.2.1,()),()))
 (none)))
def qUU (v0:Val):Option ((Bool×Unit)×Unit):=
 cond (v0.1==1)
 (cond (v0.2.2.1==([]:qBs))
 ((qBW v0).bind fun r1=>
 some ((r1.1.1,()),()))
 (some ((false,()),())))
 (cond (v0.1==2)
 (cond (!v0.2.1)
 ((qJI v0.2.2.1).bind fun r2=>
 cond (r2.1.1)
 ((qBW v0).bind fun r3=>
 some ((r3.1.1,()),()))
 (some ((false,()),())))
 (some ((false,()),())))
 (cond (v0.1==3)
 (cond (!v0.2.1)
 ((qNR v0.2.2.1).bind fun r4=>
 cond (r4.1.1)
 ((qBW v0).bind fun r5=>
 some ((r5.1.1,()),()))
 (some ((false,()),())))
 (some ((false,()),())))
 (cond (v0.1==4)
 (cond (!v0.2.1)
 ((qJI v0.2.2.1).bind fun r6=>
 cond (r6.1.1)
 ((qCW v0).bind fun r7=>
 some ((r7.1.1,()),()))
 (some ((false,()),())))
 (some ((false,()),())))
 (some ((false,()),())))))
def qTG (x:(List (qBs×Val))×Bool×(List (qBs×Val))×(List qSJ)×Int×Int×Unit):Option (Ex×((List (qBs×Val))×Bool×(List (qBs×Val))×(List qSJ)×Int×Int×Unit)):=
 let t2:=x.1
 let t3:=x.2.1
 let out4:=x.2.2.1
 let t10:=x.2.2.2.1
 let t11:=x.2.2.2.2.1
 let t12:=x.2.2.2.2.2.1
 cond (decide (t12 < t11))
 (grd (decide (0<=t12)&&decide (t12 < t10.length)) (
 (qUU ((t10.getD t12.toNat qXR).2)).bind fun r1=>
 cond (!r1.1.1)
 (some (Ex.ret,(([]:List (qBs×Val)),false,out4,t10,t11,t12,())))
 (cond (!((qPD ((t10.getD t12.toNat qXR).1) out4).isSome))
 (some (Ex.normal,(t2,t3,qDc ((t10.getD t12.toNat qXR).1) ((t10.getD t12.toNat qXR).2) out4,t10,t11,qI (t12+1),())))
 (some (Ex.normal,(t2,t3,out4,t10,t11,qI (t12+1),()))))))
 (some (Ex.exit 0,(t2,t3,out4,t10,t11,t12,())))
def qFS (env0:List qSJ):Option (((List (qBs×Val))×Bool×Unit)×Unit):=
 (qPA qTG (([]:List (qBs×Val)),false,([]:List (qBs×Val)),env0,(env0.length:Int),0,())).bind fun y1=>
 cond (Ex.same y1.1 (Ex.exit 0))
 (some ((y1.2.2.2.1,true,()),()))
 (cond (Ex.same y1.1 Ex.ret)
 (some ((y1.2.1,y1.2.2.1,()),()))
 (none))
def qNd (v0:Val):Option ((Bool×Unit)×Unit):=
 (qUU v0).bind fun r1=>
 some ((!r1.1.1,()),())
def qAE (x:(List Val)×Unit×Int×Int×Int×Unit):Option (Ex×((List Val)×Unit×Int×Int×Int×Unit)):=
 let s0:=x.1
 let f1:=x.2.1
 let t4:=x.2.2.1
 let t7:=x.2.2.2.1
 let t8:=x.2.2.2.2.1
 cond (decide (t8 < t7))
 (grd (decide (0<=t8)&&decide (t8 < s0.length)) (
 (qNd (s0.getD t8.toNat qHD)).bind fun r1=>
 cond (r1.1.1)
 (some (Ex.ret,(s0,(),t8,t7,t8,())))
 (some (Ex.normal,(s0,(),t4,t7,qI (t8+1),())))))
 (some (Ex.exit 0,(s0,(),t4,t7,t8,())))
def qVE (s0:List Val) (f1:Unit):Option ((Int×Unit)×Unit):=
 (qPA qAE (s0,(),0,(s0.length:Int),0,())).bind fun y1=>
 cond (Ex.same y1.1 (Ex.exit 0))
 (some ((-1,()),()))
 (cond (Ex.same y1.1 Ex.ret)
 (some ((y1.2.2.2.1,()),()))
 (none))
def qCE (s0:List Val) (f1:Unit):Option ((Bool×Unit)×Unit):=
 (qVE s0 ()).bind fun r1=>
 some ((decide (r1.1.1>=0),()),())
def qQc (l0:List Val):Option ((Bool×Unit)×Unit):=
 (qCE l0 ()).bind fun r1=>
 some ((!r1.1.1,()),())
def qKd (l0:List Val):Option ((Bool×Unit)×Unit):=
 (qQc l0).bind fun r1=>
 some ((!r1.1.1,()),())
def qDE (x:(List (List Val))×Unit×Int×Int×Int×Unit):Option (Ex×((List (List Val))×Unit×Int×Int×Int×Unit)):=
 let s0:=x.1
 let f1:=x.2.1
 let t4:=x.2.2.1
 let t7:=x.2.2.2.1
 let t8:=x.2.2.2.2.1
 cond (decide (t8 < t7))
 (grd (decide (0<=t8)&&decide (t8 < s0.length)) (
 (qKd (s0.getD t8.toNat ([]:List Val))).bind fun r1=>
 cond (r1.1.1)
 (some (Ex.ret,(s0,(),t8,t7,t8,())))
 (some (Ex.normal,(s0,(),t4,t7,qI (t8+1),())))))
 (some (Ex.exit 0,(s0,(),t4,t7,t8,())))
def qSE (s0:List (List Val)) (f1:Unit):Option ((Int×Unit)×Unit):=
 (qPA qDE (s0,(),0,(s0.length:Int),0,())).bind fun y1=>
 cond (Ex.same y1.1 (Ex.exit 0))
 (some ((-1,()),()))
 (cond (Ex.same y1.1 Ex.ret)
 (some ((y1.2.2.2.1,()),()))
 (none))
def qBE (s0:List (List Val)) (f1:Unit):Option ((Bool×Unit)×Unit):=
 (qSE s0 ()).bind fun r1=>
 some ((decide (r1.1.1>=0),()),())
def qBZ (x:(List (qBs×Interp))×Bool×(List (qBs×Interp))×(List Interp)×Int×Int×Unit):Option (Ex×((List (qBs×Interp))×Bool×(List (qBs×Interp))×(List Interp)×Int×Int×Unit)):=
 let t2:=x.1
 let t3:=x.2.1
 let out4:=x.2.2.1
 let t10:=x.2.2.2.1
 let t11:=x.2.2.2.2.1
 let t12:=x.2.2.2.2.2.1
 cond (decide (t12 < t11))
 (grd (decide (0<=t12)&&decide (t12 < t10.length)) (
 cond (((((t10.getD t12.toNat qXH).2).1).length:Int) !=(((((t10.getD t12.toNat qXH).2).2).1).length:Int))
 (some (Ex.ret,(([]:List (qBs×Interp)),false,out4,t10,t11,t12,())))
 ((qQc ((((t10.getD t12.toNat qXH).2).2).1)).bind fun r1=>
 cond (!r1.1.1)
 (some (Ex.ret,(([]:List (qBs×Interp)),false,out4,t10,t11,t12,())))
 ((qUU ((((t10.getD t12.toNat qXH).2).2).2)).bind fun r2=>
 cond (!r2.1.1)
 (some (Ex.ret,(([]:List (qBs×Interp)),false,out4,t10,t11,t12,())))
 ((qBE (((t10.getD t12.toNat qXH).2).1) ()).bind fun r3=>
 cond (r3.1.1)
 (some (Ex.ret,(([]:List (qBs×Interp)),false,out4,t10,t11,t12,())))
 (cond (!((qPD ((t10.getD t12.toNat qXH).1) out4).isSome))
 (some (Ex.normal,(t2,t3,qDc ((t10.getD t12.toNat qXH).1) (t10.getD t12.toNat qXH) out4,t10,t11,qI (t12+1),())))
 (some (Ex.normal,(t2,t3,out4,t10,t11,qI (t12+1),())))))))))
 (some (Ex.exit 0,(t2,t3,out4,t10,t11,t12,())))
def qWc (fns0:List Interp):Option (((List (qBs×Interp))×Bool×Unit)×Unit):=
 (qPA qBZ (([]:List (qBs×Interp)),false,([]:List (qBs×Interp)),fns0,(fns0.length:Int),0,())).bind fun y1=>
 cond (Ex.same y1.1 (Ex.exit 0))
 (some ((y1.2.2.2.1,true,()),()))
 (cond (Ex.same y1.1 Ex.ret)
 (some ((y1.2.1,y1.2.2.1,()),()))
 (none))
def qJW (sort0:Int) (a1:qBs):Option ((Bool×Unit)×Unit):=
 cond (sort0==2)
 ((qJI a1).bind fun r1=>
 cond (r1.1.1)
 (some ((true,()),()))
 (cond (sort0==3)
 ((qNR a1).bind fun r2=>
 some ((r2.1.1,()),()))
 (some ((false,()),()))))
 (cond (sort0==3)
 ((qNR a1).bind fun r3=>
 some ((r3.1.1,()),()))
 (some ((false,()),())))
def qAZ (s0:Int):Option ((Bool×Unit)×Unit):=
 cond (decide (s0>=1))
 (some ((decide (s0<=4),()),()))
 (some ((false,()),()))
def qXZ (c0:Int):Option ((Bool×Unit)×Unit):=
 cond (decide (c0>=97))
 (cond (decide (c0<=122))
 (some ((true,()),()))
 (cond (decide (c0>=65))
 (cond (decide (c0<=90))
 (some ((true,()),()))
 (cond (c0==95)
 (some ((true,()),()))
 (cond (c0==36)
 (some ((true,()),()))
 (some ((c0==33,()),())))))
 (cond (c0==95)
 (some ((true,()),()))
 (cond (c0==36)
 (some ((true,()),()))
 (some ((c0==33,()),()))))))
 (cond (decide (c0>=65))
 (cond (decide (c0<=90))
 (some ((true,()),()))
 (cond (c0==95)
 (some ((true,()),()))
 (cond (c0==36)
 (some ((true,()),()))
 (some ((c0==33,()),())))))
 (cond (c0==95)
 (some ((true,()),()))
 (cond (c0==36)
 (some ((true,()),()))
 (some ((c0==33,()),())))))
def qCac (s0:qBs):Option ((Bool×Unit)×Unit):=
 cond (s0==([97,110,100]:qBs))
 (some ((true,()),()))
 (cond (s0==([111,114]:qBs))
 (some ((true,()),()))
 (cond (s0==([110,111,116]:qBs))
 (some ((true,()),()))
 (cond (s0==([105,116,101]:qBs))
 (some ((true,()),()))
 (cond (s0==([116,114,117,101]:qBs))
 (some ((true,()),()))
 (cond (s0==([102,97,108,115,101]:qBs))
 (some ((true,()),()))
 (cond (s0==([108,101,116]:qBs))
 (some ((true,()),()))
 (cond (s0==([102,111,114,97,108,108]:qBs))
 (some ((true,()),()))
 (cond (s0==([101,120,105,115,116,115]:qBs))
 (some ((true,()),()))
 (cond (s0==([100,105,115,116,105,110,99,116]:qBs))
 (some ((true,()),()))
 (cond (s0==([100,105,118]:qBs))
 (some ((true,()),()))
 (cond (s0==([109,111,100]:qBs))
 (some ((true,()),()))
 (cond (s0==([115,101,108,101,99,116]:qBs))
 (some ((true,()),()))
 (cond (s0==([115,116,111,114,101]:qBs))
 (some ((true,()),()))
 (cond (s0==([99,111,110,115,116]:qBs))
 (some ((true,()),()))
 (cond (s0==([66,111,111,108]:qBs))
 (some ((true,()),()))
 (cond (s0==([73,110,116]:qBs))
 (some ((true,()),()))
 (cond (s0==([82,101,97,108]:qBs))
 (some ((true,()),()))
 (cond (s0==([65,114,114,97,121]:qBs))
 (some ((true,()),()))
 (some ((false,()),()))))))))))))))))))))
def qLQ (x:qBs×Bool×Int×Int×Unit):Option (Ex×(qBs×Bool×Int×Int×Unit)):=
 let s0:=x.1
 let t2:=x.2.1
 let t23:=x.2.2.1
 let t24:=x.2.2.2.1
 cond (decide (t24 < t23))
 (grd (decide (0<=t24)&&decide (t24 < s0.length)) (
 (qXZ ((s0.getD t24.toNat 0).toNat:Int)).bind fun r1=>
 cond (!r1.1.1)
 (cond (decide (((s0.getD t24.toNat 0).toNat:Int)>=48))
 (cond (!(decide (((s0.getD t24.toNat 0).toNat:Int)<=57)))
 (cond (((s0.getD t24.toNat 0).toNat:Int) !=(46:Int))
 (cond (((s0.getD t24.toNat 0).toNat:Int) !=(64:Int))
 (some (Ex.ret,(s0,false,t23,t24,())))
 (some (Ex.normal,(s0,t2,t23,qI (t24+1),()))))
 (some (Ex.normal,(s0,t2,t23,qI (t24+1),()))))
 (some (Ex.normal,(s0,t2,t23,qI (t24+1),()))))
 (cond (((s0.getD t24.toNat 0).toNat:Int) !=(46:Int))
 (cond (((s0.getD t24.toNat 0).toNat:Int) !=(64:Int))
 (some (Ex.ret,(s0,false,t23,t24,())))
 (some (Ex.normal,(s0,t2,t23,qI (t24+1),()))))
 (some (Ex.normal,(s0,t2,t23,qI (t24+1),())))))
 (some (Ex.normal,(s0,t2,t23,qI (t24+1),())))))
 (some (Ex.exit 0,(s0,t2,t23,t24,())))
def qTY (s0:qBs):Option ((Bool×Unit)×Unit):=
 cond (s0==([]:qBs))
 (some ((false,()),()))
 (cond (decide ((s0.length:Int) > (40:Int)))
 (some ((false,()),()))
 (grd (decide (0<=(0:Int))&&decide ((0:Int) < s0.length)) (
 (qXZ ((s0.getD (0:Int).toNat 0).toNat:Int)).bind fun r1=>
 cond (!r1.1.1)
 (some ((false,()),()))
 ((qCac s0).bind fun r2=>
 cond (r2.1.1)
 (some ((false,()),()))
 ((qPA qLQ (s0,false,(s0.length:Int),0,())).bind fun y3=>
 cond (Ex.same y3.1 (Ex.exit 0))
 (some ((true,()),()))
 (cond (Ex.same y3.1 Ex.ret)
 (some ((y3.2.2.1,()),()))
 (none)))))))
def qQe (n0:Nod):Option ((Bool×Unit)×Unit):=
 cond (n0.1==3)
 (cond (n0.2.2.1==([]:qBs))
 ((qJW n0.2.1 n0.2.2.2.1).bind fun r1=>
 some ((r1.1.1,()),()))
 (some ((false,()),())))
 (cond (n0.1==4)
 ((qAZ n0.2.1).bind fun r2=>
 cond (r2.1.1)
 ((qTY n0.2.2.1).bind fun r3=>
 cond (r3.1.1)
 (some ((n0.2.2.2.1==([]:qBs),()),()))
 (some ((false,()),())))
 (some ((false,()),())))
 (cond (n0.1==5)
 ((qAZ n0.2.1).bind fun r4=>
 cond (r4.1.1)
 ((qTY n0.2.2.1).bind fun r5=>
 cond (r5.1.1)
 (some ((n0.2.2.2.1==([]:qBs),()),()))
 (some ((false,()),())))
 (some ((false,()),())))
 (cond (n0.1==16)
 (cond (n0.2.1==0)
 (cond (n0.2.2.1==([]:qBs))
 ((qJI n0.2.2.2.1).bind fun r6=>
 cond (r6.1.1)
 ((qGb n0.2.2.2.1).bind fun r7=>
 some ((decide (r7.1.1 > (0:Int)),()),()))
 (some ((false,()),())))
 (some ((false,()),())))
 (some ((false,()),())))
 (cond (n0.1==17)
 (cond (n0.2.1==0)
 (cond (n0.2.2.1==([]:qBs))
 ((qJI n0.2.2.2.1).bind fun r8=>
 cond (r8.1.1)
 ((qGb n0.2.2.2.1).bind fun r9=>
 some ((decide (r9.1.1 > (0:Int)),()),()))
 (some ((false,()),())))
 (some ((false,()),())))
 (some ((false,()),())))
 (cond (decide (n0.1>=1))
 (cond (decide (n0.1<=20))
 (cond (n0.2.1==0)
 (cond (n0.2.2.1==([]:qBs))
 (some ((n0.2.2.2.1==([]:qBs),()),()))
 (some ((false,()),())))
 (some ((false,()),())))
 (some ((false,()),())))
 (some ((false,()),())))))))
def qVg (op0:Int) (n1:Int):Option ((Bool×Unit)×Unit):=
 cond (op0==1)
 (some ((n1==0,()),()))
 (cond (op0==2)
 (some ((n1==0,()),()))
 (cond (op0==3)
 (some ((n1==0,()),()))
 (cond (op0==4)
 (some ((n1==0,()),()))
 (cond (op0==5)
 (cond (decide (n1>=1))
 (some ((decide (n1<=40),()),()))
 (some ((false,()),())))
 (cond (op0==6)
 (some ((n1==1,()),()))
 (cond (op0==16)
 (some ((n1==1,()),()))
 (cond (op0==17)
 (some ((n1==1,()),()))
 (cond (op0==20)
 (some ((n1==1,()),()))
 (cond (op0==7)
 (some ((true,()),()))
 (cond (op0==8)
 (some ((true,()),()))
 (cond (op0==14)
 (some ((decide (n1>=1),()),()))
 (cond (op0==10)
 (some ((n1==3,()),()))
 (cond (op0==19)
 (some ((n1==3,()),()))
 (some ((n1==2,()),())))))))))))))))
def qUt (x0:Int) (a1:Option Int):Option ((Bool×Unit)×Unit):=
 grd (a1.isSome) (some ((x0 !=(a1.getD (0:Int)),()),()))
def qOB (x:(List Int)×(Option Int)×Int×Int×Int×Unit):Option (Ex×((List Int)×(Option Int)×Int×Int×Int×Unit)):=
 let s0:=x.1
 let f1:=x.2.1
 let t4:=x.2.2.1
 let t7:=x.2.2.2.1
 let t8:=x.2.2.2.2.1
 cond (decide (t8 < t7))
 (grd (decide (0<=t8)&&decide (t8 < s0.length)) (
 (qUt (s0.getD t8.toNat (0:Int)) f1).bind fun r1=>
 cond (r1.1.1)
 (some (Ex.ret,(s0,f1,t8,t7,t8,())))
 (some (Ex.normal,(s0,f1,t4,t7,qI (t8+1),())))))
 (some (Ex.exit 0,(s0,f1,t4,t7,t8,())))
def qQE (s0:List Int) (f1:Option Int):Option ((Int×Unit)×Unit):=
 (qPA qOB (s0,f1,0,(s0.length:Int),0,())).bind fun y1=>
 cond (Ex.same y1.1 (Ex.exit 0))
 (some ((-1,()),()))
 (cond (Ex.same y1.1 Ex.ret)
 (some ((y1.2.2.2.1,()),()))
 (none))
def qJD (s0:List Int) (f1:Option Int):Option ((Bool×Unit)×Unit):=
 (qQE s0 f1).bind fun r1=>
 some ((decide (r1.1.1>=0),()),())
def qWZ (sorts0:List Int) (s1:Int):Option ((Bool×Unit)×Unit):=
 (qJD sorts0 (some s1)).bind fun r1=>
 some ((!r1.1.1,()),())
def qMH (is0:Bool) (sort1:Int):Option ((Int×Unit)×Unit):=
 cond (is0)
 (some ((sort1,()),()))
 (some ((0,()),()))
def qWP (s0:Int):Option ((Bool×Unit)×Unit):=
 cond (s0==2)
 (some ((true,()),()))
 (some ((s0==3,()),()))
def qCf (n0:Nod) (sorts1:List Int):Option ((Int×Unit)×Unit):=
 cond (n0.1==3)
 (some ((n0.2.1,()),()))
 (cond (n0.1==4)
 (some ((n0.2.1,()),()))
 (cond (n0.1==5)
 (some ((n0.2.1,()),()))
 (cond (n0.1==1)
 ((qWZ sorts1 1).bind fun r1=>
 (qMH r1.1.1 1).bind fun r2=>
 some ((r2.1.1,()),()))
 (cond (n0.1==2)
 ((qWZ sorts1 1).bind fun r3=>
 (qMH r3.1.1 1).bind fun r4=>
 some ((r4.1.1,()),()))
 (cond (n0.1==6)
 ((qWZ sorts1 1).bind fun r5=>
 (qMH r5.1.1 1).bind fun r6=>
 some ((r6.1.1,()),()))
 (cond (n0.1==7)
 ((qWZ sorts1 1).bind fun r7=>
 (qMH r7.1.1 1).bind fun r8=>
 some ((r8.1.1,()),()))
 (cond (n0.1==8)
 ((qWZ sorts1 1).bind fun r9=>
 (qMH r9.1.1 1).bind fun r10=>
 some ((r10.1.1,()),()))
 (cond (n0.1==9)
 ((qWZ sorts1 1).bind fun r11=>
 (qMH r11.1.1 1).bind fun r12=>
 some ((r12.1.1,()),()))
 (cond (n0.1==10)
 (grd (decide (0<=(0:Int))&&decide ((0:Int) < sorts1.length)) (
 cond ((sorts1.getD (0:Int).toNat (0:Int))==1)
 (grd (decide (0<=(1:Int))&&decide ((1:Int) < sorts1.length)) (
 grd (decide (0<=(2:Int))&&decide ((2:Int) < sorts1.length)) (
 grd (decide (0<=(1:Int))&&decide ((1:Int) < sorts1.length)) (
 (qMH ((sorts1.getD (1:Int).toNat (0:Int))==(sorts1.getD (2:Int).toNat (0:Int))) (sorts1.getD (1:Int).toNat (0:Int))).bind fun r13=>
 some ((r13.1.1,()),())))))
 (grd (decide (0<=(1:Int))&&decide ((1:Int) < sorts1.length)) (
 (qMH false (sorts1.getD (1:Int).toNat (0:Int))).bind fun r14=>
 some ((r14.1.1,()),())))))
 (cond (n0.1==11)
 (grd (decide (0<=(0:Int))&&decide ((0:Int) < sorts1.length)) (
 grd (decide (0<=(1:Int))&&decide ((1:Int) < sorts1.length)) (
 (qMH ((sorts1.getD (0:Int).toNat (0:Int))==(sorts1.getD (1:Int).toNat (0:Int))) 1).bind fun r15=>
 some ((r15.1.1,()),()))))
 (cond (n0.1==12)
 (grd (decide (0<=(0:Int))&&decide ((0:Int) < sorts1.length)) (
 (qWP (sorts1.getD (0:Int).toNat (0:Int))).bind fun r16=>
 cond (r16.1.1)
 (grd (decide (0<=(0:Int))&&decide ((0:Int) < sorts1.length)) (
 (qWZ sorts1 (sorts1.getD (0:Int).toNat (0:Int))).bind fun r17=>
 (qMH r17.1.1 1).bind fun r18=>
 some ((r18.1.1,()),())))
 ((qMH false 1).bind fun r19=>
 some ((r19.1.1,()),()))))
 (cond (n0.1==13)
 (grd (decide (0<=(0:Int))&&decide ((0:Int) < sorts1.length)) (
 (qWP (sorts1.getD (0:Int).toNat (0:Int))).bind fun r20=>
 cond (r20.1.1)
 (grd (decide (0<=(0:Int))&&decide ((0:Int) < sorts1.length)) (
 (qWZ sorts1 (sorts1.getD (0:Int).toNat (0:Int))).bind fun r21=>
 (qMH r21.1.1 1).bind fun r22=>
 some ((r22.1.1,()),())))
 ((qMH false 1).bind fun r23=>
 some ((r23.1.1,()),()))))
 (cond (n0.1==14)
 (grd (decide (0<=(0:Int))&&decide ((0:Int) < sorts1.length)) (
 (qWP (sorts1.getD (0:Int).toNat (0:Int))).bind fun r24=>
 cond (r24.1.1)
 (grd (decide (0<=(0:Int))&&decide ((0:Int) < sorts1.length)) (
 (qWZ sorts1 (sorts1.getD (0:Int).toNat (0:Int))).bind fun r25=>
 grd (decide (0<=(0:Int))&&decide ((0:Int) < sorts1.length)) (
 (qMH r25.1.1 (sorts1.getD (0:Int).toNat (0:Int))).bind fun r26=>
 some ((r26.1.1,()),()))))
 (grd (decide (0<=(0:Int))&&decide ((0:Int) < sorts1.length)) (
 (qMH false (sorts1.getD (0:Int).toNat (0:Int))).bind fun r27=>
 some ((r27.1.1,()),())))))
 (cond (n0.1==15)
 (grd (decide (0<=(0:Int))&&decide ((0:Int) < sorts1.length)) (
 (qWP (sorts1.getD (0:Int).toNat (0:Int))).bind fun r28=>
 cond (r28.1.1)
 (grd (decide (0<=(0:Int))&&decide ((0:Int) < sorts1.length)) (
 (qWZ sorts1 (sorts1.getD (0:Int).toNat (0:Int))).bind fun r29=>
 grd (decide (0<=(0:Int))&&decide ((0:Int) < sorts1.length)) (
 (qMH r29.1.1 (sorts1.getD (0:Int).toNat (0:Int))).bind fun r30=>
 some ((r30.1.1,()),()))))
 (grd (decide (0<=(0:Int))&&decide ((0:Int) < sorts1.length)) (
 (qMH false (sorts1.getD (0:Int).toNat (0:Int))).bind fun r31=>
 some ((r31.1.1,()),())))))
 (cond (n0.1==16)
 (grd (decide (0<=(0:Int))&&decide ((0:Int) < sorts1.length)) (
 (qMH ((sorts1.getD (0:Int).toNat (0:Int))==2) 2).bind fun r32=>
 some ((r32.1.1,()),())))
 (cond (n0.1==17)
 (grd (decide (0<=(0:Int))&&decide ((0:Int) < sorts1.length)) (
 (qMH ((sorts1.getD (0:Int).toNat (0:Int))==2) 2).bind fun r33=>
 some ((r33.1.1,()),())))
 (cond (n0.1==18)
 (grd (decide (0<=(0:Int))&&decide ((0:Int) < sorts1.length)) (
 cond ((sorts1.getD (0:Int).toNat (0:Int))==4)
 (grd (decide (0<=(1:Int))&&decide ((1:Int) < sorts1.length)) (
 (qMH ((sorts1.getD (1:Int).toNat (0:Int))==2) 2).bind fun r34=>
 some ((r34.1.1,()),())))
 ((qMH false 2).bind fun r35=>
 some ((r35.1.1,()),()))))
 (cond (n0.1==19)
 (grd (decide (0<=(0:Int))&&decide ((0:Int) < sorts1.length)) (
 cond ((sorts1.getD (0:Int).toNat (0:Int))==4)
 (grd (decide (0<=(1:Int))&&decide ((1:Int)<=sorts1.length)) (
 (qWZ (sorts1.drop (1:Int).toNat) 2).bind fun r36=>
 (qMH r36.1.1 4).bind fun r37=>
 some ((r37.1.1,()),())))
 ((qMH false 4).bind fun r38=>
 some ((r38.1.1,()),()))))
 (grd (decide (0<=(0:Int))&&decide ((0:Int) < sorts1.length)) (
 (qMH ((sorts1.getD (0:Int).toNat (0:Int))==2) 4).bind fun r39=>
 some ((r39.1.1,()),())))))))))))))))))))))
def qQP (v:Int) (i:Nat) (x:((List Nod)×List (Int×Sml))×(Int×Sml)×(List Int)×Unit):Option (((List Nod)×List (Int×Sml))×(Int×Sml)×(List Int)×Unit):=
 let v4:=x.1
 let p9:=x.2.1
 let sorts10:=x.2.2.1
 grd (decide (0<=v)&&decide (v < v4.2.length)) (grd (decide (v.toNat < v4.2.length)) (grd (decide (sorts10.length+([(v4.2.getD v.toNat ((0:Int),(0:Int),(0:Int))).1]:List Int).length<=qCF)) (grd (decide (0<=v)&&decide (v < v4.2.length)) (grd (decide (v.toNat < v4.2.length)) (grd (decide (0<=v)&&decide (v < v4.2.length)) (grd (decide (v.toNat < v4.2.length)) (some (v4,(p9.1,qJc p9.2.1 (qI ((((v4.2.getD v.toNat ((0:Int),(0:Int),(0:Int))).2).1)+1)),((v4.2.getD v.toNat ((0:Int),(0:Int),(0:Int))).2).2),sorts10++([(v4.2.getD v.toNat ((0:Int),(0:Int),(0:Int))).1]:List Int),()))))))))
def qOL (y:((List Nod)×List (Int×Sml))×(Int×Sml)×(List Int)×Unit) (o:((List Nod)×List (Int×Sml))×(Int×Sml)×(List Int)×Unit):((List Nod)×List (Int×Sml))×(Int×Sml)×(List Int)×Unit:=(o.1,o.2.1,o.2.2.1,())
def qMR (y:((List Nod)×List (Int×Sml))×(Int×Sml)×(List Int)×Unit):((List Nod)×List (Int×Sml))×(Int×Sml)×(List Int)×Unit:=(y.1,y.2.1,y.2.2.1,())
def qON (x:(List Nod)×(Option qRR)×Bool×((List Nod)×List (Int×Sml))×(List Int)×Int×Unit):Option (Ex×((List Nod)×(Option qRR)×Bool×((List Nod)×List (Int×Sml))×(List Int)×Int×Unit)):=
 let t0:=x.1
 let t2:=x.2.1
 let t3:=x.2.2.1
 let v4:=x.2.2.2.1
 let roots5:=x.2.2.2.2.1
 let i6:=x.2.2.2.2.2.1
 cond (decide (i6>=0))
 (grd (decide (0<=i6)&&decide (i6 < t0.length)) (
 cond (decide ((((((t0.getD i6.toNat qHF).2).2).2).2) < (0:Int)))
 (some (Ex.ret,(t0,(none:Option qRR),false,v4,roots5,i6,())))
 (cond (decide ((((((t0.getD i6.toNat qHF).2).2).2).2) > (roots5.length:Int)))
 (some (Ex.ret,(t0,(none:Option qRR),false,v4,roots5,i6,())))
 ((qQe (t0.getD i6.toNat qHF)).bind fun r1=>
 cond (!r1.1.1)
 (some (Ex.ret,(t0,(none:Option qRR),false,v4,roots5,i6,())))
 ((qVg ((t0.getD i6.toNat qHF).1) (((((t0.getD i6.toNat qHF).2).2).2).2)).bind fun r2=>
 cond (!r2.1.1)
 (some (Ex.ret,(t0,(none:Option qRR),false,v4,roots5,i6,())))
 (grd (decide (0<=qI ((roots5.length:Int) - (((((t0.getD i6.toNat qHF).2).2).2).2)))&&decide (qI ((roots5.length:Int) - (((((t0.getD i6.toNat qHF).2).2).2).2))<=roots5.length)) (
 grd (decide (((roots5.drop ((qI ((roots5.length:Int) - (((((t0.getD i6.toNat qHF).2).2).2).2))).toNat)).take (roots5.length - (qI ((roots5.length:Int) - (((((t0.getD i6.toNat qHF).2).2).2).2))).toNat)).length<=qCF)) (((foldO (fun p y=>(qQP p.1 p.2 y).bind fun o=>some (qOL y o)) ((roots5.drop ((qI ((roots5.length:Int) - (((((t0.getD i6.toNat qHF).2).2).2).2))).toNat)).take (roots5.length - (qI ((roots5.length:Int) - (((((t0.getD i6.toNat qHF).2).2).2).2))).toNat)).zipIdx.reverse (v4,((0:Int),1,qI (i6+1)),([]:List Int),())).bind fun y=>some ((),qMR y)).bind fun y3=>
 (qCf (t0.getD i6.toNat qHF) y3.2.2.2.1).bind fun r4=>
 cond (r4.1.1==0)
 (some (Ex.ret,(t0,(none:Option qRR),false,y3.2.1,roots5,i6,())))
 (cond (((t0.getD i6.toNat qHF).1)==15)
 (grd (decide (0<=qI (i6+1))&&decide (qI (i6+1) < t0.length)) (
 cond (((t0.getD (qI (i6+1)).toNat qHF).1) !=(3:Int))
 (some (Ex.ret,(t0,(none:Option qRR),false,y3.2.1,roots5,i6,())))
 (grd (decide (0<=i6)&&decide (i6 < y3.2.1.2.length)) (grd (decide (i6.toNat < y3.2.1.2.length)) (grd (decide (0<=qI ((roots5.length:Int) - (((((t0.getD i6.toNat qHF).2).2).2).2)))&&decide (qI ((roots5.length:Int) - (((((t0.getD i6.toNat qHF).2).2).2).2))<=roots5.length)) (grd (decide (((qI ((roots5.length:Int) - (((((t0.getD i6.toNat qHF).2).2).2).2))).toNat)+([i6]:List Int).length<=qCF)) (some (Ex.normal,(t0,t2,t3,(y3.2.1.1,y3.2.1.2.set i6.toNat (r4.1.1,y3.2.2.1.2)),roots5.take ((qI ((roots5.length:Int) - (((((t0.getD i6.toNat qHF).2).2).2).2))).toNat)++([i6]:List Int),qI (i6 - (1:Int)),())))))))))
 (grd (decide (0<=i6)&&decide (i6 < y3.2.1.2.length)) (grd (decide (i6.toNat < y3.2.1.2.length)) (grd (decide (0<=qI ((roots5.length:Int) - (((((t0.getD i6.toNat qHF).2).2).2).2)))&&decide (qI ((roots5.length:Int) - (((((t0.getD i6.toNat qHF).2).2).2).2))<=roots5.length)) (grd (decide (((qI ((roots5.length:Int) - (((((t0.getD i6.toNat qHF).2).2).2).2))).toNat)+([i6]:List Int).length<=qCF)) (some (Ex.normal,(t0,t2,t3,(y3.2.1.1,y3.2.1.2.set i6.toNat (r4.1.1,y3.2.2.1.2)),roots5.take ((qI ((roots5.length:Int) - (((((t0.getD i6.toNat qHF).2).2).2).2))).toNat)++([i6]:List Int),qI (i6 - (1:Int)),()))))))))))))))))
 (some (Ex.exit 0,(t0,t2,t3,v4,roots5,i6,())))
def qWx (t0:List Nod):Option (((Option qRR)×Bool×Unit)×Unit):=
 grd (decide (0<=(t0.length:Int))&&decide ((t0.length:Int)<=(t0.length:Int))&&decide ((t0.length:Int)<=qCF)) (
 (qPA qON (t0,(none:Option qRR),false,(t0,List.replicate (t0.length:Int).toNat ((0:Int),(0:Int),(0:Int))),([]:List Int),qI ((t0.length:Int) - (1:Int)),())).bind fun y1=>
 cond (Ex.same y1.1 (Ex.exit 0))
 (some ((some y1.2.2.2.2.1,(y1.2.2.2.2.2.1.length:Int)==1,()),()))
 (cond (Ex.same y1.1 Ex.ret)
 (some ((y1.2.2.1,y1.2.2.2.1,()),()))
 (none)))
def qER (v0:Option qRR):Option ((Bool×Unit)×Unit):=
 grd (v0.isSome) (
 cond (decide ((((v0.getD qCO).1).length:Int) > (20000:Int)))
 (some ((true,()),()))
 (grd (v0.isSome) (grd (decide (0<=(0:Int))&&decide ((0:Int) < ((v0.getD qCO).2).length)) (some ((decide ((((((v0.getD qCO).2).getD (0:Int).toNat ((0:Int),(0:Int),(0:Int))).2).1) > (257:Int)),()),())))))
def qQK (x:(Option qRR)×(List Int)×Int×Int×Int×Unit):Option (Ex×((Option qRR)×(List Int)×Int×Int×Int×Unit)):=
 let v0:=x.1
 let out5:=x.2.1
 let at6:=x.2.2.1
 let t16:=x.2.2.2.1
 let t17:=x.2.2.2.2.1
 cond (decide (t17 < t16))
 (grd (decide (out5.length+([at6]:List Int).length<=qCF)) (grd (v0.isSome) (grd (decide (0<=at6)&&decide (at6 < ((v0.getD qCO).2).length)) (some (Ex.normal,(v0,out5++([at6]:List Int),((((v0.getD qCO).2).getD at6.toNat ((0:Int),(0:Int),(0:Int))).2).2,t16,qI (t17+1),()))))))
 (some (Ex.exit 0,(v0,out5,at6,t16,t17,())))
def qTQ (v0:Option qRR) (i1:Int):Option (((List Int)×Unit)×Unit):=
 grd (v0.isSome) (
 grd (decide (0<=i1)&&decide (i1 < ((v0.getD qCO).1).length)) (
 (qPA qQK (v0,([]:List Int),qI (i1+1),((((((v0.getD qCO).1).getD i1.toNat qHF).2).2).2).2,0,())).bind fun y1=>
 cond (Ex.same y1.1 (Ex.exit 0))
 (some ((y1.2.2.1,()),()))
 (none)))
def t_view_signature_s3 (x:(Option qRR)×(qBs×qCA)×(qBs×(List Int)×Int)×(List Int)×Int×Int×Unit):Option (Ex×((Option qRR)×(qBs×qCA)×(qBs×(List Int)×Int)×(List Int)×Int×Int×Unit)):=
 let v0:=x.1
 let t4:=x.2.1
 let f5:=x.2.2.1
 let t27:=x.2.2.2.1
 let t28:=x.2.2.2.2.1
 let t29:=x.2.2.2.2.2.1
 cond (decide (t29 < t28))
 (grd (decide (0<=t29)&&decide (t29 < t27.length)) (grd (v0.isSome) (grd (decide (0<=t27.getD t29.toNat (0:Int))&&decide (t27.getD t29.toNat (0:Int) < ((v0.getD qCO).2).length)) (grd (decide (f5.2.1.length+([(((v0.getD qCO).2).getD (t27.getD t29.toNat (0:Int)).toNat ((0:Int),(0:Int),(0:Int))).1]:List Int).length<=qCF)) (some (Ex.normal,(v0,t4,(f5.1,f5.2.1++([(((v0.getD qCO).2).getD (t27.getD t29.toNat (0:Int)).toNat ((0:Int),(0:Int),(0:Int))).1]:List Int),f5.2.2),t27,t28,qI (t29+1),())))))))
 (some (Ex.exit 0,(v0,t4,f5,t27,t28,t29,())))
def qVK (v0:Option qRR) (i1:Int):Option (((qBs×qCA)×Unit)×Unit):=
 grd (v0.isSome) (
 grd (decide (0<=i1)&&decide (i1 < ((v0.getD qCO).1).length)) (
 grd (v0.isSome) (
 grd (decide (0<=i1)&&decide (i1 < ((v0.getD qCO).1).length)) (
 (qTQ v0 i1).bind fun r1=>
 (qPA t_view_signature_s3 (v0,(([]:qBs),([]:List Int),(0:Int)),((((((v0.getD qCO).1).getD i1.toNat qHF).2).2).1,([]:List Int),((((v0.getD qCO).1).getD i1.toNat qHF).2).1),r1.1.1,(r1.1.1.length:Int),0,())).bind fun y2=>
 cond (Ex.same y2.1 (Ex.exit 0))
 (some ((y2.2.2.2.1,()),()))
 (none)))))
def qGE (x:(List Int)×(List Int)×Bool×Int×Int×Unit):Option (Ex×((List Int)×(List Int)×Bool×Int×Int×Unit)):=
 let s10:=x.1
 let s21:=x.2.1
 let t4:=x.2.2.1
 let t12:=x.2.2.2.1
 let t13:=x.2.2.2.2.1
 cond (decide (t13 < t12))
 (grd (decide (0<=t13)&&decide (t13 < s10.length)) (
 grd (decide (0<=t13)&&decide (t13 < s21.length)) (
 cond ((s10.getD t13.toNat (0:Int)) !=(s21.getD t13.toNat (0:Int)))
 (some (Ex.ret,(s10,s21,false,t12,t13,())))
 (some (Ex.normal,(s10,s21,t4,t12,qI (t13+1),()))))))
 (some (Ex.exit 0,(s10,s21,t4,t12,t13,())))
def qAH (s10:List Int) (s21:List Int):Option ((Bool×Unit)×Unit):=
 cond ((s10.length:Int) !=(s21.length:Int))
 (some ((false,()),()))
 ((qPA qGE (s10,s21,false,(s10.length:Int),0,())).bind fun y1=>
 cond (Ex.same y1.1 (Ex.exit 0))
 (some ((true,()),()))
 (cond (Ex.same y1.1 Ex.ret)
 (some ((y1.2.2.2.1,()),()))
 (none)))
def qLp (f0:qBs×qCA) (g1:qBs×qCA):Option ((Bool×Unit)×Unit):=
 cond (f0.1==g1.1)
 (cond (f0.2.2==g1.2.2)
 ((qAH f0.2.1 g1.2.1).bind fun r1=>
 some ((r1.1.1,()),()))
 (some ((false,()),())))
 (some ((false,()),()))
def qIF (x:(Option qRR)×(List Vr)×(List (qBs×qCA))×Bool×(List (qBs×Vr))×(List (qBs×qBs×qCA))×(List Vr)×(List (qBs×qCA))×(List Nod)×Int×Int×Unit):Option (Ex×((Option qRR)×(List Vr)×(List (qBs×qCA))×Bool×(List (qBs×Vr))×(List (qBs×qBs×qCA))×(List Vr)×(List (qBs×qCA))×(List Nod)×Int×Int×Unit)):=
 let v0:=x.1
 let t2:=x.2.1
 let t3:=x.2.2.1
 let t4:=x.2.2.2.1
 let vars5:=x.2.2.2.2.1
 let funcs6:=x.2.2.2.2.2.1
 let l7:=x.2.2.2.2.2.2.1
 let m8:=x.2.2.2.2.2.2.2.1
 let t25:=x.2.2.2.2.2.2.2.2.1
 let t26:=x.2.2.2.2.2.2.2.2.2.1
 let t27:=x.2.2.2.2.2.2.2.2.2.2.1
 cond (decide (t27 < t26))
 (grd (decide (0<=t27)&&decide (t27 < t25.length)) (
 cond (((t25.getD t27.toNat qHF).1)==4)
 (cond (!((qPD ((((t25.getD t27.toNat qHF).2).2).1) vars5).isSome))
 (grd (decide (l7.length+([((((t25.getD t27.toNat qHF).2).2).1,((t25.getD t27.toNat qHF).2).1)]:List Vr).length<=qCF)) (
 cond ((qPD ((((t25.getD t27.toNat qHF).2).2).1) funcs6).isSome)
 (some (Ex.ret,(v0,([]:List Vr),([]:List (qBs×qCA)),false,qDc ((((t25.getD t27.toNat qHF).2).2).1) ((((t25.getD t27.toNat qHF).2).2).1,((t25.getD t27.toNat qHF).2).1) vars5,funcs6,l7++([((((t25.getD t27.toNat qHF).2).2).1,((t25.getD t27.toNat qHF).2).1)]:List Vr),m8,t25,t26,t27,())))
 (cond ((((t25.getD t27.toNat qHF).2).1) !=(((t25.getD t27.toNat qHF).2).1))
 (some (Ex.ret,(v0,([]:List Vr),([]:List (qBs×qCA)),false,qDc ((((t25.getD t27.toNat qHF).2).2).1) ((((t25.getD t27.toNat qHF).2).2).1,((t25.getD t27.toNat qHF).2).1) vars5,funcs6,l7++([((((t25.getD t27.toNat qHF).2).2).1,((t25.getD t27.toNat qHF).2).1)]:List Vr),m8,t25,t26,t27,())))
 (some (Ex.normal,(v0,t2,t3,t4,qDc ((((t25.getD t27.toNat qHF).2).2).1) ((((t25.getD t27.toNat qHF).2).2).1,((t25.getD t27.toNat qHF).2).1) vars5,funcs6,l7++([((((t25.getD t27.toNat qHF).2).2).1,((t25.getD t27.toNat qHF).2).1)]:List Vr),m8,t25,t26,qI (t27+1),()))))))
 (cond ((qPD ((((t25.getD t27.toNat qHF).2).2).1) funcs6).isSome)
 (some (Ex.ret,(v0,([]:List Vr),([]:List (qBs×qCA)),false,vars5,funcs6,l7,m8,t25,t26,t27,())))
 (cond ((((qPD ((((t25.getD t27.toNat qHF).2).2).1) vars5).getD zVr).2) !=(((t25.getD t27.toNat qHF).2).1))
 (some (Ex.ret,(v0,([]:List Vr),([]:List (qBs×qCA)),false,vars5,funcs6,l7,m8,t25,t26,t27,())))
 (some (Ex.normal,(v0,t2,t3,t4,vars5,funcs6,l7,m8,t25,t26,qI (t27+1),()))))))
 (cond (((t25.getD t27.toNat qHF).1)==5)
 ((qVK v0 t27).bind fun r1=>
 cond (!((qPD ((((t25.getD t27.toNat qHF).2).2).1) funcs6).isSome))
 (grd (decide (m8.length+([r1.1.1]:List (qBs×qCA)).length<=qCF)) (
 cond ((qPD ((((t25.getD t27.toNat qHF).2).2).1) vars5).isSome)
 (some (Ex.ret,(v0,([]:List Vr),([]:List (qBs×qCA)),false,vars5,qDc ((((t25.getD t27.toNat qHF).2).2).1) r1.1.1 funcs6,l7,m8++([r1.1.1]:List (qBs×qCA)),t25,t26,t27,())))
 ((qLp r1.1.1 r1.1.1).bind fun r2=>
 cond (!r2.1.1)
 (some (Ex.ret,(v0,([]:List Vr),([]:List (qBs×qCA)),false,vars5,qDc ((((t25.getD t27.toNat qHF).2).2).1) r1.1.1 funcs6,l7,m8++([r1.1.1]:List (qBs×qCA)),t25,t26,t27,())))
 (some (Ex.normal,(v0,t2,t3,t4,vars5,qDc ((((t25.getD t27.toNat qHF).2).2).1) r1.1.1 funcs6,l7,m8++([r1.1.1]:List (qBs×qCA)),t25,t26,qI (t27+1),()))))))
 (cond ((qPD ((((t25.getD t27.toNat qHF).2).2).1) vars5).isSome)
 (some (Ex.ret,(v0,([]:List Vr),([]:List (qBs×qCA)),false,vars5,funcs6,l7,m8,t25,t26,t27,())))
 ((qLp ((qPD ((((t25.getD t27.toNat qHF).2).2).1) funcs6).getD (([]:qBs),([]:List Int),(0:Int))) r1.1.1).bind fun r3=>
 cond (!r3.1.1)
 (some (Ex.ret,(v0,([]:List Vr),([]:List (qBs×qCA)),false,vars5,funcs6,l7,m8,t25,t26,t27,())))
 (some (Ex.normal,(v0,t2,t3,t4,vars5,funcs6,l7,m8,t25,t26,qI (t27+1),()))))))
 (some (Ex.normal,(v0,t2,t3,t4,vars5,funcs6,l7,m8,t25,t26,qI (t27+1),()))))))
 (some (Ex.exit 0,(v0,t2,t3,t4,vars5,funcs6,l7,m8,t25,t26,t27,())))
def qSN (v0:Option qRR):Option (((List Vr)×(List (qBs×qCA))×Bool×Unit)×Unit):=
 grd (v0.isSome) (
 (qPA qIF (v0,([]:List Vr),([]:List (qBs×qCA)),false,([]:List (qBs×Vr)),([]:List (qBs×qBs×qCA)),([]:List Vr),([]:List (qBs×qCA)),(v0.getD qCO).1,(((v0.getD qCO).1).length:Int),0,())).bind fun y1=>
 cond (Ex.same y1.1 (Ex.exit 0))
 (some ((y1.2.2.2.2.2.2.2.1,y1.2.2.2.2.2.2.2.2.1,true,()),()))
 (cond (Ex.same y1.1 Ex.ret)
 (some ((y1.2.2.1,y1.2.2.2.1,y1.2.2.2.2.1,()),()))
 (none)))
def qUc (t0:List Nod):Option (((Option qRR)×Bool×Unit)×Unit):=
 cond ((t0.length:Int)==0)
 (some (((none:Option qRR),false,()),()))
 (cond (decide ((t0.length:Int) > (20000:Int)))
 (some (((none:Option qRR),false,()),()))
 ((qWx t0).bind fun r1=>
 cond (!r1.1.2.1)
 (some (((none:Option qRR),false,()),()))
 ((qER r1.1.1).bind fun r2=>
 cond (r2.1.1)
 (some (((none:Option qRR),false,()),()))
 ((qSN r1.1.1).bind fun r3=>
 cond (!r3.1.2.2.1)
 (some (((none:Option qRR),false,()),()))
 (some ((r1.1.1,true,()),()))))))
def qRf (t0:List Nod):Option ((Bool×Unit)×Unit):=
 (qUc t0).bind fun r1=>
 some ((r1.1.2.1,()),())
def qEK (e0:Evl) (n1:Nod):Option ((Val×Int×Unit)×(Evl×Unit)):=
 cond (!((qPD n1.2.2.1 e0.2.2.1).isSome))
 (some ((((0:Int),false,([]:qBs),([]:List qBs),([]:List qBs)),7,()),e0,()))
 (cond ((((qPD n1.2.2.1 e0.2.2.1).getD qHD).1) !=n1.2.1)
 (some ((((0:Int),false,([]:qBs),([]:List qBs),([]:List qBs)),3,()),e0,()))
 (some (((qPD n1.2.2.1 e0.2.2.1).getD qHD,0,()),e0,())))
def qHC (x:(List qBs)×(List qBs)×Bool×Int×Int×Unit):Option (Ex×((List qBs)×(List qBs)×Bool×Int×Int×Unit)):=
 let s10:=x.1
 let s21:=x.2.1
 let t4:=x.2.2.1
 let t12:=x.2.2.2.1
 let t13:=x.2.2.2.2.1
 cond (decide (t13 < t12))
 (grd (decide (0<=t13)&&decide (t13 < s10.length)) (
 grd (decide (0<=t13)&&decide (t13 < s21.length)) (
 cond (!((s10.getD t13.toNat ([]:qBs))==(s21.getD t13.toNat ([]:qBs))))
 (some (Ex.ret,(s10,s21,false,t12,t13,())))
 (some (Ex.normal,(s10,s21,t4,t12,qI (t13+1),()))))))
 (some (Ex.exit 0,(s10,s21,t4,t12,t13,())))
def qXC (s10:List qBs) (s21:List qBs):Option ((Bool×Unit)×Unit):=
 cond ((s10.length:Int) !=(s21.length:Int))
 (some ((false,()),()))
 ((qPA qHC (s10,s21,false,(s10.length:Int),0,())).bind fun y1=>
 cond (Ex.same y1.1 (Ex.exit 0))
 (some ((true,()),()))
 (cond (Ex.same y1.1 Ex.ret)
 (some ((y1.2.2.2.1,()),()))
 (none)))
def qXX (a0:Val) (b1:Val):Option ((Bool×Unit)×Unit):=
 cond (a0.1==b1.1)
 (cond (a0.2.1==b1.2.1)
 (cond (a0.2.2.1==b1.2.2.1)
 ((qXC a0.2.2.2.1 b1.2.2.2.1).bind fun r1=>
 cond (r1.1.1)
 ((qXC a0.2.2.2.2 b1.2.2.2.2).bind fun r2=>
 some ((r2.1.1,()),()))
 (some ((false,()),())))
 (some ((false,()),())))
 (some ((false,()),())))
 (some ((false,()),()))
def qPC (x:(List Val)×Unit×Bool×(List Val)×Int×Int×Unit):Option (Ex×((List Val)×Unit×Bool×(List Val)×Int×Int×Unit)):=
 let s21:=x.1
 let eq2:=x.2.1
 let t6:=x.2.2.1
 let t15:=x.2.2.2.1
 let t16:=x.2.2.2.2.1
 let t17:=x.2.2.2.2.2.1
 cond (decide (t17 < t16))
 (grd (decide (0<=t17)&&decide (t17 < t15.length)) (
 grd (decide (0<=t17)&&decide (t17 < s21.length)) (
 (qXX (t15.getD t17.toNat qHD) (s21.getD t17.toNat qHD)).bind fun r1=>
 cond (!r1.1.1)
 (some (Ex.ret,(s21,(),false,t15,t16,t17,())))
 (some (Ex.normal,(s21,(),t6,t15,t16,qI (t17+1),()))))))
 (some (Ex.exit 0,(s21,(),t6,t15,t16,t17,())))
def qAD (s10:List Val) (s21:List Val) (eq2:Unit):Option ((Bool×Unit)×Unit):=
 cond ((s10.length:Int) !=(s21.length:Int))
 (some ((false,()),()))
 ((qPA qPC (s21,(),false,s10,(s10.length:Int),0,())).bind fun y1=>
 cond (Ex.same y1.1 (Ex.exit 0))
 (some ((true,()),()))
 (cond (Ex.same y1.1 Ex.ret)
 (some ((y1.2.2.2.1,()),()))
 (none)))
def qHR (l0:List Val) (a1:Option (List Val)):Option ((Bool×Unit)×Unit):=
 grd (a1.isSome) (
 (qAD l0 (a1.getD ([]:List Val)) ()).bind fun r1=>
 some ((r1.1.1,()),()))
def qUC (x:(List (List Val))×(Option (List Val))×Int×Int×Int×Unit):Option (Ex×((List (List Val))×(Option (List Val))×Int×Int×Int×Unit)):=
 let s0:=x.1
 let f1:=x.2.1
 let t4:=x.2.2.1
 let t7:=x.2.2.2.1
 let t8:=x.2.2.2.2.1
 cond (decide (t8 < t7))
 (grd (decide (0<=t8)&&decide (t8 < s0.length)) (
 (qHR (s0.getD t8.toNat ([]:List Val)) f1).bind fun r1=>
 cond (r1.1.1)
 (some (Ex.ret,(s0,f1,t8,t7,t8,())))
 (some (Ex.normal,(s0,f1,t4,t7,qI (t8+1),())))))
 (some (Ex.exit 0,(s0,f1,t4,t7,t8,())))
def qBD (s0:List (List Val)) (f1:Option (List Val)):Option ((Int×Unit)×Unit):=
 (qPA qUC (s0,f1,0,(s0.length:Int),0,())).bind fun y1=>
 cond (Ex.same y1.1 (Ex.exit 0))
 (some ((-1,()),()))
 (cond (Ex.same y1.1 Ex.ret)
 (some ((y1.2.2.2.1,()),()))
 (none))
def qQO (e0:Evl) (n1:Nod) (kids2:List Val):Option ((Val×Int×Unit)×(Evl×Unit)):=
 cond (!((qPD n1.2.2.1 e0.2.2.2).isSome))
 (some ((((0:Int),false,([]:qBs),([]:List qBs),([]:List qBs)),4,()),e0,()))
 ((qBD ((((qPD n1.2.2.1 e0.2.2.2).getD qXH).2).1) (some kids2)).bind fun r1=>
 cond (decide (r1.1.1>=0))
 (grd (decide (0<=r1.1.1)&&decide (r1.1.1 < (((((qPD n1.2.2.1 e0.2.2.2).getD qXH).2).2).1).length)) (
 cond ((((((((qPD n1.2.2.1 e0.2.2.2).getD qXH).2).2).1).getD r1.1.1.toNat qHD).1) !=n1.2.1)
 (some ((((0:Int),false,([]:qBs),([]:List qBs),([]:List qBs)),3,()),e0,()))
 (some (((((((qPD n1.2.2.1 e0.2.2.2).getD qXH).2).2).1).getD r1.1.1.toNat qHD,0,()),e0,()))))
 (cond (((((((qPD n1.2.2.1 e0.2.2.2).getD qXH).2).2).2).1) !=n1.2.1)
 (some ((((0:Int),false,([]:qBs),([]:List qBs),([]:List qBs)),3,()),e0,()))
 (some ((((((qPD n1.2.2.1 e0.2.2.2).getD qXH).2).2).2,0,()),e0,()))))
def qCv (v0:Val):Option ((Bool×Unit)×Unit):=
 some ((!v0.2.1,()),())
def qHB (x:(List Val)×Unit×Int×Int×Int×Unit):Option (Ex×((List Val)×Unit×Int×Int×Int×Unit)):=
 let s0:=x.1
 let f1:=x.2.1
 let t4:=x.2.2.1
 let t7:=x.2.2.2.1
 let t8:=x.2.2.2.2.1
 cond (decide (t8 < t7))
 (grd (decide (0<=t8)&&decide (t8 < s0.length)) (
 (qCv (s0.getD t8.toNat qHD)).bind fun r1=>
 cond (r1.1.1)
 (some (Ex.ret,(s0,(),t8,t7,t8,())))
 (some (Ex.normal,(s0,(),t4,t7,qI (t8+1),())))))
 (some (Ex.exit 0,(s0,(),t4,t7,t8,())))
def qWD (s0:List Val) (f1:Unit):Option ((Int×Unit)×Unit):=
 (qPA qHB (s0,(),0,(s0.length:Int),0,())).bind fun y1=>
 cond (Ex.same y1.1 (Ex.exit 0))
 (some ((-1,()),()))
 (cond (Ex.same y1.1 Ex.ret)
 (some ((y1.2.2.2.1,()),()))
 (none))
def qIB (s0:List Val) (f1:Unit):Option ((Bool×Unit)×Unit):=
 (qWD s0 ()).bind fun r1=>
 some ((decide (r1.1.1>=0),()),())
def qUO (is0:Bool):Option ((Val×Unit)×Unit):=
 some (((1,is0,([]:qBs),([]:List qBs),([]:List qBs)),()),())
def v_is (v0:Val):Option ((Bool×Unit)×Unit):=
 some ((v0.2.1,()),())
def qKB (x:(List Val)×Unit×Int×Int×Int×Unit):Option (Ex×((List Val)×Unit×Int×Int×Int×Unit)):=
 let s0:=x.1
 let f1:=x.2.1
 let t4:=x.2.2.1
 let t7:=x.2.2.2.1
 let t8:=x.2.2.2.2.1
 cond (decide (t8 < t7))
 (grd (decide (0<=t8)&&decide (t8 < s0.length)) (
 (v_is (s0.getD t8.toNat qHD)).bind fun r1=>
 cond (r1.1.1)
 (some (Ex.ret,(s0,(),t8,t7,t8,())))
 (some (Ex.normal,(s0,(),t4,t7,qI (t8+1),())))))
 (some (Ex.exit 0,(s0,(),t4,t7,t8,())))
def qHE (s0:List Val) (f1:Unit):Option ((Int×Unit)×Unit):=
 (qPA qKB (s0,(),0,(s0.length:Int),0,())).bind fun y1=>
 cond (Ex.same y1.1 (Ex.exit 0))
 (some ((-1,()),()))
 (cond (Ex.same y1.1 Ex.ret)
 (some ((y1.2.2.2.1,()),()))
 (none))
def qLB (s0:List Val) (f1:Unit):Option ((Bool×Unit)×Unit):=
 (qHE s0 ()).bind fun r1=>
 some ((decide (r1.1.1>=0),()),())
def qKL (sort0:Int) (a1:qBs):Option ((Val×Unit)×Unit):=
 some (((sort0,false,a1,([]:List qBs),([]:List qBs)),()),())
def qDh (x0:Sml) (y1:Sml):Option ((qBs×Unit)×Unit):=
 (qWM (qI (x0.1 * y1.1)) (qI (x0.2 * y1.2))).bind fun r1=>
 some ((r1.1.1,()),())
def qRV (x0:Rt) (y1:Rt):Option ((Rt×Unit)×Unit):=
 (qFM x0.2.1 y1.2.1).bind fun r1=>
 (qFM x0.2.2 y1.2.2).bind fun r2=>
 (qKR (!(x0.1==y1.1)) r1.1.1 r2.1.1).bind fun r3=>
 some (((r3.1.1.1,r3.1.1.2.1,r3.1.1.2.2),()),())
def qMf (x0:Rt) (y1:Rt):Option ((qBs×Unit)×Unit):=
 (qRV (x0.1,x0.2.1,x0.2.2) (y1.1,y1.2.1,y1.2.2)).bind fun r1=>
 (qPL (r1.1.1.1,r1.1.1.2.1,r1.1.1.2.2)).bind fun r2=>
 some ((r2.1.1,()),())
def qQD (a0:qBs) (b1:qBs) (small2:Unit) (all3:Unit):Option ((qBs×Unit)×Unit):=
 (qEC a0).bind fun r1=>
 (qEC b1).bind fun r2=>
 cond (r1.1.2.1)
 (cond (r2.1.2.1)
 ((qDh (r1.1.1.1,r1.1.1.2) (r2.1.1.1,r2.1.1.2)).bind fun r3=>
 some ((r3.1.1,()),()))
 ((qOH a0).bind fun r4=>
 (qOH b1).bind fun r5=>
 cond (!r4.1.2.1)
 (some ((([]:qBs),()),()))
 (cond (!r5.1.2.1)
 (some ((([]:qBs),()),()))
 ((qMf (r4.1.1.1,r4.1.1.2.1,r4.1.1.2.2) (r5.1.1.1,r5.1.1.2.1,r5.1.1.2.2)).bind fun r6=>
 some ((r6.1.1,()),())))))
 ((qOH a0).bind fun r7=>
 (qOH b1).bind fun r8=>
 cond (!r7.1.2.1)
 (some ((([]:qBs),()),()))
 (cond (!r8.1.2.1)
 (some ((([]:qBs),()),()))
 ((qMf (r7.1.1.1,r7.1.1.2.1,r7.1.1.2.2) (r8.1.1.1,r8.1.1.2.1,r8.1.1.2.2)).bind fun r9=>
 some ((r9.1.1,()),()))))
def qQai (a0:qBs) (b1:qBs):Option ((qBs×Unit)×Unit):=
 (qQD a0 b1 () ()).bind fun r1=>
 some ((r1.1.1,()),())
def qBR (x0:Rt) (y1:Rt):Option ((Rt×Rt×Unit)×Unit):=
 (qGJ x0.2.1 y1.2.1).bind fun r1=>
 cond (x0.1)
 (cond (decide ((r1.1.2.1.length:Int) > (0:Int)))
 ((qES r1.1.1 ([1]:List Int)).bind fun r2=>
 (qJQ y1.2.1 r1.1.2.1).bind fun r3=>
 some (((!(x0.1==y1.1),r2.1.1,([1]:List Int)),(false,r3.1.1,([1]:List Int)),()),()))
 (some (((!(x0.1==y1.1),r1.1.1,([1]:List Int)),(false,r1.1.2.1,([1]:List Int)),()),())))
 (some (((!(x0.1==y1.1),r1.1.1,([1]:List Int)),(false,r1.1.2.1,([1]:List Int)),()),()))
def qKZ (a0:qBs) (b1:qBs):Option ((qBs×qBs×Unit)×Unit):=
 (qJI a0).bind fun r1=>
 cond (!r1.1.1)
 (some ((([]:qBs),([]:qBs),()),()))
 ((qJI b1).bind fun r2=>
 cond (!r2.1.1)
 (some ((([]:qBs),([]:qBs),()),()))
 (cond (b1==([48]:qBs))
 (some ((([]:qBs),([]:qBs),()),()))
 ((qOH a0).bind fun r3=>
 (qOH b1).bind fun r4=>
 (qBR (r3.1.1.1,r3.1.1.2.1,r3.1.1.2.2) (r4.1.1.1,r4.1.1.2.1,r4.1.1.2.2)).bind fun r5=>
 (qPL (r5.1.1.1,r5.1.1.2.1,r5.1.1.2.2)).bind fun r6=>
 (qPL (r5.1.2.1.1,r5.1.2.1.2.1,r5.1.2.1.2.2)).bind fun r7=>
 some ((r6.1.1,r7.1.1,()),()))))
def qFai (a0:qBs) (b1:qBs):Option ((qBs×Unit)×Unit):=
 (qKZ a0 b1).bind fun r1=>
 some ((r1.1.1,()),())
def qTah (a0:qBs) (b1:qBs):Option ((qBs×Unit)×Unit):=
 (qKZ a0 b1).bind fun r1=>
 some ((r1.1.2.1,()),())
def qMA (x:(List qBs)×qBs×Unit×Int×Int×Int×Unit):Option (Ex×((List qBs)×qBs×Unit×Int×Int×Int×Unit)):=
 let x0:=x.1
 let target1:=x.2.1
 let cmp2:=x.2.2.1
 let n8:=x.2.2.2.1
 let i9:=x.2.2.2.2.1
 let j10:=x.2.2.2.2.2.1
 cond (decide (i9 < j10))
 (grd (decide (0<=(1:Int))) (
 grd (decide (0<=qI ((qU (qI (i9+j10))).fdiv (2 ^ min (1:Int).toNat IntKind.u64.bits)))&&decide (qI ((qU (qI (i9+j10))).fdiv (2 ^ min (1:Int).toNat IntKind.u64.bits)) < x0.length)) (
 (qTW (x0.getD (qI ((qU (qI (i9+j10))).fdiv (2 ^ min (1:Int).toNat IntKind.u64.bits))).toNat ([]:qBs)) target1).bind fun r1=>
 cond (decide (r1.1.1 < (0:Int)))
 (some (Ex.normal,(x0,target1,(),n8,qI ((qI ((qU (qI (i9+j10))).fdiv (2 ^ min (1:Int).toNat IntKind.u64.bits)))+1),j10,())))
 (some (Ex.normal,(x0,target1,(),n8,i9,qI ((qU (qI (i9+j10))).fdiv (2 ^ min (1:Int).toNat IntKind.u64.bits)),()))))))
 (some (Ex.exit 0,(x0,target1,(),n8,i9,j10,())))
def qSA (x0:List qBs) (target1:qBs) (cmp2:Unit):Option ((Int×Bool×Unit)×Unit):=
 (qPA qMA (x0,target1,(),(x0.length:Int),0,(x0.length:Int),())).bind fun y1=>
 cond (Ex.same y1.1 (Ex.exit 0))
 (cond (decide (y1.2.2.2.2.2.1 < y1.2.2.2.2.1))
 (grd (decide (0<=y1.2.2.2.2.2.1)&&decide (y1.2.2.2.2.2.1 < y1.2.1.length)) (
 (qTW (y1.2.1.getD y1.2.2.2.2.2.1.toNat ([]:qBs)) y1.2.2.1).bind fun r2=>
 some ((y1.2.2.2.2.2.1,r2.1.1==0,()),())))
 (some ((y1.2.2.2.2.2.1,false,()),())))
 (none)
def qGc (a0:Val) (index1:qBs):Option ((Int×Bool×Unit)×Unit):=
 (qSA a0.2.2.2.1 index1 ()).bind fun r1=>
 some ((r1.1.1,r1.1.2.1,()),())
def v_at (a0:Val) (index1:qBs):Option ((qBs×Unit)×Unit):=
 (qGc a0 index1).bind fun r1=>
 cond (r1.1.2.1)
 (grd (decide (0<=r1.1.1)&&decide (r1.1.1 < a0.2.2.2.2.length)) (some ((a0.2.2.2.2.getD r1.1.1.toNat ([]:qBs),()),())))
 (some ((a0.2.2.1,()),()))
def qMc (v0:Val):Option (((Int×Bool×qBs×(List qBs)×List qBs)×Unit)×Unit):=
 (qRE v0.2.2.2.1).bind fun r1=>
 (qRE v0.2.2.2.2).bind fun r2=>
 some (((v0.1,v0.2.1,v0.2.2.1,r1.1.1,r2.1.1),()),())
def qVb (a0:Val) (index1:qBs) (num2:qBs):Option ((Val×Unit)×Unit):=
 (qMc a0).bind fun r1=>
 (qGc r1.1.1 index1).bind fun r2=>
 cond (r2.1.2.1)
 (cond (num2==r1.1.1.2.2.1)
 ((qQC r1.1.1.2.2.2.1 r2.1.1 (qI (r2.1.1+1))).bind fun r3=>
 (qQC r1.1.1.2.2.2.2 r2.1.1 (qI (r2.1.1+1))).bind fun r4=>
 some (((r1.1.1.1,r1.1.1.2.1,r1.1.1.2.2.1,r3.2.1.take r3.1.1,r4.2.1.take r4.1.1),()),()))
 (cond (r2.1.2.1)
 (grd (decide (0<=r2.1.1)&&decide (r2.1.1 < r1.1.1.2.2.2.2.length)) (grd (decide (r2.1.1.toNat < r1.1.1.2.2.2.2.length)) (some (((r1.1.1.1,r1.1.1.2.1,r1.1.1.2.2.1,r1.1.1.2.2.2.1,r1.1.1.2.2.2.2.set r2.1.1.toNat num2),()),()))))
 (cond (!(num2==r1.1.1.2.2.1))
 ((qPB r1.1.1.2.2.2.1 r2.1.1 ([index1]:List qBs)).bind fun r5=>
 (qPB r1.1.1.2.2.2.2 r2.1.1 ([num2]:List qBs)).bind fun r6=>
 some (((r1.1.1.1,r1.1.1.2.1,r1.1.1.2.2.1,r5.1.1,r6.1.1),()),()))
 (some ((r1.1.1,()),())))))
 (cond (r2.1.2.1)
 (grd (decide (0<=r2.1.1)&&decide (r2.1.1 < r1.1.1.2.2.2.2.length)) (grd (decide (r2.1.1.toNat < r1.1.1.2.2.2.2.length)) (some (((r1.1.1.1,r1.1.1.2.1,r1.1.1.2.2.1,r1.1.1.2.2.2.1,r1.1.1.2.2.2.2.set r2.1.1.toNat num2),()),()))))
 (cond (!(num2==r1.1.1.2.2.1))
 ((qPB r1.1.1.2.2.2.1 r2.1.1 ([index1]:List qBs)).bind fun r7=>
 (qPB r1.1.1.2.2.2.2 r2.1.1 ([num2]:List qBs)).bind fun r8=>
 some (((r1.1.1.1,r1.1.1.2.1,r1.1.1.2.2.1,r7.1.1,r8.1.1),()),()))
 (some ((r1.1.1,()),()))))
def qGO (x:(List Val)×Val×qBs×(List Val)×Int×Int×Unit):Option (Ex×((List Val)×Val×qBs×(List Val)×Int×Int×Unit)):=
 let l1:=x.1
 let t4:=x.2.1
 let sum5:=x.2.2.1
 let t19:=x.2.2.2.1
 let t20:=x.2.2.2.2.1
 let t21:=x.2.2.2.2.2.1
 cond (decide (t21 < t20))
 (grd (decide (0<=t21)&&decide (t21 < t19.length)) (
 (qAab sum5 ((((t19.getD t21.toNat qHD).2).2).1)).bind fun r1=>
 some (Ex.normal,(l1,t4,r1.1.1,t19,t20,qI (t21+1),()))))
 (some (Ex.exit 1,(l1,t4,sum5,t19,t20,t21,())))
def qPb (n0:Nod) (l1:List Val):Option ((Val×Unit)×Unit):=
 cond (n0.1==3)
 ((qKL n0.2.1 n0.2.2.2.1).bind fun r1=>
 some ((r1.1.1,()),()))
 (cond (n0.1==14)
 ((qPA qGO (l1,((0:Int),false,([]:qBs),([]:List qBs),([]:List qBs)),([48]:qBs),l1,(l1.length:Int),0,())).bind fun y2=>
 cond (Ex.same y2.1 (Ex.exit 1))
 (grd (decide (0<=(0:Int))&&decide ((0:Int) < y2.2.1.length)) (
 (qKL ((y2.2.1.getD (0:Int).toNat qHD).1) y2.2.2.2.1).bind fun r3=>
 some ((r3.1.1,()),())))
 (none))
 (cond (n0.1==15)
 (grd (decide (0<=(0:Int))&&decide ((0:Int) < l1.length)) (
 grd (decide (0<=(0:Int))&&decide ((0:Int) < l1.length)) (
 grd (decide (0<=(1:Int))&&decide ((1:Int) < l1.length)) (
 (qQai ((((l1.getD (0:Int).toNat qHD).2).2).1) ((((l1.getD (1:Int).toNat qHD).2).2).1)).bind fun r4=>
 (qKL ((l1.getD (0:Int).toNat qHD).1) r4.1.1).bind fun r5=>
 some ((r5.1.1,()),())))))
 (cond (n0.1==16)
 (grd (decide (0<=(0:Int))&&decide ((0:Int) < l1.length)) (
 (qFai ((((l1.getD (0:Int).toNat qHD).2).2).1) n0.2.2.2.1).bind fun r6=>
 (qKL 2 r6.1.1).bind fun r7=>
 some ((r7.1.1,()),())))
 (cond (n0.1==17)
 (grd (decide (0<=(0:Int))&&decide ((0:Int) < l1.length)) (
 (qTah ((((l1.getD (0:Int).toNat qHD).2).2).1) n0.2.2.2.1).bind fun r8=>
 (qKL 2 r8.1.1).bind fun r9=>
 some ((r9.1.1,()),())))
 (cond (n0.1==18)
 (grd (decide (0<=(0:Int))&&decide ((0:Int) < l1.length)) (
 grd (decide (0<=(1:Int))&&decide ((1:Int) < l1.length)) (
 (v_at (l1.getD (0:Int).toNat qHD) ((((l1.getD (1:Int).toNat qHD).2).2).1)).bind fun r10=>
 (qKL 2 r10.1.1).bind fun r11=>
 some ((r11.1.1,()),()))))
 (cond (n0.1==19)
 (grd (decide (0<=(0:Int))&&decide ((0:Int) < l1.length)) (
 grd (decide (0<=(1:Int))&&decide ((1:Int) < l1.length)) (
 grd (decide (0<=(2:Int))&&decide ((2:Int) < l1.length)) (
 (qVb (l1.getD (0:Int).toNat qHD) ((((l1.getD (1:Int).toNat qHD).2).2).1) ((((l1.getD (2:Int).toNat qHD).2).2).1)).bind fun r12=>
 some ((r12.1.1,()),())))))
 (grd (decide (0<=(0:Int))&&decide ((0:Int) < l1.length)) (some (((4,false,(((l1.getD (0:Int).toNat qHD).2).2).1,([]:List qBs),([]:List qBs)),()),())))))))))
def qFV (n0:Nod) (l1:List Val):Option ((Val×Unit)×Unit):=
 cond (n0.1==1)
 ((qIB l1 ()).bind fun r1=>
 (qUO !r1.1.1).bind fun r2=>
 some ((r2.1.1,()),()))
 (cond (n0.1==7)
 ((qIB l1 ()).bind fun r3=>
 (qUO !r3.1.1).bind fun r4=>
 some ((r4.1.1,()),()))
 (cond (n0.1==2)
 ((qLB l1 ()).bind fun r5=>
 (qUO r5.1.1).bind fun r6=>
 some ((r6.1.1,()),()))
 (cond (n0.1==8)
 ((qLB l1 ()).bind fun r7=>
 (qUO r7.1.1).bind fun r8=>
 some ((r8.1.1,()),()))
 (cond (n0.1==6)
 (grd (decide (0<=(0:Int))&&decide ((0:Int) < l1.length)) (
 (qCv (l1.getD (0:Int).toNat qHD)).bind fun r9=>
 (qUO r9.1.1).bind fun r10=>
 some ((r10.1.1,()),())))
 (cond (n0.1==9)
 (grd (decide (0<=(0:Int))&&decide ((0:Int) < l1.length)) (
 (qCv (l1.getD (0:Int).toNat qHD)).bind fun r11=>
 cond (r11.1.1)
 ((qUO true).bind fun r12=>
 some ((r12.1.1,()),()))
 (grd (decide (0<=(1:Int))&&decide ((1:Int) < l1.length)) (
 (v_is (l1.getD (1:Int).toNat qHD)).bind fun r13=>
 (qUO r13.1.1).bind fun r14=>
 some ((r14.1.1,()),())))))
 (cond (n0.1==10)
 (grd (decide (0<=(0:Int))&&decide ((0:Int) < l1.length)) (
 (v_is (l1.getD (0:Int).toNat qHD)).bind fun r15=>
 cond (r15.1.1)
 (grd (decide (0<=(1:Int))&&decide ((1:Int) < l1.length)) (some ((l1.getD (1:Int).toNat qHD,()),())))
 (grd (decide (0<=(2:Int))&&decide ((2:Int) < l1.length)) (some ((l1.getD (2:Int).toNat qHD,()),())))))
 (cond (n0.1==11)
 (grd (decide (0<=(0:Int))&&decide ((0:Int) < l1.length)) (
 grd (decide (0<=(1:Int))&&decide ((1:Int) < l1.length)) (
 (qXX (l1.getD (0:Int).toNat qHD) (l1.getD (1:Int).toNat qHD)).bind fun r16=>
 (qUO r16.1.1).bind fun r17=>
 some ((r17.1.1,()),()))))
 (cond (n0.1==12)
 (grd (decide (0<=(0:Int))&&decide ((0:Int) < l1.length)) (
 grd (decide (0<=(1:Int))&&decide ((1:Int) < l1.length)) (
 (qTW ((((l1.getD (0:Int).toNat qHD).2).2).1) ((((l1.getD (1:Int).toNat qHD).2).2).1)).bind fun r18=>
 (qUO (decide (r18.1.1<=0))).bind fun r19=>
 some ((r19.1.1,()),()))))
 (cond (n0.1==13)
 (grd (decide (0<=(0:Int))&&decide ((0:Int) < l1.length)) (
 grd (decide (0<=(1:Int))&&decide ((1:Int) < l1.length)) (
 (qTW ((((l1.getD (0:Int).toNat qHD).2).2).1) ((((l1.getD (1:Int).toNat qHD).2).2).1)).bind fun r20=>
 (qUO (decide (r20.1.1 < (0:Int)))).bind fun r21=>
 some ((r21.1.1,()),()))))
 ((qPb n0 l1).bind fun r22=>
 some ((r22.1.1,()),())))))))))))
def qXB (qVaE:Evl->Option ((Val×Int×Unit)×(Evl×Unit))) (x:Evl×Val×Int×Nod×(List Val)×Int×Int×Unit):Option (Ex×(Evl×Val×Int×Nod×(List Val)×Int×Int×Unit)):=
 let e0:=x.1
 let t2:=x.2.1
 let t3:=x.2.2.1
 let n4:=x.2.2.2.1
 let kids5:=x.2.2.2.2.1
 let t26:=x.2.2.2.2.2.1
 let t27:=x.2.2.2.2.2.2.1
 cond (decide (t27 < t26))
 ((qVaE e0).bind fun r1=>
 cond (r1.1.2.1 !=(0:Int))
 (some (Ex.ret,(r1.2.1,((0:Int),false,([]:qBs),([]:List qBs),([]:List qBs)),r1.1.2.1,n4,kids5,t26,t27,())))
 (grd (decide (kids5.length+([r1.1.1]:List Val).length<=qCF)) (some (Ex.normal,(r1.2.1,t2,t3,n4,kids5++([r1.1.1]:List Val),t26,qI (t27+1),())))))
 (some (Ex.exit 0,(e0,t2,t3,n4,kids5,t26,t27,())))
def qQI (qVaE:Evl->Option ((Val×Int×Unit)×(Evl×Unit))) (e0:Evl):Option ((Val×Int×Unit)×(Evl×Unit)):=
 grd (decide (0<=e0.2.1)&&decide (e0.2.1 < e0.1.length)) (
 (qPA (qXB qVaE) ((e0.1,qI (e0.2.1+1),e0.2.2),((0:Int),false,([]:qBs),([]:List qBs),([]:List qBs)),0,e0.1.getD e0.2.1.toNat qHF,([]:List Val),((((e0.1.getD e0.2.1.toNat qHF).2).2).2).2,0,())).bind fun y1=>
 cond (Ex.same y1.1 (Ex.exit 0))
 (cond (y1.2.2.2.2.1.1==4)
 ((qEK y1.2.1 y1.2.2.2.2.1).bind fun r2=>
 some ((r2.1.1,r2.1.2.1,()),r2.2.1,()))
 (cond (y1.2.2.2.2.1.1==5)
 ((qQO y1.2.1 y1.2.2.2.2.1 y1.2.2.2.2.2.1).bind fun r3=>
 some ((r3.1.1,r3.1.2.1,()),r3.2.1,()))
 ((qFV y1.2.2.2.2.1 y1.2.2.2.2.2.1).bind fun r4=>
 some ((r4.1.1,0,()),y1.2.1,()))))
 (cond (Ex.same y1.1 Ex.ret)
 (some ((y1.2.2.1,y1.2.2.2.1,()),y1.2.1,()))
 (none)))
def qSC:Nat->Evl->Option ((Val×Int×Unit)×(Evl×Unit))
 |0=>fun _=>none
 |n+1=>qQI (qSC n)
def qFk (t0:List Nod) (env1:List qSJ) (fns2:List Interp):Option ((Val×Int×Unit)×Unit):=
 (qFS env1).bind fun r1=>
 (qWc fns2).bind fun r2=>
 cond (!r1.1.2.1)
 (some ((((0:Int),false,([]:qBs),([]:List qBs),([]:List qBs)),1,()),()))
 (cond (!r2.1.2.1)
 (some ((((0:Int),false,([]:qBs),([]:List qBs),([]:List qBs)),1,()),()))
 ((qRf t0).bind fun r3=>
 cond (!r3.1.1)
 (some ((((0:Int),false,([]:qBs),([]:List qBs),([]:List qBs)),1,()),()))
 ((qSC big (t0,0,r1.1.1,r2.1.1)).bind fun r4=>
 cond (r4.1.2.1 !=(0:Int))
 (some ((((0:Int),false,([]:qBs),([]:List qBs),([]:List qBs)),r4.1.2.1,()),()))
 ((qMc r4.1.1).bind fun r5=>
 some ((r5.1.1,0,()),())))))
def qRT (x:Interp×Bool×Int×Int×Unit):Option (Ex×(Interp×Bool×Int×Int×Unit)):=
 let f1:=x.1
 let t2:=x.2.1
 let i3:=x.2.2.1
 let k4:=x.2.2.2.1
 grd (decide (0<=i3)&&decide (i3 < f1.2.1.length)) (
 cond (decide (k4 < ((f1.2.1.getD i3.toNat ([]:List Val)).length:Int)))
 (grd (decide (0<=i3)&&decide (i3 < f1.2.1.length)) (
 grd (decide (0<=k4)&&decide (k4 < (f1.2.1.getD i3.toNat ([]:List Val)).length)) (
 (qTF ((f1.2.1.getD i3.toNat ([]:List Val)).getD k4.toNat qHD)).bind fun r1=>
 cond (!r1.1.1)
 (some (Ex.ret,(f1,false,i3,k4,())))
 (some (Ex.normal,(f1,t2,i3,qI (k4+1),()))))))
 (some (Ex.exit 2,(f1,t2,i3,k4,()))))
def qWT (x:Interp×Bool×Int×Unit):Option (Ex×(Interp×Bool×Int×Unit)):=
 let f1:=x.1
 let t2:=x.2.1
 let i3:=x.2.2.1
 cond (decide (i3 < (f1.2.1.length:Int)))
 (grd (decide (0<=i3)&&decide (i3 < f1.2.2.1.length)) (
 (qTF (f1.2.2.1.getD i3.toNat qHD)).bind fun r1=>
 cond (!r1.1.1)
 (some (Ex.ret,(f1,false,i3,())))
 ((qPA qRT (f1,t2,i3,0,())).bind fun y2=>
 cond (Ex.same y2.1 (Ex.exit 2))
 (some (Ex.normal,(y2.2.1,y2.2.2.1,qI (y2.2.2.2.1+1),())))
 (cond (Ex.same y2.1 Ex.ret)
 (some (Ex.ret,(y2.2.1,y2.2.2.1,y2.2.2.2.1,())))
 (none)))))
 (some (Ex.exit 0,(f1,t2,i3,())))
def qUY (f0:Interp):Option ((Bool×Unit)×Unit):=
 cond ((f0.2.1.length:Int) !=(f0.2.2.1.length:Int))
 (some ((false,()),()))
 ((qTF f0.2.2.2).bind fun r1=>
 cond (!r1.1.1)
 (some ((false,()),()))
 ((qPA qWT (f0,false,0,())).bind fun y2=>
 cond (Ex.same y2.1 (Ex.exit 0))
 (some ((true,()),()))
 (cond (Ex.same y2.1 Ex.ret)
 (some ((y2.2.2.1,()),()))
 (none))))
def qNO (b0:Bool):Option ((Val×Unit)×Unit):=
 some (((1,b0,([]:qBs),([]:List qBs),([]:List qBs)),()),())
def qJJ (x:(List qBs)×(List qBs)×Bool×Int×Unit):Option (Ex×((List qBs)×(List qBs)×Bool×Int×Unit)):=
 let a0:=x.1
 let b1:=x.2.1
 let t4:=x.2.2.1
 let i5:=x.2.2.2.1
 cond (decide (i5 < (a0.length:Int)))
 (grd (decide (0<=i5)&&decide (i5 < a0.length)) (
 grd (decide (0<=i5)&&decide (i5 < b1.length)) (
 cond (!((a0.getD i5.toNat ([]:qBs))==(b1.getD i5.toNat ([]:qBs))))
 (some (Ex.ret,(a0,b1,false,i5,())))
 (some (Ex.normal,(a0,b1,t4,qI (i5+1),()))))))
 (some (Ex.exit 0,(a0,b1,t4,i5,())))
def qTN (a0:List qBs) (b1:List qBs):Option ((Bool×Unit)×Unit):=
 cond ((a0.length:Int) !=(b1.length:Int))
 (some ((false,()),()))
 ((qPA qJJ (a0,b1,false,0,())).bind fun y1=>
 cond (Ex.same y1.1 (Ex.exit 0))
 (some ((true,()),()))
 (cond (Ex.same y1.1 Ex.ret)
 (some ((y1.2.2.2.1,()),()))
 (none)))
def qIJ (a0:Val) (b1:Val):Option ((Bool×Unit)×Unit):=
 cond (a0.1==b1.1)
 (cond (a0.2.1==b1.2.1)
 (cond (a0.2.2.1==b1.2.2.1)
 ((qTN a0.2.2.2.1 b1.2.2.2.1).bind fun r1=>
 cond (r1.1.1)
 ((qTN a0.2.2.2.2 b1.2.2.2.2).bind fun r2=>
 some ((r2.1.1,()),()))
 (some ((false,()),())))
 (some ((false,()),())))
 (some ((false,()),())))
 (some ((false,()),()))
def qUT (x:(List Val)×(List Val)×Bool×Int×Unit):Option (Ex×((List Val)×(List Val)×Bool×Int×Unit)):=
 let a0:=x.1
 let b1:=x.2.1
 let t4:=x.2.2.1
 let i5:=x.2.2.2.1
 cond (decide (i5 < (a0.length:Int)))
 (grd (decide (0<=i5)&&decide (i5 < a0.length)) (
 grd (decide (0<=i5)&&decide (i5 < b1.length)) (
 (qIJ (a0.getD i5.toNat qHD) (b1.getD i5.toNat qHD)).bind fun r1=>
 cond (!r1.1.1)
 (some (Ex.ret,(a0,b1,false,i5,())))
 (some (Ex.normal,(a0,b1,t4,qI (i5+1),()))))))
 (some (Ex.exit 0,(a0,b1,t4,i5,())))
def qNZ (a0:List Val) (b1:List Val):Option ((Bool×Unit)×Unit):=
 cond ((a0.length:Int) !=(b1.length:Int))
 (some ((false,()),()))
 ((qPA qUT (a0,b1,false,0,())).bind fun y1=>
 cond (Ex.same y1.1 (Ex.exit 0))
 (some ((true,()),()))
 (cond (Ex.same y1.1 Ex.ret)
 (some ((y1.2.2.2.1,()),()))
 (none)))
def qAP (x:((List Nod)×(List qSJ)×List Interp)×(List Val)×Nod×Val×Int×Interp×Val×Int×Unit):Option (Ex×(((List Nod)×(List qSJ)×List Interp)×(List Val)×Nod×Val×Int×Interp×Val×Int×Unit)):=
 let x0:=x.1
 let args2:=x.2.1
 let n4:=x.2.2.1
 let t6:=x.2.2.2.1
 let i8:=x.2.2.2.2.1
 let f9:=x.2.2.2.2.2.1
 let v10:=x.2.2.2.2.2.2.1
 let k11:=x.2.2.2.2.2.2.2.1
 cond (decide (k11>=0))
 (grd (decide (0<=k11)&&decide (k11 < f9.2.1.length)) (
 (qNZ (f9.2.1.getD k11.toNat ([]:List Val)) args2).bind fun r1=>
 cond (r1.1.1)
 (grd (decide (0<=k11)&&decide (k11 < f9.2.2.1.length)) (some (Ex.normal,(x0,args2,n4,t6,i8,f9,f9.2.2.1.getD k11.toNat qHD,qI (k11 - (1:Int)),()))))
 (some (Ex.normal,(x0,args2,n4,t6,i8,f9,v10,qI (k11 - (1:Int)),())))))
 (some (Ex.exit 2,(x0,args2,n4,t6,i8,f9,v10,k11,())))
def qAK (x:((List Nod)×(List qSJ)×List Interp)×(List Val)×Nod×Val×Int×Int×Unit):Option (Ex×(((List Nod)×(List qSJ)×List Interp)×(List Val)×Nod×Val×Int×Int×Unit)):=
 let x0:=x.1
 let args2:=x.2.1
 let n4:=x.2.2.1
 let t6:=x.2.2.2.1
 let t7:=x.2.2.2.2.1
 let i8:=x.2.2.2.2.2.1
 cond (decide (i8 < (x0.2.2.length:Int)))
 (grd (decide (0<=i8)&&decide (i8 < x0.2.2.length)) (
 cond (!(((x0.2.2.getD i8.toNat qXH).1)==n4.2.2.1))
 (some (Ex.normal,(x0,args2,n4,t6,t7,qI (i8+1),())))
 ((qPA qAP (x0,args2,n4,t6,i8,x0.2.2.getD i8.toNat qXH,(((x0.2.2.getD i8.toNat qXH).2).2).2,qI (((((x0.2.2.getD i8.toNat qXH).2).1).length:Int) - (1:Int)),())).bind fun y1=>
 cond (Ex.same y1.1 (Ex.exit 2))
 (cond (y1.2.2.2.2.2.2.2.1.1 !=y1.2.2.2.1.2.1)
 (some (Ex.ret,(y1.2.1,y1.2.2.1,y1.2.2.2.1,((0:Int),false,([]:qBs),([]:List qBs),([]:List qBs)),3,y1.2.2.2.2.2.1,())))
 (some (Ex.ret,(y1.2.1,y1.2.2.1,y1.2.2.2.1,y1.2.2.2.2.2.2.2.1,0,y1.2.2.2.2.2.1,()))))
 (none))))
 (some (Ex.exit 0,(x0,args2,n4,t6,t7,i8,())))
def qMJ (x0:(List Nod)×(List qSJ)×List Interp) (n1:Nod) (args2:List Val):Option ((Val×Int×Unit)×(((List Nod)×(List qSJ)×List Interp)×Unit)):=
 (qPA qAK (x0,args2,n1,((0:Int),false,([]:qBs),([]:List qBs),([]:List qBs)),0,0,())).bind fun y1=>
 cond (Ex.same y1.1 (Ex.exit 0))
 (some ((((0:Int),false,([]:qBs),([]:List qBs),([]:List qBs)),4,()),y1.2.1,()))
 (cond (Ex.same y1.1 Ex.ret)
 (some ((y1.2.2.2.2.1,y1.2.2.2.2.2.1,()),y1.2.1,()))
 (none))
def qMaf (a0:qBs):Option ((qBs×Unit)×Unit):=
 (qAN a0).bind fun r1=>
 cond (!r1.1.1)
 (some ((([]:qBs),()),()))
 (some ((a0,()),()))
def qOam (a0:qBs):Option ((qBs×Unit)×Unit):=
 (qSd a0).bind fun r1=>
 cond (decide (r1.1.1 < (0:Int)))
 ((qLab a0).bind fun r2=>
 some ((r2.1.1,()),()))
 ((qMaf a0).bind fun r3=>
 some ((r3.1.1,()),()))
def qVl (a0:qBs):Option ((qBs×Unit)×Unit):=
 (qFH a0).bind fun r1=>
 cond (!r1.1.2.1)
 (some ((([]:qBs),()),()))
 ((qHT r1.1.1.2.1 r1.1.1.2.2).bind fun r2=>
 cond (r1.1.1.1)
 (cond (!(r2.1.2.1==([48]:qBs)))
 ((qPY r2.1.1 ([49]:qBs)).bind fun r3=>
 cond (r1.1.1.1)
 ((qCB (!(r3.1.1==([48]:qBs)),r3.1.1,([49]:qBs))).bind fun r4=>
 some ((r4.1.1,()),()))
 ((qCB (false,r3.1.1,([49]:qBs))).bind fun r5=>
 some ((r5.1.1,()),())))
 (cond (r1.1.1.1)
 ((qCB (!(r2.1.1==([48]:qBs)),r2.1.1,([49]:qBs))).bind fun r6=>
 some ((r6.1.1,()),()))
 ((qCB (false,r2.1.1,([49]:qBs))).bind fun r7=>
 some ((r7.1.1,()),()))))
 (cond (r1.1.1.1)
 ((qCB (!(r2.1.1==([48]:qBs)),r2.1.1,([49]:qBs))).bind fun r8=>
 some ((r8.1.1,()),()))
 ((qCB (false,r2.1.1,([49]:qBs))).bind fun r9=>
 some ((r9.1.1,()),()))))
def qKu (a0:qBs) (b1:qBs):Option ((qBs×Unit)×Unit):=
 (qPF a0).bind fun r1=>
 cond (!r1.1.1)
 (some ((([]:qBs),()),()))
 ((qPF b1).bind fun r2=>
 cond (!r2.1.1)
 (some ((([]:qBs),()),()))
 (cond (b1==([48]:qBs))
 (some ((([]:qBs),()),()))
 ((qOam b1).bind fun r3=>
 (qFaf a0 r3.1.1).bind fun r4=>
 (qVl r4.1.1).bind fun r5=>
 (qSd b1).bind fun r6=>
 cond (decide (r6.1.1 < (0:Int)))
 ((qLab r5.1.1).bind fun r7=>
 some ((r7.1.1,()),()))
 (some ((r5.1.1,()),())))))
def qZad (a0:qBs) (b1:qBs):Option ((qBs×Unit)×Unit):=
 (qKu a0 b1).bind fun r1=>
 cond (r1.1.1==([]:qBs))
 (some ((([]:qBs),()),()))
 ((qKu a0 b1).bind fun r2=>
 (qKt b1 r2.1.1).bind fun r3=>
 (qJaf a0 r3.1.1).bind fun r4=>
 some ((r4.1.1,()),()))
def qDY (x:qBs×Val×qBs×Int×Unit):Option (Ex×(qBs×Val×qBs×Int×Unit)):=
 let index1:=x.1
 let a2:=x.2.1
 let t4:=x.2.2.1
 let i5:=x.2.2.2.1
 cond (decide (i5 < (a2.2.2.2.1.length:Int)))
 (grd (decide (0<=i5)&&decide (i5 < a2.2.2.2.1.length)) (
 cond ((a2.2.2.2.1.getD i5.toNat ([]:qBs))==index1)
 (grd (decide (0<=i5)&&decide (i5 < a2.2.2.2.2.length)) (some (Ex.ret,(index1,a2,a2.2.2.2.2.getD i5.toNat ([]:qBs),i5,()))))
 (some (Ex.normal,(index1,a2,t4,qI (i5+1),())))))
 (some (Ex.exit 0,(index1,a2,t4,i5,())))
def r_At (a0:Val) (index1:qBs):Option ((qBs×Unit)×Unit):=
 cond (a0.1 !=(4:Int))
 (some ((([]:qBs),()),()))
 ((qTF a0).bind fun r1=>
 cond (!r1.1.1)
 (some ((([]:qBs),()),()))
 ((qPF index1).bind fun r2=>
 cond (!r2.1.1)
 (some ((([]:qBs),()),()))
 ((qPA qDY (index1,a0,([]:qBs),0,())).bind fun y3=>
 cond (Ex.same y3.1 (Ex.exit 0))
 (some ((y3.2.2.1.2.2.1,()),()))
 (cond (Ex.same y3.1 Ex.ret)
 (some ((y3.2.2.2.1,()),()))
 (none)))))
def qBN (x:Int×(List Val)×Val×Int×Unit):Option (Ex×(Int×(List Val)×Val×Int×Unit)):=
 let op0:=x.1
 let a1:=x.2.1
 let t4:=x.2.2.1
 let i5:=x.2.2.2.1
 cond (decide (i5 < (a1.length:Int)))
 (grd (decide (0<=i5)&&decide (i5 < a1.length)) (
 cond ((((a1.getD i5.toNat qHD).2).1)==(op0==8))
 ((qNO (op0==8)).bind fun r1=>
 some (Ex.ret,(op0,a1,r1.1.1,i5,())))
 (some (Ex.normal,(op0,a1,t4,qI (i5+1),())))))
 (some (Ex.exit 1,(op0,a1,t4,i5,())))
def qOh (op0:Int) (a1:List Val):Option ((Val×Unit)×Unit):=
 cond (op0==6)
 (grd (decide (0<=(0:Int))&&decide ((0:Int) < a1.length)) (
 (qNO (!(((a1.getD (0:Int).toNat qHD).2).1))).bind fun r1=>
 some ((r1.1.1,()),())))
 (cond (op0==9)
 (grd (decide (0<=(0:Int))&&decide ((0:Int) < a1.length)) (
 cond (!(((a1.getD (0:Int).toNat qHD).2).1))
 ((qNO true).bind fun r2=>
 some ((r2.1.1,()),()))
 (grd (decide (0<=(1:Int))&&decide ((1:Int) < a1.length)) (
 (qNO (((a1.getD (1:Int).toNat qHD).2).1)).bind fun r3=>
 some ((r3.1.1,()),())))))
 ((qPA qBN (op0,a1,((0:Int),false,([]:qBs),([]:List qBs),([]:List qBs)),0,())).bind fun y4=>
 cond (Ex.same y4.1 (Ex.exit 1))
 ((qNO (y4.2.1==7)).bind fun r5=>
 some ((r5.1.1,()),()))
 (cond (Ex.same y4.1 Ex.ret)
 (some ((y4.2.2.2.1,()),()))
 (none))))
def qKD (x:((List Nod)×(List qSJ)×List Interp)×Nod×Val×Int×Int×Unit):Option (Ex×(((List Nod)×(List qSJ)×List Interp)×Nod×Val×Int×Int×Unit)):=
 let x0:=x.1
 let n4:=x.2.1
 let t6:=x.2.2.1
 let t7:=x.2.2.2.1
 let i8:=x.2.2.2.2.1
 cond (decide (i8 < (x0.2.1.length:Int)))
 (grd (decide (0<=i8)&&decide (i8 < x0.2.1.length)) (
 cond (((x0.2.1.getD i8.toNat qXR).1)==n4.2.2.1)
 (grd (decide (0<=i8)&&decide (i8 < x0.2.1.length)) (
 cond ((((x0.2.1.getD i8.toNat qXR).2).1) !=n4.2.1)
 (some (Ex.ret,(x0,n4,((0:Int),false,([]:qBs),([]:List qBs),([]:List qBs)),3,i8,())))
 (grd (decide (0<=i8)&&decide (i8 < x0.2.1.length)) (some (Ex.ret,(x0,n4,(x0.2.1.getD i8.toNat qXR).2,0,i8,()))))))
 (some (Ex.normal,(x0,n4,t6,t7,qI (i8+1),())))))
 (some (Ex.exit 1,(x0,n4,t6,t7,i8,())))
def qLF (x:((List Nod)×(List qSJ)×List Interp)×(List Val)×Val×qBs×Int×Unit):Option (Ex×(((List Nod)×(List qSJ)×List Interp)×(List Val)×Val×qBs×Int×Unit)):=
 let x0:=x.1
 let a2:=x.2.1
 let t6:=x.2.2.1
 let s9:=x.2.2.2.1
 let i10:=x.2.2.2.2.1
 cond (decide (i10 < (a2.length:Int)))
 (grd (decide (0<=i10)&&decide (i10 < a2.length)) (
 (qTz s9 ((((a2.getD i10.toNat qHD).2).2).1)).bind fun r1=>
 some (Ex.normal,(x0,a2,t6,r1.1.1,qI (i10+1),()))))
 (some (Ex.exit 3,(x0,a2,t6,s9,i10,())))
def qME (x0:(List Nod)×(List qSJ)×List Interp) (n1:Nod) (a2:List Val):Option ((Val×Int×Unit)×(((List Nod)×(List qSJ)×List Interp)×Unit)):=
 cond (n1.1==1)
 ((qNO (n1.1==1)).bind fun r1=>
 some ((r1.1.1,0,()),x0,()))
 (cond (n1.1==2)
 ((qNO (n1.1==1)).bind fun r2=>
 some ((r2.1.1,0,()),x0,()))
 (cond (n1.1==3)
 (some (((n1.2.1,false,n1.2.2.2.1,([]:List qBs),([]:List qBs)),0,()),x0,()))
 (cond (n1.1==4)
 ((qPA qKD (x0,n1,((0:Int),false,([]:qBs),([]:List qBs),([]:List qBs)),0,0,())).bind fun y3=>
 cond (Ex.same y3.1 (Ex.exit 1))
 (some ((((0:Int),false,([]:qBs),([]:List qBs),([]:List qBs)),7,()),y3.2.1,()))
 (cond (Ex.same y3.1 Ex.ret)
 (some ((y3.2.2.2.1,y3.2.2.2.2.1,()),y3.2.1,()))
 (none)))
 (cond (n1.1==5)
 ((qMJ x0 n1 a2).bind fun r4=>
 some ((r4.1.1,r4.1.2.1,()),r4.2.1,()))
 (cond (n1.1==10)
 (grd (decide (0<=(0:Int))&&decide ((0:Int) < a2.length)) (
 cond (((a2.getD (0:Int).toNat qHD).2).1)
 (grd (decide (0<=(1:Int))&&decide ((1:Int) < a2.length)) (some ((a2.getD (1:Int).toNat qHD,0,()),x0,())))
 (grd (decide (0<=(2:Int))&&decide ((2:Int) < a2.length)) (some ((a2.getD (2:Int).toNat qHD,0,()),x0,())))))
 (cond (n1.1==11)
 (grd (decide (0<=(0:Int))&&decide ((0:Int) < a2.length)) (
 grd (decide (0<=(1:Int))&&decide ((1:Int) < a2.length)) (
 (qIJ (a2.getD (0:Int).toNat qHD) (a2.getD (1:Int).toNat qHD)).bind fun r5=>
 (qNO r5.1.1).bind fun r6=>
 some ((r6.1.1,0,()),x0,()))))
 (cond (n1.1==12)
 (grd (decide (0<=(0:Int))&&decide ((0:Int) < a2.length)) (
 grd (decide (0<=(1:Int))&&decide ((1:Int) < a2.length)) (
 (qVc ((((a2.getD (0:Int).toNat qHD).2).2).1) ((((a2.getD (1:Int).toNat qHD).2).2).1)).bind fun r7=>
 (qNO (decide (r7.1.1<=0))).bind fun r8=>
 some ((r8.1.1,0,()),x0,()))))
 (cond (n1.1==13)
 (grd (decide (0<=(0:Int))&&decide ((0:Int) < a2.length)) (
 grd (decide (0<=(1:Int))&&decide ((1:Int) < a2.length)) (
 (qVc ((((a2.getD (0:Int).toNat qHD).2).2).1) ((((a2.getD (1:Int).toNat qHD).2).2).1)).bind fun r9=>
 (qNO (decide (r9.1.1 < (0:Int)))).bind fun r10=>
 some ((r10.1.1,0,()),x0,()))))
 (cond (n1.1==14)
 ((qPA qLF (x0,a2,((0:Int),false,([]:qBs),([]:List qBs),([]:List qBs)),([48]:qBs),0,())).bind fun y11=>
 cond (Ex.same y11.1 (Ex.exit 3))
 (grd (decide (0<=(0:Int))&&decide ((0:Int) < y11.2.2.1.length)) (some ((((y11.2.2.1.getD (0:Int).toNat qHD).1,false,y11.2.2.2.2.1,([]:List qBs),([]:List qBs)),0,()),y11.2.1,())))
 (none))
 (cond (n1.1==15)
 (grd (decide (0<=(0:Int))&&decide ((0:Int) < a2.length)) (
 grd (decide (0<=(0:Int))&&decide ((0:Int) < a2.length)) (
 grd (decide (0<=(1:Int))&&decide ((1:Int) < a2.length)) (
 (qKt ((((a2.getD (0:Int).toNat qHD).2).2).1) ((((a2.getD (1:Int).toNat qHD).2).2).1)).bind fun r12=>
 some ((((a2.getD (0:Int).toNat qHD).1,false,r12.1.1,([]:List qBs),([]:List qBs)),0,()),x0,())))))
 (cond (n1.1==16)
 (grd (decide (0<=(0:Int))&&decide ((0:Int) < a2.length)) (
 (qKu ((((a2.getD (0:Int).toNat qHD).2).2).1) n1.2.2.2.1).bind fun r13=>
 some (((2,false,r13.1.1,([]:List qBs),([]:List qBs)),0,()),x0,())))
 (cond (n1.1==17)
 (grd (decide (0<=(0:Int))&&decide ((0:Int) < a2.length)) (
 (qZad ((((a2.getD (0:Int).toNat qHD).2).2).1) n1.2.2.2.1).bind fun r14=>
 some (((2,false,r14.1.1,([]:List qBs),([]:List qBs)),0,()),x0,())))
 (cond (n1.1==18)
 (grd (decide (0<=(0:Int))&&decide ((0:Int) < a2.length)) (
 grd (decide (0<=(1:Int))&&decide ((1:Int) < a2.length)) (
 (r_At (a2.getD (0:Int).toNat qHD) ((((a2.getD (1:Int).toNat qHD).2).2).1)).bind fun r15=>
 some (((2,false,r15.1.1,([]:List qBs),([]:List qBs)),0,()),x0,()))))
 (cond (n1.1==19)
 (grd (decide (0<=(0:Int))&&decide ((0:Int) < a2.length)) (
 grd (decide (0<=(1:Int))&&decide ((1:Int) < a2.length)) (
 grd (decide (0<=(2:Int))&&decide ((2:Int) < a2.length)) (
 (qXb (a2.getD (0:Int).toNat qHD) ((((a2.getD (1:Int).toNat qHD).2).2).1) ((((a2.getD (2:Int).toNat qHD).2).2).1)).bind fun r16=>
 some ((r16.1.1,r16.1.2.1,()),x0,())))))
 (cond (n1.1==20)
 (grd (decide (0<=(0:Int))&&decide ((0:Int) < a2.length)) (some (((4,false,(((a2.getD (0:Int).toNat qHD).2).2).1,([]:List qBs),([]:List qBs)),0,()),x0,())))
 ((qOh n1.1 a2).bind fun r17=>
 some ((r17.1.1,0,()),x0,())))))))))))))))))
def qOC (qRaE:((List Nod)×(List qSJ)×List Interp)->Int->Option ((Val×Int×Int×Unit)×(((List Nod)×(List qSJ)×List Interp)×Unit))) (x:((List Nod)×(List qSJ)×List Interp)×Int×Val×Int×Int×Nod×(List Val)×Int×Unit):Option (Ex×(((List Nod)×(List qSJ)×List Interp)×Int×Val×Int×Int×Nod×(List Val)×Int×Unit)):=
 let x0:=x.1
 let i1:=x.2.1
 let t4:=x.2.2.1
 let t5:=x.2.2.2.1
 let t6:=x.2.2.2.2.1
 let n7:=x.2.2.2.2.2.1
 let a8:=x.2.2.2.2.2.2.1
 let k9:=x.2.2.2.2.2.2.2.1
 cond (decide (k9 < n7.2.2.2.2))
 ((qRaE x0 i1).bind fun r1=>
 cond (r1.1.2.2.1 !=(0:Int))
 (some (Ex.ret,(r1.2.1,i1,((0:Int),false,([]:qBs),([]:List qBs),([]:List qBs)),0,r1.1.2.2.1,n7,a8,k9,())))
 (grd (decide (a8.length+([r1.1.1]:List Val).length<=qCF)) (some (Ex.normal,(r1.2.1,r1.1.2.1,t4,t5,t6,n7,a8++([r1.1.1]:List Val),qI (k9+1),())))))
 (some (Ex.exit 0,(x0,i1,t4,t5,t6,n7,a8,k9,())))
def qPI (qRaE:((List Nod)×(List qSJ)×List Interp)->Int->Option ((Val×Int×Int×Unit)×(((List Nod)×(List qSJ)×List Interp)×Unit))) (x0:(List Nod)×(List qSJ)×List Interp) (i1:Int):Option ((Val×Int×Int×Unit)×(((List Nod)×(List qSJ)×List Interp)×Unit)):=
 grd (decide (0<=i1)&&decide (i1 < x0.1.length)) (
 (qPA (qOC qRaE) (x0,qI (i1+1),((0:Int),false,([]:qBs),([]:List qBs),([]:List qBs)),0,0,x0.1.getD i1.toNat qHF,([]:List Val),0,())).bind fun y1=>
 cond (Ex.same y1.1 (Ex.exit 0))
 ((qME y1.2.1 y1.2.2.2.2.2.2.1 y1.2.2.2.2.2.2.2.1).bind fun r2=>
 some ((r2.1.1,y1.2.2.1,r2.1.2.1,()),r2.2.1,()))
 (cond (Ex.same y1.1 Ex.ret)
 (some ((y1.2.2.2.1,y1.2.2.2.2.1,y1.2.2.2.2.2.1,()),y1.2.1,()))
 (none)))
def qNE:Nat->((List Nod)×(List qSJ)×List Interp)->Int->Option ((Val×Int×Int×Unit)×(((List Nod)×(List qSJ)×List Interp)×Unit))
 |0=>fun _ _=>none
 |n+1=>qPI (qNE n)
def qEY (v0:Val):Option ((Val×Unit)×Unit):=
 grd (decide (v0.2.2.2.1.length<=qCF)) (grd (decide (v0.2.2.2.2.length<=qCF)) (some ((v0,()),())))
def qKU (x:(List Nod)×(List qSJ)×(List Interp)×Val×Int×Int×Unit):Option (Ex×((List Nod)×(List qSJ)×(List Interp)×Val×Int×Int×Unit)):=
 let t0:=x.1
 let env1:=x.2.1
 let fns2:=x.2.2.1
 let t6:=x.2.2.2.1
 let t7:=x.2.2.2.2.1
 let i8:=x.2.2.2.2.2.1
 cond (decide (i8 < (env1.length:Int)))
 (grd (decide (0<=i8)&&decide (i8 < env1.length)) (
 (qTF ((env1.getD i8.toNat qXR).2)).bind fun r1=>
 cond (!r1.1.1)
 (some (Ex.ret,(t0,env1,fns2,((0:Int),false,([]:qBs),([]:List qBs),([]:List qBs)),1,i8,())))
 (some (Ex.normal,(t0,env1,fns2,t6,t7,qI (i8+1),())))))
 (some (Ex.exit 0,(t0,env1,fns2,t6,t7,i8,())))
def qMi (x:(List Nod)×(List qSJ)×(List Interp)×Val×Int×Int×Unit):Option (Ex×((List Nod)×(List qSJ)×(List Interp)×Val×Int×Int×Unit)):=
 let t0:=x.1
 let env1:=x.2.1
 let fns2:=x.2.2.1
 let t6:=x.2.2.2.1
 let t7:=x.2.2.2.2.1
 let i9:=x.2.2.2.2.2.1
 cond (decide (i9 < (fns2.length:Int)))
 (grd (decide (0<=i9)&&decide (i9 < fns2.length)) (
 (qUY (fns2.getD i9.toNat qXH)).bind fun r1=>
 cond (!r1.1.1)
 (some (Ex.ret,(t0,env1,fns2,((0:Int),false,([]:qBs),([]:List qBs),([]:List qBs)),1,i9,())))
 (some (Ex.normal,(t0,env1,fns2,t6,t7,qI (i9+1),())))))
 (some (Ex.exit 2,(t0,env1,fns2,t6,t7,i9,())))
def qMq (t0:List Nod) (env1:List qSJ) (fns2:List Interp):Option ((Val×Int×Unit)×Unit):=
 (qBQ t0).bind fun r1=>
 cond (!r1.1.1)
 (some ((((0:Int),false,([]:qBs),([]:List qBs),([]:List qBs)),1,()),()))
 ((qPA qKU (t0,env1,fns2,((0:Int),false,([]:qBs),([]:List qBs),([]:List qBs)),0,0,())).bind fun y2=>
 cond (Ex.same y2.1 (Ex.exit 0))
 ((qPA qMi (y2.2.1,y2.2.2.1,y2.2.2.2.1,y2.2.2.2.2.1,y2.2.2.2.2.2.1,0,())).bind fun y3=>
 cond (Ex.same y3.1 (Ex.exit 2))
 ((qNE big (y3.2.1,y3.2.2.1,y3.2.2.2.1) 0).bind fun r4=>
 cond (r4.1.2.2.1 !=(0:Int))
 (some ((((0:Int),false,([]:qBs),([]:List qBs),([]:List qBs)),r4.1.2.2.1,()),()))
 ((qEY r4.1.1).bind fun r5=>
 some ((r5.1.1,0,()),())))
 (cond (Ex.same y3.1 Ex.ret)
 (some ((y3.2.2.2.2.1,y3.2.2.2.2.2.1,()),()))
 (none)))
 (cond (Ex.same y2.1 Ex.ret)
 (some ((y2.2.2.2.2.1,y2.2.2.2.2.2.1,()),()))
 (none)))
def qXr (t0:List Nod) (env1:List qSJ) (fns2:List Interp):Option ((Bool×Unit)×Unit):=
 (qFk t0 env1 fns2).bind fun r1=>
 cond (r1.1.2.1==0)
 (cond (r1.1.1.1==1)
 (some ((r1.1.1.2.1,()),()))
 (some ((false,()),())))
 (some ((false,()),()))
def qLu (t0:List Nod) (env1:List qSJ) (fns2:List Interp):Option ((Bool×Unit)×Unit):=
 (qMq t0 env1 fns2).bind fun r1=>
 cond (r1.1.2.1==0)
 (cond (r1.1.1.1==1)
 (some ((r1.1.1.2.1,()),()))
 (some ((false,()),())))
 (some ((false,()),()))
def qXI (t0:List Nod) (env1:List qSJ) (fns2:List Interp):Option ((Bool×Unit)×Unit):=
 (qFk t0 env1 fns2).bind fun r1=>
 (qMq t0 env1 fns2).bind fun r2=>
 cond (r1.1.2.1==r2.1.2.1)
 ((qIJ r1.1.1 r2.1.1).bind fun r3=>
 cond (r3.1.1)
 ((qXr t0 env1 fns2).bind fun r4=>
 (qLu t0 env1 fns2).bind fun r5=>
 some ((r4.1.1==r5.1.1,()),()))
 (some ((false,()),())))
 (some ((false,()),()))
def qAao (sort0:Int):Option ((Val×Int×Unit)×Unit):=
 cond (sort0==1)
 (some (((sort0,false,([]:qBs),([]:List qBs),([]:List qBs)),0,()),()))
 (cond (sort0==2)
 (some (((sort0,false,([48]:qBs),([]:List qBs),([]:List qBs)),0,()),()))
 (cond (sort0==3)
 (some (((sort0,false,([48]:qBs),([]:List qBs),([]:List qBs)),0,()),()))
 (cond (sort0==4)
 (some (((sort0,false,([48]:qBs),([]:List qBs),([]:List qBs)),0,()),()))
 (some ((((0:Int),false,([]:qBs),([]:List qBs),([]:List qBs)),1,()),())))))
def qLah (v0:Val):Option ((Bool×Unit)×Unit):=
 cond (v0.1==4)
 ((qUU v0).bind fun r1=>
 some ((r1.1.1,()),()))
 (some ((false,()),()))
def qHt (a0:Val) (index1:qBs) (num2:qBs):Option ((Val×Int×Unit)×Unit):=
 (qLah a0).bind fun r1=>
 cond (!r1.1.1)
 (some ((((0:Int),false,([]:qBs),([]:List qBs),([]:List qBs)),1,()),()))
 ((qJI index1).bind fun r2=>
 cond (!r2.1.1)
 (some ((((0:Int),false,([]:qBs),([]:List qBs),([]:List qBs)),1,()),()))
 ((qJI num2).bind fun r3=>
 cond (!r3.1.1)
 (some ((((0:Int),false,([]:qBs),([]:List qBs),([]:List qBs)),1,()),()))
 ((qVb a0 index1 num2).bind fun r4=>
 some ((r4.1.1,0,()),()))))
def qUZ (a0:qBs):Option ((Nod×Unit)×Unit):=
 some (((3,2,([]:qBs),a0,(0:Int)),()),())
def qGk (x:Val×(List Nod)×Int×Int×Unit):Option (Ex×(Val×(List Nod)×Int×Int×Unit)):=
 let v1:=x.1
 let t4:=x.2.1
 let t31:=x.2.2.1
 let t32:=x.2.2.2.1
 cond (decide (t32 < t31))
 (grd (decide (t4.length+([(19,(0:Int),([]:qBs),([]:qBs),3)]:List Nod).length<=qCF)) (some (Ex.normal,(v1,t4++([(19,(0:Int),([]:qBs),([]:qBs),3)]:List Nod),t31,qI (t32+1),()))))
 (some (Ex.exit 1,(v1,t4,t31,t32,())))
def qRk (x:Val×(List Nod)×(List qBs)×Int×Int×Unit):Option (Ex×(Val×(List Nod)×(List qBs)×Int×Int×Unit)):=
 let v1:=x.1
 let t4:=x.2.1
 let t47:=x.2.2.1
 let t48:=x.2.2.2.1
 let t49:=x.2.2.2.2.1
 cond (decide (t49 < t48))
 (grd (decide (0<=t49)&&decide (t49 < t47.length)) (
 (qUZ (t47.getD t49.toNat ([]:qBs))).bind fun r1=>
 grd (decide (0<=t49)&&decide (t49 < v1.2.2.2.2.length)) (
 (qUZ (v1.2.2.2.2.getD t49.toNat ([]:qBs))).bind fun r2=>
 grd (decide (t4.length+([r1.1.1,r2.1.1]:List Nod).length<=qCF)) (some (Ex.normal,(v1,t4++([r1.1.1,r2.1.1]:List Nod),t47,t48,qI (t49+1),()))))))
 (some (Ex.exit 3,(v1,t4,t47,t48,t49,())))
def qVan (v0:Val):Option (((List Nod)×Int×Unit)×Unit):=
 (qUU v0).bind fun r1=>
 cond (!r1.1.1)
 (some ((([]:List Nod),1,()),()))
 (cond (v0.1==1)
 (cond (v0.2.1)
 (some ((([(1,(0:Int),([]:qBs),([]:qBs),(0:Int))]:List Nod),0,()),()))
 (some ((([(2,(0:Int),([]:qBs),([]:qBs),(0:Int))]:List Nod),0,()),())))
 (cond (v0.1==2)
 (some ((([(3,v0.1,([]:qBs),v0.2.2.1,(0:Int))]:List Nod),0,()),()))
 (cond (v0.1==3)
 (some ((([(3,v0.1,([]:qBs),v0.2.2.1,(0:Int))]:List Nod),0,()),()))
 ((qPA qGk (v0,([]:List Nod),(v0.2.2.2.1.length:Int),0,())).bind fun y2=>
 cond (Ex.same y2.1 (Ex.exit 1))
 ((qUZ y2.2.1.2.2.1).bind fun r3=>
 grd (decide (y2.2.2.1.length+([(20,(0:Int),([]:qBs),([]:qBs),1),r3.1.1]:List Nod).length<=qCF)) (
 (qPA qRk (y2.2.1,y2.2.2.1++([(20,(0:Int),([]:qBs),([]:qBs),1),r3.1.1]:List Nod),y2.2.1.2.2.2.1,(y2.2.1.2.2.2.1.length:Int),0,())).bind fun y4=>
 cond (Ex.same y4.1 (Ex.exit 3))
 ((qRf y4.2.2.1).bind fun r5=>
 cond (!r5.1.1)
 (some ((([]:List Nod),6,()),()))
 (some ((y4.2.2.1,0,()),())))
 (none)))
 (none)))))
def qNas (a0:qBs):Option ((qBs×Unit)×Unit):=
 (qNR a0).bind fun r1=>
 cond (!r1.1.1)
 (some ((([]:qBs),()),()))
 ((strings_Cut a0 ([47]:qBs)).bind fun r2=>
 some ((r2.1.1,()),()))
def qCat (a0:qBs):Option ((qBs×Unit)×Unit):=
 (qNR a0).bind fun r1=>
 cond (!r1.1.1)
 (some ((([]:qBs),()),()))
 ((strings_Cut a0 ([47]:qBs)).bind fun r2=>
 cond (r2.1.2.2.1)
 (some ((r2.1.2.1,()),()))
 (some ((([49]:qBs),()),())))
def qPZ (qTaE:Int->qBs->Option ((qBs×Unit)×Unit)) (sort0:Int) (a1:qBs):Option ((qBs×Unit)×Unit):=
 (qGb a1).bind fun r1=>
 cond (decide (r1.1.1 < (0:Int)))
 ((qIai a1).bind fun r2=>
 (qTaE sort0 r2.1.1).bind fun r3=>
 grd (decide (([40,45,32]:qBs).length+r3.1.1.length<=qEP)) (grd (decide ((([40,45,32]:qBs)++r3.1.1).length+([41]:qBs).length<=qEP)) (some (((([40,45,32]:qBs)++r3.1.1)++([41]:qBs),()),()))))
 (cond (sort0==2)
 (some ((a1,()),()))
 ((qJI a1).bind fun r4=>
 cond (r4.1.1)
 (grd (decide (a1.length+([46,48]:qBs).length<=qEP)) (some ((a1++([46,48]:qBs),()),())))
 ((qNas a1).bind fun r5=>
 grd (decide (([40,47,32]:qBs).length+r5.1.1.length<=qEP)) (
 grd (decide ((([40,47,32]:qBs)++r5.1.1).length+([46,48,32]:qBs).length<=qEP)) (
 (qCat a1).bind fun r6=>
 grd (decide (((([40,47,32]:qBs)++r5.1.1)++([46,48,32]:qBs)).length+r6.1.1.length<=qEP)) (grd (decide ((((([40,47,32]:qBs)++r5.1.1)++([46,48,32]:qBs))++r6.1.1).length+([46,48,41]:qBs).length<=qEP)) (some (((((([40,47,32]:qBs)++r5.1.1)++([46,48,32]:qBs))++r6.1.1)++([46,48,41]:qBs),()),()))))))))
def qXP:Nat->Int->qBs->Option ((qBs×Unit)×Unit)
 |0=>fun _ _=>none
 |n+1=>qPZ (qXP n)
def qLw (n0:Nod):Option ((qBs×Unit)×Unit):=
 cond (n0.1==6)
 (some ((([110,111,116]:qBs),()),()))
 (cond (n0.1==7)
 (some ((([97,110,100]:qBs),()),()))
 (cond (n0.1==8)
 (some ((([111,114]:qBs),()),()))
 (cond (n0.1==9)
 (some ((([61,62]:qBs),()),()))
 (cond (n0.1==10)
 (some ((([105,116,101]:qBs),()),()))
 (cond (n0.1==11)
 (some ((([61]:qBs),()),()))
 (cond (n0.1==12)
 (some ((([60,61]:qBs),()),()))
 (cond (n0.1==13)
 (some ((([60]:qBs),()),()))
 (cond (n0.1==14)
 (some ((([43]:qBs),()),()))
 (cond (n0.1==15)
 (some ((([42]:qBs),()),()))
 (cond (n0.1==16)
 (some ((([100,105,118]:qBs),()),()))
 (cond (n0.1==17)
 (some ((([109,111,100]:qBs),()),()))
 (cond (n0.1==18)
 (some ((([115,101,108,101,99,116]:qBs),()),()))
 (cond (n0.1==19)
 (some ((([115,116,111,114,101]:qBs),()),()))
 (cond (n0.1==20)
 (some ((([99,111,110,115,116]:qBs),()),()))
 (some ((n0.2.2.1,()),()))))))))))))))))
def qFF (b0:Unit×List Int) (c1:Int):Option ((Bool×Unit)×((Unit×List Int)×Unit)):=
 (qEF ((),b0.2)).bind fun r1=>
 grd (decide (r1.2.1.2.length+([c1]:List Int).length<=qCF)) (some ((false,()),((),r1.2.1.2++([c1]:List Int)),()))
def qMV (qUaE:Option qRR->(Unit×List Int)->Int->Option ((Unit)×((Unit×List Int)×Unit))) (x:(Option qRR)×(Unit×List Int)×Nod×(List Int)×Int×Int×Unit):Option (Ex×((Option qRR)×(Unit×List Int)×Nod×(List Int)×Int×Int×Unit)):=
 let v0:=x.1
 let b1:=x.2.1
 let n6:=x.2.2.1
 let t25:=x.2.2.2.1
 let t26:=x.2.2.2.2.1
 let t27:=x.2.2.2.2.2.1
 cond (decide (t27 < t26))
 (grd (decide (0<=t27)&&decide (t27 < t25.length)) (
 (qFF ((),b1.2) 32).bind fun r1=>
 (qUaE v0 ((),r1.2.1.2) (t25.getD t27.toNat (0:Int))).bind fun r2=>
 some (Ex.normal,(v0,((),r2.2.1.2),n6,t25,t26,qI (t27+1),()))))
 (some (Ex.exit 1,(v0,((),b1.2),n6,t25,t26,t27,())))
def qXW (qUaE:Option qRR->(Unit×List Int)->Int->Option ((Unit)×((Unit×List Int)×Unit))) (v0:Option qRR) (b1:Unit×List Int) (i2:Int):Option ((Unit)×((Unit×List Int)×Unit)):=
 grd (v0.isSome) (
 grd (decide (0<=i2)&&decide (i2 < ((v0.getD qCO).1).length)) (
 cond (((((v0.getD qCO).1).getD i2.toNat qHF).1)==1)
 ((qQA ((),b1.2) ([116,114,117,101]:qBs)).bind fun r1=>
 some ((),((),r1.2.1.2),()))
 (cond (((((v0.getD qCO).1).getD i2.toNat qHF).1)==2)
 ((qQA ((),b1.2) ([102,97,108,115,101]:qBs)).bind fun r2=>
 some ((),((),r2.2.1.2),()))
 (cond (((((v0.getD qCO).1).getD i2.toNat qHF).1)==3)
 ((qXP big (((((v0.getD qCO).1).getD i2.toNat qHF).2).1) (((((((v0.getD qCO).1).getD i2.toNat qHF).2).2).2).1)).bind fun r3=>
 (qQA ((),b1.2) r3.1.1).bind fun r4=>
 some ((),((),r4.2.1.2),()))
 (cond (((((v0.getD qCO).1).getD i2.toNat qHF).1)==4)
 ((qQA ((),b1.2) ((((((v0.getD qCO).1).getD i2.toNat qHF).2).2).1)).bind fun r5=>
 some ((),((),r5.2.1.2),()))
 ((qLw (((v0.getD qCO).1).getD i2.toNat qHF)).bind fun r6=>
 grd (decide (([40]:qBs).length+r6.1.1.length<=qEP)) (
 (qQA ((),b1.2) (([40]:qBs)++r6.1.1)).bind fun r7=>
 (qTQ v0 i2).bind fun r8=>
 (qPA (qMV qUaE) (v0,((),r7.2.1.2),((v0.getD qCO).1).getD i2.toNat qHF,r8.1.1,(r8.1.1.length:Int),0,())).bind fun y9=>
 cond (Ex.same y9.1 (Ex.exit 1))
 (cond (!(y9.2.2.2.1.2.2.2.1==([]:qBs)))
 (grd (decide (([32]:qBs).length+y9.2.2.2.1.2.2.2.1.length<=qEP)) (
 (qQA ((),y9.2.2.1.2) (([32]:qBs)++y9.2.2.2.1.2.2.2.1)).bind fun r10=>
 (qFF ((),r10.2.1.2) 41).bind fun r11=>
 some ((),((),r11.2.1.2),())))
 ((qFF ((),y9.2.2.1.2) 41).bind fun r12=>
 some ((),((),r12.2.1.2),())))
 (none))))))))
def qIO:Nat->Option qRR->(Unit×List Int)->Int->Option ((Unit)×((Unit×List Int)×Unit))
 |0=>fun _ _ _=>none
 |n+1=>qXW (qIO n)
def qXw (t0:List Nod):Option ((qBs×Unit)×Unit):=
 (qUc t0).bind fun r1=>
 cond (!r1.1.2.1)
 (some ((([]:qBs),()),()))
 ((qIO big r1.1.1 ((),([]:List Int)) 0).bind fun r2=>
 (qTE ((),r2.2.1.2)).bind fun r3=>
 some ((r3.1.1,()),()))
def qBy (v0:Val):Option ((qBs×Unit)×Unit):=
 (qVan v0).bind fun r1=>
 cond (r1.1.2.1 !=(0:Int))
 (some ((([]:qBs),()),()))
 ((qXw r1.1.1).bind fun r2=>
 some ((r2.1.1,()),()))
def qQs:Option ((Bool×Unit)×Unit):=
 (qAao 4).bind fun r1=>
 (qHt r1.1.1 ([51]:qBs) ([55]:qBs)).bind fun r2=>
 (qHt r2.1.1 ([51]:qBs) ([48]:qBs)).bind fun r3=>
 (qWO 2 ([45,55]:qBs)).bind fun r4=>
 (qWd (16,(0:Int),([]:qBs),([50]:qBs),(0:Int)) ([r4.1.1]:List (List Nod))).bind fun r5=>
 (qFk r5.1.1 ([]:List qSJ) ([]:List Interp)).bind fun r6=>
 cond (r1.1.2.1==0)
 (cond (r2.1.2.1==0)
 (cond (r3.1.2.1==0)
 (cond (r6.1.2.1==0)
 (cond ((r2.1.1.2.2.2.1.length:Int)==1)
 (grd (decide (0<=(0:Int))&&decide ((0:Int) < r2.1.1.2.2.2.2.length)) (
 cond ((r2.1.1.2.2.2.2.getD (0:Int).toNat ([]:qBs))==([55]:qBs))
 ((qXX r3.1.1 r1.1.1).bind fun r7=>
 cond (r7.1.1)
 (cond (r6.1.1.2.2.1==([45,52]:qBs))
 ((qBy (4,false,([49]:qBs),([([45,50]:qBs)]:List qBs),([([53]:qBs)]:List qBs))).bind fun r8=>
 some ((r8.1.1==([40,115,116,111,114,101,32,40,99,111,110,115,116,32,49,41,32,40,45,32,50,41,32,53,41]:qBs),()),()))
 (some ((false,()),())))
 (some ((false,()),())))
 (some ((false,()),()))))
 (some ((false,()),())))
 (some ((false,()),())))
 (some ((false,()),())))
 (some ((false,()),())))
 (some ((false,()),()))
def qIT (l0:List Int) (m1:List Int) (cut2:Int) (at3:Int):Option ((Bool×Unit)×Unit):=
 (qFaa l0).bind fun r1=>
 (qTu cut2 4).bind fun r2=>
 qQv.bind fun r3=>
 (qBB big r1.1.1 (qI ((1:Int)+r2.1.1)) 3 r3.1.1).bind fun r4=>
 (qFaa m1).bind fun r5=>
 qQv.bind fun r6=>
 (qIP r5.1.1 r6.1.1).bind fun r7=>
 grd (decide (r7.1.1.length<=qCF)) (
 (qTu at3 (r7.1.1.length:Int)).bind fun r8=>
 (qWai m1).bind fun r9=>
 grd (decide (0<=r8.1.1)&&decide (r8.1.1 < r7.1.1.length)) (
 grd (decide (r8.1.1.toNat < r7.1.1.length)) (
 (qXI r4.1.1 r7.1.1 ([]:List Interp)).bind fun r10=>
 cond (r10.1.1)
 ((qTu cut2 4).bind fun r11=>
 grd (decide (0<=r11.1.1)&&decide (r11.1.1<=r7.1.1.length)) (
 (qXI r4.1.1 (r7.1.1.drop r11.1.1.toNat) ([]:List Interp)).bind fun r12=>
 cond (r12.1.1)
 ((qXI r4.1.1 (r7.1.1.set r8.1.1.toNat ((r7.1.1.getD r8.1.1.toNat qXR).1,r9.1.1)) ([]:List Interp)).bind fun r13=>
 cond (r13.1.1)
 (grd (decide ((r7.1.1.set r8.1.1.toNat ((r7.1.1.getD r8.1.1.toNat qXR).1,r9.1.1)).length<=qCF)) (
 grd (decide ((r7.1.1.set r8.1.1.toNat ((r7.1.1.getD r8.1.1.toNat qXR).1,r9.1.1)).length+r7.1.1.length<=qCF)) (
 (qXI r4.1.1 ((r7.1.1.set r8.1.1.toNat ((r7.1.1.getD r8.1.1.toNat qXR).1,r9.1.1))++r7.1.1) ([]:List Interp)).bind fun r14=>
 cond (r14.1.1)
 (qQs.bind fun r15=>
 some ((r15.1.1,()),()))
 (some ((false,()),())))))
 (some ((false,()),())))
 (some ((false,()),()))))
 (some ((false,()),())))))
end
end Go.AM.Num
end
