/- Law ValueArithmetic of the values: a machine of plain values, what the program's functions compute in it, and what that is. No condition beyond what the statement says. -/
import Derived.Test.YtmckcoeongfmhaaGreatDoorValueArithmetic3
import Derived.Test.YtmckcoeongfmhaaGreatDoorProg
import Derived.TacticsInMore
import Derived.LoopNIn
import Derived.LoopIn
import Derived.RangeFuncLeaves
import Derived.RangeFuncBox
import Derived.RangeFuncWrites
import Derived.RangeFuncNested
import Derived.OwnWalkIn
import Derived.Shelf.Abstract
import Derived.WalkKit
import Derived.Lib.Walk
import Derived.BigCall
import Derived.BigGuard
set_option linter.unusedSimpArgs false
set_option linter.unusedVariables false
section
namespace Go.AM.Num
set_option maxRecDepth 100000
set_option linter.unusedVariables false
noncomputable section
def big:Nat:=2 ^ 64
@[reducible] def gVr : GT := (.pair .str (.int .i64))
abbrev Vr:=qBs×Int
abbrev zVr:Vr:=(([]:qBs),(0:Int))
@[reducible] def qPy : GT := (.pair (.int .i64) (.int .i64))
abbrev Sml:=Int×Int
@[reducible] def qEB : GT := (.pair (.sl (.int .i64)) (.int .i64))
abbrev qCA:=(List Int)×Int
@[reducible] def qWh : GT := (.pair .bool (.pair .str .str))
abbrev qMp:=Bool×qBs×qBs
@[reducible] def gRt : GT := (.pair .bool (.pair (.sl (.int .u32)) (.sl (.int .u32))))
abbrev Rt:=Bool×(List Int)×List Int
@[reducible] def qRK : GT := (.pair (.int .i64) (.pair (.int .i64) (.pair .str gVr)))
abbrev Nod:=Int×Int×qBs×Vr
abbrev qSE:Nod:=((0:Int),(0:Int),([]:qBs),([]:qBs),(0:Int))
@[reducible] def qAG : GT := (.pair (.int .i64) (.pair .bool (.pair .str (.pair (.sl .str) (.sl .str)))))
abbrev Val:=Int×Bool×qBs×(List qBs)×List qBs
abbrev qEK:Val:=((0:Int),false,([]:qBs),([]:List qBs),([]:List qBs))
@[reducible] def qGj : GT := (.pair .str qAG)
abbrev qRV:=qBs×Val
abbrev qIac:qRV:=(([]:qBs),(0:Int),false,([]:qBs),([]:List qBs),([]:List qBs))
@[reducible] def qEa : GT := (.pair (.sl qRK) (.sl (.pair (.int .i64) qPy)))
abbrev qOQ:=(List Nod)×List (Int×Sml)
abbrev qQM:qOQ:=(([]:List Nod),([]:List (Int×Sml)))
@[reducible] def qFP : GT := (.pair .str (.pair (.sl (.sl qAG)) (.pair (.sl qAG) qAG)))
abbrev Interp:=qBs×(List (List Val))×(List Val)×Val
abbrev qGL:Interp:=(([]:qBs),([]:List (List Val)),([]:List Val),(0:Int),false,([]:qBs),([]:List qBs),([]:List qBs))
@[reducible] def gEvl : GT := (.pair (.sl qRK) (.pair (.int .i64) (.pair (.map qAG) (.map qFP))))
abbrev Evl:=(List Nod)×Int×(List (qBs×Val))×List (qBs×Interp)
def qMae (l0:List Int):Option ((qCA×Unit)×Unit):=
 grd (decide (0<=minA (l0.length:Int) (400:Int))&&decide (minA (l0.length:Int) (400:Int)<=l0.length)) (some (((l0.take (minA (l0.length:Int) (400:Int)).toNat,(0:Int)),()),()))
def qIo:Option (((List Vr)×Unit)×Unit):=
 some ((([(([120]:qBs),2),(([121]:qBs),2),(([122]:qBs),3),(([119]:qBs),3),(([112]:qBs),1),(([98]:qBs),1),(([97]:qBs),4),(([99]:qBs),4)]:List Vr),()),())
def qVai (v0:Int) (n1:Int):Option ((Int×Unit)×Unit):=
 grd ((qU (n1)) !=0) (some ((qI ((qU (v0)).tmod (qU (n1))),()),()))
def qFA (c0:qCA) (n1:Int):Option ((Int×Unit)×(qCA×Unit)):=
 cond (decide (c0.2>=(c0.1.length:Int)))
 (some ((0,()),(c0.1,c0.2),()))
 (grd (decide (0<=qI ((qI (c0.2+1)) - (1:Int)))&&decide (qI ((qI (c0.2+1)) - (1:Int)) < c0.1.length)) (
 (qVai (c0.1.getD (qI ((qI (c0.2+1)) - (1:Int))).toNat (0:Int)) n1).bind fun r1=>
 some ((r1.1.1,()),(c0.1,qI (c0.2+1)),())))
def qMK (x:Int×qBs×Int×Unit):Option (Ex×(Int×qBs×Int×Unit)):=
 let n0:=x.1
 let s3:=x.2.1
 let v4:=x.2.2.1
 cond (v4 !=(0:Int))
 (grd ((10:Int) !=0) (
 cond (decide ((v4.tmod 10) < (0:Int)))
 (grd (decide ((([IntKind.u8.wrap (qI ((48:Int)+(qI (0 - (v4.tmod 10)))))]:List Int).map fun n=>UInt8.ofNat n.toNat).length+s3.length<=qWN)) (grd ((10:Int) !=0) (some (Ex.normal,(n0,(([IntKind.u8.wrap (qI ((48:Int)+(qI (0 - (v4.tmod 10)))))]:List Int).map fun n=>UInt8.ofNat n.toNat)++s3,qI (v4.tdiv 10),())))))
 (grd (decide ((([IntKind.u8.wrap (qI ((48:Int)+(v4.tmod 10)))]:List Int).map fun n=>UInt8.ofNat n.toNat).length+s3.length<=qWN)) (grd ((10:Int) !=0) (some (Ex.normal,(n0,(([IntKind.u8.wrap (qI ((48:Int)+(v4.tmod 10)))]:List Int).map fun n=>UInt8.ofNat n.toNat)++s3,qI (v4.tdiv 10),())))))))
 (cond (s3==([]:qBs))
 (grd ((10:Int) !=0) (
 cond (decide ((v4.tmod 10) < (0:Int)))
 (grd (decide ((([IntKind.u8.wrap (qI ((48:Int)+(qI (0 - (v4.tmod 10)))))]:List Int).map fun n=>UInt8.ofNat n.toNat).length+s3.length<=qWN)) (grd ((10:Int) !=0) (some (Ex.normal,(n0,(([IntKind.u8.wrap (qI ((48:Int)+(qI (0 - (v4.tmod 10)))))]:List Int).map fun n=>UInt8.ofNat n.toNat)++s3,qI (v4.tdiv 10),())))))
 (grd (decide ((([IntKind.u8.wrap (qI ((48:Int)+(v4.tmod 10)))]:List Int).map fun n=>UInt8.ofNat n.toNat).length+s3.length<=qWN)) (grd ((10:Int) !=0) (some (Ex.normal,(n0,(([IntKind.u8.wrap (qI ((48:Int)+(v4.tmod 10)))]:List Int).map fun n=>UInt8.ofNat n.toNat)++s3,qI (v4.tdiv 10),())))))))
 (some (Ex.exit 0,(n0,s3,v4,()))))
def qKF (n0:Int):Option ((qBs×Unit)×Unit):=
 (qOA qMK (n0,([]:qBs),n0,())).bind fun y1=>
 cond (Ex.same y1.1 (Ex.exit 0))
 (cond (decide (y1.2.1 < (0:Int)))
 (grd (decide (([45]:qBs).length+y1.2.2.1.length<=qWN)) (some ((([45]:qBs)++y1.2.2.1,()),())))
 (some ((y1.2.2.1,()),())))
 (none)
def qDK (x:qBs×Bool×Int×Unit):Option (Ex×(qBs×Bool×Int×Unit)):=
 let s0:=x.1
 let t2:=x.2.1
 let i3:=x.2.2.1
 cond (decide (i3 < (s0.length:Int)))
 (grd (decide (0<=i3)&&decide (i3 < s0.length)) (
 cond (decide (((s0.getD i3.toNat 0).toNat:Int) < (48:Int)))
 (some (Ex.ret,(s0,false,i3,())))
 (grd (decide (0<=i3)&&decide (i3 < s0.length)) (
 cond (decide (((s0.getD i3.toNat 0).toNat:Int) > (57:Int)))
 (some (Ex.ret,(s0,false,i3,())))
 (some (Ex.normal,(s0,t2,qI (i3+1),())))))))
 (some (Ex.exit 0,(s0,t2,i3,())))
def qXL (s0:qBs):Option ((Bool×Unit)×Unit):=
 (qOA qDK (s0,false,0,())).bind fun y1=>
 cond (Ex.same y1.1 (Ex.exit 0))
 (some ((!(y1.2.1==([]:qBs)),()),()))
 (cond (Ex.same y1.1 Ex.ret)
 (some ((y1.2.2.1,()),()))
 (none))
def qUQ (x:qBs×Unit):Option (Ex×(qBs×Unit)):=
 let s0:=x.1
 cond (decide ((s0.length:Int) > (1:Int)))
 (grd (decide (0<=(0:Int))&&decide ((0:Int) < s0.length)) (
 cond (((s0.getD (0:Int).toNat 0).toNat:Int)==48)
 (grd (decide (0<=(1:Int))&&decide ((1:Int)<=s0.length)) (some (Ex.normal,(s0.drop (1:Int).toNat,()))))
 (some (Ex.exit 0,(s0,())))))
 (some (Ex.exit 0,(s0,())))
def qTN (s0:qBs):Option ((qBs×Unit)×Unit):=
 (qOA qUQ (s0,())).bind fun y1=>
 cond (Ex.same y1.1 (Ex.exit 0))
 (some ((y1.2.1,()),()))
 (none)
def qBZ (a0:qBs) (b1:qBs):Option ((Int×Unit)×Unit):=
 cond (decide ((a0.length:Int) < (b1.length:Int)))
 (some ((-1,()),()))
 (cond ((a0.length:Int)==(b1.length:Int))
 (cond (qQr a0 b1)
 (some ((-1,()),()))
 (cond (a0==b1)
 (some ((0,()),()))
 (some ((1,()),()))))
 (cond (a0==b1)
 (some ((0,()),()))
 (some ((1,()),()))))
def qFG (x:qBs×qBs×(List Int)×Int×Int×Unit):Option (Ex×(qBs×qBs×(List Int)×Int×Int×Unit)):=
 let a0:=x.1
 let b1:=x.2.1
 let out5:=x.2.2.1
 let borrow6:=x.2.2.2.1
 let i7:=x.2.2.2.2.1
 cond (decide (i7 < (a0.length:Int)))
 (grd (decide (0<=qI ((qI ((a0.length:Int) - (1:Int))) - i7))&&decide (qI ((qI ((a0.length:Int) - (1:Int))) - i7) < a0.length)) (
 cond (decide (i7 < (b1.length:Int)))
 (grd (decide (0<=qI ((qI ((b1.length:Int) - (1:Int))) - i7))&&decide (qI ((qI ((b1.length:Int) - (1:Int))) - i7) < b1.length)) (
 cond (decide ((qI ((qI ((qI (IntKind.u8.wrap (((a0.getD (qI ((qI ((a0.length:Int) - (1:Int))) - i7)).toNat 0).toNat:Int) - (48:Int)))) - borrow6)) - (qI (IntKind.u8.wrap (((b1.getD (qI ((qI ((b1.length:Int) - (1:Int))) - i7)).toNat 0).toNat:Int) - (48:Int)))))) < (0:Int)))
 (grd (decide (0<=qI ((qI ((a0.length:Int) - (1:Int))) - i7))&&decide (qI ((qI ((a0.length:Int) - (1:Int))) - i7) < out5.length)) (grd (decide ((qI ((qI ((a0.length:Int) - (1:Int))) - i7)).toNat < out5.length)) (some (Ex.normal,(a0,b1,out5.set ((qI ((qI ((a0.length:Int) - (1:Int))) - i7)).toNat) (IntKind.u8.wrap (qI ((48:Int)+(qI ((qI ((qI ((qI (IntKind.u8.wrap (((a0.getD (qI ((qI ((a0.length:Int) - (1:Int))) - i7)).toNat 0).toNat:Int) - (48:Int)))) - borrow6)) - (qI (IntKind.u8.wrap (((b1.getD (qI ((qI ((b1.length:Int) - (1:Int))) - i7)).toNat 0).toNat:Int) - (48:Int))))))+10))))),1,qI (i7+1),())))))
 (grd (decide (0<=qI ((qI ((a0.length:Int) - (1:Int))) - i7))&&decide (qI ((qI ((a0.length:Int) - (1:Int))) - i7) < out5.length)) (grd (decide ((qI ((qI ((a0.length:Int) - (1:Int))) - i7)).toNat < out5.length)) (some (Ex.normal,(a0,b1,out5.set ((qI ((qI ((a0.length:Int) - (1:Int))) - i7)).toNat) (IntKind.u8.wrap (qI ((48:Int)+(qI ((qI ((qI (IntKind.u8.wrap (((a0.getD (qI ((qI ((a0.length:Int) - (1:Int))) - i7)).toNat 0).toNat:Int) - (48:Int)))) - borrow6)) - (qI (IntKind.u8.wrap (((b1.getD (qI ((qI ((b1.length:Int) - (1:Int))) - i7)).toNat 0).toNat:Int) - (48:Int))))))))),0,qI (i7+1),())))))))
 (cond (decide ((qI ((qI (IntKind.u8.wrap (((a0.getD (qI ((qI ((a0.length:Int) - (1:Int))) - i7)).toNat 0).toNat:Int) - (48:Int)))) - borrow6)) < (0:Int)))
 (grd (decide (0<=qI ((qI ((a0.length:Int) - (1:Int))) - i7))&&decide (qI ((qI ((a0.length:Int) - (1:Int))) - i7) < out5.length)) (grd (decide ((qI ((qI ((a0.length:Int) - (1:Int))) - i7)).toNat < out5.length)) (some (Ex.normal,(a0,b1,out5.set ((qI ((qI ((a0.length:Int) - (1:Int))) - i7)).toNat) (IntKind.u8.wrap (qI ((48:Int)+(qI ((qI ((qI (IntKind.u8.wrap (((a0.getD (qI ((qI ((a0.length:Int) - (1:Int))) - i7)).toNat 0).toNat:Int) - (48:Int)))) - borrow6))+10))))),1,qI (i7+1),())))))
 (grd (decide (0<=qI ((qI ((a0.length:Int) - (1:Int))) - i7))&&decide (qI ((qI ((a0.length:Int) - (1:Int))) - i7) < out5.length)) (grd (decide ((qI ((qI ((a0.length:Int) - (1:Int))) - i7)).toNat < out5.length)) (some (Ex.normal,(a0,b1,out5.set ((qI ((qI ((a0.length:Int) - (1:Int))) - i7)).toNat) (IntKind.u8.wrap (qI ((48:Int)+(qI ((qI (IntKind.u8.wrap (((a0.getD (qI ((qI ((a0.length:Int) - (1:Int))) - i7)).toNat 0).toNat:Int) - (48:Int)))) - borrow6))))),0,qI (i7+1),()))))))))
 (some (Ex.exit 0,(a0,b1,out5,borrow6,i7,())))
def qGV (a0:qBs) (b1:qBs):Option ((qBs×Unit)×Unit):=
 grd (decide (0<=(a0.length:Int))&&decide ((a0.length:Int)<=(a0.length:Int))&&decide ((a0.length:Int)<=qXE)) (
 (qOA qFG (a0,b1,List.replicate (a0.length:Int).toNat (0:Int),0,0,())).bind fun y1=>
 cond (Ex.same y1.1 (Ex.exit 0))
 ((qTN (y1.2.2.2.1.map fun n=>UInt8.ofNat n.toNat)).bind fun r2=>
 some ((r2.1.1,()),()))
 (none))
def qHM (x:qBs×qBs×(List Int)×qBs×Int×Int×Unit):Option (Ex×(qBs×qBs×(List Int)×qBs×Int×Int×Unit)):=
 let a0:=x.1
 let b1:=x.2.1
 let q6:=x.2.2.1
 let r7:=x.2.2.2.1
 let i8:=x.2.2.2.2.1
 let d9:=x.2.2.2.2.2.1
 (qBZ r7 b1).bind fun r1=>
 cond (decide (r1.1.1>=0))
 ((qGV r7 b1).bind fun r2=>
 some (Ex.normal,(a0,b1,q6,r2.1.1,i8,IntKind.u8.wrap (d9+1),())))
 (some (Ex.exit 2,(a0,b1,q6,r7,i8,d9,())))
def qQP (x:qBs×qBs×(List Int)×qBs×Int×Unit):Option (Ex×(qBs×qBs×(List Int)×qBs×Int×Unit)):=
 let a0:=x.1
 let b1:=x.2.1
 let q6:=x.2.2.1
 let r7:=x.2.2.2.1
 let i8:=x.2.2.2.2.1
 cond (decide (i8 < (a0.length:Int)))
 (grd (decide (0<=i8)&&decide (i8<=qI (i8+1))&&decide (qI (i8+1)<=a0.length)) (
 grd (decide (r7.length+((a0.take (qI (i8+1)).toNat).drop i8.toNat).length<=qWN)) (
 (qTN (r7++((a0.take (qI (i8+1)).toNat).drop i8.toNat))).bind fun r1=>
 (qOA qHM (a0,b1,q6,r1.1.1,i8,48,())).bind fun y2=>
 cond (Ex.same y2.1 (Ex.exit 2))
 (grd (decide (0<=y2.2.2.2.2.2.1)&&decide (y2.2.2.2.2.2.1 < y2.2.2.2.1.length)) (grd (decide (y2.2.2.2.2.2.1.toNat < y2.2.2.2.1.length)) (some (Ex.normal,(y2.2.1,y2.2.2.1,y2.2.2.2.1.set y2.2.2.2.2.2.1.toNat y2.2.2.2.2.2.2.1,y2.2.2.2.2.1,qI (y2.2.2.2.2.2.1+1),())))))
 (none))))
 (some (Ex.exit 0,(a0,b1,q6,r7,i8,())))
def qUU (a0:qBs) (b1:qBs):Option ((qBs×qBs×Unit)×Unit):=
 grd (decide (0<=(a0.length:Int))&&decide ((a0.length:Int)<=(a0.length:Int))&&decide ((a0.length:Int)<=qXE)) (
 (qOA qQP (a0,b1,List.replicate (a0.length:Int).toNat (0:Int),([48]:qBs),0,())).bind fun y1=>
 cond (Ex.same y1.1 (Ex.exit 0))
 ((qTN (y1.2.2.2.1.map fun n=>UInt8.ofNat n.toNat)).bind fun r2=>
 some ((r2.1.1,y1.2.2.2.2.1,()),()))
 (none))
def qRP (x:qBs×qBs×Unit):Option (Ex×(qBs×qBs×Unit)):=
 let a0:=x.1
 let b1:=x.2.1
 cond (!(b1==([48]:qBs)))
 ((qUU a0 b1).bind fun r1=>
 some (Ex.normal,(b1,r1.1.2.1,())))
 (some (Ex.exit 0,(a0,b1,())))
def qPd (a0:qBs) (b1:qBs):Option ((qBs×Unit)×Unit):=
 (qOA qRP (a0,b1,())).bind fun y1=>
 cond (Ex.same y1.1 (Ex.exit 0))
 (some ((y1.2.1,()),()))
 (none)
def qXH (neg0:Bool) (num1:qBs) (den2:qBs):Option ((qMp×Unit)×Unit):=
 (qPd num1 den2).bind fun r1=>
 (qUU num1 r1.1.1).bind fun r2=>
 (qUU den2 r1.1.1).bind fun r3=>
 cond (neg0)
 (some (((!(r2.1.1==([48]:qBs)),r2.1.1,r3.1.1),()),()))
 (some (((false,r2.1.1,r3.1.1),()),()))
def qXB (x0:qMp):Option ((qBs×Unit)×Unit):=
 cond (x0.1)
 (grd (decide (([45]:qBs).length+x0.2.1.length<=qWN)) (
 cond (!(x0.2.2==([49]:qBs)))
 (grd (decide (([47]:qBs).length+x0.2.2.length<=qWN)) (grd (decide ((([45]:qBs)++x0.2.1).length+(([47]:qBs)++x0.2.2).length<=qWN)) (some (((([45]:qBs)++x0.2.1)++(([47]:qBs)++x0.2.2),()),()))))
 (some ((([45]:qBs)++x0.2.1,()),()))))
 (cond (!(x0.2.2==([49]:qBs)))
 (grd (decide (([47]:qBs).length+x0.2.2.length<=qWN)) (grd (decide (x0.2.1.length+(([47]:qBs)++x0.2.2).length<=qWN)) (some ((x0.2.1++(([47]:qBs)++x0.2.2),()),()))))
 (some ((x0.2.1,()),())))
def qXI (x:qBs×qMp×qMp×qBs×Int×Unit):Option (Ex×(qBs×qMp×qMp×qBs×Int×Unit)):=
 let a0:=x.1
 let t2:=x.2.1
 let x4:=x.2.2.1
 let s5:=x.2.2.2.1
 let i6:=x.2.2.2.2.1
 cond (decide (i6 < (s5.length:Int)))
 (grd (decide (0<=i6)&&decide (i6 < s5.length)) (
 cond (((s5.getD i6.toNat 0).toNat:Int)==47)
 (grd (decide (0<=qI (i6+1))&&decide (qI (i6+1)<=s5.length)) (grd (decide (0<=i6)&&decide (i6<=s5.length)) (some (Ex.exit 0,(a0,(t2.1,t2.2.1,t2.2.2),(x4.1,x4.2.1,s5.drop (qI (i6+1)).toNat),s5.take i6.toNat,i6,())))))
 (some (Ex.normal,(a0,(t2.1,t2.2.1,t2.2.2),(x4.1,x4.2.1,x4.2.2),s5,qI (i6+1),())))))
 (some (Ex.exit 0,(a0,(t2.1,t2.2.1,t2.2.2),(x4.1,x4.2.1,x4.2.2),s5,i6,())))
def qHH (a0:qBs):Option ((qMp×Bool×Unit)×Unit):=
 cond (!(a0==([]:qBs)))
 (grd (decide (0<=(0:Int))&&decide ((0:Int) < a0.length)) (
 cond (((a0.getD (0:Int).toNat 0).toNat:Int)==45)
 (grd (decide (0<=(1:Int))&&decide ((1:Int)<=a0.length)) (
 (qOA qXI (a0,(false,([]:qBs),([]:qBs)),(true,([]:qBs),([49]:qBs)),a0.drop (1:Int).toNat,0,())).bind fun y1=>
 cond (Ex.same y1.1 (Ex.exit 0))
 ((qXL y1.2.2.2.2.1).bind fun r2=>
 cond (!r2.1.1)
 (some (((false,([]:qBs),([]:qBs)),false,()),()))
 ((qXL y1.2.2.2.1.2.2).bind fun r3=>
 cond (!r3.1.1)
 (some (((false,([]:qBs),([]:qBs)),false,()),()))
 (cond (y1.2.2.2.1.2.2==([48]:qBs))
 (some (((false,([]:qBs),([]:qBs)),false,()),()))
 ((qTN y1.2.2.2.2.1).bind fun r4=>
 cond (!(r4.1.1==y1.2.2.2.2.1))
 (some (((false,([]:qBs),([]:qBs)),false,()),()))
 ((qTN y1.2.2.2.1.2.2).bind fun r5=>
 cond (!(r5.1.1==y1.2.2.2.1.2.2))
 (some (((false,([]:qBs),([]:qBs)),false,()),()))
 ((qXH y1.2.2.2.1.1 y1.2.2.2.2.1 y1.2.2.2.1.2.2).bind fun r6=>
 (qXB (r6.1.1.1,r6.1.1.2.1,r6.1.1.2.2)).bind fun r7=>
 cond (!(r7.1.1==y1.2.1))
 (some (((false,([]:qBs),([]:qBs)),false,()),()))
 (some (((y1.2.2.2.1.1,y1.2.2.2.2.1,y1.2.2.2.1.2.2),true,()),()))))))))
 (none)))
 ((qOA qXI (a0,(false,([]:qBs),([]:qBs)),(false,([]:qBs),([49]:qBs)),a0,0,())).bind fun y8=>
 cond (Ex.same y8.1 (Ex.exit 0))
 ((qXL y8.2.2.2.2.1).bind fun r9=>
 cond (!r9.1.1)
 (some (((false,([]:qBs),([]:qBs)),false,()),()))
 ((qXL y8.2.2.2.1.2.2).bind fun r10=>
 cond (!r10.1.1)
 (some (((false,([]:qBs),([]:qBs)),false,()),()))
 (cond (y8.2.2.2.1.2.2==([48]:qBs))
 (some (((false,([]:qBs),([]:qBs)),false,()),()))
 ((qTN y8.2.2.2.2.1).bind fun r11=>
 cond (!(r11.1.1==y8.2.2.2.2.1))
 (some (((false,([]:qBs),([]:qBs)),false,()),()))
 ((qTN y8.2.2.2.1.2.2).bind fun r12=>
 cond (!(r12.1.1==y8.2.2.2.1.2.2))
 (some (((false,([]:qBs),([]:qBs)),false,()),()))
 ((qXH y8.2.2.2.1.1 y8.2.2.2.2.1 y8.2.2.2.1.2.2).bind fun r13=>
 (qXB (r13.1.1.1,r13.1.1.2.1,r13.1.1.2.2)).bind fun r14=>
 cond (!(r14.1.1==y8.2.1))
 (some (((false,([]:qBs),([]:qBs)),false,()),()))
 (some (((y8.2.2.2.1.1,y8.2.2.2.2.1,y8.2.2.2.1.2.2),true,()),()))))))))
 (none))))
 ((qOA qXI (a0,(false,([]:qBs),([]:qBs)),(false,([]:qBs),([49]:qBs)),a0,0,())).bind fun y15=>
 cond (Ex.same y15.1 (Ex.exit 0))
 ((qXL y15.2.2.2.2.1).bind fun r16=>
 cond (!r16.1.1)
 (some (((false,([]:qBs),([]:qBs)),false,()),()))
 ((qXL y15.2.2.2.1.2.2).bind fun r17=>
 cond (!r17.1.1)
 (some (((false,([]:qBs),([]:qBs)),false,()),()))
 (cond (y15.2.2.2.1.2.2==([48]:qBs))
 (some (((false,([]:qBs),([]:qBs)),false,()),()))
 ((qTN y15.2.2.2.2.1).bind fun r18=>
 cond (!(r18.1.1==y15.2.2.2.2.1))
 (some (((false,([]:qBs),([]:qBs)),false,()),()))
 ((qTN y15.2.2.2.1.2.2).bind fun r19=>
 cond (!(r19.1.1==y15.2.2.2.1.2.2))
 (some (((false,([]:qBs),([]:qBs)),false,()),()))
 ((qXH y15.2.2.2.1.1 y15.2.2.2.2.1 y15.2.2.2.1.2.2).bind fun r20=>
 (qXB (r20.1.1.1,r20.1.1.2.1,r20.1.1.2.2)).bind fun r21=>
 cond (!(r21.1.1==y15.2.1))
 (some (((false,([]:qBs),([]:qBs)),false,()),()))
 (some (((y15.2.2.2.1.1,y15.2.2.2.2.1,y15.2.2.2.1.2.2),true,()),()))))))))
 (none))
def qEM (x:qBs×qBs×(List Int)×Int×Int×Unit):Option (Ex×(qBs×qBs×(List Int)×Int×Int×Unit)):=
 let a0:=x.1
 let b1:=x.2.1
 let out5:=x.2.2.1
 let i6:=x.2.2.2.1
 let j7:=x.2.2.2.2.1
 cond (decide (j7 < (b1.length:Int)))
 (grd (decide (0<=qI ((qI (i6+j7))+1))&&decide (qI ((qI (i6+j7))+1) < out5.length)) (grd (decide ((qI ((qI (i6+j7))+1)).toNat < out5.length)) (grd (decide (0<=i6)&&decide (i6 < a0.length)) (grd (decide (0<=j7)&&decide (j7 < b1.length)) (grd (decide (0<=qI ((qI (i6+j7))+1))&&decide (qI ((qI (i6+j7))+1) < out5.length)) (grd (decide ((qI ((qI (i6+j7))+1)).toNat < out5.length)) (some (Ex.normal,(a0,b1,out5.set ((qI ((qI (i6+j7))+1)).toNat) (qI ((out5.getD ((qI ((qI (i6+j7))+1)).toNat) (0:Int))+(qI ((qI (IntKind.u8.wrap (((a0.getD i6.toNat 0).toNat:Int) - (48:Int)))) * (qI (IntKind.u8.wrap (((b1.getD j7.toNat 0).toNat:Int) - (48:Int)))))))),i6,qI (j7+1),())))))))))
 (some (Ex.exit 2,(a0,b1,out5,i6,j7,())))
def qVO (x:qBs×qBs×(List Int)×Int×Unit):Option (Ex×(qBs×qBs×(List Int)×Int×Unit)):=
 let a0:=x.1
 let b1:=x.2.1
 let out5:=x.2.2.1
 let i6:=x.2.2.2.1
 cond (decide (i6 < (a0.length:Int)))
 ((qOA qEM (a0,b1,out5,i6,0,())).bind fun y1=>
 cond (Ex.same y1.1 (Ex.exit 2))
 (some (Ex.normal,(y1.2.1,y1.2.2.1,y1.2.2.2.1,qI (y1.2.2.2.2.1+1),())))
 (none))
 (some (Ex.exit 0,(a0,b1,out5,i6,())))
def qVM (x:(List Int)×(List Int)×Int×Int×Unit):Option (Ex×((List Int)×(List Int)×Int×Int×Unit)):=
 let out5:=x.1
 let s8:=x.2.1
 let carry9:=x.2.2.1
 let k10:=x.2.2.2.1
 cond (decide (k10>=0))
 (grd (decide (0<=k10)&&decide (k10 < out5.length)) (grd (decide (k10.toNat < out5.length)) (grd ((10:Int) !=0) (grd (decide (0<=k10)&&decide (k10 < s8.length)) (grd (decide (k10.toNat < s8.length)) (grd ((10:Int) !=0) (some (Ex.normal,(out5,s8.set k10.toNat (IntKind.u8.wrap (qI ((48:Int)+((qI ((out5.getD k10.toNat (0:Int))+carry9)).tmod 10)))),qI ((qI ((out5.getD k10.toNat (0:Int))+carry9)).tdiv 10),qI (k10 - (1:Int)),())))))))))
 (some (Ex.exit 4,(out5,s8,carry9,k10,())))
def qKM (a0:qBs) (b1:qBs):Option ((qBs×Unit)×Unit):=
 grd (decide (0<=qI ((a0.length:Int)+(b1.length:Int)))&&decide (qI ((a0.length:Int)+(b1.length:Int))<=qI ((a0.length:Int)+(b1.length:Int)))&&decide (qI ((a0.length:Int)+(b1.length:Int))<=qXE)) (
 (qOA qVO (a0,b1,List.replicate (qI ((a0.length:Int)+(b1.length:Int))).toNat (0:Int),0,())).bind fun y1=>
 cond (Ex.same y1.1 (Ex.exit 0))
 (grd (decide (0<=(y1.2.2.2.1.length:Int))&&decide ((y1.2.2.2.1.length:Int)<=(y1.2.2.2.1.length:Int))&&decide ((y1.2.2.2.1.length:Int)<=qXE)) (
 (qOA qVM (y1.2.2.2.1,List.replicate (y1.2.2.2.1.length:Int).toNat (0:Int),0,qI ((y1.2.2.2.1.length:Int) - (1:Int)),())).bind fun y2=>
 cond (Ex.same y2.1 (Ex.exit 4))
 ((qTN (y2.2.2.1.map fun n=>UInt8.ofNat n.toNat)).bind fun r3=>
 some ((r3.1.1,()),()))
 (none)))
 (none))
def qDaj (a0:qBs) (b1:qBs):Option ((qBs×Unit)×Unit):=
 (qHH a0).bind fun r1=>
 (qHH b1).bind fun r2=>
 cond (!r1.1.2.1)
 (some ((([]:qBs),()),()))
 (cond (!r2.1.2.1)
 (some ((([]:qBs),()),()))
 ((qKM r1.1.1.2.1 r2.1.1.2.1).bind fun r3=>
 (qKM r1.1.1.2.2 r2.1.1.2.2).bind fun r4=>
 (qXH (!(r1.1.1.1==r2.1.1.1)) r3.1.1 r4.1.1).bind fun r5=>
 (qXB (r5.1.1.1,r5.1.1.2.1,r5.1.1.2.2)).bind fun r6=>
 some ((r6.1.1,()),())))
def qBC (c0:qCA):Option ((qBs×Unit)×(qCA×Unit)):=
 (qFA (c0.1,c0.2) 8).bind fun r1=>
 cond (r1.1.1==6)
 ((qFA (r1.2.1.1,r1.2.1.2) 2001).bind fun r2=>
 (qKF (qI (r2.1.1 - (1000:Int)))).bind fun r3=>
 some ((r3.1.1,()),(r2.2.1.1,r2.2.1.2),()))
 (cond (r1.1.1==7)
 ((qFA (r1.2.1.1,r1.2.1.2) 1099511627776).bind fun r4=>
 (qKF (qI (r4.1.1 - (549755813888:Int)))).bind fun r5=>
 (qFA (r4.2.1.1,r4.2.1.2) 1099511627776).bind fun r6=>
 (qKF r6.1.1).bind fun r7=>
 (qDaj r5.1.1 r7.1.1).bind fun r8=>
 some ((r8.1.1,()),(r6.2.1.1,r6.2.1.2),()))
 ((qFA (r1.2.1.1,r1.2.1.2) 9).bind fun r9=>
 (qKF (qI (r9.1.1 - (4:Int)))).bind fun r10=>
 some ((r10.1.1,()),(r9.2.1.1,r9.2.1.2),())))
def qHG (a0:qBs):Option ((Bool×Unit)×Unit):=
 (qHH a0).bind fun r1=>
 cond (r1.1.2.1)
 (some ((r1.1.1.2.2==([49]:qBs),()),()))
 (some ((false,()),()))
def qSN (a0:qBs):Option ((Bool×Unit)×Unit):=
 (qHH a0).bind fun r1=>
 some ((r1.1.2.1,()),())
def qGai (a0:qBs):Option ((qBs×Unit)×Unit):=
 (qHH a0).bind fun r1=>
 cond (!r1.1.2.1)
 (some ((([]:qBs),()),()))
 (cond (!r1.1.1.1)
 ((qXB (!(r1.1.1.2.1==([48]:qBs)),r1.1.1.2.1,r1.1.1.2.2)).bind fun r2=>
 some ((r2.1.1,()),()))
 ((qXB (false,r1.1.1.2.1,r1.1.1.2.2)).bind fun r3=>
 some ((r3.1.1,()),())))
def qGG (x:qBs×qBs×Int×(List Int)×Int×Int×Unit):Option (Ex×(qBs×qBs×Int×(List Int)×Int×Int×Unit)):=
 let a0:=x.1
 let b1:=x.2.1
 let n5:=x.2.2.1
 let out6:=x.2.2.2.1
 let carry7:=x.2.2.2.2.1
 let i8:=x.2.2.2.2.2.1
 cond (decide (i8 < n5))
 (cond (decide (i8 < (a0.length:Int)))
 (grd (decide (0<=qI ((qI ((a0.length:Int) - (1:Int))) - i8))&&decide (qI ((qI ((a0.length:Int) - (1:Int))) - i8) < a0.length)) (
 cond (decide (i8 < (b1.length:Int)))
 (grd (decide (0<=qI ((qI ((b1.length:Int) - (1:Int))) - i8))&&decide (qI ((qI ((b1.length:Int) - (1:Int))) - i8) < b1.length)) (grd ((10:Int) !=0) (grd (decide (0<=qI ((qI (n5 - (1:Int))) - i8))&&decide (qI ((qI (n5 - (1:Int))) - i8) < out6.length)) (grd (decide ((qI ((qI (n5 - (1:Int))) - i8)).toNat < out6.length)) (grd ((10:Int) !=0) (some (Ex.normal,(a0,b1,n5,out6.set ((qI ((qI (n5 - (1:Int))) - i8)).toNat) (IntKind.u8.wrap (qI ((48:Int)+((qI ((qI (carry7+(qI (IntKind.u8.wrap (((a0.getD (qI ((qI ((a0.length:Int) - (1:Int))) - i8)).toNat 0).toNat:Int) - (48:Int))))))+(qI (IntKind.u8.wrap (((b1.getD (qI ((qI ((b1.length:Int) - (1:Int))) - i8)).toNat 0).toNat:Int) - (48:Int)))))).tmod 10)))),qI ((qI ((qI (carry7+(qI (IntKind.u8.wrap (((a0.getD (qI ((qI ((a0.length:Int) - (1:Int))) - i8)).toNat 0).toNat:Int) - (48:Int))))))+(qI (IntKind.u8.wrap (((b1.getD (qI ((qI ((b1.length:Int) - (1:Int))) - i8)).toNat 0).toNat:Int) - (48:Int)))))).tdiv 10),qI (i8+1),()))))))))
 (grd ((10:Int) !=0) (grd (decide (0<=qI ((qI (n5 - (1:Int))) - i8))&&decide (qI ((qI (n5 - (1:Int))) - i8) < out6.length)) (grd (decide ((qI ((qI (n5 - (1:Int))) - i8)).toNat < out6.length)) (grd ((10:Int) !=0) (some (Ex.normal,(a0,b1,n5,out6.set ((qI ((qI (n5 - (1:Int))) - i8)).toNat) (IntKind.u8.wrap (qI ((48:Int)+((qI (carry7+(qI (IntKind.u8.wrap (((a0.getD (qI ((qI ((a0.length:Int) - (1:Int))) - i8)).toNat 0).toNat:Int) - (48:Int)))))).tmod 10)))),qI ((qI (carry7+(qI (IntKind.u8.wrap (((a0.getD (qI ((qI ((a0.length:Int) - (1:Int))) - i8)).toNat 0).toNat:Int) - (48:Int)))))).tdiv 10),qI (i8+1),())))))))))
 (cond (decide (i8 < (b1.length:Int)))
 (grd (decide (0<=qI ((qI ((b1.length:Int) - (1:Int))) - i8))&&decide (qI ((qI ((b1.length:Int) - (1:Int))) - i8) < b1.length)) (grd ((10:Int) !=0) (grd (decide (0<=qI ((qI (n5 - (1:Int))) - i8))&&decide (qI ((qI (n5 - (1:Int))) - i8) < out6.length)) (grd (decide ((qI ((qI (n5 - (1:Int))) - i8)).toNat < out6.length)) (grd ((10:Int) !=0) (some (Ex.normal,(a0,b1,n5,out6.set ((qI ((qI (n5 - (1:Int))) - i8)).toNat) (IntKind.u8.wrap (qI ((48:Int)+((qI (carry7+(qI (IntKind.u8.wrap (((b1.getD (qI ((qI ((b1.length:Int) - (1:Int))) - i8)).toNat 0).toNat:Int) - (48:Int)))))).tmod 10)))),qI ((qI (carry7+(qI (IntKind.u8.wrap (((b1.getD (qI ((qI ((b1.length:Int) - (1:Int))) - i8)).toNat 0).toNat:Int) - (48:Int)))))).tdiv 10),qI (i8+1),()))))))))
 (grd ((10:Int) !=0) (grd (decide (0<=qI ((qI (n5 - (1:Int))) - i8))&&decide (qI ((qI (n5 - (1:Int))) - i8) < out6.length)) (grd (decide ((qI ((qI (n5 - (1:Int))) - i8)).toNat < out6.length)) (grd ((10:Int) !=0) (some (Ex.normal,(a0,b1,n5,out6.set ((qI ((qI (n5 - (1:Int))) - i8)).toNat) (IntKind.u8.wrap (qI ((48:Int)+(carry7.tmod 10)))),qI (carry7.tdiv 10),qI (i8+1),())))))))))
 (some (Ex.exit 0,(a0,b1,n5,out6,carry7,i8,())))
def qHd (a0:qBs) (b1:qBs):Option ((qBs×Unit)×Unit):=
 grd (decide (0<=qI ((qPa (a0.length:Int) (b1.length:Int))+1))&&decide (qI ((qPa (a0.length:Int) (b1.length:Int))+1)<=qI ((qPa (a0.length:Int) (b1.length:Int))+1))&&decide (qI ((qPa (a0.length:Int) (b1.length:Int))+1)<=qXE)) (
 (qOA qGG (a0,b1,qI ((qPa (a0.length:Int) (b1.length:Int))+1),List.replicate (qI ((qPa (a0.length:Int) (b1.length:Int))+1)).toNat (0:Int),0,0,())).bind fun y1=>
 cond (Ex.same y1.1 (Ex.exit 0))
 ((qTN (y1.2.2.2.2.1.map fun n=>UInt8.ofNat n.toNat)).bind fun r2=>
 some ((r2.1.1,()),()))
 (none))
def qRah (a0:qBs) (b1:qBs):Option ((qBs×Unit)×Unit):=
 (qHH a0).bind fun r1=>
 (qHH b1).bind fun r2=>
 cond (!r1.1.2.1)
 (some ((([]:qBs),()),()))
 (cond (!r2.1.2.1)
 (some ((([]:qBs),()),()))
 ((qKM r1.1.1.2.1 r2.1.1.2.2).bind fun r3=>
 (qKM r2.1.1.2.1 r1.1.1.2.2).bind fun r4=>
 (qKM r1.1.1.2.2 r2.1.1.2.2).bind fun r5=>
 cond (r1.1.1.1==r2.1.1.1)
 ((qHd r3.1.1 r4.1.1).bind fun r6=>
 (qXH r1.1.1.1 r6.1.1 r5.1.1).bind fun r7=>
 (qXB (r7.1.1.1,r7.1.1.2.1,r7.1.1.2.2)).bind fun r8=>
 some ((r8.1.1,()),()))
 ((qBZ r3.1.1 r4.1.1).bind fun r9=>
 cond (decide (r9.1.1>=0))
 ((qGV r3.1.1 r4.1.1).bind fun r10=>
 (qXH r1.1.1.1 r10.1.1 r5.1.1).bind fun r11=>
 (qXB (r11.1.1.1,r11.1.1.2.1,r11.1.1.2.2)).bind fun r12=>
 some ((r12.1.1,()),()))
 ((qGV r4.1.1 r3.1.1).bind fun r13=>
 (qXH r2.1.1.1 r13.1.1 r5.1.1).bind fun r14=>
 (qXB (r14.1.1.1,r14.1.1.2.1,r14.1.1.2.2)).bind fun r15=>
 some ((r15.1.1,()),())))))
def qPah (a0:qBs) (b1:qBs):Option ((qBs×Unit)×Unit):=
 (qGai b1).bind fun r1=>
 (qRah a0 r1.1.1).bind fun r2=>
 some ((r2.1.1,()),())
def qIi (a0:qBs):Option ((Int×Unit)×Unit):=
 (qHH a0).bind fun r1=>
 cond (!r1.1.2.1)
 (some ((0,()),()))
 (cond (r1.1.1.2.1==([48]:qBs))
 (some ((0,()),()))
 (cond (r1.1.1.1)
 (some ((-1,()),()))
 (some ((1,()),()))))
def qLh (a0:qBs) (b1:qBs):Option ((Int×Unit)×Unit):=
 (qSN a0).bind fun r1=>
 cond (!r1.1.1)
 (some ((0,()),()))
 ((qSN b1).bind fun r2=>
 cond (!r2.1.1)
 (some ((0,()),()))
 ((qPah a0 b1).bind fun r3=>
 (qIi r3.1.1).bind fun r4=>
 some ((r4.1.1,()),())))
def qPC (x:Val×Bool×Int×Unit):Option (Ex×(Val×Bool×Int×Unit)):=
 let v1:=x.1
 let t2:=x.2.1
 let i3:=x.2.2.1
 cond (decide (i3 < (v1.2.2.2.1.length:Int)))
 (grd (decide (0<=i3)&&decide (i3 < v1.2.2.2.1.length)) (
 (qHG (v1.2.2.2.1.getD i3.toNat ([]:qBs))).bind fun r1=>
 cond (!r1.1.1)
 (some (Ex.ret,(v1,false,i3,())))
 (grd (decide (0<=i3)&&decide (i3 < v1.2.2.2.2.length)) (
 (qHG (v1.2.2.2.2.getD i3.toNat ([]:qBs))).bind fun r2=>
 cond (!r2.1.1)
 (some (Ex.ret,(v1,false,i3,())))
 (grd (decide (0<=i3)&&decide (i3 < v1.2.2.2.2.length)) (
 cond ((v1.2.2.2.2.getD i3.toNat ([]:qBs))==v1.2.2.1)
 (some (Ex.ret,(v1,false,i3,())))
 (cond (decide (i3 > (0:Int)))
 (grd (decide (0<=qI (i3 - (1:Int)))&&decide (qI (i3 - (1:Int)) < v1.2.2.2.1.length)) (
 grd (decide (0<=i3)&&decide (i3 < v1.2.2.2.1.length)) (
 (qLh (v1.2.2.2.1.getD (qI (i3 - (1:Int))).toNat ([]:qBs)) (v1.2.2.2.1.getD i3.toNat ([]:qBs))).bind fun r3=>
 cond (decide (r3.1.1>=0))
 (some (Ex.ret,(v1,false,i3,())))
 (some (Ex.normal,(v1,t2,qI (i3+1),()))))))
 (some (Ex.normal,(v1,t2,qI (i3+1),()))))))))))
 (some (Ex.exit 1,(v1,t2,i3,())))
def qUM (v0:Val):Option ((Bool×Unit)×Unit):=
 cond (v0.1 !=(4:Int))
 (cond (decide ((v0.2.2.2.1.length:Int) > (0:Int)))
 (some ((false,()),()))
 (cond (decide ((v0.2.2.2.2.length:Int) > (0:Int)))
 (some ((false,()),()))
 (cond (v0.1 !=(1:Int))
 (cond (v0.2.1)
 (some ((false,()),()))
 (cond (v0.1==1)
 (some ((v0.2.2.1==([]:qBs),()),()))
 (cond (v0.1==2)
 ((qHG v0.2.2.1).bind fun r1=>
 some ((r1.1.1,()),()))
 (cond (v0.1==3)
 ((qSN v0.2.2.1).bind fun r2=>
 some ((r2.1.1,()),()))
 (cond (v0.1==4)
 ((qHG v0.2.2.1).bind fun r3=>
 cond (!r3.1.1)
 (some ((false,()),()))
 (cond ((v0.2.2.2.1.length:Int) !=(v0.2.2.2.2.length:Int))
 (some ((false,()),()))
 ((qOA qPC (v0,false,0,())).bind fun y4=>
 cond (Ex.same y4.1 (Ex.exit 1))
 (some ((true,()),()))
 (cond (Ex.same y4.1 Ex.ret)
 (some ((y4.2.2.1,()),()))
 (none)))))
 (some ((false,()),())))))))
 (cond (v0.1==1)
 (some ((v0.2.2.1==([]:qBs),()),()))
 (cond (v0.1==2)
 ((qHG v0.2.2.1).bind fun r5=>
 some ((r5.1.1,()),()))
 (cond (v0.1==3)
 ((qSN v0.2.2.1).bind fun r6=>
 some ((r6.1.1,()),()))
 (cond (v0.1==4)
 ((qHG v0.2.2.1).bind fun r7=>
 cond (!r7.1.1)
 (some ((false,()),()))
 (cond ((v0.2.2.2.1.length:Int) !=(v0.2.2.2.2.length:Int))
 (some ((false,()),()))
 ((qOA qPC (v0,false,0,())).bind fun y8=>
 cond (Ex.same y8.1 (Ex.exit 1))
 (some ((true,()),()))
 (cond (Ex.same y8.1 Ex.ret)
 (some ((y8.2.2.1,()),()))
 (none)))))
 (some ((false,()),())))))))))
 (cond (v0.1 !=(1:Int))
 (cond (v0.2.1)
 (some ((false,()),()))
 (cond (v0.1==1)
 (some ((v0.2.2.1==([]:qBs),()),()))
 (cond (v0.1==2)
 ((qHG v0.2.2.1).bind fun r9=>
 some ((r9.1.1,()),()))
 (cond (v0.1==3)
 ((qSN v0.2.2.1).bind fun r10=>
 some ((r10.1.1,()),()))
 (cond (v0.1==4)
 ((qHG v0.2.2.1).bind fun r11=>
 cond (!r11.1.1)
 (some ((false,()),()))
 (cond ((v0.2.2.2.1.length:Int) !=(v0.2.2.2.2.length:Int))
 (some ((false,()),()))
 ((qOA qPC (v0,false,0,())).bind fun y12=>
 cond (Ex.same y12.1 (Ex.exit 1))
 (some ((true,()),()))
 (cond (Ex.same y12.1 Ex.ret)
 (some ((y12.2.2.1,()),()))
 (none)))))
 (some ((false,()),())))))))
 (cond (v0.1==1)
 (some ((v0.2.2.1==([]:qBs),()),()))
 (cond (v0.1==2)
 ((qHG v0.2.2.1).bind fun r13=>
 some ((r13.1.1,()),()))
 (cond (v0.1==3)
 ((qSN v0.2.2.1).bind fun r14=>
 some ((r14.1.1,()),()))
 (cond (v0.1==4)
 ((qHG v0.2.2.1).bind fun r15=>
 cond (!r15.1.1)
 (some ((false,()),()))
 (cond ((v0.2.2.2.1.length:Int) !=(v0.2.2.2.2.length:Int))
 (some ((false,()),()))
 ((qOA qPC (v0,false,0,())).bind fun y16=>
 cond (Ex.same y16.1 (Ex.exit 1))
 (some ((true,()),()))
 (cond (Ex.same y16.1 Ex.ret)
 (some ((y16.2.2.1,()),()))
 (none)))))
 (some ((false,()),())))))))
def qMC (x:qBs×qBs×Val×Val×(Int×Bool×qBs×(List qBs)×List qBs)×Bool×Int×Unit):Option (Ex×(qBs×qBs×Val×Val×(Int×Bool×qBs×(List qBs)×List qBs)×Bool×Int×Unit)):=
 let index1:=x.1
 let num2:=x.2.1
 let a3:=x.2.2.1
 let t6:=x.2.2.2.1
 let out8:=x.2.2.2.2.1
 let put9:=x.2.2.2.2.2.1
 let i10:=x.2.2.2.2.2.2.1
 cond (decide (i10<=(a3.2.2.2.1.length:Int)))
 (cond (!put9)
 (cond (i10==(a3.2.2.2.1.length:Int))
 (cond (!(num2==a3.2.2.1))
 (grd (decide (out8.2.2.2.1.length+([index1]:List qBs).length<=qXE)) (
 grd (decide (out8.2.2.2.2.length+([num2]:List qBs).length<=qXE)) (
 cond (decide (i10 < (a3.2.2.2.1.length:Int)))
 (grd (decide (0<=i10)&&decide (i10 < a3.2.2.2.1.length)) (
 cond (!((a3.2.2.2.1.getD i10.toNat ([]:qBs))==index1))
 (grd (decide (0<=i10)&&decide (i10 < a3.2.2.2.1.length)) (grd (decide ((out8.2.2.2.1++([index1]:List qBs)).length+([a3.2.2.2.1.getD i10.toNat ([]:qBs)]:List qBs).length<=qXE)) (grd (decide (0<=i10)&&decide (i10 < a3.2.2.2.2.length)) (grd (decide ((out8.2.2.2.2++([num2]:List qBs)).length+([a3.2.2.2.2.getD i10.toNat ([]:qBs)]:List qBs).length<=qXE)) (some (Ex.normal,(index1,num2,a3,t6,(out8.1,out8.2.1,out8.2.2.1,(out8.2.2.2.1++([index1]:List qBs))++([a3.2.2.2.1.getD i10.toNat ([]:qBs)]:List qBs),(out8.2.2.2.2++([num2]:List qBs))++([a3.2.2.2.2.getD i10.toNat ([]:qBs)]:List qBs)),true,qI (i10+1),())))))))
 (some (Ex.normal,(index1,num2,a3,t6,(out8.1,out8.2.1,out8.2.2.1,out8.2.2.2.1++([index1]:List qBs),out8.2.2.2.2++([num2]:List qBs)),true,qI (i10+1),())))))
 (some (Ex.normal,(index1,num2,a3,t6,(out8.1,out8.2.1,out8.2.2.1,out8.2.2.2.1++([index1]:List qBs),out8.2.2.2.2++([num2]:List qBs)),true,qI (i10+1),()))))))
 (cond (decide (i10 < (a3.2.2.2.1.length:Int)))
 (grd (decide (0<=i10)&&decide (i10 < a3.2.2.2.1.length)) (
 cond (!((a3.2.2.2.1.getD i10.toNat ([]:qBs))==index1))
 (grd (decide (0<=i10)&&decide (i10 < a3.2.2.2.1.length)) (grd (decide (out8.2.2.2.1.length+([a3.2.2.2.1.getD i10.toNat ([]:qBs)]:List qBs).length<=qXE)) (grd (decide (0<=i10)&&decide (i10 < a3.2.2.2.2.length)) (grd (decide (out8.2.2.2.2.length+([a3.2.2.2.2.getD i10.toNat ([]:qBs)]:List qBs).length<=qXE)) (some (Ex.normal,(index1,num2,a3,t6,(out8.1,out8.2.1,out8.2.2.1,out8.2.2.2.1++([a3.2.2.2.1.getD i10.toNat ([]:qBs)]:List qBs),out8.2.2.2.2++([a3.2.2.2.2.getD i10.toNat ([]:qBs)]:List qBs)),true,qI (i10+1),())))))))
 (some (Ex.normal,(index1,num2,a3,t6,out8,true,qI (i10+1),())))))
 (some (Ex.normal,(index1,num2,a3,t6,out8,true,qI (i10+1),())))))
 (grd (decide (0<=i10)&&decide (i10 < a3.2.2.2.1.length)) (
 (qLh (a3.2.2.2.1.getD i10.toNat ([]:qBs)) index1).bind fun r1=>
 cond (decide (r1.1.1>=0))
 (cond (!(num2==a3.2.2.1))
 (grd (decide (out8.2.2.2.1.length+([index1]:List qBs).length<=qXE)) (
 grd (decide (out8.2.2.2.2.length+([num2]:List qBs).length<=qXE)) (
 cond (decide (i10 < (a3.2.2.2.1.length:Int)))
 (grd (decide (0<=i10)&&decide (i10 < a3.2.2.2.1.length)) (
 cond (!((a3.2.2.2.1.getD i10.toNat ([]:qBs))==index1))
 (grd (decide (0<=i10)&&decide (i10 < a3.2.2.2.1.length)) (grd (decide ((out8.2.2.2.1++([index1]:List qBs)).length+([a3.2.2.2.1.getD i10.toNat ([]:qBs)]:List qBs).length<=qXE)) (grd (decide (0<=i10)&&decide (i10 < a3.2.2.2.2.length)) (grd (decide ((out8.2.2.2.2++([num2]:List qBs)).length+([a3.2.2.2.2.getD i10.toNat ([]:qBs)]:List qBs).length<=qXE)) (some (Ex.normal,(index1,num2,a3,t6,(out8.1,out8.2.1,out8.2.2.1,(out8.2.2.2.1++([index1]:List qBs))++([a3.2.2.2.1.getD i10.toNat ([]:qBs)]:List qBs),(out8.2.2.2.2++([num2]:List qBs))++([a3.2.2.2.2.getD i10.toNat ([]:qBs)]:List qBs)),true,qI (i10+1),())))))))
 (some (Ex.normal,(index1,num2,a3,t6,(out8.1,out8.2.1,out8.2.2.1,out8.2.2.2.1++([index1]:List qBs),out8.2.2.2.2++([num2]:List qBs)),true,qI (i10+1),())))))
 (some (Ex.normal,(index1,num2,a3,t6,(out8.1,out8.2.1,out8.2.2.1,out8.2.2.2.1++([index1]:List qBs),out8.2.2.2.2++([num2]:List qBs)),true,qI (i10+1),()))))))
 (cond (decide (i10 < (a3.2.2.2.1.length:Int)))
 (grd (decide (0<=i10)&&decide (i10 < a3.2.2.2.1.length)) (
 cond (!((a3.2.2.2.1.getD i10.toNat ([]:qBs))==index1))
 (grd (decide (0<=i10)&&decide (i10 < a3.2.2.2.1.length)) (grd (decide (out8.2.2.2.1.length+([a3.2.2.2.1.getD i10.toNat ([]:qBs)]:List qBs).length<=qXE)) (grd (decide (0<=i10)&&decide (i10 < a3.2.2.2.2.length)) (grd (decide (out8.2.2.2.2.length+([a3.2.2.2.2.getD i10.toNat ([]:qBs)]:List qBs).length<=qXE)) (some (Ex.normal,(index1,num2,a3,t6,(out8.1,out8.2.1,out8.2.2.1,out8.2.2.2.1++([a3.2.2.2.1.getD i10.toNat ([]:qBs)]:List qBs),out8.2.2.2.2++([a3.2.2.2.2.getD i10.toNat ([]:qBs)]:List qBs)),true,qI (i10+1),())))))))
 (some (Ex.normal,(index1,num2,a3,t6,out8,true,qI (i10+1),())))))
 (some (Ex.normal,(index1,num2,a3,t6,out8,true,qI (i10+1),())))))
 (cond (decide (i10 < (a3.2.2.2.1.length:Int)))
 (grd (decide (0<=i10)&&decide (i10 < a3.2.2.2.1.length)) (
 cond (!((a3.2.2.2.1.getD i10.toNat ([]:qBs))==index1))
 (grd (decide (0<=i10)&&decide (i10 < a3.2.2.2.1.length)) (grd (decide (out8.2.2.2.1.length+([a3.2.2.2.1.getD i10.toNat ([]:qBs)]:List qBs).length<=qXE)) (grd (decide (0<=i10)&&decide (i10 < a3.2.2.2.2.length)) (grd (decide (out8.2.2.2.2.length+([a3.2.2.2.2.getD i10.toNat ([]:qBs)]:List qBs).length<=qXE)) (some (Ex.normal,(index1,num2,a3,t6,(out8.1,out8.2.1,out8.2.2.1,out8.2.2.2.1++([a3.2.2.2.1.getD i10.toNat ([]:qBs)]:List qBs),out8.2.2.2.2++([a3.2.2.2.2.getD i10.toNat ([]:qBs)]:List qBs)),put9,qI (i10+1),())))))))
 (some (Ex.normal,(index1,num2,a3,t6,out8,put9,qI (i10+1),())))))
 (some (Ex.normal,(index1,num2,a3,t6,out8,put9,qI (i10+1),())))))))
 (cond (decide (i10 < (a3.2.2.2.1.length:Int)))
 (grd (decide (0<=i10)&&decide (i10 < a3.2.2.2.1.length)) (
 cond (!((a3.2.2.2.1.getD i10.toNat ([]:qBs))==index1))
 (grd (decide (0<=i10)&&decide (i10 < a3.2.2.2.1.length)) (grd (decide (out8.2.2.2.1.length+([a3.2.2.2.1.getD i10.toNat ([]:qBs)]:List qBs).length<=qXE)) (grd (decide (0<=i10)&&decide (i10 < a3.2.2.2.2.length)) (grd (decide (out8.2.2.2.2.length+([a3.2.2.2.2.getD i10.toNat ([]:qBs)]:List qBs).length<=qXE)) (some (Ex.normal,(index1,num2,a3,t6,(out8.1,out8.2.1,out8.2.2.1,out8.2.2.2.1++([a3.2.2.2.1.getD i10.toNat ([]:qBs)]:List qBs),out8.2.2.2.2++([a3.2.2.2.2.getD i10.toNat ([]:qBs)]:List qBs)),put9,qI (i10+1),())))))))
 (some (Ex.normal,(index1,num2,a3,t6,out8,put9,qI (i10+1),())))))
 (some (Ex.normal,(index1,num2,a3,t6,out8,put9,qI (i10+1),())))))
 (some (Ex.exit 0,(index1,num2,a3,t6,out8,put9,i10,())))
def qMf (a0:Val) (index1:qBs) (num2:qBs):Option ((Val×Int×Unit)×Unit):=
 cond (a0.1 !=(4:Int))
 (some ((((0:Int),false,([]:qBs),([]:List qBs),([]:List qBs)),1,()),()))
 ((qUM a0).bind fun r1=>
 cond (!r1.1.1)
 (some ((((0:Int),false,([]:qBs),([]:List qBs),([]:List qBs)),1,()),()))
 ((qHG index1).bind fun r2=>
 cond (!r2.1.1)
 (some ((((0:Int),false,([]:qBs),([]:List qBs),([]:List qBs)),1,()),()))
 ((qHG num2).bind fun r3=>
 cond (!r3.1.1)
 (some ((((0:Int),false,([]:qBs),([]:List qBs),([]:List qBs)),1,()),()))
 ((qOA qMC (index1,num2,a0,((0:Int),false,([]:qBs),([]:List qBs),([]:List qBs)),(a0.1,false,a0.2.2.1,([]:List qBs),([]:List qBs)),false,0,())).bind fun y4=>
 cond (Ex.same y4.1 (Ex.exit 0))
 (some ((y4.2.2.2.2.2.1,0,()),()))
 (none)))))
def qUag (a0:qBs) (b1:qBs):Option ((qBs×Unit)×Unit):=
 (qHH a0).bind fun r1=>
 (qHH b1).bind fun r2=>
 cond (!r1.1.2.1)
 (some ((([]:qBs),()),()))
 (cond (!r2.1.2.1)
 (some ((([]:qBs),()),()))
 (cond (r2.1.1.2.1==([48]:qBs))
 (some ((([]:qBs),()),()))
 ((qKM r1.1.1.2.1 r2.1.1.2.2).bind fun r3=>
 (qKM r1.1.1.2.2 r2.1.1.2.1).bind fun r4=>
 (qXH (!(r1.1.1.1==r2.1.1.1)) r3.1.1 r4.1.1).bind fun r5=>
 (qXB (r5.1.1.1,r5.1.1.2.1,r5.1.1.2.2)).bind fun r6=>
 some ((r6.1.1,()),()))))
def qRJ (c0:qCA):Option ((qBs×Unit)×(qCA×Unit)):=
 (qBC (c0.1,c0.2)).bind fun r1=>
 (qFA (r1.2.1.1,r1.2.1.2) 4).bind fun r2=>
 (qKF (qI ((1:Int)+r2.1.1))).bind fun r3=>
 (qUag r1.1.1 r3.1.1).bind fun r4=>
 some ((r4.1.1,()),(r2.2.1.1,r2.2.1.2),())
def qTD (c0:qCA) (sort1:Int):Option ((qBs×Unit)×(qCA×Unit)):=
 cond (sort1==2)
 ((qBC c0).bind fun r1=>
 some ((r1.1.1,()),r1.2.1,()))
 ((qRJ c0).bind fun r2=>
 some ((r2.1.1,()),r2.2.1,()))
def qDG (x:qCA×Val×Val×Int×Unit):Option (Ex×(qCA×Val×Val×Int×Unit)):=
 let c0:=x.1
 let t4:=x.2.1
 let v5:=x.2.2.1
 let n6:=x.2.2.2.1
 cond (decide (n6 > (0:Int)))
 ((qBC c0).bind fun r1=>
 (qBC r1.2.1).bind fun r2=>
 (qMf v5 r1.1.1 r2.1.1).bind fun r3=>
 some (Ex.normal,(r2.2.1,t4,r3.1.1,qI (n6 - (1:Int)),())))
 (some (Ex.exit 1,(c0,t4,v5,n6,())))
def qSG (c0:qCA) (sort1:Int):Option ((Val×Unit)×(qCA×Unit)):=
 cond (sort1==1)
 ((qFA c0 2).bind fun r1=>
 some (((sort1,r1.1.1==1,([]:qBs),([]:List qBs),([]:List qBs)),()),r1.2.1,()))
 (cond (sort1==4)
 ((qBC c0).bind fun r2=>
 (qFA r2.2.1 4).bind fun r3=>
 (qOA qDG (r3.2.1,((0:Int),false,([]:qBs),([]:List qBs),([]:List qBs)),(sort1,false,r2.1.1,([]:List qBs),([]:List qBs)),r3.1.1,())).bind fun y4=>
 cond (Ex.same y4.1 (Ex.exit 1))
 (some ((y4.2.2.2.1,()),y4.2.1,()))
 (none))
 ((qTD c0 sort1).bind fun r5=>
 some (((sort1,false,r5.1.1,([]:List qBs),([]:List qBs)),()),r5.2.1,())))
def qHF (x:qCA×(List Vr)×(List Val)×Int×Unit):Option (Ex×(qCA×(List Vr)×(List Val)×Int×Unit)):=
 let c0:=x.1
 let vars1:=x.2.1
 let out5:=x.2.2.1
 let i6:=x.2.2.2.1
 cond (decide (i6 < (vars1.length:Int)))
 (grd (decide (0<=i6)&&decide (i6 < vars1.length)) (
 (qSG c0 ((vars1.getD i6.toNat zVr).2)).bind fun r1=>
 grd (decide (out5.length+([r1.1.1]:List Val).length<=qXE)) (some (Ex.normal,(r1.2.1,vars1,out5++([r1.1.1]:List Val),qI (i6+1),())))))
 (some (Ex.exit 0,(c0,vars1,out5,i6,())))
def qNN (c0:qCA) (vars1:List Vr):Option (((List Val)×Unit)×(qCA×Unit)):=
 (qOA qHF (c0,vars1,([]:List Val),0,())).bind fun y1=>
 cond (Ex.same y1.1 (Ex.exit 0))
 (some ((y1.2.2.2.1,()),y1.2.1,()))
 (none)
def qQX (x:(List Vr)×(List Val)×(List qRV)×Int×Unit):Option (Ex×((List Vr)×(List Val)×(List qRV)×Int×Unit)):=
 let vars0:=x.1
 let vals1:=x.2.1
 let out5:=x.2.2.1
 let i6:=x.2.2.2.1
 cond (decide (i6 < (vars0.length:Int)))
 (grd (decide (0<=i6)&&decide (i6 < vars0.length)) (grd (decide (0<=i6)&&decide (i6 < vals1.length)) (grd (decide (out5.length+([((vars0.getD i6.toNat zVr).1,vals1.getD i6.toNat qEK)]:List qRV).length<=qXE)) (some (Ex.normal,(vars0,vals1,out5++([((vars0.getD i6.toNat zVr).1,vals1.getD i6.toNat qEK)]:List qRV),qI (i6+1),()))))))
 (some (Ex.exit 0,(vars0,vals1,out5,i6,())))
def qLan (vars0:List Vr) (vals1:List Val):Option (((List qRV)×Unit)×Unit):=
 (qOA qQX (vars0,vals1,([]:List qRV),0,())).bind fun y1=>
 cond (Ex.same y1.1 (Ex.exit 0))
 (some ((y1.2.2.2.1,()),()))
 (none)
def qXN (c0:qCA) (vars1:List Vr):Option (((List qRV)×Unit)×(qCA×Unit)):=
 (qNN c0 vars1).bind fun r1=>
 (qLan vars1 r1.1.1).bind fun r2=>
 some ((r2.1.1,()),r1.2.1,())
def qRE (c0:qCA) (sort1:Int):Option ((Val×Unit)×(qCA×Unit)):=
 cond (sort1==1)
 ((qFA c0 2).bind fun r1=>
 some (((sort1,r1.1.1==1,([]:qBs),([]:List qBs),([]:List qBs)),()),r1.2.1,()))
 (cond (sort1==4)
 ((qFA c0 3).bind fun r2=>
 (qKF r2.1.1).bind fun r3=>
 (qFA r2.2.1 3).bind fun r4=>
 (qKF r4.1.1).bind fun r5=>
 (qFA r4.2.1 3).bind fun r6=>
 (qKF r6.1.1).bind fun r7=>
 (qMf (sort1,false,r3.1.1,([]:List qBs),([]:List qBs)) r5.1.1 r7.1.1).bind fun r8=>
 some ((r8.1.1,()),r6.2.1,()))
 ((qFA c0 6).bind fun r9=>
 (qKF (qI (r9.1.1 - (2:Int)))).bind fun r10=>
 some (((sort1,false,r10.1.1,([]:List qBs),([]:List qBs)),()),r9.2.1,())))
def qUk (b0:Bool):Option (((List Nod)×Unit)×Unit):=
 cond (b0)
 (some ((([(1,(0:Int),([]:qBs),([]:qBs),(0:Int))]:List Nod),()),()))
 (some ((([(2,(0:Int),([]:qBs),([]:qBs),(0:Int))]:List Nod),()),()))
def qBM (sort0:Int) (num1:qBs):Option (((List Nod)×Unit)×Unit):=
 some ((([(3,sort0,([]:qBs),num1,(0:Int))]:List Nod),()),())
def qNT (x:(List (List Nod))×(List Nod)×Int×Unit):Option (Ex×((List (List Nod))×(List Nod)×Int×Unit)):=
 let kids1:=x.1
 let t5:=x.2.1
 let i6:=x.2.2.1
 cond (decide (i6 < (kids1.length:Int)))
 (grd (decide (0<=i6)&&decide (i6 < kids1.length)) (grd (decide (t5.length+(kids1.getD i6.toNat ([]:List Nod)).length<=qXE)) (some (Ex.normal,(kids1,t5++(kids1.getD i6.toNat ([]:List Nod)),qI (i6+1),())))))
 (some (Ex.exit 0,(kids1,t5,i6,())))
def qUO (n0:Nod) (kids1:List (List Nod)):Option (((List Nod)×Unit)×Unit):=
 (qOA qNT (kids1,([(n0.1,n0.2.1,n0.2.2.1,n0.2.2.2.1,(kids1.length:Int))]:List Nod),0,())).bind fun y1=>
 cond (Ex.same y1.1 (Ex.exit 0))
 (some ((y1.2.2.1,()),()))
 (none)
def qWa:Option (((List qBs)×Unit)×Unit):=
 some ((([([97,110,100]:qBs),([111,114]:qBs),([110,111,116]:qBs),([105,116,101]:qBs),([116,114,117,101]:qBs),([102,97,108,115,101]:qBs),([108,101,116]:qBs),([102,111,114,97,108,108]:qBs),([101,120,105,115,116,115]:qBs),([100,105,115,116,105,110,99,116]:qBs),([100,105,118]:qBs),([109,111,100]:qBs),([115,101,108,101,99,116]:qBs),([115,116,111,114,101]:qBs),([99,111,110,115,116]:qBs),([66,111,111,108]:qBs),([73,110,116]:qBs),([82,101,97,108]:qBs),([65,114,114,97,121]:qBs)]:List qBs),()),())
def qUf (x:(List qBs)×qBs×Bool×Int×Unit):Option (Ex×((List qBs)×qBs×Bool×Int×Unit)):=
 let l0:=x.1
 let s1:=x.2.1
 let t4:=x.2.2.1
 let i5:=x.2.2.2.1
 cond (decide (i5 < (l0.length:Int)))
 (grd (decide (0<=i5)&&decide (i5 < l0.length)) (
 cond ((l0.getD i5.toNat ([]:qBs))==s1)
 (some (Ex.ret,(l0,s1,true,i5,())))
 (some (Ex.normal,(l0,s1,t4,qI (i5+1),())))))
 (some (Ex.exit 0,(l0,s1,t4,i5,())))
def r_in (l0:List qBs) (s1:qBs):Option ((Bool×Unit)×Unit):=
 (qOA qUf (l0,s1,false,0,())).bind fun y1=>
 cond (Ex.same y1.1 (Ex.exit 0))
 (some ((false,()),()))
 (cond (Ex.same y1.1 Ex.ret)
 (some ((y1.2.2.2.1,()),()))
 (none))
def qJd (c0:Int):Option ((Bool×Unit)×Unit):=
 cond (decide (c0>=97))
 (cond (decide (c0<=122))
 (some ((true,()),()))
 (cond (decide (c0>=65))
 (some ((decide (c0<=90),()),()))
 (some ((false,()),()))))
 (cond (decide (c0>=65))
 (some ((decide (c0<=90),()),()))
 (some ((false,()),())))
def qKT (x:qBs×Bool×Int×Unit):Option (Ex×(qBs×Bool×Int×Unit)):=
 let s0:=x.1
 let t2:=x.2.1
 let i3:=x.2.2.1
 cond (decide (i3 < (s0.length:Int)))
 (grd (decide (0<=i3)&&decide (i3 < s0.length)) (
 (qJd ((s0.getD i3.toNat 0).toNat:Int)).bind fun r1=>
 cond (r1.1.1)
 (some (Ex.normal,(s0,t2,qI (i3+1),())))
 (cond (((s0.getD i3.toNat 0).toNat:Int)==95)
 (some (Ex.normal,(s0,t2,qI (i3+1),())))
 (cond (((s0.getD i3.toNat 0).toNat:Int)==36)
 (some (Ex.normal,(s0,t2,qI (i3+1),())))
 (cond (!(((s0.getD i3.toNat 0).toNat:Int)==33))
 (cond (i3==0)
 (some (Ex.ret,(s0,false,i3,())))
 (cond (decide (((s0.getD i3.toNat 0).toNat:Int) < (48:Int)))
 (cond (((s0.getD i3.toNat 0).toNat:Int) !=(46:Int))
 (cond (((s0.getD i3.toNat 0).toNat:Int) !=(64:Int))
 (some (Ex.ret,(s0,false,i3,())))
 (some (Ex.normal,(s0,t2,qI (i3+1),()))))
 (some (Ex.normal,(s0,t2,qI (i3+1),()))))
 (cond (decide (((s0.getD i3.toNat 0).toNat:Int) > (57:Int)))
 (cond (((s0.getD i3.toNat 0).toNat:Int) !=(46:Int))
 (cond (((s0.getD i3.toNat 0).toNat:Int) !=(64:Int))
 (some (Ex.ret,(s0,false,i3,())))
 (some (Ex.normal,(s0,t2,qI (i3+1),()))))
 (some (Ex.normal,(s0,t2,qI (i3+1),()))))
 (some (Ex.normal,(s0,t2,qI (i3+1),()))))))
 (some (Ex.normal,(s0,t2,qI (i3+1),()))))))))
 (some (Ex.exit 0,(s0,t2,i3,())))
def qVm (s0:qBs):Option ((Bool×Unit)×Unit):=
 cond (s0==([]:qBs))
 (some ((false,()),()))
 (cond (decide ((s0.length:Int) > (40:Int)))
 (some ((false,()),()))
 (qWa.bind fun r1=>
 (r_in r1.1.1 s0).bind fun r2=>
 cond (r2.1.1)
 (some ((false,()),()))
 ((qOA qKT (s0,false,0,())).bind fun y3=>
 cond (Ex.same y3.1 (Ex.exit 0))
 (some ((true,()),()))
 (cond (Ex.same y3.1 Ex.ret)
 (some ((y3.2.2.1,()),()))
 (none)))))
def qId (s0:Int):Option ((Bool×Unit)×Unit):=
 cond (decide (s0>=1))
 (some ((decide (s0<=4),()),()))
 (some ((false,()),()))
def qDd (x0:Nod):Option ((Bool×Unit)×Unit):=
 cond (x0.1==3)
 (cond (x0.2.2.1==([]:qBs))
 (cond (x0.2.1==2)
 ((qHG x0.2.2.2.1).bind fun r1=>
 cond (r1.1.1)
 (some ((true,()),()))
 (cond (x0.2.1==3)
 ((qSN x0.2.2.2.1).bind fun r2=>
 some ((r2.1.1,()),()))
 (some ((false,()),()))))
 (cond (x0.2.1==3)
 ((qSN x0.2.2.2.1).bind fun r3=>
 some ((r3.1.1,()),()))
 (some ((false,()),()))))
 (some ((false,()),())))
 (cond (x0.1==4)
 (cond (x0.2.2.2.1==([]:qBs))
 ((qVm x0.2.2.1).bind fun r4=>
 cond (r4.1.1)
 ((qId x0.2.1).bind fun r5=>
 some ((r5.1.1,()),()))
 (some ((false,()),())))
 (some ((false,()),())))
 (cond (x0.1==5)
 (cond (x0.2.2.2.1==([]:qBs))
 ((qVm x0.2.2.1).bind fun r6=>
 cond (r6.1.1)
 ((qId x0.2.1).bind fun r7=>
 some ((r7.1.1,()),()))
 (some ((false,()),())))
 (some ((false,()),())))
 (cond (x0.1==16)
 (cond (x0.2.1==0)
 (cond (x0.2.2.1==([]:qBs))
 ((qHG x0.2.2.2.1).bind fun r8=>
 cond (r8.1.1)
 ((qIi x0.2.2.2.1).bind fun r9=>
 some ((decide (r9.1.1 > (0:Int)),()),()))
 (some ((false,()),())))
 (some ((false,()),())))
 (some ((false,()),())))
 (cond (x0.1==17)
 (cond (x0.2.1==0)
 (cond (x0.2.2.1==([]:qBs))
 ((qHG x0.2.2.2.1).bind fun r10=>
 cond (r10.1.1)
 ((qIi x0.2.2.2.1).bind fun r11=>
 some ((decide (r11.1.1 > (0:Int)),()),()))
 (some ((false,()),())))
 (some ((false,()),())))
 (some ((false,()),())))
 (cond (decide (x0.1>=1))
 (cond (decide (x0.1<=20))
 (cond (x0.2.1==0)
 (cond (x0.2.2.1==([]:qBs))
 (some ((x0.2.2.2.1==([]:qBs),()),()))
 (some ((false,()),())))
 (some ((false,()),())))
 (some ((false,()),())))
 (some ((false,()),())))))))
def qPf (op0:Int) (n1:Int):Option ((Bool×Unit)×Unit):=
 cond (op0==1)
 (some ((n1==0,()),()))
 (cond (op0==2)
 (some ((n1==0,()),()))
 (cond (op0==3)
 (some ((n1==0,()),()))
 (cond (op0==4)
 (some ((n1==0,()),()))
 (cond (op0==5)
 (cond (decide (n1>=1))
 (some ((decide (n1<=40),()),()))
 (some ((false,()),())))
 (cond (op0==6)
 (some ((n1==1,()),()))
 (cond (op0==16)
 (some ((n1==1,()),()))
 (cond (op0==17)
 (some ((n1==1,()),()))
 (cond (op0==20)
 (some ((n1==1,()),()))
 (cond (op0==7)
 (some ((decide (n1>=0),()),()))
 (cond (op0==8)
 (some ((decide (n1>=0),()),()))
 (cond (op0==10)
 (some ((n1==3,()),()))
 (cond (op0==19)
 (some ((n1==3,()),()))
 (cond (op0==14)
 (some ((decide (n1>=1),()),()))
 (some ((n1==2,()),())))))))))))))))
def qWT (x:(List Int)×Int×Int×Int×Int×Unit):Option (Ex×((List Int)×Int×Int×Int×Int×Unit)):=
 let s0:=x.1
 let sort1:=x.2.1
 let out2:=x.2.2.1
 let t6:=x.2.2.2.1
 let i7:=x.2.2.2.2.1
 cond (decide (i7 < (s0.length:Int)))
 (grd (decide (0<=i7)&&decide (i7 < s0.length)) (
 cond ((s0.getD i7.toNat (0:Int)) !=sort1)
 (some (Ex.ret,(s0,sort1,out2,0,i7,())))
 (some (Ex.normal,(s0,sort1,out2,t6,qI (i7+1),())))))
 (some (Ex.exit 0,(s0,sort1,out2,t6,i7,())))
def qOP (s0:List Int) (sort1:Int) (out2:Int):Option ((Int×Unit)×Unit):=
 (qOA qWT (s0,sort1,out2,0,0,())).bind fun y1=>
 cond (Ex.same y1.1 (Ex.exit 0))
 (some ((y1.2.2.2.1,()),()))
 (cond (Ex.same y1.1 Ex.ret)
 (some ((y1.2.2.2.2.1,()),()))
 (none))
def qHT (s0:Int):Option ((Bool×Unit)×Unit):=
 cond (s0==2)
 (some ((true,()),()))
 (some ((s0==3,()),()))
def qIX (x0:Nod) (first1:Int) (s2:List Int):Option ((Int×Unit)×Unit):=
 cond (x0.1==1)
 (some ((1,()),()))
 (cond (x0.1==2)
 (some ((1,()),()))
 (cond (x0.1==3)
 (some ((x0.2.1,()),()))
 (cond (x0.1==4)
 (some ((x0.2.1,()),()))
 (cond (x0.1==5)
 (some ((x0.2.1,()),()))
 (cond (x0.1==6)
 ((qOP s2 1 1).bind fun r1=>
 some ((r1.1.1,()),()))
 (cond (x0.1==7)
 ((qOP s2 1 1).bind fun r2=>
 some ((r2.1.1,()),()))
 (cond (x0.1==8)
 ((qOP s2 1 1).bind fun r3=>
 some ((r3.1.1,()),()))
 (cond (x0.1==9)
 ((qOP s2 1 1).bind fun r4=>
 some ((r4.1.1,()),()))
 (cond (x0.1==10)
 (grd (decide (0<=(0:Int))&&decide ((0:Int) < s2.length)) (
 cond ((s2.getD (0:Int).toNat (0:Int))==1)
 (grd (decide (0<=(1:Int))&&decide ((1:Int) < s2.length)) (
 grd (decide (0<=(2:Int))&&decide ((2:Int) < s2.length)) (
 cond ((s2.getD (1:Int).toNat (0:Int))==(s2.getD (2:Int).toNat (0:Int)))
 (grd (decide (0<=(1:Int))&&decide ((1:Int) < s2.length)) (some ((s2.getD (1:Int).toNat (0:Int),()),())))
 (some ((0,()),())))))
 (some ((0,()),()))))
 (cond (x0.1==11)
 (grd (decide (0<=(0:Int))&&decide ((0:Int) < s2.length)) (
 (qOP s2 (s2.getD (0:Int).toNat (0:Int)) 1).bind fun r5=>
 some ((r5.1.1,()),())))
 (cond (x0.1==12)
 (grd (decide (0<=(0:Int))&&decide ((0:Int) < s2.length)) (
 (qHT (s2.getD (0:Int).toNat (0:Int))).bind fun r6=>
 cond (r6.1.1)
 (grd (decide (0<=(0:Int))&&decide ((0:Int) < s2.length)) (
 (qOP s2 (s2.getD (0:Int).toNat (0:Int)) 1).bind fun r7=>
 some ((r7.1.1,()),())))
 (some ((0,()),()))))
 (cond (x0.1==13)
 (grd (decide (0<=(0:Int))&&decide ((0:Int) < s2.length)) (
 (qHT (s2.getD (0:Int).toNat (0:Int))).bind fun r8=>
 cond (r8.1.1)
 (grd (decide (0<=(0:Int))&&decide ((0:Int) < s2.length)) (
 (qOP s2 (s2.getD (0:Int).toNat (0:Int)) 1).bind fun r9=>
 some ((r9.1.1,()),())))
 (some ((0,()),()))))
 (cond (x0.1==14)
 (grd (decide (0<=(0:Int))&&decide ((0:Int) < s2.length)) (
 (qHT (s2.getD (0:Int).toNat (0:Int))).bind fun r10=>
 cond (r10.1.1)
 (grd (decide (0<=(0:Int))&&decide ((0:Int) < s2.length)) (
 grd (decide (0<=(0:Int))&&decide ((0:Int) < s2.length)) (
 (qOP s2 (s2.getD (0:Int).toNat (0:Int)) (s2.getD (0:Int).toNat (0:Int))).bind fun r11=>
 some ((r11.1.1,()),()))))
 (some ((0,()),()))))
 (cond (x0.1==15)
 (cond (first1==3)
 (grd (decide (0<=(0:Int))&&decide ((0:Int) < s2.length)) (
 grd (decide (0<=(0:Int))&&decide ((0:Int) < s2.length)) (
 (qOP s2 (s2.getD (0:Int).toNat (0:Int)) (s2.getD (0:Int).toNat (0:Int))).bind fun r12=>
 some ((r12.1.1,()),()))))
 (some ((0,()),())))
 (cond (x0.1==16)
 ((qOP s2 2 2).bind fun r13=>
 some ((r13.1.1,()),()))
 (cond (x0.1==17)
 ((qOP s2 2 2).bind fun r14=>
 some ((r14.1.1,()),()))
 (cond (x0.1==20)
 ((qOP s2 2 4).bind fun r15=>
 some ((r15.1.1,()),()))
 (cond (x0.1==18)
 (grd (decide (0<=(0:Int))&&decide ((0:Int) < s2.length)) (
 cond ((s2.getD (0:Int).toNat (0:Int))==4)
 (grd (decide (0<=(1:Int))&&decide ((1:Int) < s2.length)) (
 cond ((s2.getD (1:Int).toNat (0:Int))==2)
 (some ((2,()),()))
 (some ((0,()),()))))
 (some ((0,()),()))))
 (cond (x0.1==19)
 (grd (decide (0<=(0:Int))&&decide ((0:Int) < s2.length)) (
 cond ((s2.getD (0:Int).toNat (0:Int))==4)
 (grd (decide (0<=(1:Int))&&decide ((1:Int) < s2.length)) (
 cond ((s2.getD (1:Int).toNat (0:Int))==2)
 (grd (decide (0<=(2:Int))&&decide ((2:Int) < s2.length)) (
 cond ((s2.getD (2:Int).toNat (0:Int))==2)
 (some ((4,()),()))
 (some ((0,()),()))))
 (some ((0,()),()))))
 (some ((0,()),()))))
 (some ((0,()),())))))))))))))))))))))
def qBN (qYaz:List Nod->Int->Int->Option ((Int×Int×Unit)×Unit)) (x:(List Nod)×Int×Int×Int×Int×(List Int)×Int×Bool×Int×Unit):Option (Ex×((List Nod)×Int×Int×Int×Int×(List Int)×Int×Bool×Int×Unit)):=
 let t0:=x.1
 let i1:=x.2.1
 let depth2:=x.2.2.1
 let t6:=x.2.2.2.1
 let t7:=x.2.2.2.2.1
 let s8:=x.2.2.2.2.2.1
 let end9:=x.2.2.2.2.2.2.1
 let good10:=x.2.2.2.2.2.2.2.1
 let k11:=x.2.2.2.2.2.2.2.2.1
 grd (decide (0<=i1)&&decide (i1 < t0.length)) (
 cond (decide (k11 < (((((t0.getD i1.toNat qSE).2).2).2).2)))
 ((qYaz t0 end9 (qI (depth2+1))).bind fun r1=>
 cond (decide (r1.1.1 < (0:Int)))
 (some (Ex.ret,(t0,i1,depth2,-1,0,s8,r1.1.1,good10,k11,())))
 (cond (good10)
 (grd (decide (s8.length+([r1.1.2.1]:List Int).length<=qXE)) (some (Ex.normal,(t0,i1,depth2,t6,t7,s8++([r1.1.2.1]:List Int),r1.1.1,decide (r1.1.2.1 > (0:Int)),qI (k11+1),()))))
 (grd (decide (s8.length+([r1.1.2.1]:List Int).length<=qXE)) (some (Ex.normal,(t0,i1,depth2,t6,t7,s8++([r1.1.2.1]:List Int),r1.1.1,false,qI (k11+1),()))))))
 (some (Ex.exit 0,(t0,i1,depth2,t6,t7,s8,end9,good10,k11,()))))
def qAd (qYaz:List Nod->Int->Int->Option ((Int×Int×Unit)×Unit)) (t0:List Nod) (i1:Int) (depth2:Int):Option ((Int×Int×Unit)×Unit):=
 cond (decide (i1>=(t0.length:Int)))
 (some ((-1,0,()),()))
 (cond (decide (depth2 > (256:Int)))
 (some ((-1,0,()),()))
 (grd (decide (0<=i1)&&decide (i1 < t0.length)) (
 (qDd (t0.getD i1.toNat qSE)).bind fun r1=>
 cond (!r1.1.1)
 (some ((-1,0,()),()))
 (grd (decide (0<=i1)&&decide (i1 < t0.length)) (
 grd (decide (0<=i1)&&decide (i1 < t0.length)) (
 (qPf ((t0.getD i1.toNat qSE).1) (((((t0.getD i1.toNat qSE).2).2).2).2)).bind fun r2=>
 cond (!r2.1.1)
 (some ((-1,0,()),()))
 (grd (decide (0<=i1)&&decide (i1 < t0.length)) (
 cond (decide ((((((t0.getD i1.toNat qSE).2).2).2).2) > (t0.length:Int)))
 (some ((-1,0,()),()))
 ((qOA (qBN qYaz) (t0,i1,depth2,0,0,([]:List Int),qI (i1+1),true,0,())).bind fun y3=>
 cond (Ex.same y3.1 (Ex.exit 0))
 (cond (!y3.2.2.2.2.2.2.2.2.1)
 (some ((y3.2.2.2.2.2.2.2.1,0,()),()))
 (cond (decide ((y3.2.2.2.2.2.2.1.length:Int) > (0:Int)))
 (grd (decide (0<=qI (y3.2.2.1+1))&&decide (qI (y3.2.2.1+1) < y3.2.1.length)) (
 grd (decide (0<=y3.2.2.1)&&decide (y3.2.2.1 < y3.2.1.length)) (
 (qIX (y3.2.1.getD y3.2.2.1.toNat qSE) ((y3.2.1.getD (qI (y3.2.2.1+1)).toNat qSE).1) y3.2.2.2.2.2.2.1).bind fun r4=>
 some ((y3.2.2.2.2.2.2.2.1,r4.1.1,()),()))))
 (grd (decide (0<=y3.2.2.1)&&decide (y3.2.2.1 < y3.2.1.length)) (
 (qIX (y3.2.1.getD y3.2.2.1.toNat qSE) 0 y3.2.2.2.2.2.2.1).bind fun r5=>
 some ((y3.2.2.2.2.2.2.2.1,r5.1.1,()),())))))
 (cond (Ex.same y3.1 Ex.ret)
 (some ((y3.2.2.2.2.1,y3.2.2.2.2.2.1,()),()))
 (none)))))))))))
def qFY:Nat->List Nod->Int->Int->Option ((Int×Int×Unit)×Unit)
 |0=>fun _ _ _=>none
 |n+1=>qAd (qFY n)
def qOG (x:(List Nod)×Int×(List Int)×Int×Int×Unit):Option (Ex×((List Nod)×Int×(List Int)×Int×Int×Unit)):=
 let t0:=x.1
 let i1:=x.2.1
 let out5:=x.2.2.1
 let at6:=x.2.2.2.1
 let k7:=x.2.2.2.2.1
 grd (decide (0<=i1)&&decide (i1 < t0.length)) (
 cond (decide (k7 < (((((t0.getD i1.toNat qSE).2).2).2).2)))
 ((qFY big t0 at6 0).bind fun r1=>
 grd (decide (out5.length+([r1.1.2.1]:List Int).length<=qXE)) (some (Ex.normal,(t0,i1,out5++([r1.1.2.1]:List Int),r1.1.1,qI (k7+1),()))))
 (some (Ex.exit 0,(t0,i1,out5,at6,k7,()))))
def qBQ (t0:List Nod) (i1:Int):Option (((List Int)×Unit)×Unit):=
 (qOA qOG (t0,i1,([]:List Int),qI (i1+1),0,())).bind fun y1=>
 cond (Ex.same y1.1 (Ex.exit 0))
 (some ((y1.2.2.2.1,()),()))
 (none)
def qUc (t0:List Nod) (i1:Int):Option (((qBs×qCA)×Unit)×Unit):=
 grd (decide (0<=i1)&&decide (i1 < t0.length)) (
 (qBQ t0 i1).bind fun r1=>
 grd (decide (0<=i1)&&decide (i1 < t0.length)) (some ((((((t0.getD i1.toNat qSE).2).2).1,r1.1.1,((t0.getD i1.toNat qSE).2).1),()),())))
def qKJ (x:(List Int)×(List Int)×Bool×Int×Unit):Option (Ex×((List Int)×(List Int)×Bool×Int×Unit)):=
 let a0:=x.1
 let b1:=x.2.1
 let t4:=x.2.2.1
 let i5:=x.2.2.2.1
 cond (decide (i5 < (a0.length:Int)))
 (grd (decide (0<=i5)&&decide (i5 < a0.length)) (
 grd (decide (0<=i5)&&decide (i5 < b1.length)) (
 cond ((a0.getD i5.toNat (0:Int)) !=(b1.getD i5.toNat (0:Int)))
 (some (Ex.ret,(a0,b1,false,i5,())))
 (some (Ex.normal,(a0,b1,t4,qI (i5+1),()))))))
 (some (Ex.exit 0,(a0,b1,t4,i5,())))
def qSR (a0:List Int) (b1:List Int):Option ((Bool×Unit)×Unit):=
 cond ((a0.length:Int) !=(b1.length:Int))
 (some ((false,()),()))
 ((qOA qKJ (a0,b1,false,0,())).bind fun y1=>
 cond (Ex.same y1.1 (Ex.exit 0))
 (some ((true,()),()))
 (cond (Ex.same y1.1 Ex.ret)
 (some ((y1.2.2.2.1,()),()))
 (none)))
def qGH (x:(List Nod)×Bool×(List Vr)×(List (qBs×qCA))×Int×Bool×Int×Unit):Option (Ex×((List Nod)×Bool×(List Vr)×(List (qBs×qCA))×Int×Bool×Int×Unit)):=
 let t0:=x.1
 let t2:=x.2.1
 let vars3:=x.2.2.1
 let funcs4:=x.2.2.2.1
 let i5:=x.2.2.2.2.1
 let known6:=x.2.2.2.2.2.1
 let k7:=x.2.2.2.2.2.2.1
 cond (decide (k7 < (vars3.length:Int)))
 (grd (decide (0<=k7)&&decide (k7 < vars3.length)) (
 grd (decide (k7.toNat < vars3.length)) (
 grd (decide (0<=i5)&&decide (i5 < t0.length)) (
 cond (((vars3.getD k7.toNat zVr).1)==((((t0.getD i5.toNat qSE).2).2).1))
 (grd (decide (0<=k7)&&decide (k7 < vars3.length)) (
 grd (decide (k7.toNat < vars3.length)) (
 grd (decide (0<=i5)&&decide (i5 < t0.length)) (
 cond (((vars3.getD k7.toNat zVr).2) !=(((t0.getD i5.toNat qSE).2).1))
 (some (Ex.ret,(t0,false,vars3,funcs4,i5,true,k7,())))
 (some (Ex.normal,(t0,t2,vars3,funcs4,i5,true,qI (k7+1),())))))))
 (some (Ex.normal,(t0,t2,vars3,funcs4,i5,known6,qI (k7+1),())))))))
 (some (Ex.exit 3,(t0,t2,vars3,funcs4,i5,known6,k7,())))
def qIH (x:(List Nod)×Bool×(List Vr)×(List (qBs×qCA))×Int×(qBs×qCA)×Bool×Int×Unit):Option (Ex×((List Nod)×Bool×(List Vr)×(List (qBs×qCA))×Int×(qBs×qCA)×Bool×Int×Unit)):=
 let t0:=x.1
 let t2:=x.2.1
 let vars3:=x.2.2.1
 let funcs4:=x.2.2.2.1
 let i5:=x.2.2.2.2.1
 let f8:=x.2.2.2.2.2.1
 let known9:=x.2.2.2.2.2.2.1
 let k10:=x.2.2.2.2.2.2.2.1
 cond (decide (k10 < (funcs4.length:Int)))
 (grd (decide (0<=k10)&&decide (k10 < funcs4.length)) (
 grd (decide (k10.toNat < funcs4.length)) (
 cond (((funcs4.getD k10.toNat (([]:qBs),([]:List Int),(0:Int))).1)==f8.1)
 (grd (decide (0<=k10)&&decide (k10 < funcs4.length)) (
 grd (decide (k10.toNat < funcs4.length)) (
 cond ((((funcs4.getD k10.toNat (([]:qBs),([]:List Int),(0:Int))).2).2) !=f8.2.2)
 (some (Ex.ret,(t0,false,vars3,funcs4,i5,f8,true,k10,())))
 (grd (decide (0<=k10)&&decide (k10 < funcs4.length)) (
 grd (decide (k10.toNat < funcs4.length)) (
 (qSR (((funcs4.getD k10.toNat (([]:qBs),([]:List Int),(0:Int))).2).1) f8.2.1).bind fun r1=>
 cond (!r1.1.1)
 (some (Ex.ret,(t0,false,vars3,funcs4,i5,f8,true,k10,())))
 (some (Ex.normal,(t0,t2,vars3,funcs4,i5,f8,true,qI (k10+1),())))))))))
 (some (Ex.normal,(t0,t2,vars3,funcs4,i5,f8,known9,qI (k10+1),()))))))
 (some (Ex.exit 5,(t0,t2,vars3,funcs4,i5,f8,known9,k10,())))
def qXG (x:(List Nod)×Bool×(List Vr)×(List (qBs×qCA))×Int×Unit):Option (Ex×((List Nod)×Bool×(List Vr)×(List (qBs×qCA))×Int×Unit)):=
 let t0:=x.1
 let t2:=x.2.1
 let vars3:=x.2.2.1
 let funcs4:=x.2.2.2.1
 let i5:=x.2.2.2.2.1
 cond (decide (i5 < (t0.length:Int)))
 (grd (decide (0<=i5)&&decide (i5 < t0.length)) (
 cond (((t0.getD i5.toNat qSE).1)==4)
 ((qOA qGH (t0,t2,vars3,funcs4,i5,false,0,())).bind fun y1=>
 cond (Ex.same y1.1 (Ex.exit 3))
 (cond (!y1.2.2.2.2.2.2.1)
 (grd (decide (0<=y1.2.2.2.2.2.1)&&decide (y1.2.2.2.2.2.1 < y1.2.1.length)) (grd (decide (0<=y1.2.2.2.2.2.1)&&decide (y1.2.2.2.2.2.1 < y1.2.1.length)) (grd (decide (y1.2.2.2.1.length+([((((y1.2.1.getD y1.2.2.2.2.2.1.toNat qSE).2).2).1,((y1.2.1.getD y1.2.2.2.2.2.1.toNat qSE).2).1)]:List Vr).length<=qXE)) (some (Ex.normal,(y1.2.1,y1.2.2.1,y1.2.2.2.1++([((((y1.2.1.getD y1.2.2.2.2.2.1.toNat qSE).2).2).1,((y1.2.1.getD y1.2.2.2.2.2.1.toNat qSE).2).1)]:List Vr),y1.2.2.2.2.1,qI (y1.2.2.2.2.2.1+1),()))))))
 (some (Ex.normal,(y1.2.1,y1.2.2.1,y1.2.2.2.1,y1.2.2.2.2.1,qI (y1.2.2.2.2.2.1+1),()))))
 (cond (Ex.same y1.1 Ex.ret)
 (some (Ex.ret,(y1.2.1,y1.2.2.1,y1.2.2.2.1,y1.2.2.2.2.1,y1.2.2.2.2.2.1,())))
 (none)))
 (cond (((t0.getD i5.toNat qSE).1)==5)
 ((qUc t0 i5).bind fun r2=>
 (qOA qIH (t0,t2,vars3,funcs4,i5,r2.1.1,false,0,())).bind fun y3=>
 cond (Ex.same y3.1 (Ex.exit 5))
 (cond (!y3.2.2.2.2.2.2.2.1)
 (grd (decide (y3.2.2.2.2.1.length+([y3.2.2.2.2.2.2.1]:List (qBs×qCA)).length<=qXE)) (some (Ex.normal,(y3.2.1,y3.2.2.1,y3.2.2.2.1,y3.2.2.2.2.1++([y3.2.2.2.2.2.2.1]:List (qBs×qCA)),qI (y3.2.2.2.2.2.1+1),()))))
 (some (Ex.normal,(y3.2.1,y3.2.2.1,y3.2.2.2.1,y3.2.2.2.2.1,qI (y3.2.2.2.2.2.1+1),()))))
 (cond (Ex.same y3.1 Ex.ret)
 (some (Ex.ret,(y3.2.1,y3.2.2.1,y3.2.2.2.1,y3.2.2.2.2.1,y3.2.2.2.2.2.1,())))
 (none)))
 (some (Ex.normal,(t0,t2,vars3,funcs4,qI (i5+1),()))))))
 (some (Ex.exit 0,(t0,t2,vars3,funcs4,i5,())))
def qCH (x:Bool×(List Vr)×(List (qBs×qCA))×Int×Int×Unit):Option (Ex×(Bool×(List Vr)×(List (qBs×qCA))×Int×Int×Unit)):=
 let t2:=x.1
 let vars3:=x.2.1
 let funcs4:=x.2.2.1
 let i11:=x.2.2.2.1
 let k12:=x.2.2.2.2.1
 cond (decide (k12 < (funcs4.length:Int)))
 (grd (decide (0<=i11)&&decide (i11 < vars3.length)) (
 grd (decide (i11.toNat < vars3.length)) (
 grd (decide (0<=k12)&&decide (k12 < funcs4.length)) (
 grd (decide (k12.toNat < funcs4.length)) (
 cond (((vars3.getD i11.toNat zVr).1)==((funcs4.getD k12.toNat (([]:qBs),([]:List Int),(0:Int))).1))
 (some (Ex.ret,(false,vars3,funcs4,i11,k12,())))
 (some (Ex.normal,(t2,vars3,funcs4,i11,qI (k12+1),()))))))))
 (some (Ex.exit 9,(t2,vars3,funcs4,i11,k12,())))
def qCG (x:Bool×(List Vr)×(List (qBs×qCA))×Int×Unit):Option (Ex×(Bool×(List Vr)×(List (qBs×qCA))×Int×Unit)):=
 let t2:=x.1
 let vars3:=x.2.1
 let funcs4:=x.2.2.1
 let i11:=x.2.2.2.1
 cond (decide (i11 < (vars3.length:Int)))
 ((qOA qCH (t2,vars3,funcs4,i11,0,())).bind fun y1=>
 cond (Ex.same y1.1 (Ex.exit 9))
 (some (Ex.normal,(y1.2.1,y1.2.2.1,y1.2.2.2.1,qI (y1.2.2.2.2.1+1),())))
 (cond (Ex.same y1.1 Ex.ret)
 (some (Ex.ret,(y1.2.1,y1.2.2.1,y1.2.2.2.1,y1.2.2.2.2.1,())))
 (none)))
 (some (Ex.exit 7,(t2,vars3,funcs4,i11,())))
def qIY (t0:List Nod):Option ((Bool×Unit)×Unit):=
 (qOA qXG (t0,false,([]:List Vr),([]:List (qBs×qCA)),0,())).bind fun y1=>
 cond (Ex.same y1.1 (Ex.exit 0))
 ((qOA qCG (y1.2.2.1,y1.2.2.2.1,y1.2.2.2.2.1,0,())).bind fun y2=>
 cond (Ex.same y2.1 (Ex.exit 7))
 (some ((true,()),()))
 (cond (Ex.same y2.1 Ex.ret)
 (some ((y2.2.1,()),()))
 (none)))
 (cond (Ex.same y1.1 Ex.ret)
 (some ((y1.2.2.1,()),()))
 (none))
def qQY (t0:List Nod):Option ((Int×Unit)×Unit):=
 cond (decide ((t0.length:Int) > (20000:Int)))
 (some ((0,()),()))
 ((qFY big t0 0 0).bind fun r1=>
 cond (r1.1.1 !=(t0.length:Int))
 (some ((0,()),()))
 (cond (r1.1.2.1==0)
 (some ((0,()),()))
 ((qIY t0).bind fun r2=>
 cond (!r2.1.1)
 (some ((0,()),()))
 (some ((r1.1.2.1,()),())))))
def qHS (t0:List Nod):Option ((Bool×Unit)×Unit):=
 (qQY t0).bind fun r1=>
 some ((decide (r1.1.1 > (0:Int)),()),())
def qTG (x:Val×(List Nod)×Int×(List Nod)×Int×Unit):Option (Ex×(Val×(List Nod)×Int×(List Nod)×Int×Unit)):=
 let v1:=x.1
 let t2:=x.2.1
 let t3:=x.2.2.1
 let t4:=x.2.2.2.1
 let i5:=x.2.2.2.2.1
 cond (decide (i5 < (v1.2.2.2.1.length:Int)))
 (cond (decide ((t4.length:Int) > (20000:Int)))
 (some (Ex.ret,(v1,([]:List Nod),6,t4,i5,())))
 (grd (decide (0<=i5)&&decide (i5 < v1.2.2.2.1.length)) (
 (qBM 2 (v1.2.2.2.1.getD i5.toNat ([]:qBs))).bind fun r1=>
 grd (decide (0<=i5)&&decide (i5 < v1.2.2.2.2.length)) (
 (qBM 2 (v1.2.2.2.2.getD i5.toNat ([]:qBs))).bind fun r2=>
 (qUO (19,(0:Int),([]:qBs),([]:qBs),(0:Int)) ([t4,r1.1.1,r2.1.1]:List (List Nod))).bind fun r3=>
 some (Ex.normal,(v1,t2,t3,r3.1.1,qI (i5+1),()))))))
 (some (Ex.exit 1,(v1,t2,t3,t4,i5,())))
def qHI (v0:Val):Option (((List Nod)×Int×Unit)×Unit):=
 (qUM v0).bind fun r1=>
 cond (!r1.1.1)
 (some ((([]:List Nod),1,()),()))
 (cond (v0.1==1)
 ((qUk v0.2.1).bind fun r2=>
 some ((r2.1.1,0,()),()))
 (cond (v0.1==2)
 ((qBM v0.1 v0.2.2.1).bind fun r3=>
 some ((r3.1.1,0,()),()))
 (cond (v0.1==3)
 ((qBM v0.1 v0.2.2.1).bind fun r4=>
 some ((r4.1.1,0,()),()))
 ((qBM 2 v0.2.2.1).bind fun r5=>
 (qUO (20,(0:Int),([]:qBs),([]:qBs),(0:Int)) ([r5.1.1]:List (List Nod))).bind fun r6=>
 (qOA qTG (v0,([]:List Nod),0,r6.1.1,0,())).bind fun y7=>
 cond (Ex.same y7.1 (Ex.exit 1))
 ((qHS y7.2.2.2.2.1).bind fun r8=>
 cond (!r8.1.1)
 (some ((([]:List Nod),6,()),()))
 (some ((y7.2.2.2.2.1,0,()),())))
 (cond (Ex.same y7.1 Ex.ret)
 (some ((y7.2.2.1,y7.2.2.2.1,()),()))
 (none))))))
def qLD (x:qCA×Int×(List Vr)×(List Vr)×Int×Unit):Option (Ex×(qCA×Int×(List Vr)×(List Vr)×Int×Unit)):=
 let c0:=x.1
 let sort1:=x.2.1
 let vars2:=x.2.2.1
 let l7:=x.2.2.2.1
 let i8:=x.2.2.2.2.1
 cond (decide (i8 < (vars2.length:Int)))
 (grd (decide (0<=i8)&&decide (i8 < vars2.length)) (
 cond (((vars2.getD i8.toNat zVr).2)==sort1)
 (grd (decide (0<=i8)&&decide (i8 < vars2.length)) (grd (decide (l7.length+([vars2.getD i8.toNat zVr]:List Vr).length<=qXE)) (some (Ex.normal,(c0,sort1,vars2,l7++([vars2.getD i8.toNat zVr]:List Vr),qI (i8+1),())))))
 (some (Ex.normal,(c0,sort1,vars2,l7,qI (i8+1),())))))
 (some (Ex.exit 0,(c0,sort1,vars2,l7,i8,())))
def qCB (c0:qCA) (sort1:Int) (vars2:List Vr):Option (((List Nod)×Unit)×(qCA×Unit)):=
 (qOA qLD (c0,sort1,vars2,([]:List Vr),0,())).bind fun y1=>
 cond (Ex.same y1.1 (Ex.exit 0))
 (cond ((y1.2.2.2.2.1.length:Int)==0)
 ((qRE y1.2.1 y1.2.2.1).bind fun r2=>
 (qHI r2.1.1).bind fun r3=>
 some ((r3.1.1,()),r2.2.1,()))
 ((qFA y1.2.1 (y1.2.2.2.2.1.length:Int)).bind fun r4=>
 grd (decide (0<=r4.1.1)&&decide (r4.1.1 < y1.2.2.2.2.1.length)) (grd (decide (r4.1.1.toNat < y1.2.2.2.2.1.length)) (some ((([(4,y1.2.2.1,(y1.2.2.2.2.1.getD r4.1.1.toNat zVr).1,([]:qBs),(0:Int))]:List Nod),()),r4.2.1,())))))
 (none)
def qLM (c0:qCA):Option ((Bool×Unit)×(qCA×Unit)):=
 some ((decide (c0.2 < (c0.1.length:Int)),()),c0,())
def qNc (o0:Int) (l1:List (List Nod)):Option (((List Nod)×Unit)×Unit):=
 (qUO (o0,(0:Int),([]:qBs),([]:qBs),(0:Int)) l1).bind fun r1=>
 some ((r1.1.1,()),())
def qWF (qUaz:qCA->Int->Int->List Vr->Option (((List Nod)×Unit)×(qCA×Unit))) (qTaz:qCA->Int->List Vr->Option (((List Nod)×Unit)×(qCA×Unit))) (qXaz:qCA->Int->Int->List Vr->Option (((List Nod)×Unit)×(qCA×Unit))) (qVaz:qCA->Int->Int->List Vr->Option (((List Nod)×Unit)×(qCA×Unit))) (qWaz:qCA->Int->List Vr->Option (((List Nod)×Unit)×(qCA×Unit))) (c0:qCA) (sort1:Int) (depth2:Int) (vars3:List Vr):Option (((List Nod)×Unit)×(qCA×Unit)):=
 cond (decide (depth2<=0))
 ((qFA c0 3).bind fun r1=>
 cond (r1.1.1==0)
 ((qRE r1.2.1 sort1).bind fun r2=>
 (qHI r2.1.1).bind fun r3=>
 some ((r3.1.1,()),r2.2.1,()))
 ((qCB r1.2.1 sort1 vars3).bind fun r4=>
 some ((r4.1.1,()),r4.2.1,())))
 ((qLM c0).bind fun r5=>
 cond (!r5.1.1)
 ((qFA r5.2.1 3).bind fun r6=>
 cond (r6.1.1==0)
 ((qRE r6.2.1 sort1).bind fun r7=>
 (qHI r7.1.1).bind fun r8=>
 some ((r8.1.1,()),r7.2.1,()))
 ((qCB r6.2.1 sort1 vars3).bind fun r9=>
 some ((r9.1.1,()),r9.2.1,())))
 (cond (sort1==1)
 ((qTaz r5.2.1 depth2 vars3).bind fun r10=>
 some ((r10.1.1,()),r10.2.1,()))
 (cond (sort1==4)
 ((qFA r5.2.1 5).bind fun r11=>
 cond (r11.1.1==0)
 ((qUaz r11.2.1 2 (qI (depth2 - (1:Int))) vars3).bind fun r12=>
 (qNc 20 ([r12.1.1]:List (List Nod))).bind fun r13=>
 some ((r13.1.1,()),r12.2.1,()))
 (cond (r11.1.1==1)
 ((qUaz r11.2.1 4 (qI (depth2 - (1:Int))) vars3).bind fun r14=>
 (qUaz r14.2.1 2 (qI (depth2 - (1:Int))) vars3).bind fun r15=>
 (qUaz r15.2.1 2 (qI (depth2 - (1:Int))) vars3).bind fun r16=>
 (qNc 19 ([r14.1.1,r15.1.1,r16.1.1]:List (List Nod))).bind fun r17=>
 some ((r17.1.1,()),r16.2.1,()))
 (cond (r11.1.1==2)
 ((qUaz r11.2.1 4 (qI (depth2 - (1:Int))) vars3).bind fun r18=>
 (qUaz r18.2.1 2 (qI (depth2 - (1:Int))) vars3).bind fun r19=>
 (qUaz r19.2.1 2 (qI (depth2 - (1:Int))) vars3).bind fun r20=>
 (qNc 19 ([r18.1.1,r19.1.1,r20.1.1]:List (List Nod))).bind fun r21=>
 some ((r21.1.1,()),r20.2.1,()))
 (cond (r11.1.1==3)
 ((qXaz r11.2.1 sort1 depth2 vars3).bind fun r22=>
 some ((r22.1.1,()),r22.2.1,()))
 ((qCB r11.2.1 sort1 vars3).bind fun r23=>
 some ((r23.1.1,()),r23.2.1,()))))))
 ((qVaz r5.2.1 sort1 depth2 vars3).bind fun r24=>
 some ((r24.1.1,()),r24.2.1,())))))
def qQB (qUaz:qCA->Int->Int->List Vr->Option (((List Nod)×Unit)×(qCA×Unit))) (qTaz:qCA->Int->List Vr->Option (((List Nod)×Unit)×(qCA×Unit))) (qXaz:qCA->Int->Int->List Vr->Option (((List Nod)×Unit)×(qCA×Unit))) (qVaz:qCA->Int->Int->List Vr->Option (((List Nod)×Unit)×(qCA×Unit))) (qWaz:qCA->Int->List Vr->Option (((List Nod)×Unit)×(qCA×Unit))) (x:qCA×Int×(List Vr)×(List (List Nod))×Int×Unit):Option (Ex×(qCA×Int×(List Vr)×(List (List Nod))×Int×Unit)):=
 let c0:=x.1
 let depth1:=x.2.1
 let vars2:=x.2.2.1
 let l7:=x.2.2.2.1
 let n8:=x.2.2.2.2.1
 cond (decide (n8 > (0:Int)))
 ((qTaz c0 (qI (depth1 - (1:Int))) vars2).bind fun r1=>
 grd (decide (l7.length+([r1.1.1]:List (List Nod)).length<=qXE)) (some (Ex.normal,(r1.2.1,depth1,vars2,l7++([r1.1.1]:List (List Nod)),qI (n8 - (1:Int)),()))))
 (some (Ex.exit 1,(c0,depth1,vars2,l7,n8,())))
def qME (qUaz:qCA->Int->Int->List Vr->Option (((List Nod)×Unit)×(qCA×Unit))) (qTaz:qCA->Int->List Vr->Option (((List Nod)×Unit)×(qCA×Unit))) (qXaz:qCA->Int->Int->List Vr->Option (((List Nod)×Unit)×(qCA×Unit))) (qVaz:qCA->Int->Int->List Vr->Option (((List Nod)×Unit)×(qCA×Unit))) (qWaz:qCA->Int->List Vr->Option (((List Nod)×Unit)×(qCA×Unit))) (c0:qCA) (depth1:Int) (vars2:List Vr):Option (((List Nod)×Unit)×(qCA×Unit)):=
 cond (decide (depth1<=0))
 ((qWaz c0 0 vars2).bind fun r1=>
 some ((r1.1.1,()),r1.2.1,()))
 ((qLM c0).bind fun r2=>
 cond (!r2.1.1)
 ((qWaz r2.2.1 0 vars2).bind fun r3=>
 some ((r3.1.1,()),r3.2.1,()))
 ((qFA r2.2.1 12).bind fun r4=>
 cond (r4.1.1==0)
 ((qTaz r4.2.1 (qI (depth1 - (1:Int))) vars2).bind fun r5=>
 (qNc 6 ([r5.1.1]:List (List Nod))).bind fun r6=>
 some ((r6.1.1,()),r5.2.1,()))
 (cond (r4.1.1==1)
 ((qTaz r4.2.1 (qI (depth1 - (1:Int))) vars2).bind fun r7=>
 (qNc 6 ([r7.1.1]:List (List Nod))).bind fun r8=>
 some ((r8.1.1,()),r7.2.1,()))
 (cond (r4.1.1==2)
 ((qFA r4.2.1 4).bind fun r9=>
 (qOA (qQB qUaz qTaz qXaz qVaz qWaz) (r9.2.1,depth1,vars2,([]:List (List Nod)),r9.1.1,())).bind fun y10=>
 cond (Ex.same y10.1 (Ex.exit 1))
 ((qFA y10.2.1 2).bind fun r11=>
 (qNc (qI ((7:Int)+r11.1.1)) y10.2.2.2.2.1).bind fun r12=>
 some ((r12.1.1,()),r11.2.1,()))
 (none))
 (cond (r4.1.1==3)
 ((qFA r4.2.1 4).bind fun r13=>
 (qOA (qQB qUaz qTaz qXaz qVaz qWaz) (r13.2.1,depth1,vars2,([]:List (List Nod)),r13.1.1,())).bind fun y14=>
 cond (Ex.same y14.1 (Ex.exit 1))
 ((qFA y14.2.1 2).bind fun r15=>
 (qNc (qI ((7:Int)+r15.1.1)) y14.2.2.2.2.1).bind fun r16=>
 some ((r16.1.1,()),r15.2.1,()))
 (none))
 (cond (r4.1.1==4)
 ((qFA r4.2.1 4).bind fun r17=>
 (qOA (qQB qUaz qTaz qXaz qVaz qWaz) (r17.2.1,depth1,vars2,([]:List (List Nod)),r17.1.1,())).bind fun y18=>
 cond (Ex.same y18.1 (Ex.exit 1))
 ((qFA y18.2.1 2).bind fun r19=>
 (qNc (qI ((7:Int)+r19.1.1)) y18.2.2.2.2.1).bind fun r20=>
 some ((r20.1.1,()),r19.2.1,()))
 (none))
 (cond (r4.1.1==5)
 ((qFA r4.2.1 4).bind fun r21=>
 (qOA (qQB qUaz qTaz qXaz qVaz qWaz) (r21.2.1,depth1,vars2,([]:List (List Nod)),r21.1.1,())).bind fun y22=>
 cond (Ex.same y22.1 (Ex.exit 1))
 ((qFA y22.2.1 2).bind fun r23=>
 (qNc (qI ((7:Int)+r23.1.1)) y22.2.2.2.2.1).bind fun r24=>
 some ((r24.1.1,()),r23.2.1,()))
 (none))
 (cond (r4.1.1==6)
 ((qTaz r4.2.1 (qI (depth1 - (1:Int))) vars2).bind fun r25=>
 (qTaz r25.2.1 (qI (depth1 - (1:Int))) vars2).bind fun r26=>
 (qNc 9 ([r25.1.1,r26.1.1]:List (List Nod))).bind fun r27=>
 some ((r27.1.1,()),r26.2.1,()))
 (cond (r4.1.1==7)
 ((qXaz r4.2.1 1 depth1 vars2).bind fun r28=>
 some ((r28.1.1,()),r28.2.1,()))
 (cond (r4.1.1==8)
 ((qTaz r4.2.1 (qI (depth1 - (1:Int))) vars2).bind fun r29=>
 (qTaz r29.2.1 (qI (depth1 - (1:Int))) vars2).bind fun r30=>
 (qNc 11 ([r29.1.1,r30.1.1]:List (List Nod))).bind fun r31=>
 some ((r31.1.1,()),r30.2.1,()))
 ((qWaz r4.2.1 (qI (depth1 - (1:Int))) vars2).bind fun r32=>
 some ((r32.1.1,()),r32.2.1,()))))))))))))
def qUL (qUaz:qCA->Int->Int->List Vr->Option (((List Nod)×Unit)×(qCA×Unit))) (qTaz:qCA->Int->List Vr->Option (((List Nod)×Unit)×(qCA×Unit))) (qXaz:qCA->Int->Int->List Vr->Option (((List Nod)×Unit)×(qCA×Unit))) (qVaz:qCA->Int->Int->List Vr->Option (((List Nod)×Unit)×(qCA×Unit))) (qWaz:qCA->Int->List Vr->Option (((List Nod)×Unit)×(qCA×Unit))) (c0:qCA) (sort1:Int) (depth2:Int) (vars3:List Vr):Option (((List Nod)×Unit)×(qCA×Unit)):=
 (qTaz c0 (qI (depth2 - (1:Int))) vars3).bind fun r1=>
 (qUaz r1.2.1 sort1 (qI (depth2 - (1:Int))) vars3).bind fun r2=>
 (qUaz r2.2.1 sort1 (qI (depth2 - (1:Int))) vars3).bind fun r3=>
 (qNc 10 ([r1.1.1,r2.1.1,r3.1.1]:List (List Nod))).bind fun r4=>
 some ((r4.1.1,()),r3.2.1,())
def qUD (qUaz:qCA->Int->Int->List Vr->Option (((List Nod)×Unit)×(qCA×Unit))) (qTaz:qCA->Int->List Vr->Option (((List Nod)×Unit)×(qCA×Unit))) (qXaz:qCA->Int->Int->List Vr->Option (((List Nod)×Unit)×(qCA×Unit))) (qVaz:qCA->Int->Int->List Vr->Option (((List Nod)×Unit)×(qCA×Unit))) (qWaz:qCA->Int->List Vr->Option (((List Nod)×Unit)×(qCA×Unit))) (x:qCA×Int×Int×(List Vr)×(List (List Nod))×Int×Unit):Option (Ex×(qCA×Int×Int×(List Vr)×(List (List Nod))×Int×Unit)):=
 let c0:=x.1
 let sort1:=x.2.1
 let depth2:=x.2.2.1
 let vars3:=x.2.2.2.1
 let l10:=x.2.2.2.2.1
 let n11:=x.2.2.2.2.2.1
 cond (decide (n11 > (0:Int)))
 ((qUaz c0 sort1 (qI (depth2 - (1:Int))) vars3).bind fun r1=>
 grd (decide (l10.length+([r1.1.1]:List (List Nod)).length<=qXE)) (some (Ex.normal,(r1.2.1,sort1,depth2,vars3,l10++([r1.1.1]:List (List Nod)),qI (n11 - (1:Int)),()))))
 (some (Ex.exit 1,(c0,sort1,depth2,vars3,l10,n11,())))
def qOF (qUaz:qCA->Int->Int->List Vr->Option (((List Nod)×Unit)×(qCA×Unit))) (qTaz:qCA->Int->List Vr->Option (((List Nod)×Unit)×(qCA×Unit))) (qXaz:qCA->Int->Int->List Vr->Option (((List Nod)×Unit)×(qCA×Unit))) (qVaz:qCA->Int->Int->List Vr->Option (((List Nod)×Unit)×(qCA×Unit))) (qWaz:qCA->Int->List Vr->Option (((List Nod)×Unit)×(qCA×Unit))) (c0:qCA) (sort1:Int) (depth2:Int) (vars3:List Vr):Option (((List Nod)×Unit)×(qCA×Unit)):=
 (qFA c0 10).bind fun r1=>
 cond (decide (r1.1.1 < (3:Int)))
 ((qUaz r1.2.1 sort1 (qI (depth2 - (1:Int))) vars3).bind fun r2=>
 (qFA r2.2.1 3).bind fun r3=>
 (qOA (qUD qUaz qTaz qXaz qVaz qWaz) (r3.2.1,sort1,depth2,vars3,([r2.1.1]:List (List Nod)),r3.1.1,())).bind fun y4=>
 cond (Ex.same y4.1 (Ex.exit 1))
 ((qNc 14 y4.2.2.2.2.2.1).bind fun r5=>
 some ((r5.1.1,()),y4.2.1,()))
 (none))
 (cond (decide (r1.1.1 < (5:Int)))
 ((qTD r1.2.1 sort1).bind fun r6=>
 (qBM sort1 r6.1.1).bind fun r7=>
 (qUaz r6.2.1 sort1 (qI (depth2 - (1:Int))) vars3).bind fun r8=>
 (qNc 15 ([r7.1.1,r8.1.1]:List (List Nod))).bind fun r9=>
 some ((r9.1.1,()),r8.2.1,()))
 (cond (r1.1.1==5)
 ((qXaz r1.2.1 sort1 depth2 vars3).bind fun r10=>
 some ((r10.1.1,()),r10.2.1,()))
 (cond (r1.1.1==6)
 (cond (sort1==2)
 ((qFA r1.2.1 2).bind fun r11=>
 (qFA r11.2.1 5).bind fun r12=>
 (qKF (qI ((1:Int)+r12.1.1))).bind fun r13=>
 (qUaz r12.2.1 sort1 (qI (depth2 - (1:Int))) vars3).bind fun r14=>
 (qUO (qI ((16:Int)+r11.1.1),(0:Int),([]:qBs),r13.1.1,(0:Int)) ([r14.1.1]:List (List Nod))).bind fun r15=>
 some ((r15.1.1,()),r14.2.1,()))
 (cond (r1.1.1==7)
 (cond (sort1==2)
 ((qUaz r1.2.1 4 (qI (depth2 - (1:Int))) vars3).bind fun r16=>
 (qUaz r16.2.1 sort1 (qI (depth2 - (1:Int))) vars3).bind fun r17=>
 (qNc 18 ([r16.1.1,r17.1.1]:List (List Nod))).bind fun r18=>
 some ((r18.1.1,()),r17.2.1,()))
 (cond (r1.1.1==8)
 ((qTD r1.2.1 sort1).bind fun r19=>
 (qBM sort1 r19.1.1).bind fun r20=>
 some ((r20.1.1,()),r19.2.1,()))
 ((qCB r1.2.1 sort1 vars3).bind fun r21=>
 some ((r21.1.1,()),r21.2.1,()))))
 (cond (r1.1.1==8)
 ((qTD r1.2.1 sort1).bind fun r22=>
 (qBM sort1 r22.1.1).bind fun r23=>
 some ((r23.1.1,()),r22.2.1,()))
 ((qCB r1.2.1 sort1 vars3).bind fun r24=>
 some ((r24.1.1,()),r24.2.1,())))))
 (cond (r1.1.1==7)
 (cond (sort1==2)
 ((qUaz r1.2.1 4 (qI (depth2 - (1:Int))) vars3).bind fun r25=>
 (qUaz r25.2.1 sort1 (qI (depth2 - (1:Int))) vars3).bind fun r26=>
 (qNc 18 ([r25.1.1,r26.1.1]:List (List Nod))).bind fun r27=>
 some ((r27.1.1,()),r26.2.1,()))
 (cond (r1.1.1==8)
 ((qTD r1.2.1 sort1).bind fun r28=>
 (qBM sort1 r28.1.1).bind fun r29=>
 some ((r29.1.1,()),r28.2.1,()))
 ((qCB r1.2.1 sort1 vars3).bind fun r30=>
 some ((r30.1.1,()),r30.2.1,()))))
 (cond (r1.1.1==8)
 ((qTD r1.2.1 sort1).bind fun r31=>
 (qBM sort1 r31.1.1).bind fun r32=>
 some ((r32.1.1,()),r31.2.1,()))
 ((qCB r1.2.1 sort1 vars3).bind fun r33=>
 some ((r33.1.1,()),r33.2.1,())))))))
def qVJ (qUaz:qCA->Int->Int->List Vr->Option (((List Nod)×Unit)×(qCA×Unit))) (qTaz:qCA->Int->List Vr->Option (((List Nod)×Unit)×(qCA×Unit))) (qXaz:qCA->Int->Int->List Vr->Option (((List Nod)×Unit)×(qCA×Unit))) (qVaz:qCA->Int->Int->List Vr->Option (((List Nod)×Unit)×(qCA×Unit))) (qWaz:qCA->Int->List Vr->Option (((List Nod)×Unit)×(qCA×Unit))) (c0:qCA) (depth1:Int) (vars2:List Vr):Option (((List Nod)×Unit)×(qCA×Unit)):=
 (qFA c0 5).bind fun r1=>
 grd (decide (0<=r1.1.1)&&decide (r1.1.1 < ([2,2,3,4,1]:List Int).length)) (
 cond ((([2,2,3,4,1]:List Int).getD r1.1.1.toNat (0:Int))==1)
 ((qFA r1.2.1 3).bind fun r2=>
 cond (r2.1.1==0)
 ((qFA r2.2.1 2).bind fun r3=>
 (qUk (r3.1.1==1)).bind fun r4=>
 some ((r4.1.1,()),r3.2.1,()))
 ((qCB r2.2.1 (([2,2,3,4,1]:List Int).getD r1.1.1.toNat (0:Int)) vars2).bind fun r5=>
 some ((r5.1.1,()),r5.2.1,())))
 (cond ((([2,2,3,4,1]:List Int).getD r1.1.1.toNat (0:Int)) !=(4:Int))
 ((qFA r1.2.1 3).bind fun r6=>
 (qUaz r6.2.1 (([2,2,3,4,1]:List Int).getD r1.1.1.toNat (0:Int)) depth1 vars2).bind fun r7=>
 (qUaz r7.2.1 (([2,2,3,4,1]:List Int).getD r1.1.1.toNat (0:Int)) depth1 vars2).bind fun r8=>
 (qNc (qI ((11:Int)+r6.1.1)) ([r7.1.1,r8.1.1]:List (List Nod))).bind fun r9=>
 some ((r9.1.1,()),r8.2.1,()))
 ((qUaz r1.2.1 (([2,2,3,4,1]:List Int).getD r1.1.1.toNat (0:Int)) depth1 vars2).bind fun r10=>
 (qUaz r10.2.1 (([2,2,3,4,1]:List Int).getD r1.1.1.toNat (0:Int)) depth1 vars2).bind fun r11=>
 (qNc 11 ([r10.1.1,r11.1.1]:List (List Nod))).bind fun r12=>
 some ((r12.1.1,()),r11.2.1,()))))
def qGA:Nat->(qCA->Int->Int->List Vr->Option (((List Nod)×Unit)×(qCA×Unit)))×(qCA->Int->List Vr->Option (((List Nod)×Unit)×(qCA×Unit)))×(qCA->Int->Int->List Vr->Option (((List Nod)×Unit)×(qCA×Unit)))×(qCA->Int->Int->List Vr->Option (((List Nod)×Unit)×(qCA×Unit)))×(qCA->Int->List Vr->Option (((List Nod)×Unit)×(qCA×Unit)))
 |0=>(fun _ _ _ _=>none,fun _ _ _=>none,fun _ _ _ _=>none,fun _ _ _ _=>none,fun _ _ _=>none)
 |n+1=>(qWF (qGA n).1 (qGA n).2.1 (qGA n).2.2.1 (qGA n).2.2.2.1 (qGA n).2.2.2.2,qME (qGA n).1 (qGA n).2.1 (qGA n).2.2.1 (qGA n).2.2.2.1 (qGA n).2.2.2.2,qUL (qGA n).1 (qGA n).2.1 (qGA n).2.2.1 (qGA n).2.2.2.1 (qGA n).2.2.2.2,qOF (qGA n).1 (qGA n).2.1 (qGA n).2.2.1 (qGA n).2.2.2.1 (qGA n).2.2.2.2,qVJ (qGA n).1 (qGA n).2.1 (qGA n).2.2.1 (qGA n).2.2.2.1 (qGA n).2.2.2.2)
def qVA (n:Nat):qCA->Int->Int->List Vr->Option (((List Nod)×Unit)×(qCA×Unit)):=(qGA n).1
def qUA (n:Nat):qCA->Int->List Vr->Option (((List Nod)×Unit)×(qCA×Unit)):=(qGA n).2.1
def qAC (n:Nat):qCA->Int->Int->List Vr->Option (((List Nod)×Unit)×(qCA×Unit)):=(qGA n).2.2.1
def qRA (n:Nat):qCA->Int->Int->List Vr->Option (((List Nod)×Unit)×(qCA×Unit)):=(qGA n).2.2.2.1
def qKB (n:Nat):qCA->Int->List Vr->Option (((List Nod)×Unit)×(qCA×Unit)):=(qGA n).2.2.2.2
def qMU (v0:Val):Option ((Bool×Unit)×Unit):=
 cond ((v0.2.2.2.1.length:Int)==0)
 (some (((v0.2.2.2.2.length:Int)==0,()),()))
 (some ((false,()),()))
def qBG (x:qBs×Bool×(List Int)×Int×Int×Unit):Option (Ex×(qBs×Bool×(List Int)×Int×Int×Unit)):=
 let s0:=x.1
 let t2:=x.2.1
 let t6:=x.2.2.1
 let t7:=x.2.2.2.1
 let t8:=x.2.2.2.2.1
 cond (decide (t8 < t7))
 (grd (decide (0<=t8)&&decide (t8 < t6.length)) (
 cond (decide ((t6.getD t8.toNat (0:Int)) < (48:Int)))
 (some (Ex.ret,(s0,false,t6,t7,t8,())))
 (cond (decide ((t6.getD t8.toNat (0:Int)) > (57:Int)))
 (some (Ex.ret,(s0,false,t6,t7,t8,())))
 (some (Ex.normal,(s0,t2,t6,t7,qI (t8+1),()))))))
 (some (Ex.exit 0,(s0,t2,t6,t7,t8,())))
def qQJ (s0:qBs):Option ((Bool×Unit)×Unit):=
 (qOA qBG (s0,false,s0.map fun b=>(b.toNat:Int),((s0.map fun b=>(b.toNat:Int)).length:Int),0,())).bind fun y1=>
 cond (Ex.same y1.1 (Ex.exit 0))
 (cond (y1.2.1==([48]:qBs))
 (some ((true,()),()))
 (cond (!(y1.2.1==([]:qBs)))
 (grd (decide (0<=(0:Int))&&decide ((0:Int) < y1.2.1.length)) (some ((((y1.2.1.getD (0:Int).toNat 0).toNat:Int) !=(48:Int),()),())))
 (some ((false,()),()))))
 (cond (Ex.same y1.1 Ex.ret)
 (some ((y1.2.2.1,()),()))
 (none))
def qUH (a0:qBs):Option ((Bool×Unit)×Unit):=
 (strings_CutPrefix a0 ([45]:qBs)).bind fun r1=>
 (qQJ r1.1.1).bind fun r2=>
 cond (r2.1.1)
 (cond (r1.1.2.1)
 (some ((!(r1.1.1==([48]:qBs)),()),()))
 (some ((true,()),())))
 (some ((false,()),()))
def qGN (x:Int×Int×Unit):Option (Ex×(Int×Int×Unit)):=
 let a0:=x.1
 let b1:=x.2.1
 cond (b1 !=(0:Int))
 (grd (b1 !=0) (some (Ex.normal,(b1,a0.tmod b1,()))))
 (some (Ex.exit 0,(a0,b1,())))
def qKP (a0:Int) (b1:Int):Option ((Int×Unit)×Unit):=
 (qOA qGN (a0,b1,())).bind fun y1=>
 cond (Ex.same y1.1 (Ex.exit 0))
 (some ((y1.2.1,()),()))
 (none)
def qEC (a0:qBs):Option ((Sml×Bool×Unit)×Unit):=
 (strings_CutPrefix a0 ([45]:qBs)).bind fun r1=>
 (strings_Cut r1.1.1 ([47]:qBs)).bind fun r2=>
 cond (decide ((r2.1.1.length:Int) > (9:Int)))
 (some ((((0:Int),(0:Int)),false,()),()))
 (cond (decide ((r2.1.2.1.length:Int) > (9:Int)))
 (some ((((0:Int),(0:Int)),false,()),()))
 ((qQJ r2.1.1).bind fun r3=>
 cond (!r3.1.1)
 (some ((((0:Int),(0:Int)),false,()),()))
 (cond (r2.1.1==([48]:qBs))
 (cond (r1.1.2.1)
 (some ((((0:Int),(0:Int)),false,()),()))
 (cond (r2.1.2.2.1)
 (some ((((0:Int),(0:Int)),false,()),()))
 ((qCE r2.1.1 10 64).bind fun r4=>
 cond (r2.1.2.2.1)
 ((qQJ r2.1.2.1).bind fun r5=>
 cond (!r5.1.1)
 (some ((((0:Int),(0:Int)),false,()),()))
 ((qCE r2.1.2.1 10 64).bind fun r6=>
 cond (decide (r6.1.1 < (2:Int)))
 (some ((((0:Int),(0:Int)),false,()),()))
 ((qKP r4.1.1 r6.1.1).bind fun r7=>
 cond (r7.1.1 !=(1:Int))
 (some ((((0:Int),(0:Int)),false,()),()))
 (cond (r1.1.2.1)
 (some (((qI (0 - r4.1.1),r6.1.1),true,()),()))
 (some (((r4.1.1,r6.1.1),true,()),()))))))
 (cond (r1.1.2.1)
 (some (((qI (0 - r4.1.1),1),true,()),()))
 (some (((r4.1.1,1),true,()),()))))))
 ((qCE r2.1.1 10 64).bind fun r8=>
 cond (r2.1.2.2.1)
 ((qQJ r2.1.2.1).bind fun r9=>
 cond (!r9.1.1)
 (some ((((0:Int),(0:Int)),false,()),()))
 ((qCE r2.1.2.1 10 64).bind fun r10=>
 cond (decide (r10.1.1 < (2:Int)))
 (some ((((0:Int),(0:Int)),false,()),()))
 ((qKP r8.1.1 r10.1.1).bind fun r11=>
 cond (r11.1.1 !=(1:Int))
 (some ((((0:Int),(0:Int)),false,()),()))
 (cond (r1.1.2.1)
 (some (((qI (0 - r8.1.1),r10.1.1),true,()),()))
 (some (((r8.1.1,r10.1.1),true,()),()))))))
 (cond (r1.1.2.1)
 (some (((qI (0 - r8.1.1),1),true,()),()))
 (some (((r8.1.1,1),true,()),())))))))
def qCD (x:(List Int)×Int×Unit):Option (Ex×((List Int)×Int×Unit)):=
 let a0:=x.1
 let n3:=x.2.1
 cond (decide (n3 > (0:Int)))
 (grd (decide (0<=qI (n3 - (1:Int)))&&decide (qI (n3 - (1:Int)) < a0.length)) (
 cond ((a0.getD (qI (n3 - (1:Int))).toNat (0:Int))==0)
 (some (Ex.normal,(a0,qI (n3 - (1:Int)),())))
 (some (Ex.exit 0,(a0,n3,())))))
 (some (Ex.exit 0,(a0,n3,())))
def qXF (a0:List Int):Option (((List Int)×Unit)×Unit):=
 (qOA qCD (a0,(a0.length:Int),())).bind fun y1=>
 cond (Ex.same y1.1 (Ex.exit 0))
 (grd (decide (0<=y1.2.2.1)&&decide (y1.2.2.1<=y1.2.1.length)) (some ((y1.2.1.take y1.2.2.1.toNat,()),())))
 (none)
def qGO (x:qBs×(List Int)×Int×Int×(List Int)×Int×Int×Unit):Option (Ex×(qBs×(List Int)×Int×Int×(List Int)×Int×Int×Unit)):=
 let s0:=x.1
 let out3:=x.2.1
 let end4:=x.2.2.1
 let v5:=x.2.2.2.1
 let t20:=x.2.2.2.2.1
 let t21:=x.2.2.2.2.2.1
 let t22:=x.2.2.2.2.2.2.1
 cond (decide (t22 < t21))
 (grd (decide (0<=t22)&&decide (t22 < t20.length)) (some (Ex.normal,(s0,out3,end4,IntKind.u32.wrap ((IntKind.u32.wrap (v5 * (10:Int)))+(IntKind.u32.wrap (IntKind.u8.wrap ((t20.getD t22.toNat (0:Int)) - (48:Int))))),t20,t21,qI (t22+1),()))))
 (some (Ex.exit 2,(s0,out3,end4,v5,t20,t21,t22,())))
def qER (x:qBs×(List Int)×Int×Unit):Option (Ex×(qBs×(List Int)×Int×Unit)):=
 let s0:=x.1
 let out3:=x.2.1
 let end4:=x.2.2.1
 cond (decide (end4 > (0:Int)))
 (grd (decide (0<=qPa (qI (end4 - (9:Int))) (0:Int))&&decide (qPa (qI (end4 - (9:Int))) (0:Int)<=end4)&&decide (end4<=s0.length)) (
 (qOA qGO (s0,out3,end4,0,((s0.take end4.toNat).drop (qPa (qI (end4 - (9:Int))) (0:Int)).toNat).map fun b=>(b.toNat:Int),((((s0.take end4.toNat).drop (qPa (qI (end4 - (9:Int))) (0:Int)).toNat).map fun b=>(b.toNat:Int)).length:Int),0,())).bind fun y1=>
 cond (Ex.same y1.1 (Ex.exit 2))
 (grd (decide (y1.2.2.1.length+([y1.2.2.2.2.1]:List Int).length<=qXE)) (some (Ex.normal,(y1.2.1,y1.2.2.1++([y1.2.2.2.2.1]:List Int),qI (y1.2.2.2.1 - (9:Int)),()))))
 (none)))
 (some (Ex.exit 0,(s0,out3,end4,())))
def qFX (s0:qBs):Option (((List Int)×Unit)×Unit):=
 (qOA qER (s0,([]:List Int),(s0.length:Int),())).bind fun y1=>
 cond (Ex.same y1.1 (Ex.exit 0))
 ((qXF y1.2.2.1).bind fun r2=>
 some ((r2.1.1,()),()))
 (none)
def qFK (x:(List Int)×(List Int)×Int×Int×Unit):Option (Ex×((List Int)×(List Int)×Int×Int×Unit)):=
 let a0:=x.1
 let b1:=x.2.1
 let t4:=x.2.2.1
 let i5:=x.2.2.2.1
 cond (decide (i5>=0))
 (grd (decide (0<=i5)&&decide (i5 < a0.length)) (
 grd (decide (0<=i5)&&decide (i5 < b1.length)) (
 cond ((a0.getD i5.toNat (0:Int)) !=(b1.getD i5.toNat (0:Int)))
 (grd (decide (0<=i5)&&decide (i5 < a0.length)) (grd (decide (0<=i5)&&decide (i5 < b1.length)) (some (Ex.ret,(a0,b1,qI ((qI (a0.getD i5.toNat (0:Int))) - (qI (b1.getD i5.toNat (0:Int)))),i5,())))))
 (some (Ex.normal,(a0,b1,t4,qI (i5 - (1:Int)),()))))))
 (some (Ex.exit 0,(a0,b1,t4,i5,())))
def qCP (a0:List Int) (b1:List Int):Option ((Int×Unit)×Unit):=
 cond ((a0.length:Int) !=(b1.length:Int))
 (some ((qI ((a0.length:Int) - (b1.length:Int)),()),()))
 ((qOA qFK (a0,b1,0,qI ((a0.length:Int) - (1:Int)),())).bind fun y1=>
 cond (Ex.same y1.1 (Ex.exit 0))
 (some ((0,()),()))
 (cond (Ex.same y1.1 Ex.ret)
 (some ((y1.2.2.2.1,()),()))
 (none)))
def qOH (x:(List Int)×Int×(List Int)×Int×Int×Unit):Option (Ex×((List Int)×Int×(List Int)×Int×Int×Unit)):=
 let a0:=x.1
 let b1:=x.2.1
 let q6:=x.2.2.1
 let rest7:=x.2.2.2.1
 let i8:=x.2.2.2.2.1
 cond (decide (i8>=0))
 (grd (decide (0<=i8)&&decide (i8 < a0.length)) (grd ((qU (b1)) !=0) (grd ((qU (b1)) !=0) (grd (decide (0<=i8)&&decide (i8 < q6.length)) (grd (decide (i8.toNat < q6.length)) (some (Ex.normal,(a0,b1,q6.set i8.toNat (IntKind.u32.wrap (qU ((qU ((qU (rest7 * (1000000000:Int)))+(qU (a0.getD i8.toNat (0:Int))))).tdiv (qU (b1))))),(qU ((qU (rest7 * (1000000000:Int)))+(qU (a0.getD i8.toNat (0:Int))))).tmod (qU (b1)),qI (i8 - (1:Int)),()))))))))
 (some (Ex.exit 0,(a0,b1,q6,rest7,i8,())))
def qVI (a0:List Int) (b1:Int):Option (((List Int)×(List Int)×Unit)×Unit):=
 grd (decide (0<=(a0.length:Int))&&decide ((a0.length:Int)<=(a0.length:Int))&&decide ((a0.length:Int)<=qXE)) (
 (qOA qOH (a0,b1,List.replicate (a0.length:Int).toNat (0:Int),0,qI ((a0.length:Int) - (1:Int)),())).bind fun y1=>
 cond (Ex.same y1.1 (Ex.exit 0))
 ((qXF y1.2.2.2.1).bind fun r2=>
 (qXF ([IntKind.u32.wrap (y1.2.2.2.2.1)]:List Int)).bind fun r3=>
 some ((r2.1.1,r3.1.1,()),()))
 (none))
def qWK (x:(List Int)×Int×Unit):Option (Ex×((List Int)×Int×Unit)):=
 let a0:=x.1
 let n3:=x.2.1
 cond (decide (n3 > (0:Int)))
 (grd (decide (0<=qI (n3 - (1:Int)))&&decide (qI (n3 - (1:Int)) < a0.length)) (
 grd (decide ((qI (n3 - (1:Int))).toNat < a0.length)) (
 cond ((a0.getD ((qI (n3 - (1:Int))).toNat) (0:Int))==0)
 (some (Ex.normal,(a0,qI (n3 - (1:Int)),())))
 (some (Ex.exit 0,(a0,n3,()))))))
 (some (Ex.exit 0,(a0,n3,())))
def qDQ (a0:List Int):Option ((Nat×Unit)×((List Int)×Unit)):=
 (qOA qWK (a0,(a0.length:Int),())).bind fun y1=>
 cond (Ex.same y1.1 (Ex.exit 0))
 (grd (decide (0<=y1.2.2.1)&&decide (y1.2.2.1<=y1.2.1.length)) (some ((y1.2.2.1.toNat,()),y1.2.1,())))
 (none)
def qCW (x:(List Int)×(List Int)×Int×Int×Int×(List Int)×Int×Int×(List Int)×Int×Int×Unit):Option (Ex×((List Int)×(List Int)×Int×Int×Int×(List Int)×Int×Int×(List Int)×Int×Int×Unit)):=
 let b1:=x.1
 let out5:=x.2.1
 let i6:=x.2.2.1
 let x7:=x.2.2.2.1
 let carry8:=x.2.2.2.2.1
 let t18:=x.2.2.2.2.2.1
 let t19:=x.2.2.2.2.2.2.1
 let t20:=x.2.2.2.2.2.2.2.1
 let t25:=x.2.2.2.2.2.2.2.2.1
 let t26:=x.2.2.2.2.2.2.2.2.2.1
 let t27:=x.2.2.2.2.2.2.2.2.2.2.1
 cond (decide (t27 < t26))
 (grd (decide (0<=t27)&&decide (t27 < t25.length)) (grd (decide (0<=qI (i6+t27))&&decide (qI (i6+t27) < out5.length)) (grd (decide ((qI (i6+t27)).toNat < out5.length)) (grd ((1000000000:Int) !=0) (grd ((1000000000:Int) !=0) (grd (decide (0<=qI (i6+t27))&&decide (qI (i6+t27) < out5.length)) (grd (decide ((qI (i6+t27)).toNat < out5.length)) (some (Ex.normal,(b1,out5.set ((qI (i6+t27)).toNat) (IntKind.u32.wrap ((qU ((qU ((qU (out5.getD ((qI (i6+t27)).toNat) (0:Int)))+(qU ((qU (x7)) * (qU (t25.getD t27.toNat (0:Int)))))))+carry8)).tmod 1000000000)),i6,x7,qU ((qU ((qU ((qU (out5.getD ((qI (i6+t27)).toNat) (0:Int)))+(qU ((qU (x7)) * (qU (t25.getD t27.toNat (0:Int)))))))+carry8)).tdiv 1000000000),t18,t19,t20,t25,t26,qI (t27+1),()))))))))))
 (some (Ex.exit 2,(b1,out5,i6,x7,carry8,t18,t19,t20,t25,t26,t27,())))
def qRQ (x:(List Int)×(List Int)×(List Int)×Int×Int×Unit):Option (Ex×((List Int)×(List Int)×(List Int)×Int×Int×Unit)):=
 let b1:=x.1
 let out5:=x.2.1
 let t18:=x.2.2.1
 let t19:=x.2.2.2.1
 let t20:=x.2.2.2.2.1
 cond (decide (t20 < t19))
 (grd (decide (0<=t20)&&decide (t20 < t18.length)) (
 (qOA qCW (b1,out5,t20,t18.getD t20.toNat (0:Int),0,t18,t19,t20,b1,(b1.length:Int),0,())).bind fun y1=>
 cond (Ex.same y1.1 (Ex.exit 2))
 (grd (decide (0<=qI (y1.2.2.2.1+(y1.2.1.length:Int)))&&decide (qI (y1.2.2.2.1+(y1.2.1.length:Int)) < y1.2.2.1.length)) (grd (decide ((qI (y1.2.2.2.1+(y1.2.1.length:Int))).toNat < y1.2.2.1.length)) (some (Ex.normal,(y1.2.1,y1.2.2.1.set ((qI (y1.2.2.2.1+(y1.2.1.length:Int))).toNat) (IntKind.u32.wrap (y1.2.2.2.2.2.1)),y1.2.2.2.2.2.2.1,y1.2.2.2.2.2.2.2.1,qI (y1.2.2.2.2.2.2.2.2.1+1),())))))
 (none)))
 (some (Ex.exit 0,(b1,out5,t18,t19,t20,())))
def qIP (a0:List Int) (b1:List Int):Option (((List Int)×Unit)×Unit):=
 grd (decide (0<=qI ((a0.length:Int)+(b1.length:Int)))&&decide (qI ((a0.length:Int)+(b1.length:Int))<=qI ((a0.length:Int)+(b1.length:Int)))&&decide (qI ((a0.length:Int)+(b1.length:Int))<=qXE)) (
 (qOA qRQ (b1,List.replicate (qI ((a0.length:Int)+(b1.length:Int))).toNat (0:Int),a0,(a0.length:Int),0,())).bind fun y1=>
 cond (Ex.same y1.1 (Ex.exit 0))
 ((qDQ y1.2.2.1).bind fun r2=>
 some ((r2.2.1.take r2.1.1,()),()))
 (none))
def qQE (x:(List Int)×(List Int)×Int×Int×Int×Int×Int×Unit):Option (Ex×((List Int)×(List Int)×Int×Int×Int×Int×Int×Unit)):=
 let u0:=x.1
 let v1:=x.2.1
 let times2:=x.2.2.1
 let carry7:=x.2.2.2.1
 let borrow8:=x.2.2.2.2.1
 let t12:=x.2.2.2.2.2.1
 let t13:=x.2.2.2.2.2.2.1
 cond (decide (t13 < t12))
 (cond (decide (t13 < (v1.length:Int)))
 (grd (decide (0<=t13)&&decide (t13 < v1.length)) (
 grd (decide (0<=t13)&&decide (t13 < u0.length)) (
 grd (decide (t13.toNat < u0.length)) (
 grd ((1000000000:Int) !=0) (
 grd ((1000000000:Int) !=0) (
 cond (decide ((qI ((qI ((qI (u0.getD t13.toNat (0:Int))) - borrow8)) - (qI ((qU (carry7+(qU (times2 * (qU (v1.getD t13.toNat (0:Int))))))).tmod 1000000000)))) < (0:Int)))
 (grd (decide (0<=t13)&&decide (t13 < u0.length)) (grd (decide (t13.toNat < u0.length)) (some (Ex.normal,(u0.set t13.toNat (IntKind.u32.wrap (qI ((qI ((qI ((qI (u0.getD t13.toNat (0:Int))) - borrow8)) - (qI ((qU (carry7+(qU (times2 * (qU (v1.getD t13.toNat (0:Int))))))).tmod 1000000000))))+1000000000))),v1,times2,qU ((qU (carry7+(qU (times2 * (qU (v1.getD t13.toNat (0:Int))))))).tdiv 1000000000),1,t12,qI (t13+1),())))))
 (grd (decide (0<=t13)&&decide (t13 < u0.length)) (grd (decide (t13.toNat < u0.length)) (some (Ex.normal,(u0.set t13.toNat (IntKind.u32.wrap (qI ((qI ((qI (u0.getD t13.toNat (0:Int))) - borrow8)) - (qI ((qU (carry7+(qU (times2 * (qU (v1.getD t13.toNat (0:Int))))))).tmod 1000000000))))),v1,times2,qU ((qU (carry7+(qU (times2 * (qU (v1.getD t13.toNat (0:Int))))))).tdiv 1000000000),0,t12,qI (t13+1),())))))))))))
 (grd (decide (0<=t13)&&decide (t13 < u0.length)) (
 grd (decide (t13.toNat < u0.length)) (
 grd ((1000000000:Int) !=0) (
 grd ((1000000000:Int) !=0) (
 cond (decide ((qI ((qI ((qI (u0.getD t13.toNat (0:Int))) - borrow8)) - (qI (carry7.tmod 1000000000)))) < (0:Int)))
 (grd (decide (0<=t13)&&decide (t13 < u0.length)) (grd (decide (t13.toNat < u0.length)) (some (Ex.normal,(u0.set t13.toNat (IntKind.u32.wrap (qI ((qI ((qI ((qI (u0.getD t13.toNat (0:Int))) - borrow8)) - (qI (carry7.tmod 1000000000))))+1000000000))),v1,times2,qU (carry7.tdiv 1000000000),1,t12,qI (t13+1),())))))
 (grd (decide (0<=t13)&&decide (t13 < u0.length)) (grd (decide (t13.toNat < u0.length)) (some (Ex.normal,(u0.set t13.toNat (IntKind.u32.wrap (qI ((qI ((qI (u0.getD t13.toNat (0:Int))) - borrow8)) - (qI (carry7.tmod 1000000000))))),v1,times2,qU (carry7.tdiv 1000000000),0,t12,qI (t13+1),())))))))))))
 (some (Ex.exit 0,(u0,v1,times2,carry7,borrow8,t12,t13,())))
def qBR (u0:List Int) (v1:List Int) (times2:Int):Option ((Bool×Unit)×((List Int)×Unit)):=
 (qOA qQE (u0,v1,times2,0,0,(u0.length:Int),0,())).bind fun y1=>
 cond (Ex.same y1.1 (Ex.exit 0))
 (some ((decide (y1.2.2.2.2.2.1 > (0:Int)),()),y1.2.1,()))
 (none)
def qMR (a0:List Int) (i1:Int):Option ((Int×Unit)×Unit):=
 cond (decide (i1>=(a0.length:Int)))
 (some ((0,()),()))
 (grd (decide (0<=i1)&&decide (i1 < a0.length)) (some ((a0.getD i1.toNat (0:Int),()),())))
def qDN (x:(List Int)×(List Int)×Int×Int×Int×Unit):Option (Ex×((List Int)×(List Int)×Int×Int×Int×Unit)):=
 let u0:=x.1
 let v1:=x.2.1
 let carry4:=x.2.2.1
 let t8:=x.2.2.2.1
 let t9:=x.2.2.2.2.1
 cond (decide (t9 < t8))
 (grd (decide (0<=t9)&&decide (t9 < u0.length)) (
 grd (decide (t9.toNat < u0.length)) (
 (qMR v1 t9).bind fun r1=>
 grd ((1000000000:Int) !=0) (grd ((1000000000:Int) !=0) (grd (decide (0<=t9)&&decide (t9 < u0.length)) (grd (decide (t9.toNat < u0.length)) (some (Ex.normal,(u0.set t9.toNat ((IntKind.u32.wrap ((IntKind.u32.wrap ((u0.getD t9.toNat (0:Int))+r1.1.1))+carry4)).tmod 1000000000),v1,IntKind.u32.wrap ((IntKind.u32.wrap ((IntKind.u32.wrap ((u0.getD t9.toNat (0:Int))+r1.1.1))+carry4)).tdiv 1000000000),t8,qI (t9+1),())))))))))
 (some (Ex.exit 0,(u0,v1,carry4,t8,t9,())))
def qDU (u0:List Int) (v1:List Int):Option ((Unit)×((List Int)×Unit)):=
 (qOA qDN (u0,v1,0,(u0.length:Int),0,())).bind fun y1=>
 cond (Ex.same y1.1 (Ex.exit 0))
 (some ((),y1.2.1,()))
 (none)
def qIF (x:(List Int)×(List Int)×Int×Int×Int×Int×Unit):Option (Ex×((List Int)×(List Int)×Int×Int×Int×Int×Unit)):=
 let u0:=x.1
 let v1:=x.2.1
 let n5:=x.2.2.1
 let first7:=x.2.2.2.1
 let guess8:=x.2.2.2.2.1
 let rest9:=x.2.2.2.2.2.1
 cond (decide (guess8>=1000000000))
 (cond (decide ((qU (rest9+first7))>=1000000000))
 (some (Ex.exit 0,(u0,v1,n5,first7,qU (guess8 - (1:Int)),qU (rest9+first7),())))
 (some (Ex.normal,(u0,v1,n5,first7,qU (guess8 - (1:Int)),qU (rest9+first7),()))))
 (grd (decide (0<=qI (n5 - (2:Int)))&&decide (qI (n5 - (2:Int)) < v1.length)) (
 grd (decide (0<=qI (n5 - (2:Int)))&&decide (qI (n5 - (2:Int)) < u0.length)) (
 grd (decide ((qI (n5 - (2:Int))).toNat < u0.length)) (
 cond (decide ((qU (guess8 * (qU (v1.getD (qI (n5 - (2:Int))).toNat (0:Int))))) > (qU ((qU (rest9 * (1000000000:Int)))+(qU (u0.getD ((qI (n5 - (2:Int))).toNat) (0:Int)))))))
 (cond (decide ((qU (rest9+first7))>=1000000000))
 (some (Ex.exit 0,(u0,v1,n5,first7,qU (guess8 - (1:Int)),qU (rest9+first7),())))
 (some (Ex.normal,(u0,v1,n5,first7,qU (guess8 - (1:Int)),qU (rest9+first7),()))))
 (some (Ex.exit 0,(u0,v1,n5,first7,guess8,rest9,())))))))
def qUZ (u0:List Int) (v1:List Int):Option ((Int×Unit)×((List Int)×Unit)):=
 grd (decide (0<=(v1.length:Int))&&decide ((v1.length:Int) < u0.length)) (
 grd (decide ((v1.length:Int).toNat < u0.length)) (
 grd (decide (0<=qI ((v1.length:Int) - (1:Int)))&&decide (qI ((v1.length:Int) - (1:Int)) < u0.length)) (
 grd (decide ((qI ((v1.length:Int) - (1:Int))).toNat < u0.length)) (
 grd (decide (0<=qI ((v1.length:Int) - (1:Int)))&&decide (qI ((v1.length:Int) - (1:Int)) < v1.length)) (
 grd ((qU (v1.getD (qI ((v1.length:Int) - (1:Int))).toNat (0:Int))) !=0) (
 grd ((qU (v1.getD (qI ((v1.length:Int) - (1:Int))).toNat (0:Int))) !=0) (
 (qOA qIF (u0,v1,(v1.length:Int),qU (v1.getD (qI ((v1.length:Int) - (1:Int))).toNat (0:Int)),qU ((qU ((qU ((qU (u0.getD ((v1.length:Int).toNat) (0:Int))) * (1000000000:Int)))+(qU (u0.getD ((qI ((v1.length:Int) - (1:Int))).toNat) (0:Int))))).tdiv (qU (v1.getD (qI ((v1.length:Int) - (1:Int))).toNat (0:Int)))),(qU ((qU ((qU (u0.getD ((v1.length:Int).toNat) (0:Int))) * (1000000000:Int)))+(qU (u0.getD ((qI ((v1.length:Int) - (1:Int))).toNat) (0:Int))))).tmod (qU (v1.getD (qI ((v1.length:Int) - (1:Int))).toNat (0:Int))),())).bind fun y1=>
 cond (Ex.same y1.1 (Ex.exit 0))
 ((qBR y1.2.1 y1.2.2.1 y1.2.2.2.2.2.1).bind fun r2=>
 cond (r2.1.1)
 ((qDU r2.2.1 y1.2.2.1).bind fun r3=>
 some ((IntKind.u32.wrap (qU (y1.2.2.2.2.2.1 - (1:Int))),()),r3.2.1,()))
 (some ((IntKind.u32.wrap (y1.2.2.2.2.2.1),()),r2.2.1,())))
 (none))))))))
def qQG (x:(List Int)×(List Int)×(List Int)×(List Int)×Unit):Option (Ex×((List Int)×(List Int)×(List Int)×(List Int)×Unit)):=
 let a0:=x.1
 let scale6:=x.2.1
 let u7:=x.2.2.1
 let v8:=x.2.2.2.1
 cond (decide ((u7.length:Int)<=(a0.length:Int)))
 (grd (decide (u7.length+([0]:List Int).length<=qXE)) (some (Ex.normal,(a0,scale6,u7++([0]:List Int),v8,()))))
 (some (Ex.exit 1,(a0,scale6,u7,v8,())))
def qTF (x:(List Int)×(List Int)×(List Int)×(List Int)×Int×Unit):Option (Ex×((List Int)×(List Int)×(List Int)×(List Int)×Int×Unit)):=
 let scale6:=x.1
 let u7:=x.2.1
 let v8:=x.2.2.1
 let q9:=x.2.2.2.1
 let j10:=x.2.2.2.2.1
 cond (decide (j10>=0))
 (grd (decide (0<=j10)&&decide (j10<=qI ((qI (j10+(v8.length:Int)))+1))&&decide (qI ((qI (j10+(v8.length:Int)))+1)<=u7.length)) (
 (qUZ ((u7.drop j10.toNat).take ((qI ((qI (j10+(v8.length:Int)))+1)).toNat - j10.toNat)) v8).bind fun r1=>
 grd (decide (0<=j10)&&decide (j10 < q9.length)) (grd (decide (j10.toNat < q9.length)) (some (Ex.normal,(scale6,u7.take j10.toNat++r1.2.1++u7.drop (j10.toNat+((qI ((qI (j10+(v8.length:Int)))+1)).toNat - j10.toNat)),v8,q9.set j10.toNat r1.1.1,qI (j10 - (1:Int)),()))))))
 (some (Ex.exit 3,(scale6,u7,v8,q9,j10,())))
def qFI (a0:List Int) (b1:List Int):Option (((List Int)×(List Int)×Unit)×Unit):=
 (qCP a0 b1).bind fun r1=>
 cond (decide (r1.1.1 < (0:Int)))
 (some ((([]:List Int),a0,()),()))
 (cond ((b1.length:Int)==1)
 (grd (decide (0<=(0:Int))&&decide ((0:Int) < b1.length)) (
 (qVI a0 (b1.getD (0:Int).toNat (0:Int))).bind fun r2=>
 some ((r2.1.1,r2.1.2.1,()),())))
 (grd (decide (0<=qI ((b1.length:Int) - (1:Int)))&&decide (qI ((b1.length:Int) - (1:Int)) < b1.length)) (
 grd ((qU ((qU (b1.getD (qI ((b1.length:Int) - (1:Int))).toNat (0:Int)))+1)) !=0) (
 (qIP a0 ([IntKind.u32.wrap (qU ((1000000000:Int).tdiv (qU ((qU (b1.getD (qI ((b1.length:Int) - (1:Int))).toNat (0:Int)))+1))))]:List Int)).bind fun r3=>
 (qIP b1 ([IntKind.u32.wrap (qU ((1000000000:Int).tdiv (qU ((qU (b1.getD (qI ((b1.length:Int) - (1:Int))).toNat (0:Int)))+1))))]:List Int)).bind fun r4=>
 (qOA qQG (a0,([IntKind.u32.wrap (qU ((1000000000:Int).tdiv (qU ((qU (b1.getD (qI ((b1.length:Int) - (1:Int))).toNat (0:Int)))+1))))]:List Int),r3.1.1,r4.1.1,())).bind fun y5=>
 cond (Ex.same y5.1 (Ex.exit 1))
 (grd (decide (0<=qI ((y5.2.2.2.1.length:Int) - (y5.2.2.2.2.1.length:Int)))&&decide (qI ((y5.2.2.2.1.length:Int) - (y5.2.2.2.2.1.length:Int))<=qI ((y5.2.2.2.1.length:Int) - (y5.2.2.2.2.1.length:Int)))&&decide (qI ((y5.2.2.2.1.length:Int) - (y5.2.2.2.2.1.length:Int))<=qXE)) (
 (qOA qTF (y5.2.2.1,y5.2.2.2.1,y5.2.2.2.2.1,List.replicate (qI ((y5.2.2.2.1.length:Int) - (y5.2.2.2.2.1.length:Int))).toNat (0:Int),qI (((List.replicate (qI ((y5.2.2.2.1.length:Int) - (y5.2.2.2.2.1.length:Int))).toNat (0:Int)).length:Int) - (1:Int)),())).bind fun y6=>
 cond (Ex.same y6.1 (Ex.exit 3))
 ((qXF y6.2.2.1).bind fun r7=>
 grd (decide (0<=(0:Int))&&decide ((0:Int) < y6.2.1.length)) (
 (qVI r7.1.1 (y6.2.1.getD (0:Int).toNat (0:Int))).bind fun r8=>
 (qXF y6.2.2.2.2.1).bind fun r9=>
 some ((r9.1.1,r8.1.1,()),())))
 (none)))
 (none)))))
def qNZ (x:(List Int)×(List Int)×Unit):Option (Ex×((List Int)×(List Int)×Unit)):=
 let a0:=x.1
 let b1:=x.2.1
 cond (decide ((b1.length:Int) > (0:Int)))
 ((qFI a0 b1).bind fun r1=>
 some (Ex.normal,(b1,r1.1.2.1,())))
 (some (Ex.exit 0,(a0,b1,())))
def qKw (a0:List Int) (b1:List Int):Option (((List Int)×Unit)×Unit):=
 (qOA qNZ (a0,b1,())).bind fun y1=>
 cond (Ex.same y1.1 (Ex.exit 0))
 (some ((y1.2.1,()),()))
 (none)
def qNJ (a0:List Int):Option ((Bool×Unit)×Unit):=
 cond ((a0.length:Int)==1)
 (grd (decide (0<=(0:Int))&&decide ((0:Int) < a0.length)) (some (((a0.getD (0:Int).toNat (0:Int))==1,()),())))
 (some ((false,()),()))
def qAH (a0:qBs):Option ((Rt×Bool×Unit)×Unit):=
 (strings_CutPrefix a0 ([45]:qBs)).bind fun r1=>
 (strings_Cut r1.1.1 ([47]:qBs)).bind fun r2=>
 (qQJ r2.1.1).bind fun r3=>
 cond (!r3.1.1)
 (some (((false,([]:List Int),([]:List Int)),false,()),()))
 (cond (r2.1.1==([48]:qBs))
 (cond (r1.1.2.1)
 (some (((false,([]:List Int),([]:List Int)),false,()),()))
 (cond (r2.1.2.2.1)
 (some (((false,([]:List Int),([]:List Int)),false,()),()))
 ((qFX r2.1.1).bind fun r4=>
 cond (!r2.1.2.2.1)
 (some (((r1.1.2.1,r4.1.1,([1]:List Int)),true,()),()))
 ((qQJ r2.1.2.1).bind fun r5=>
 cond (!r5.1.1)
 (some (((false,([]:List Int),([]:List Int)),false,()),()))
 (cond (r2.1.2.1==([48]:qBs))
 (some (((false,([]:List Int),([]:List Int)),false,()),()))
 (cond (r2.1.2.1==([49]:qBs))
 (some (((false,([]:List Int),([]:List Int)),false,()),()))
 ((qFX r2.1.2.1).bind fun r6=>
 (qKw r4.1.1 r6.1.1).bind fun r7=>
 (qNJ r7.1.1).bind fun r8=>
 some (((r1.1.2.1,r4.1.1,r6.1.1),r8.1.1,()),()))))))))
 ((qFX r2.1.1).bind fun r9=>
 cond (!r2.1.2.2.1)
 (some (((r1.1.2.1,r9.1.1,([1]:List Int)),true,()),()))
 ((qQJ r2.1.2.1).bind fun r10=>
 cond (!r10.1.1)
 (some (((false,([]:List Int),([]:List Int)),false,()),()))
 (cond (r2.1.2.1==([48]:qBs))
 (some (((false,([]:List Int),([]:List Int)),false,()),()))
 (cond (r2.1.2.1==([49]:qBs))
 (some (((false,([]:List Int),([]:List Int)),false,()),()))
 ((qFX r2.1.2.1).bind fun r11=>
 (qKw r9.1.1 r11.1.1).bind fun r12=>
 (qNJ r12.1.1).bind fun r13=>
 some (((r1.1.2.1,r9.1.1,r11.1.1),r13.1.1,()),())))))))
def qLQ (a0:qBs):Option ((Bool×Unit)×Unit):=
 (qEC a0).bind fun r1=>
 cond (r1.1.2.1)
 (some ((true,()),()))
 ((qAH a0).bind fun r2=>
 some ((r2.1.2.1,()),()))
def qTY (a0:qBs):Option ((Int×Unit)×Unit):=
 (qLQ a0).bind fun r1=>
 cond (!r1.1.1)
 (some ((0,()),()))
 (cond (a0==([48]:qBs))
 (some ((0,()),()))
 (grd (decide (0<=(0:Int))&&decide ((0:Int) < a0.length)) (
 cond (((a0.getD (0:Int).toNat 0).toNat:Int)==45)
 (some ((-1,()),()))
 (some ((1,()),())))))
def qTad (a0:qBs):Option ((qBs×Unit)×Unit):=
 (qTY a0).bind fun r1=>
 cond (decide (r1.1.1 < (0:Int)))
 (grd (decide (0<=(1:Int))&&decide ((1:Int)<=a0.length)) (some ((a0.drop (1:Int).toNat,()),())))
 ((qTY a0).bind fun r2=>
 cond (decide (r2.1.1 > (0:Int)))
 (grd (decide (([45]:qBs).length+a0.length<=qWN)) (some ((([45]:qBs)++a0,()),())))
 (cond (a0==([48]:qBs))
 (some ((a0,()),()))
 (some ((([]:qBs),()),()))))
def qGM (n0:Int) (d1:Int):Option ((qBs×Unit)×Unit):=
 cond (decide (d1 < (0:Int)))
 ((qKP (qPa (qI (0 - n0)) (qI (0 - (qI (0 - n0))))) (qI (0 - d1))).bind fun r1=>
 grd (r1.1.1 !=0) (
 grd (r1.1.1 !=0) (
 (qSC (qI ((qI (0 - n0)).tdiv r1.1.1)) 10).bind fun r2=>
 cond (decide ((qI ((qI (0 - d1)).tdiv r1.1.1)) > (1:Int)))
 ((qSC (qI ((qI (0 - d1)).tdiv r1.1.1)) 10).bind fun r3=>
 grd (decide (([47]:qBs).length+r3.1.1.length<=qWN)) (grd (decide (r2.1.1.length+(([47]:qBs)++r3.1.1).length<=qWN)) (some ((r2.1.1++(([47]:qBs)++r3.1.1),()),()))))
 (some ((r2.1.1,()),())))))
 ((qKP (qPa n0 (qI (0 - n0))) d1).bind fun r4=>
 grd (r4.1.1 !=0) (
 grd (r4.1.1 !=0) (
 (qSC (qI (n0.tdiv r4.1.1)) 10).bind fun r5=>
 cond (decide ((qI (d1.tdiv r4.1.1)) > (1:Int)))
 ((qSC (qI (d1.tdiv r4.1.1)) 10).bind fun r6=>
 grd (decide (([47]:qBs).length+r6.1.1.length<=qWN)) (grd (decide (r5.1.1.length+(([47]:qBs)++r6.1.1).length<=qWN)) (some ((r5.1.1++(([47]:qBs)++r6.1.1),()),()))))
 (some ((r5.1.1,()),())))))
def qJf (x0:Sml) (y1:Sml):Option ((qBs×Unit)×Unit):=
 (qGM (qI ((qI (x0.1 * y1.2))+(qI (y1.1 * x0.2)))) (qI (x0.2 * y1.2))).bind fun r1=>
 some ((r1.1.1,()),())
def qPK (x:(List Int)×(List Int)×Int×Int×Int×(List Int)×Int×Int×(List Int)×Int×Int×Unit):Option (Ex×((List Int)×(List Int)×Int×Int×Int×(List Int)×Int×Int×(List Int)×Int×Int×Unit)):=
 let b1:=x.1
 let out5:=x.2.1
 let i6:=x.2.2.1
 let x7:=x.2.2.2.1
 let carry8:=x.2.2.2.2.1
 let t18:=x.2.2.2.2.2.1
 let t19:=x.2.2.2.2.2.2.1
 let t20:=x.2.2.2.2.2.2.2.1
 let t25:=x.2.2.2.2.2.2.2.2.1
 let t26:=x.2.2.2.2.2.2.2.2.2.1
 let t27:=x.2.2.2.2.2.2.2.2.2.2.1
 cond (decide (t27 < t26))
 (grd (decide (0<=t27)&&decide (t27 < t25.length)) (grd (decide (0<=qI (i6+t27))&&decide (qI (i6+t27) < out5.length)) (grd (decide ((qI (i6+t27)).toNat < out5.length)) (grd ((1000000000:Int) !=0) (grd ((1000000000:Int) !=0) (grd (decide (0<=qI (i6+t27))&&decide (qI (i6+t27) < out5.length)) (grd (decide ((qI (i6+t27)).toNat < out5.length)) (some (Ex.normal,(b1,out5.set ((qI (i6+t27)).toNat) (IntKind.u32.wrap ((qU ((qU ((qU (out5.getD ((qI (i6+t27)).toNat) (0:Int)))+(qU ((qU (x7)) * (qU (t25.getD t27.toNat (0:Int)))))))+carry8)).tmod 1000000000)),i6,x7,qU ((qU ((qU ((qU (out5.getD ((qI (i6+t27)).toNat) (0:Int)))+(qU ((qU (x7)) * (qU (t25.getD t27.toNat (0:Int)))))))+carry8)).tdiv 1000000000),t18,t19,t20,t25,t26,qI (t27+1),()))))))))))
 (some (Ex.exit 2,(b1,out5,i6,x7,carry8,t18,t19,t20,t25,t26,t27,())))
def qMI (x:(List Int)×(List Int)×(List Int)×Int×Int×Unit):Option (Ex×((List Int)×(List Int)×(List Int)×Int×Int×Unit)):=
 let b1:=x.1
 let out5:=x.2.1
 let t18:=x.2.2.1
 let t19:=x.2.2.2.1
 let t20:=x.2.2.2.2.1
 cond (decide (t20 < t19))
 (grd (decide (0<=t20)&&decide (t20 < t18.length)) (
 (qOA qPK (b1,out5,t20,t18.getD t20.toNat (0:Int),0,t18,t19,t20,b1,(b1.length:Int),0,())).bind fun y1=>
 cond (Ex.same y1.1 (Ex.exit 2))
 (grd (decide (0<=qI (y1.2.2.2.1+(y1.2.1.length:Int)))&&decide (qI (y1.2.2.2.1+(y1.2.1.length:Int)) < y1.2.2.1.length)) (grd (decide ((qI (y1.2.2.2.1+(y1.2.1.length:Int))).toNat < y1.2.2.1.length)) (some (Ex.normal,(y1.2.1,y1.2.2.1.set ((qI (y1.2.2.2.1+(y1.2.1.length:Int))).toNat) (IntKind.u32.wrap (y1.2.2.2.2.2.1)),y1.2.2.2.2.2.2.1,y1.2.2.2.2.2.2.2.1,qI (y1.2.2.2.2.2.2.2.2.1+1),())))))
 (none)))
 (some (Ex.exit 0,(b1,out5,t18,t19,t20,())))
def qJL (a0:List Int) (b1:List Int):Option (((List Int)×Unit)×Unit):=
 grd (decide (0<=qI ((a0.length:Int)+(b1.length:Int)))&&decide (qI ((a0.length:Int)+(b1.length:Int))<=qI ((a0.length:Int)+(b1.length:Int)))&&decide (qI ((a0.length:Int)+(b1.length:Int))<=qXE)) (
 (qOA qMI (b1,List.replicate (qI ((a0.length:Int)+(b1.length:Int))).toNat (0:Int),a0,(a0.length:Int),0,())).bind fun y1=>
 cond (Ex.same y1.1 (Ex.exit 0))
 ((qXF y1.2.2.1).bind fun r2=>
 some ((r2.1.1,()),()))
 (none))
def qPM (x:(List Int)×(List Int)×(List Int)×Int×Int×Int×Unit):Option (Ex×((List Int)×(List Int)×(List Int)×Int×Int×Int×Unit)):=
 let a0:=x.1
 let b1:=x.2.1
 let out5:=x.2.2.1
 let carry6:=x.2.2.2.1
 let t20:=x.2.2.2.2.1
 let t21:=x.2.2.2.2.2.1
 cond (decide (t21 < t20))
 ((qMR a0 t21).bind fun r1=>
 (qMR b1 t21).bind fun r2=>
 grd ((1000000000:Int) !=0) (grd (decide (out5.length+([(IntKind.u32.wrap ((IntKind.u32.wrap (r1.1.1+r2.1.1))+carry6)).tmod 1000000000]:List Int).length<=qXE)) (grd ((1000000000:Int) !=0) (some (Ex.normal,(a0,b1,out5++([(IntKind.u32.wrap ((IntKind.u32.wrap (r1.1.1+r2.1.1))+carry6)).tmod 1000000000]:List Int),IntKind.u32.wrap ((IntKind.u32.wrap ((IntKind.u32.wrap (r1.1.1+r2.1.1))+carry6)).tdiv 1000000000),t20,qI (t21+1),()))))))
 (some (Ex.exit 0,(a0,b1,out5,carry6,t20,t21,())))
def qWQ (a0:List Int) (b1:List Int):Option (((List Int)×Unit)×Unit):=
 grd (decide (0<=(0:Int))&&decide ((0:Int)<=qI ((qPa (a0.length:Int) (b1.length:Int))+1))&&decide (qI ((qPa (a0.length:Int) (b1.length:Int))+1)<=qXE)) (
 (qOA qPM (a0,b1,List.replicate (0:Int).toNat (0:Int),0,qPa (a0.length:Int) (b1.length:Int),0,())).bind fun y1=>
 cond (Ex.same y1.1 (Ex.exit 0))
 (grd (decide (y1.2.2.2.1.length+([y1.2.2.2.2.1]:List Int).length<=qXE)) (
 (qXF (y1.2.2.2.1++([y1.2.2.2.2.1]:List Int))).bind fun r2=>
 some ((r2.1.1,()),())))
 (none))
def qCQ (neg0:Bool) (num1:List Int) (den2:List Int):Option ((Rt×Unit)×Unit):=
 (qKw num1 den2).bind fun r1=>
 (qNJ r1.1.1).bind fun r2=>
 cond (!r2.1.1)
 ((qFI num1 r1.1.1).bind fun r3=>
 (qFI den2 r1.1.1).bind fun r4=>
 some (((neg0,r3.1.1,r4.1.1),()),()))
 (some (((neg0,num1,den2),()),()))
def qHK (x:(List Int)×(List Int)×(List Int)×Int×Int×Int×Unit):Option (Ex×((List Int)×(List Int)×(List Int)×Int×Int×Int×Unit)):=
 let a0:=x.1
 let b1:=x.2.1
 let out5:=x.2.2.1
 let borrow6:=x.2.2.2.1
 let t13:=x.2.2.2.2.1
 let t14:=x.2.2.2.2.2.1
 cond (decide (t14 < t13))
 (grd (decide (0<=t14)&&decide (t14 < a0.length)) (
 (qMR b1 t14).bind fun r1=>
 cond (decide ((qI ((qI ((qI (a0.getD t14.toNat (0:Int))) - (qI (r1.1.1)))) - borrow6)) < (0:Int)))
 (grd (decide (out5.length+([IntKind.u32.wrap (qI ((qI ((qI ((qI (a0.getD t14.toNat (0:Int))) - (qI (r1.1.1)))) - borrow6))+1000000000))]:List Int).length<=qXE)) (some (Ex.normal,(a0,b1,out5++([IntKind.u32.wrap (qI ((qI ((qI ((qI (a0.getD t14.toNat (0:Int))) - (qI (r1.1.1)))) - borrow6))+1000000000))]:List Int),1,t13,qI (t14+1),()))))
 (grd (decide (out5.length+([IntKind.u32.wrap (qI ((qI ((qI (a0.getD t14.toNat (0:Int))) - (qI (r1.1.1)))) - borrow6))]:List Int).length<=qXE)) (some (Ex.normal,(a0,b1,out5++([IntKind.u32.wrap (qI ((qI ((qI (a0.getD t14.toNat (0:Int))) - (qI (r1.1.1)))) - borrow6))]:List Int),0,t13,qI (t14+1),()))))))
 (some (Ex.exit 0,(a0,b1,out5,borrow6,t13,t14,())))
def qTO (a0:List Int) (b1:List Int):Option (((List Int)×Unit)×Unit):=
 grd (decide (0<=(0:Int))&&decide ((0:Int)<=(a0.length:Int))&&decide ((a0.length:Int)<=qXE)) (
 (qOA qHK (a0,b1,List.replicate (0:Int).toNat (0:Int),0,(a0.length:Int),0,())).bind fun y1=>
 cond (Ex.same y1.1 (Ex.exit 0))
 ((qXF y1.2.2.2.1).bind fun r2=>
 some ((r2.1.1,()),()))
 (none))
def qOX (x0:Rt) (y1:Rt):Option ((Rt×Unit)×Unit):=
 (qJL x0.2.1 y1.2.2).bind fun r1=>
 (qJL y1.2.1 x0.2.2).bind fun r2=>
 (qJL x0.2.2 y1.2.2).bind fun r3=>
 cond (x0.1==y1.1)
 ((qWQ r1.1.1 r2.1.1).bind fun r4=>
 (qCQ x0.1 r4.1.1 r3.1.1).bind fun r5=>
 some (((r5.1.1.1,r5.1.1.2.1,r5.1.1.2.2),()),()))
 ((qCP r1.1.1 r2.1.1).bind fun r6=>
 cond (decide (r6.1.1>=0))
 ((qTO r1.1.1 r2.1.1).bind fun r7=>
 (qCQ x0.1 r7.1.1 r3.1.1).bind fun r8=>
 some (((r8.1.1.1,r8.1.1.2.1,r8.1.1.2.2),()),()))
 ((qTO r2.1.1 r1.1.1).bind fun r9=>
 (qCQ y1.1 r9.1.1 r3.1.1).bind fun r10=>
 some (((r10.1.1.1,r10.1.1.2.1,r10.1.1.2.2),()),())))
def qQA (b0:Unit×List Int) (s1:qBs):Option ((Int×Bool×Unit)×((Unit×List Int)×Unit)):=
 (qPE ((),b0.2)).bind fun r1=>
 grd (decide (r1.2.1.2.length+(s1.map fun c=>((c.toNat:Nat):Int)).length<=qXE)) (some (((s1.length:Int),false,()),((),r1.2.1.2++(s1.map fun c=>((c.toNat:Nat):Int))),()))
def qRI (v:Int) (i:Nat) (x:(Unit×List Int)×Unit):Option ((Unit×List Int)×Unit):=
 let b3:=x.1
 (qUE (qU (v)) 10).bind fun r1=>
 grd (decide (0<=(r1.1.1.length:Int))&&decide ((r1.1.1.length:Int)<=([48,48,48,48,48,48,48,48,48]:qBs).length)) (
 (qQA ((),b3.2) (([48,48,48,48,48,48,48,48,48]:qBs).drop (r1.1.1.length:Int).toNat)).bind fun r2=>
 (qQA ((),r2.2.1.2) r1.1.1).bind fun r3=>
 some (((),r3.2.1.2),()))
def qRL (y:(Unit×List Int)×Unit) (o:(Unit×List Int)×Unit):(Unit×List Int)×Unit:=(o.1,())
def qHL (y:(Unit×List Int)×Unit):(Unit×List Int)×Unit:=(y.1,())
def qIM (a0:List Int):Option ((qBs×Unit)×Unit):=
 cond ((a0.length:Int)==0)
 (some ((([48]:qBs),()),()))
 (grd (decide (0<=qI ((a0.length:Int) - (1:Int)))&&decide (qI ((a0.length:Int) - (1:Int)) < a0.length)) (
 (qUE (qU (a0.getD (qI ((a0.length:Int) - (1:Int))).toNat (0:Int))) 10).bind fun r1=>
 (qQA ((),([]:List Int)) r1.1.1).bind fun r2=>
 grd (decide (0<=qI ((a0.length:Int) - (1:Int)))&&decide (qI ((a0.length:Int) - (1:Int))<=a0.length)) (
 grd (decide ((a0.take (qI ((a0.length:Int) - (1:Int))).toNat).length<=qXE)) (((foldO (fun p y=>(qRI p.1 p.2 y).bind fun o=>some (qRL y o)) (a0.take (qI ((a0.length:Int) - (1:Int))).toNat).zipIdx.reverse (((),r2.2.1.2),())).bind fun y=>some ((),qHL y)).bind fun y3=>
 (qJE ((),y3.2.1.2)).bind fun r4=>
 some ((r4.1.1,()),())))))
def qGK (x0:Rt):Option ((qBs×Unit)×Unit):=
 (qIM x0.2.1).bind fun r1=>
 cond (x0.1)
 (cond (decide ((x0.2.1.length:Int) > (0:Int)))
 (grd (decide (([45]:qBs).length+r1.1.1.length<=qWN)) (
 (qNJ x0.2.2).bind fun r2=>
 cond (!r2.1.1)
 ((qIM x0.2.2).bind fun r3=>
 grd (decide (([47]:qBs).length+r3.1.1.length<=qWN)) (grd (decide ((([45]:qBs)++r1.1.1).length+(([47]:qBs)++r3.1.1).length<=qWN)) (some (((([45]:qBs)++r1.1.1)++(([47]:qBs)++r3.1.1),()),()))))
 (some ((([45]:qBs)++r1.1.1,()),()))))
 ((qNJ x0.2.2).bind fun r4=>
 cond (!r4.1.1)
 ((qIM x0.2.2).bind fun r5=>
 grd (decide (([47]:qBs).length+r5.1.1.length<=qWN)) (grd (decide (r1.1.1.length+(([47]:qBs)++r5.1.1).length<=qWN)) (some ((r1.1.1++(([47]:qBs)++r5.1.1),()),()))))
 (some ((r1.1.1,()),()))))
 ((qNJ x0.2.2).bind fun r6=>
 cond (!r6.1.1)
 ((qIM x0.2.2).bind fun r7=>
 grd (decide (([47]:qBs).length+r7.1.1.length<=qWN)) (grd (decide (r1.1.1.length+(([47]:qBs)++r7.1.1).length<=qWN)) (some ((r1.1.1++(([47]:qBs)++r7.1.1),()),()))))
 (some ((r1.1.1,()),())))
def qHf (x0:Rt) (y1:Rt):Option ((qBs×Unit)×Unit):=
 (qOX (x0.1,x0.2.1,x0.2.2) (y1.1,y1.2.1,y1.2.2)).bind fun r1=>
 (qGK (r1.1.1.1,r1.1.1.2.1,r1.1.1.2.2)).bind fun r2=>
 some ((r2.1.1,()),())
def qHD (a0:qBs) (b1:qBs) (small2:Unit) (all3:Unit):Option ((qBs×Unit)×Unit):=
 (qEC a0).bind fun r1=>
 (qEC b1).bind fun r2=>
 cond (r1.1.2.1)
 (cond (r2.1.2.1)
 ((qJf (r1.1.1.1,r1.1.1.2) (r2.1.1.1,r2.1.1.2)).bind fun r3=>
 some ((r3.1.1,()),()))
 ((qAH a0).bind fun r4=>
 (qAH b1).bind fun r5=>
 cond (!r4.1.2.1)
 (some ((([]:qBs),()),()))
 (cond (!r5.1.2.1)
 (some ((([]:qBs),()),()))
 ((qHf (r4.1.1.1,r4.1.1.2.1,r4.1.1.2.2) (r5.1.1.1,r5.1.1.2.1,r5.1.1.2.2)).bind fun r6=>
 some ((r6.1.1,()),())))))
 ((qAH a0).bind fun r7=>
 (qAH b1).bind fun r8=>
 cond (!r7.1.2.1)
 (some ((([]:qBs),()),()))
 (cond (!r8.1.2.1)
 (some ((([]:qBs),()),()))
 ((qHf (r7.1.1.1,r7.1.1.2.1,r7.1.1.2.2) (r8.1.1.1,r8.1.1.2.1,r8.1.1.2.2)).bind fun r9=>
 some ((r9.1.1,()),()))))
def qOp (a0:qBs) (b1:qBs):Option ((qBs×Unit)×Unit):=
 (qHD a0 b1 () ()).bind fun r1=>
 some ((r1.1.1,()),())
def qAz (a0:qBs) (b1:qBs):Option ((qBs×Unit)×Unit):=
 (qTad b1).bind fun r1=>
 (qOp a0 r1.1.1).bind fun r2=>
 some ((r2.1.1,()),())
def qAT (a0:qBs) (b1:qBs):Option ((Int×Unit)×Unit):=
 (qAz a0 b1).bind fun r1=>
 (qTY r1.1.1).bind fun r2=>
 some ((r2.1.1,()),())
def qFL (x:Val×Bool×(List qBs)×Int×Int×Unit):Option (Ex×(Val×Bool×(List qBs)×Int×Int×Unit)):=
 let v1:=x.1
 let t2:=x.2.1
 let t13:=x.2.2.1
 let t14:=x.2.2.2.1
 let t15:=x.2.2.2.2.1
 cond (decide (t15 < t14))
 (grd (decide (0<=t15)&&decide (t15 < t13.length)) (
 (qUH (t13.getD t15.toNat ([]:qBs))).bind fun r1=>
 cond (!r1.1.1)
 (some (Ex.ret,(v1,false,t13,t14,t15,())))
 (grd (decide (0<=t15)&&decide (t15 < v1.2.2.2.2.length)) (
 (qUH (v1.2.2.2.2.getD t15.toNat ([]:qBs))).bind fun r2=>
 cond (!r2.1.1)
 (some (Ex.ret,(v1,false,t13,t14,t15,())))
 (grd (decide (0<=t15)&&decide (t15 < v1.2.2.2.2.length)) (
 cond ((v1.2.2.2.2.getD t15.toNat ([]:qBs))==v1.2.2.1)
 (some (Ex.ret,(v1,false,t13,t14,t15,())))
 (cond (decide (t15 > (0:Int)))
 (grd (decide (0<=qI (t15 - (1:Int)))&&decide (qI (t15 - (1:Int)) < v1.2.2.2.1.length)) (
 (qAT (v1.2.2.2.1.getD (qI (t15 - (1:Int))).toNat ([]:qBs)) (t13.getD t15.toNat ([]:qBs))).bind fun r3=>
 cond (decide (r3.1.1>=0))
 (some (Ex.ret,(v1,false,t13,t14,t15,())))
 (some (Ex.normal,(v1,t2,t13,t14,qI (t15+1),())))))
 (some (Ex.normal,(v1,t2,t13,t14,qI (t15+1),()))))))))))
 (some (Ex.exit 0,(v1,t2,t13,t14,t15,())))
def qVU (v0:Val):Option ((Bool×Unit)×Unit):=
 cond ((v0.2.2.2.1.length:Int) !=(v0.2.2.2.2.length:Int))
 (some ((false,()),()))
 ((qOA qFL (v0,false,v0.2.2.2.1,(v0.2.2.2.1.length:Int),0,())).bind fun y1=>
 cond (Ex.same y1.1 (Ex.exit 0))
 (some ((true,()),()))
 (cond (Ex.same y1.1 Ex.ret)
 (some ((y1.2.2.1,()),()))
 (none)))
def qPT (v0:Val):Option ((Bool×Unit)×Unit):=
 cond (v0.1==1)
 (cond (v0.2.2.1==([]:qBs))
 ((qMU v0).bind fun r1=>
 some ((r1.1.1,()),()))
 (some ((false,()),())))
 (cond (v0.1==2)
 (cond (!v0.2.1)
 ((qUH v0.2.2.1).bind fun r2=>
 cond (r2.1.1)
 ((qMU v0).bind fun r3=>
 some ((r3.1.1,()),()))
 (some ((false,()),())))
 (some ((false,()),())))
 (cond (v0.1==3)
 (cond (!v0.2.1)
 ((qLQ v0.2.2.1).bind fun r4=>
 cond (r4.1.1)
 ((qMU v0).bind fun r5=>
 some ((r5.1.1,()),()))
 (some ((false,()),())))
 (some ((false,()),())))
 (cond (v0.1==4)
 (cond (!v0.2.1)
 ((qUH v0.2.2.1).bind fun r6=>
 cond (r6.1.1)
 ((qVU v0).bind fun r7=>
 some ((r7.1.1,()),()))
 (some ((false,()),())))
 (some ((false,()),())))
 (some ((false,()),())))))
def qEG (x:(List (qBs×Val))×Bool×(List (qBs×Val))×(List qRV)×Int×Int×Unit):Option (Ex×((List (qBs×Val))×Bool×(List (qBs×Val))×(List qRV)×Int×Int×Unit)):=
 let t2:=x.1
 let t3:=x.2.1
 let out4:=x.2.2.1
 let t10:=x.2.2.2.1
 let t11:=x.2.2.2.2.1
 let t12:=x.2.2.2.2.2.1
 cond (decide (t12 < t11))
 (grd (decide (0<=t12)&&decide (t12 < t10.length)) (
 (qPT ((t10.getD t12.toNat qIac).2)).bind fun r1=>
 cond (!r1.1.1)
 (some (Ex.ret,(([]:List (qBs×Val)),false,out4,t10,t11,t12,())))
 (cond (!((qGD ((t10.getD t12.toNat qIac).1) out4).isSome))
 (some (Ex.normal,(t2,t3,qKa ((t10.getD t12.toNat qIac).1) ((t10.getD t12.toNat qIac).2) out4,t10,t11,qI (t12+1),())))
 (some (Ex.normal,(t2,t3,out4,t10,t11,qI (t12+1),()))))))
 (some (Ex.exit 0,(t2,t3,out4,t10,t11,t12,())))
def qJR (env0:List qRV):Option (((List (qBs×Val))×Bool×Unit)×Unit):=
 (qOA qEG (([]:List (qBs×Val)),false,([]:List (qBs×Val)),env0,(env0.length:Int),0,())).bind fun y1=>
 cond (Ex.same y1.1 (Ex.exit 0))
 (some ((y1.2.2.2.1,true,()),()))
 (cond (Ex.same y1.1 Ex.ret)
 (some ((y1.2.1,y1.2.2.1,()),()))
 (none))
def qAc (v0:Val):Option ((Bool×Unit)×Unit):=
 (qPT v0).bind fun r1=>
 some ((!r1.1.1,()),())
def qPD (x:(List Val)×Unit×Int×Int×Int×Unit):Option (Ex×((List Val)×Unit×Int×Int×Int×Unit)):=
 let s0:=x.1
 let f1:=x.2.1
 let t4:=x.2.2.1
 let t7:=x.2.2.2.1
 let t8:=x.2.2.2.2.1
 cond (decide (t8 < t7))
 (grd (decide (0<=t8)&&decide (t8 < s0.length)) (
 (qAc (s0.getD t8.toNat qEK)).bind fun r1=>
 cond (r1.1.1)
 (some (Ex.ret,(s0,(),t8,t7,t8,())))
 (some (Ex.normal,(s0,(),t4,t7,qI (t8+1),())))))
 (some (Ex.exit 0,(s0,(),t4,t7,t8,())))
def qHE (s0:List Val) (f1:Unit):Option ((Int×Unit)×Unit):=
 (qOA qPD (s0,(),0,(s0.length:Int),0,())).bind fun y1=>
 cond (Ex.same y1.1 (Ex.exit 0))
 (some ((-1,()),()))
 (cond (Ex.same y1.1 Ex.ret)
 (some ((y1.2.2.2.1,()),()))
 (none))
def qQD (s0:List Val) (f1:Unit):Option ((Bool×Unit)×Unit):=
 (qHE s0 ()).bind fun r1=>
 some ((decide (r1.1.1>=0),()),())
def qJa (l0:List Val):Option ((Bool×Unit)×Unit):=
 (qQD l0 ()).bind fun r1=>
 some ((!r1.1.1,()),())
def qVb (l0:List Val):Option ((Bool×Unit)×Unit):=
 (qJa l0).bind fun r1=>
 some ((!r1.1.1,()),())
def qSD (x:(List (List Val))×Unit×Int×Int×Int×Unit):Option (Ex×((List (List Val))×Unit×Int×Int×Int×Unit)):=
 let s0:=x.1
 let f1:=x.2.1
 let t4:=x.2.2.1
 let t7:=x.2.2.2.1
 let t8:=x.2.2.2.2.1
 cond (decide (t8 < t7))
 (grd (decide (0<=t8)&&decide (t8 < s0.length)) (
 (qVb (s0.getD t8.toNat ([]:List Val))).bind fun r1=>
 cond (r1.1.1)
 (some (Ex.ret,(s0,(),t8,t7,t8,())))
 (some (Ex.normal,(s0,(),t4,t7,qI (t8+1),())))))
 (some (Ex.exit 0,(s0,(),t4,t7,t8,())))
def qGE (s0:List (List Val)) (f1:Unit):Option ((Int×Unit)×Unit):=
 (qOA qSD (s0,(),0,(s0.length:Int),0,())).bind fun y1=>
 cond (Ex.same y1.1 (Ex.exit 0))
 (some ((-1,()),()))
 (cond (Ex.same y1.1 Ex.ret)
 (some ((y1.2.2.2.1,()),()))
 (none))
def qND (s0:List (List Val)) (f1:Unit):Option ((Bool×Unit)×Unit):=
 (qGE s0 ()).bind fun r1=>
 some ((decide (r1.1.1>=0),()),())
def qKZ (x:(List (qBs×Interp))×Bool×(List (qBs×Interp))×(List Interp)×Int×Int×Unit):Option (Ex×((List (qBs×Interp))×Bool×(List (qBs×Interp))×(List Interp)×Int×Int×Unit)):=
 let t2:=x.1
 let t3:=x.2.1
 let out4:=x.2.2.1
 let t10:=x.2.2.2.1
 let t11:=x.2.2.2.2.1
 let t12:=x.2.2.2.2.2.1
 cond (decide (t12 < t11))
 (grd (decide (0<=t12)&&decide (t12 < t10.length)) (
 cond (((((t10.getD t12.toNat qGL).2).1).length:Int) !=(((((t10.getD t12.toNat qGL).2).2).1).length:Int))
 (some (Ex.ret,(([]:List (qBs×Interp)),false,out4,t10,t11,t12,())))
 ((qJa ((((t10.getD t12.toNat qGL).2).2).1)).bind fun r1=>
 cond (!r1.1.1)
 (some (Ex.ret,(([]:List (qBs×Interp)),false,out4,t10,t11,t12,())))
 ((qPT ((((t10.getD t12.toNat qGL).2).2).2)).bind fun r2=>
 cond (!r2.1.1)
 (some (Ex.ret,(([]:List (qBs×Interp)),false,out4,t10,t11,t12,())))
 ((qND (((t10.getD t12.toNat qGL).2).1) ()).bind fun r3=>
 cond (r3.1.1)
 (some (Ex.ret,(([]:List (qBs×Interp)),false,out4,t10,t11,t12,())))
 (cond (!((qGD ((t10.getD t12.toNat qGL).1) out4).isSome))
 (some (Ex.normal,(t2,t3,qKa ((t10.getD t12.toNat qGL).1) (t10.getD t12.toNat qGL) out4,t10,t11,qI (t12+1),())))
 (some (Ex.normal,(t2,t3,out4,t10,t11,qI (t12+1),())))))))))
 (some (Ex.exit 0,(t2,t3,out4,t10,t11,t12,())))
def qXa (fns0:List Interp):Option (((List (qBs×Interp))×Bool×Unit)×Unit):=
 (qOA qKZ (([]:List (qBs×Interp)),false,([]:List (qBs×Interp)),fns0,(fns0.length:Int),0,())).bind fun y1=>
 cond (Ex.same y1.1 (Ex.exit 0))
 (some ((y1.2.2.2.1,true,()),()))
 (cond (Ex.same y1.1 Ex.ret)
 (some ((y1.2.1,y1.2.2.1,()),()))
 (none))
def qMV (sort0:Int) (a1:qBs):Option ((Bool×Unit)×Unit):=
 cond (sort0==2)
 ((qUH a1).bind fun r1=>
 cond (r1.1.1)
 (some ((true,()),()))
 (cond (sort0==3)
 ((qLQ a1).bind fun r2=>
 some ((r2.1.1,()),()))
 (some ((false,()),()))))
 (cond (sort0==3)
 ((qLQ a1).bind fun r3=>
 some ((r3.1.1,()),()))
 (some ((false,()),())))
def qAa (s0:Int):Option ((Bool×Unit)×Unit):=
 cond (decide (s0>=1))
 (some ((decide (s0<=4),()),()))
 (some ((false,()),()))
def qIZ (c0:Int):Option ((Bool×Unit)×Unit):=
 cond (decide (c0>=97))
 (cond (decide (c0<=122))
 (some ((true,()),()))
 (cond (decide (c0>=65))
 (cond (decide (c0<=90))
 (some ((true,()),()))
 (cond (c0==95)
 (some ((true,()),()))
 (cond (c0==36)
 (some ((true,()),()))
 (some ((c0==33,()),())))))
 (cond (c0==95)
 (some ((true,()),()))
 (cond (c0==36)
 (some ((true,()),()))
 (some ((c0==33,()),()))))))
 (cond (decide (c0>=65))
 (cond (decide (c0<=90))
 (some ((true,()),()))
 (cond (c0==95)
 (some ((true,()),()))
 (cond (c0==36)
 (some ((true,()),()))
 (some ((c0==33,()),())))))
 (cond (c0==95)
 (some ((true,()),()))
 (cond (c0==36)
 (some ((true,()),()))
 (some ((c0==33,()),())))))
def qHaa (s0:qBs):Option ((Bool×Unit)×Unit):=
 cond (s0==([97,110,100]:qBs))
 (some ((true,()),()))
 (cond (s0==([111,114]:qBs))
 (some ((true,()),()))
 (cond (s0==([110,111,116]:qBs))
 (some ((true,()),()))
 (cond (s0==([105,116,101]:qBs))
 (some ((true,()),()))
 (cond (s0==([116,114,117,101]:qBs))
 (some ((true,()),()))
 (cond (s0==([102,97,108,115,101]:qBs))
 (some ((true,()),()))
 (cond (s0==([108,101,116]:qBs))
 (some ((true,()),()))
 (cond (s0==([102,111,114,97,108,108]:qBs))
 (some ((true,()),()))
 (cond (s0==([101,120,105,115,116,115]:qBs))
 (some ((true,()),()))
 (cond (s0==([100,105,115,116,105,110,99,116]:qBs))
 (some ((true,()),()))
 (cond (s0==([100,105,118]:qBs))
 (some ((true,()),()))
 (cond (s0==([109,111,100]:qBs))
 (some ((true,()),()))
 (cond (s0==([115,101,108,101,99,116]:qBs))
 (some ((true,()),()))
 (cond (s0==([115,116,111,114,101]:qBs))
 (some ((true,()),()))
 (cond (s0==([99,111,110,115,116]:qBs))
 (some ((true,()),()))
 (cond (s0==([66,111,111,108]:qBs))
 (some ((true,()),()))
 (cond (s0==([73,110,116]:qBs))
 (some ((true,()),()))
 (cond (s0==([82,101,97,108]:qBs))
 (some ((true,()),()))
 (cond (s0==([65,114,114,97,121]:qBs))
 (some ((true,()),()))
 (some ((false,()),()))))))))))))))))))))
def qQO (x:qBs×Bool×Int×Int×Unit):Option (Ex×(qBs×Bool×Int×Int×Unit)):=
 let s0:=x.1
 let t2:=x.2.1
 let t23:=x.2.2.1
 let t24:=x.2.2.2.1
 cond (decide (t24 < t23))
 (grd (decide (0<=t24)&&decide (t24 < s0.length)) (
 (qIZ ((s0.getD t24.toNat 0).toNat:Int)).bind fun r1=>
 cond (!r1.1.1)
 (cond (decide (((s0.getD t24.toNat 0).toNat:Int)>=48))
 (cond (!(decide (((s0.getD t24.toNat 0).toNat:Int)<=57)))
 (cond (((s0.getD t24.toNat 0).toNat:Int) !=(46:Int))
 (cond (((s0.getD t24.toNat 0).toNat:Int) !=(64:Int))
 (some (Ex.ret,(s0,false,t23,t24,())))
 (some (Ex.normal,(s0,t2,t23,qI (t24+1),()))))
 (some (Ex.normal,(s0,t2,t23,qI (t24+1),()))))
 (some (Ex.normal,(s0,t2,t23,qI (t24+1),()))))
 (cond (((s0.getD t24.toNat 0).toNat:Int) !=(46:Int))
 (cond (((s0.getD t24.toNat 0).toNat:Int) !=(64:Int))
 (some (Ex.ret,(s0,false,t23,t24,())))
 (some (Ex.normal,(s0,t2,t23,qI (t24+1),()))))
 (some (Ex.normal,(s0,t2,t23,qI (t24+1),())))))
 (some (Ex.normal,(s0,t2,t23,qI (t24+1),())))))
 (some (Ex.exit 0,(s0,t2,t23,t24,())))
def qJZ (s0:qBs):Option ((Bool×Unit)×Unit):=
 cond (s0==([]:qBs))
 (some ((false,()),()))
 (cond (decide ((s0.length:Int) > (40:Int)))
 (some ((false,()),()))
 (grd (decide (0<=(0:Int))&&decide ((0:Int) < s0.length)) (
 (qIZ ((s0.getD (0:Int).toNat 0).toNat:Int)).bind fun r1=>
 cond (!r1.1.1)
 (some ((false,()),()))
 ((qHaa s0).bind fun r2=>
 cond (r2.1.1)
 (some ((false,()),()))
 ((qOA qQO (s0,false,(s0.length:Int),0,())).bind fun y3=>
 cond (Ex.same y3.1 (Ex.exit 0))
 (some ((true,()),()))
 (cond (Ex.same y3.1 Ex.ret)
 (some ((y3.2.2.1,()),()))
 (none)))))))
def qGd (n0:Nod):Option ((Bool×Unit)×Unit):=
 cond (n0.1==3)
 (cond (n0.2.2.1==([]:qBs))
 ((qMV n0.2.1 n0.2.2.2.1).bind fun r1=>
 some ((r1.1.1,()),()))
 (some ((false,()),())))
 (cond (n0.1==4)
 ((qAa n0.2.1).bind fun r2=>
 cond (r2.1.1)
 ((qJZ n0.2.2.1).bind fun r3=>
 cond (r3.1.1)
 (some ((n0.2.2.2.1==([]:qBs),()),()))
 (some ((false,()),())))
 (some ((false,()),())))
 (cond (n0.1==5)
 ((qAa n0.2.1).bind fun r4=>
 cond (r4.1.1)
 ((qJZ n0.2.2.1).bind fun r5=>
 cond (r5.1.1)
 (some ((n0.2.2.2.1==([]:qBs),()),()))
 (some ((false,()),())))
 (some ((false,()),())))
 (cond (n0.1==16)
 (cond (n0.2.1==0)
 (cond (n0.2.2.1==([]:qBs))
 ((qUH n0.2.2.2.1).bind fun r6=>
 cond (r6.1.1)
 ((qTY n0.2.2.2.1).bind fun r7=>
 some ((decide (r7.1.1 > (0:Int)),()),()))
 (some ((false,()),())))
 (some ((false,()),())))
 (some ((false,()),())))
 (cond (n0.1==17)
 (cond (n0.2.1==0)
 (cond (n0.2.2.1==([]:qBs))
 ((qUH n0.2.2.2.1).bind fun r8=>
 cond (r8.1.1)
 ((qTY n0.2.2.2.1).bind fun r9=>
 some ((decide (r9.1.1 > (0:Int)),()),()))
 (some ((false,()),())))
 (some ((false,()),())))
 (some ((false,()),())))
 (cond (decide (n0.1>=1))
 (cond (decide (n0.1<=20))
 (cond (n0.2.1==0)
 (cond (n0.2.2.1==([]:qBs))
 (some ((n0.2.2.2.1==([]:qBs),()),()))
 (some ((false,()),())))
 (some ((false,()),())))
 (some ((false,()),())))
 (some ((false,()),())))))))
def qVd (op0:Int) (n1:Int):Option ((Bool×Unit)×Unit):=
 cond (op0==1)
 (some ((n1==0,()),()))
 (cond (op0==2)
 (some ((n1==0,()),()))
 (cond (op0==3)
 (some ((n1==0,()),()))
 (cond (op0==4)
 (some ((n1==0,()),()))
 (cond (op0==5)
 (cond (decide (n1>=1))
 (some ((decide (n1<=40),()),()))
 (some ((false,()),())))
 (cond (op0==6)
 (some ((n1==1,()),()))
 (cond (op0==16)
 (some ((n1==1,()),()))
 (cond (op0==17)
 (some ((n1==1,()),()))
 (cond (op0==20)
 (some ((n1==1,()),()))
 (cond (op0==7)
 (some ((true,()),()))
 (cond (op0==8)
 (some ((true,()),()))
 (cond (op0==14)
 (some ((decide (n1>=1),()),()))
 (cond (op0==10)
 (some ((n1==3,()),()))
 (cond (op0==19)
 (some ((n1==3,()),()))
 (some ((n1==2,()),())))))))))))))))
def qAq (x0:Int) (a1:Option Int):Option ((Bool×Unit)×Unit):=
 grd (a1.isSome) (some ((x0 !=(a1.getD (0:Int)),()),()))
def qNB (x:(List Int)×(Option Int)×Int×Int×Int×Unit):Option (Ex×((List Int)×(Option Int)×Int×Int×Int×Unit)):=
 let s0:=x.1
 let f1:=x.2.1
 let t4:=x.2.2.1
 let t7:=x.2.2.2.1
 let t8:=x.2.2.2.2.1
 cond (decide (t8 < t7))
 (grd (decide (0<=t8)&&decide (t8 < s0.length)) (
 (qAq (s0.getD t8.toNat (0:Int)) f1).bind fun r1=>
 cond (r1.1.1)
 (some (Ex.ret,(s0,f1,t8,t7,t8,())))
 (some (Ex.normal,(s0,f1,t4,t7,qI (t8+1),())))))
 (some (Ex.exit 0,(s0,f1,t4,t7,t8,())))
def qEE (s0:List Int) (f1:Option Int):Option ((Int×Unit)×Unit):=
 (qOA qNB (s0,f1,0,(s0.length:Int),0,())).bind fun y1=>
 cond (Ex.same y1.1 (Ex.exit 0))
 (some ((-1,()),()))
 (cond (Ex.same y1.1 Ex.ret)
 (some ((y1.2.2.2.1,()),()))
 (none))
def qFD (s0:List Int) (f1:Option Int):Option ((Bool×Unit)×Unit):=
 (qEE s0 f1).bind fun r1=>
 some ((decide (r1.1.1>=0),()),())
def qXX (sorts0:List Int) (s1:Int):Option ((Bool×Unit)×Unit):=
 (qFD sorts0 (some s1)).bind fun r1=>
 some ((!r1.1.1,()),())
def qWG (is0:Bool) (sort1:Int):Option ((Int×Unit)×Unit):=
 cond (is0)
 (some ((sort1,()),()))
 (some ((0,()),()))
def qPO (s0:Int):Option ((Bool×Unit)×Unit):=
 cond (s0==2)
 (some ((true,()),()))
 (some ((s0==3,()),()))
def qNd (n0:Nod) (sorts1:List Int):Option ((Int×Unit)×Unit):=
 cond (n0.1==3)
 (some ((n0.2.1,()),()))
 (cond (n0.1==4)
 (some ((n0.2.1,()),()))
 (cond (n0.1==5)
 (some ((n0.2.1,()),()))
 (cond (n0.1==1)
 ((qXX sorts1 1).bind fun r1=>
 (qWG r1.1.1 1).bind fun r2=>
 some ((r2.1.1,()),()))
 (cond (n0.1==2)
 ((qXX sorts1 1).bind fun r3=>
 (qWG r3.1.1 1).bind fun r4=>
 some ((r4.1.1,()),()))
 (cond (n0.1==6)
 ((qXX sorts1 1).bind fun r5=>
 (qWG r5.1.1 1).bind fun r6=>
 some ((r6.1.1,()),()))
 (cond (n0.1==7)
 ((qXX sorts1 1).bind fun r7=>
 (qWG r7.1.1 1).bind fun r8=>
 some ((r8.1.1,()),()))
 (cond (n0.1==8)
 ((qXX sorts1 1).bind fun r9=>
 (qWG r9.1.1 1).bind fun r10=>
 some ((r10.1.1,()),()))
 (cond (n0.1==9)
 ((qXX sorts1 1).bind fun r11=>
 (qWG r11.1.1 1).bind fun r12=>
 some ((r12.1.1,()),()))
 (cond (n0.1==10)
 (grd (decide (0<=(0:Int))&&decide ((0:Int) < sorts1.length)) (
 cond ((sorts1.getD (0:Int).toNat (0:Int))==1)
 (grd (decide (0<=(1:Int))&&decide ((1:Int) < sorts1.length)) (
 grd (decide (0<=(2:Int))&&decide ((2:Int) < sorts1.length)) (
 grd (decide (0<=(1:Int))&&decide ((1:Int) < sorts1.length)) (
 (qWG ((sorts1.getD (1:Int).toNat (0:Int))==(sorts1.getD (2:Int).toNat (0:Int))) (sorts1.getD (1:Int).toNat (0:Int))).bind fun r13=>
 some ((r13.1.1,()),())))))
 (grd (decide (0<=(1:Int))&&decide ((1:Int) < sorts1.length)) (
 (qWG false (sorts1.getD (1:Int).toNat (0:Int))).bind fun r14=>
 some ((r14.1.1,()),())))))
 (cond (n0.1==11)
 (grd (decide (0<=(0:Int))&&decide ((0:Int) < sorts1.length)) (
 grd (decide (0<=(1:Int))&&decide ((1:Int) < sorts1.length)) (
 (qWG ((sorts1.getD (0:Int).toNat (0:Int))==(sorts1.getD (1:Int).toNat (0:Int))) 1).bind fun r15=>
 some ((r15.1.1,()),()))))
 (cond (n0.1==12)
 (grd (decide (0<=(0:Int))&&decide ((0:Int) < sorts1.length)) (
 (qPO (sorts1.getD (0:Int).toNat (0:Int))).bind fun r16=>
 cond (r16.1.1)
 (grd (decide (0<=(0:Int))&&decide ((0:Int) < sorts1.length)) (
 (qXX sorts1 (sorts1.getD (0:Int).toNat (0:Int))).bind fun r17=>
 (qWG r17.1.1 1).bind fun r18=>
 some ((r18.1.1,()),())))
 ((qWG false 1).bind fun r19=>
 some ((r19.1.1,()),()))))
 (cond (n0.1==13)
 (grd (decide (0<=(0:Int))&&decide ((0:Int) < sorts1.length)) (
 (qPO (sorts1.getD (0:Int).toNat (0:Int))).bind fun r20=>
 cond (r20.1.1)
 (grd (decide (0<=(0:Int))&&decide ((0:Int) < sorts1.length)) (
 (qXX sorts1 (sorts1.getD (0:Int).toNat (0:Int))).bind fun r21=>
 (qWG r21.1.1 1).bind fun r22=>
 some ((r22.1.1,()),())))
 ((qWG false 1).bind fun r23=>
 some ((r23.1.1,()),()))))
 (cond (n0.1==14)
 (grd (decide (0<=(0:Int))&&decide ((0:Int) < sorts1.length)) (
 (qPO (sorts1.getD (0:Int).toNat (0:Int))).bind fun r24=>
 cond (r24.1.1)
 (grd (decide (0<=(0:Int))&&decide ((0:Int) < sorts1.length)) (
 (qXX sorts1 (sorts1.getD (0:Int).toNat (0:Int))).bind fun r25=>
 grd (decide (0<=(0:Int))&&decide ((0:Int) < sorts1.length)) (
 (qWG r25.1.1 (sorts1.getD (0:Int).toNat (0:Int))).bind fun r26=>
 some ((r26.1.1,()),()))))
 (grd (decide (0<=(0:Int))&&decide ((0:Int) < sorts1.length)) (
 (qWG false (sorts1.getD (0:Int).toNat (0:Int))).bind fun r27=>
 some ((r27.1.1,()),())))))
 (cond (n0.1==15)
 (grd (decide (0<=(0:Int))&&decide ((0:Int) < sorts1.length)) (
 (qPO (sorts1.getD (0:Int).toNat (0:Int))).bind fun r28=>
 cond (r28.1.1)
 (grd (decide (0<=(0:Int))&&decide ((0:Int) < sorts1.length)) (
 (qXX sorts1 (sorts1.getD (0:Int).toNat (0:Int))).bind fun r29=>
 grd (decide (0<=(0:Int))&&decide ((0:Int) < sorts1.length)) (
 (qWG r29.1.1 (sorts1.getD (0:Int).toNat (0:Int))).bind fun r30=>
 some ((r30.1.1,()),()))))
 (grd (decide (0<=(0:Int))&&decide ((0:Int) < sorts1.length)) (
 (qWG false (sorts1.getD (0:Int).toNat (0:Int))).bind fun r31=>
 some ((r31.1.1,()),())))))
 (cond (n0.1==16)
 (grd (decide (0<=(0:Int))&&decide ((0:Int) < sorts1.length)) (
 (qWG ((sorts1.getD (0:Int).toNat (0:Int))==2) 2).bind fun r32=>
 some ((r32.1.1,()),())))
 (cond (n0.1==17)
 (grd (decide (0<=(0:Int))&&decide ((0:Int) < sorts1.length)) (
 (qWG ((sorts1.getD (0:Int).toNat (0:Int))==2) 2).bind fun r33=>
 some ((r33.1.1,()),())))
 (cond (n0.1==18)
 (grd (decide (0<=(0:Int))&&decide ((0:Int) < sorts1.length)) (
 cond ((sorts1.getD (0:Int).toNat (0:Int))==4)
 (grd (decide (0<=(1:Int))&&decide ((1:Int) < sorts1.length)) (
 (qWG ((sorts1.getD (1:Int).toNat (0:Int))==2) 2).bind fun r34=>
 some ((r34.1.1,()),())))
 ((qWG false 2).bind fun r35=>
 some ((r35.1.1,()),()))))
 (cond (n0.1==19)
 (grd (decide (0<=(0:Int))&&decide ((0:Int) < sorts1.length)) (
 cond ((sorts1.getD (0:Int).toNat (0:Int))==4)
 (grd (decide (0<=(1:Int))&&decide ((1:Int)<=sorts1.length)) (
 (qXX (sorts1.drop (1:Int).toNat) 2).bind fun r36=>
 (qWG r36.1.1 4).bind fun r37=>
 some ((r37.1.1,()),())))
 ((qWG false 4).bind fun r38=>
 some ((r38.1.1,()),()))))
 (grd (decide (0<=(0:Int))&&decide ((0:Int) < sorts1.length)) (
 (qWG ((sorts1.getD (0:Int).toNat (0:Int))==2) 4).bind fun r39=>
 some ((r39.1.1,()),())))))))))))))))))))))
def qKO (v:Int) (i:Nat) (x:((List Nod)×List (Int×Sml))×(Int×Sml)×(List Int)×Unit):Option (((List Nod)×List (Int×Sml))×(Int×Sml)×(List Int)×Unit):=
 let v4:=x.1
 let p9:=x.2.1
 let sorts10:=x.2.2.1
 grd (decide (0<=v)&&decide (v < v4.2.length)) (grd (decide (v.toNat < v4.2.length)) (grd (decide (sorts10.length+([(v4.2.getD v.toNat ((0:Int),(0:Int),(0:Int))).1]:List Int).length<=qXE)) (grd (decide (0<=v)&&decide (v < v4.2.length)) (grd (decide (v.toNat < v4.2.length)) (grd (decide (0<=v)&&decide (v < v4.2.length)) (grd (decide (v.toNat < v4.2.length)) (some (v4,(p9.1,qPa p9.2.1 (qI ((((v4.2.getD v.toNat ((0:Int),(0:Int),(0:Int))).2).1)+1)),((v4.2.getD v.toNat ((0:Int),(0:Int),(0:Int))).2).2),sorts10++([(v4.2.getD v.toNat ((0:Int),(0:Int),(0:Int))).1]:List Int),()))))))))
def qNK (y:((List Nod)×List (Int×Sml))×(Int×Sml)×(List Int)×Unit) (o:((List Nod)×List (Int×Sml))×(Int×Sml)×(List Int)×Unit):((List Nod)×List (Int×Sml))×(Int×Sml)×(List Int)×Unit:=(o.1,o.2.1,o.2.2.1,())
def qFQ (y:((List Nod)×List (Int×Sml))×(Int×Sml)×(List Int)×Unit):((List Nod)×List (Int×Sml))×(Int×Sml)×(List Int)×Unit:=(y.1,y.2.1,y.2.2.1,())
def qJN (x:(List Nod)×(Option qOQ)×Bool×((List Nod)×List (Int×Sml))×(List Int)×Int×Unit):Option (Ex×((List Nod)×(Option qOQ)×Bool×((List Nod)×List (Int×Sml))×(List Int)×Int×Unit)):=
 let t0:=x.1
 let t2:=x.2.1
 let t3:=x.2.2.1
 let v4:=x.2.2.2.1
 let roots5:=x.2.2.2.2.1
 let i6:=x.2.2.2.2.2.1
 cond (decide (i6>=0))
 (grd (decide (0<=i6)&&decide (i6 < t0.length)) (
 cond (decide ((((((t0.getD i6.toNat qSE).2).2).2).2) < (0:Int)))
 (some (Ex.ret,(t0,(none:Option qOQ),false,v4,roots5,i6,())))
 (cond (decide ((((((t0.getD i6.toNat qSE).2).2).2).2) > (roots5.length:Int)))
 (some (Ex.ret,(t0,(none:Option qOQ),false,v4,roots5,i6,())))
 ((qGd (t0.getD i6.toNat qSE)).bind fun r1=>
 cond (!r1.1.1)
 (some (Ex.ret,(t0,(none:Option qOQ),false,v4,roots5,i6,())))
 ((qVd ((t0.getD i6.toNat qSE).1) (((((t0.getD i6.toNat qSE).2).2).2).2)).bind fun r2=>
 cond (!r2.1.1)
 (some (Ex.ret,(t0,(none:Option qOQ),false,v4,roots5,i6,())))
 (grd (decide (0<=qI ((roots5.length:Int) - (((((t0.getD i6.toNat qSE).2).2).2).2)))&&decide (qI ((roots5.length:Int) - (((((t0.getD i6.toNat qSE).2).2).2).2))<=roots5.length)) (
 grd (decide (((roots5.drop ((qI ((roots5.length:Int) - (((((t0.getD i6.toNat qSE).2).2).2).2))).toNat)).take (roots5.length - (qI ((roots5.length:Int) - (((((t0.getD i6.toNat qSE).2).2).2).2))).toNat)).length<=qXE)) (((foldO (fun p y=>(qKO p.1 p.2 y).bind fun o=>some (qNK y o)) ((roots5.drop ((qI ((roots5.length:Int) - (((((t0.getD i6.toNat qSE).2).2).2).2))).toNat)).take (roots5.length - (qI ((roots5.length:Int) - (((((t0.getD i6.toNat qSE).2).2).2).2))).toNat)).zipIdx.reverse (v4,((0:Int),1,qI (i6+1)),([]:List Int),())).bind fun y=>some ((),qFQ y)).bind fun y3=>
 (qNd (t0.getD i6.toNat qSE) y3.2.2.2.1).bind fun r4=>
 cond (r4.1.1==0)
 (some (Ex.ret,(t0,(none:Option qOQ),false,y3.2.1,roots5,i6,())))
 (cond (((t0.getD i6.toNat qSE).1)==15)
 (grd (decide (0<=qI (i6+1))&&decide (qI (i6+1) < t0.length)) (
 cond (((t0.getD (qI (i6+1)).toNat qSE).1) !=(3:Int))
 (some (Ex.ret,(t0,(none:Option qOQ),false,y3.2.1,roots5,i6,())))
 (grd (decide (0<=i6)&&decide (i6 < y3.2.1.2.length)) (grd (decide (i6.toNat < y3.2.1.2.length)) (grd (decide (0<=qI ((roots5.length:Int) - (((((t0.getD i6.toNat qSE).2).2).2).2)))&&decide (qI ((roots5.length:Int) - (((((t0.getD i6.toNat qSE).2).2).2).2))<=roots5.length)) (grd (decide (((qI ((roots5.length:Int) - (((((t0.getD i6.toNat qSE).2).2).2).2))).toNat)+([i6]:List Int).length<=qXE)) (some (Ex.normal,(t0,t2,t3,(y3.2.1.1,y3.2.1.2.set i6.toNat (r4.1.1,y3.2.2.1.2)),roots5.take ((qI ((roots5.length:Int) - (((((t0.getD i6.toNat qSE).2).2).2).2))).toNat)++([i6]:List Int),qI (i6 - (1:Int)),())))))))))
 (grd (decide (0<=i6)&&decide (i6 < y3.2.1.2.length)) (grd (decide (i6.toNat < y3.2.1.2.length)) (grd (decide (0<=qI ((roots5.length:Int) - (((((t0.getD i6.toNat qSE).2).2).2).2)))&&decide (qI ((roots5.length:Int) - (((((t0.getD i6.toNat qSE).2).2).2).2))<=roots5.length)) (grd (decide (((qI ((roots5.length:Int) - (((((t0.getD i6.toNat qSE).2).2).2).2))).toNat)+([i6]:List Int).length<=qXE)) (some (Ex.normal,(t0,t2,t3,(y3.2.1.1,y3.2.1.2.set i6.toNat (r4.1.1,y3.2.2.1.2)),roots5.take ((qI ((roots5.length:Int) - (((((t0.getD i6.toNat qSE).2).2).2).2))).toNat)++([i6]:List Int),qI (i6 - (1:Int)),()))))))))))))))))
 (some (Ex.exit 0,(t0,t2,t3,v4,roots5,i6,())))
def qSs (t0:List Nod):Option (((Option qOQ)×Bool×Unit)×Unit):=
 grd (decide (0<=(t0.length:Int))&&decide ((t0.length:Int)<=(t0.length:Int))&&decide ((t0.length:Int)<=qXE)) (
 (qOA qJN (t0,(none:Option qOQ),false,(t0,List.replicate (t0.length:Int).toNat ((0:Int),(0:Int),(0:Int))),([]:List Int),qI ((t0.length:Int) - (1:Int)),())).bind fun y1=>
 cond (Ex.same y1.1 (Ex.exit 0))
 (some ((some y1.2.2.2.2.1,(y1.2.2.2.2.2.1.length:Int)==1,()),()))
 (cond (Ex.same y1.1 Ex.ret)
 (some ((y1.2.2.1,y1.2.2.2.1,()),()))
 (none)))
def qGQ (v0:Option qOQ):Option ((Bool×Unit)×Unit):=
 grd (v0.isSome) (
 cond (decide ((((v0.getD qQM).1).length:Int) > (20000:Int)))
 (some ((true,()),()))
 (grd (v0.isSome) (grd (decide (0<=(0:Int))&&decide ((0:Int) < ((v0.getD qQM).2).length)) (some ((decide ((((((v0.getD qQM).2).getD (0:Int).toNat ((0:Int),(0:Int),(0:Int))).2).1) > (257:Int)),()),())))))
def qOJ (x:(Option qOQ)×(List Int)×Int×Int×Int×Unit):Option (Ex×((Option qOQ)×(List Int)×Int×Int×Int×Unit)):=
 let v0:=x.1
 let out5:=x.2.1
 let at6:=x.2.2.1
 let t16:=x.2.2.2.1
 let t17:=x.2.2.2.2.1
 cond (decide (t17 < t16))
 (grd (decide (out5.length+([at6]:List Int).length<=qXE)) (grd (v0.isSome) (grd (decide (0<=at6)&&decide (at6 < ((v0.getD qQM).2).length)) (some (Ex.normal,(v0,out5++([at6]:List Int),((((v0.getD qQM).2).getD at6.toNat ((0:Int),(0:Int),(0:Int))).2).2,t16,qI (t17+1),()))))))
 (some (Ex.exit 0,(v0,out5,at6,t16,t17,())))
def qNP (v0:Option qOQ) (i1:Int):Option (((List Int)×Unit)×Unit):=
 grd (v0.isSome) (
 grd (decide (0<=i1)&&decide (i1 < ((v0.getD qQM).1).length)) (
 (qOA qOJ (v0,([]:List Int),qI (i1+1),((((((v0.getD qQM).1).getD i1.toNat qSE).2).2).2).2,0,())).bind fun y1=>
 cond (Ex.same y1.1 (Ex.exit 0))
 (some ((y1.2.2.1,()),()))
 (none)))
def t_view_signature_s3 (x:(Option qOQ)×(qBs×qCA)×(qBs×(List Int)×Int)×(List Int)×Int×Int×Unit):Option (Ex×((Option qOQ)×(qBs×qCA)×(qBs×(List Int)×Int)×(List Int)×Int×Int×Unit)):=
 let v0:=x.1
 let t4:=x.2.1
 let f5:=x.2.2.1
 let t27:=x.2.2.2.1
 let t28:=x.2.2.2.2.1
 let t29:=x.2.2.2.2.2.1
 cond (decide (t29 < t28))
 (grd (decide (0<=t29)&&decide (t29 < t27.length)) (grd (v0.isSome) (grd (decide (0<=t27.getD t29.toNat (0:Int))&&decide (t27.getD t29.toNat (0:Int) < ((v0.getD qQM).2).length)) (grd (decide (f5.2.1.length+([(((v0.getD qQM).2).getD (t27.getD t29.toNat (0:Int)).toNat ((0:Int),(0:Int),(0:Int))).1]:List Int).length<=qXE)) (some (Ex.normal,(v0,t4,(f5.1,f5.2.1++([(((v0.getD qQM).2).getD (t27.getD t29.toNat (0:Int)).toNat ((0:Int),(0:Int),(0:Int))).1]:List Int),f5.2.2),t27,t28,qI (t29+1),())))))))
 (some (Ex.exit 0,(v0,t4,f5,t27,t28,t29,())))
def qTJ (v0:Option qOQ) (i1:Int):Option (((qBs×qCA)×Unit)×Unit):=
 grd (v0.isSome) (
 grd (decide (0<=i1)&&decide (i1 < ((v0.getD qQM).1).length)) (
 grd (v0.isSome) (
 grd (decide (0<=i1)&&decide (i1 < ((v0.getD qQM).1).length)) (
 (qNP v0 i1).bind fun r1=>
 (qOA t_view_signature_s3 (v0,(([]:qBs),([]:List Int),(0:Int)),((((((v0.getD qQM).1).getD i1.toNat qSE).2).2).1,([]:List Int),((((v0.getD qQM).1).getD i1.toNat qSE).2).1),r1.1.1,(r1.1.1.length:Int),0,())).bind fun y2=>
 cond (Ex.same y2.1 (Ex.exit 0))
 (some ((y2.2.2.2.1,()),()))
 (none)))))
def qWD (x:(List Int)×(List Int)×Bool×Int×Int×Unit):Option (Ex×((List Int)×(List Int)×Bool×Int×Int×Unit)):=
 let s10:=x.1
 let s21:=x.2.1
 let t4:=x.2.2.1
 let t12:=x.2.2.2.1
 let t13:=x.2.2.2.2.1
 cond (decide (t13 < t12))
 (grd (decide (0<=t13)&&decide (t13 < s10.length)) (
 grd (decide (0<=t13)&&decide (t13 < s21.length)) (
 cond ((s10.getD t13.toNat (0:Int)) !=(s21.getD t13.toNat (0:Int)))
 (some (Ex.ret,(s10,s21,false,t12,t13,())))
 (some (Ex.normal,(s10,s21,t4,t12,qI (t13+1),()))))))
 (some (Ex.exit 0,(s10,s21,t4,t12,t13,())))
def qKG (s10:List Int) (s21:List Int):Option ((Bool×Unit)×Unit):=
 cond ((s10.length:Int) !=(s21.length:Int))
 (some ((false,()),()))
 ((qOA qWD (s10,s21,false,(s10.length:Int),0,())).bind fun y1=>
 cond (Ex.same y1.1 (Ex.exit 0))
 (some ((true,()),()))
 (cond (Ex.same y1.1 Ex.ret)
 (some ((y1.2.2.2.1,()),()))
 (none)))
def qUn (f0:qBs×qCA) (g1:qBs×qCA):Option ((Bool×Unit)×Unit):=
 cond (f0.1==g1.1)
 (cond (f0.2.2==g1.2.2)
 ((qKG f0.2.1 g1.2.1).bind fun r1=>
 some ((r1.1.1,()),()))
 (some ((false,()),())))
 (some ((false,()),()))
def qTE (x:(Option qOQ)×(List Vr)×(List (qBs×qCA))×Bool×(List (qBs×Vr))×(List (qBs×qBs×qCA))×(List Vr)×(List (qBs×qCA))×(List Nod)×Int×Int×Unit):Option (Ex×((Option qOQ)×(List Vr)×(List (qBs×qCA))×Bool×(List (qBs×Vr))×(List (qBs×qBs×qCA))×(List Vr)×(List (qBs×qCA))×(List Nod)×Int×Int×Unit)):=
 let v0:=x.1
 let t2:=x.2.1
 let t3:=x.2.2.1
 let t4:=x.2.2.2.1
 let vars5:=x.2.2.2.2.1
 let funcs6:=x.2.2.2.2.2.1
 let l7:=x.2.2.2.2.2.2.1
 let m8:=x.2.2.2.2.2.2.2.1
 let t25:=x.2.2.2.2.2.2.2.2.1
 let t26:=x.2.2.2.2.2.2.2.2.2.1
 let t27:=x.2.2.2.2.2.2.2.2.2.2.1
 cond (decide (t27 < t26))
 (grd (decide (0<=t27)&&decide (t27 < t25.length)) (
 cond (((t25.getD t27.toNat qSE).1)==4)
 (cond (!((qGD ((((t25.getD t27.toNat qSE).2).2).1) vars5).isSome))
 (grd (decide (l7.length+([((((t25.getD t27.toNat qSE).2).2).1,((t25.getD t27.toNat qSE).2).1)]:List Vr).length<=qXE)) (
 cond ((qGD ((((t25.getD t27.toNat qSE).2).2).1) funcs6).isSome)
 (some (Ex.ret,(v0,([]:List Vr),([]:List (qBs×qCA)),false,qKa ((((t25.getD t27.toNat qSE).2).2).1) ((((t25.getD t27.toNat qSE).2).2).1,((t25.getD t27.toNat qSE).2).1) vars5,funcs6,l7++([((((t25.getD t27.toNat qSE).2).2).1,((t25.getD t27.toNat qSE).2).1)]:List Vr),m8,t25,t26,t27,())))
 (cond ((((t25.getD t27.toNat qSE).2).1) !=(((t25.getD t27.toNat qSE).2).1))
 (some (Ex.ret,(v0,([]:List Vr),([]:List (qBs×qCA)),false,qKa ((((t25.getD t27.toNat qSE).2).2).1) ((((t25.getD t27.toNat qSE).2).2).1,((t25.getD t27.toNat qSE).2).1) vars5,funcs6,l7++([((((t25.getD t27.toNat qSE).2).2).1,((t25.getD t27.toNat qSE).2).1)]:List Vr),m8,t25,t26,t27,())))
 (some (Ex.normal,(v0,t2,t3,t4,qKa ((((t25.getD t27.toNat qSE).2).2).1) ((((t25.getD t27.toNat qSE).2).2).1,((t25.getD t27.toNat qSE).2).1) vars5,funcs6,l7++([((((t25.getD t27.toNat qSE).2).2).1,((t25.getD t27.toNat qSE).2).1)]:List Vr),m8,t25,t26,qI (t27+1),()))))))
 (cond ((qGD ((((t25.getD t27.toNat qSE).2).2).1) funcs6).isSome)
 (some (Ex.ret,(v0,([]:List Vr),([]:List (qBs×qCA)),false,vars5,funcs6,l7,m8,t25,t26,t27,())))
 (cond ((((qGD ((((t25.getD t27.toNat qSE).2).2).1) vars5).getD zVr).2) !=(((t25.getD t27.toNat qSE).2).1))
 (some (Ex.ret,(v0,([]:List Vr),([]:List (qBs×qCA)),false,vars5,funcs6,l7,m8,t25,t26,t27,())))
 (some (Ex.normal,(v0,t2,t3,t4,vars5,funcs6,l7,m8,t25,t26,qI (t27+1),()))))))
 (cond (((t25.getD t27.toNat qSE).1)==5)
 ((qTJ v0 t27).bind fun r1=>
 cond (!((qGD ((((t25.getD t27.toNat qSE).2).2).1) funcs6).isSome))
 (grd (decide (m8.length+([r1.1.1]:List (qBs×qCA)).length<=qXE)) (
 cond ((qGD ((((t25.getD t27.toNat qSE).2).2).1) vars5).isSome)
 (some (Ex.ret,(v0,([]:List Vr),([]:List (qBs×qCA)),false,vars5,qKa ((((t25.getD t27.toNat qSE).2).2).1) r1.1.1 funcs6,l7,m8++([r1.1.1]:List (qBs×qCA)),t25,t26,t27,())))
 ((qUn r1.1.1 r1.1.1).bind fun r2=>
 cond (!r2.1.1)
 (some (Ex.ret,(v0,([]:List Vr),([]:List (qBs×qCA)),false,vars5,qKa ((((t25.getD t27.toNat qSE).2).2).1) r1.1.1 funcs6,l7,m8++([r1.1.1]:List (qBs×qCA)),t25,t26,t27,())))
 (some (Ex.normal,(v0,t2,t3,t4,vars5,qKa ((((t25.getD t27.toNat qSE).2).2).1) r1.1.1 funcs6,l7,m8++([r1.1.1]:List (qBs×qCA)),t25,t26,qI (t27+1),()))))))
 (cond ((qGD ((((t25.getD t27.toNat qSE).2).2).1) vars5).isSome)
 (some (Ex.ret,(v0,([]:List Vr),([]:List (qBs×qCA)),false,vars5,funcs6,l7,m8,t25,t26,t27,())))
 ((qUn ((qGD ((((t25.getD t27.toNat qSE).2).2).1) funcs6).getD (([]:qBs),([]:List Int),(0:Int))) r1.1.1).bind fun r3=>
 cond (!r3.1.1)
 (some (Ex.ret,(v0,([]:List Vr),([]:List (qBs×qCA)),false,vars5,funcs6,l7,m8,t25,t26,t27,())))
 (some (Ex.normal,(v0,t2,t3,t4,vars5,funcs6,l7,m8,t25,t26,qI (t27+1),()))))))
 (some (Ex.normal,(v0,t2,t3,t4,vars5,funcs6,l7,m8,t25,t26,qI (t27+1),()))))))
 (some (Ex.exit 0,(v0,t2,t3,t4,vars5,funcs6,l7,m8,t25,t26,t27,())))
def qSM (v0:Option qOQ):Option (((List Vr)×(List (qBs×qCA))×Bool×Unit)×Unit):=
 grd (v0.isSome) (
 (qOA qTE (v0,([]:List Vr),([]:List (qBs×qCA)),false,([]:List (qBs×Vr)),([]:List (qBs×qBs×qCA)),([]:List Vr),([]:List (qBs×qCA)),(v0.getD qQM).1,(((v0.getD qQM).1).length:Int),0,())).bind fun y1=>
 cond (Ex.same y1.1 (Ex.exit 0))
 (some ((y1.2.2.2.2.2.2.2.1,y1.2.2.2.2.2.2.2.2.1,true,()),()))
 (cond (Ex.same y1.1 Ex.ret)
 (some ((y1.2.2.1,y1.2.2.2.1,y1.2.2.2.2.1,()),()))
 (none)))
def qLa (t0:List Nod):Option (((Option qOQ)×Bool×Unit)×Unit):=
 cond ((t0.length:Int)==0)
 (some (((none:Option qOQ),false,()),()))
 (cond (decide ((t0.length:Int) > (20000:Int)))
 (some (((none:Option qOQ),false,()),()))
 ((qSs t0).bind fun r1=>
 cond (!r1.1.2.1)
 (some (((none:Option qOQ),false,()),()))
 ((qGQ r1.1.1).bind fun r2=>
 cond (r2.1.1)
 (some (((none:Option qOQ),false,()),()))
 ((qSM r1.1.1).bind fun r3=>
 cond (!r3.1.2.2.1)
 (some (((none:Option qOQ),false,()),()))
 (some ((r1.1.1,true,()),()))))))
def qSf (t0:List Nod):Option ((Bool×Unit)×Unit):=
 (qLa t0).bind fun r1=>
 some ((r1.1.2.1,()),())
def qBJ (e0:Evl) (n1:Nod):Option ((Val×Int×Unit)×(Evl×Unit)):=
 cond (!((qGD n1.2.2.1 e0.2.2.1).isSome))
 (some ((((0:Int),false,([]:qBs),([]:List qBs),([]:List qBs)),7,()),e0,()))
 (cond ((((qGD n1.2.2.1 e0.2.2.1).getD qEK).1) !=n1.2.1)
 (some ((((0:Int),false,([]:qBs),([]:List qBs),([]:List qBs)),3,()),e0,()))
 (some (((qGD n1.2.2.1 e0.2.2.1).getD qEK,0,()),e0,())))
def qHC (x:(List qBs)×(List qBs)×Bool×Int×Int×Unit):Option (Ex×((List qBs)×(List qBs)×Bool×Int×Int×Unit)):=
 let s10:=x.1
 let s21:=x.2.1
 let t4:=x.2.2.1
 let t12:=x.2.2.2.1
 let t13:=x.2.2.2.2.1
 cond (decide (t13 < t12))
 (grd (decide (0<=t13)&&decide (t13 < s10.length)) (
 grd (decide (0<=t13)&&decide (t13 < s21.length)) (
 cond (!((s10.getD t13.toNat ([]:qBs))==(s21.getD t13.toNat ([]:qBs))))
 (some (Ex.ret,(s10,s21,false,t12,t13,())))
 (some (Ex.normal,(s10,s21,t4,t12,qI (t13+1),()))))))
 (some (Ex.exit 0,(s10,s21,t4,t12,t13,())))
def qUC (s10:List qBs) (s21:List qBs):Option ((Bool×Unit)×Unit):=
 cond ((s10.length:Int) !=(s21.length:Int))
 (some ((false,()),()))
 ((qOA qHC (s10,s21,false,(s10.length:Int),0,())).bind fun y1=>
 cond (Ex.same y1.1 (Ex.exit 0))
 (some ((true,()),()))
 (cond (Ex.same y1.1 Ex.ret)
 (some ((y1.2.2.2.1,()),()))
 (none)))
def qQW (a0:Val) (b1:Val):Option ((Bool×Unit)×Unit):=
 cond (a0.1==b1.1)
 (cond (a0.2.1==b1.2.1)
 (cond (a0.2.2.1==b1.2.2.1)
 ((qUC a0.2.2.2.1 b1.2.2.2.1).bind fun r1=>
 cond (r1.1.1)
 ((qUC a0.2.2.2.2 b1.2.2.2.2).bind fun r2=>
 some ((r2.1.1,()),()))
 (some ((false,()),())))
 (some ((false,()),())))
 (some ((false,()),())))
 (some ((false,()),()))
def qNC (x:(List Val)×Unit×Bool×(List Val)×Int×Int×Unit):Option (Ex×((List Val)×Unit×Bool×(List Val)×Int×Int×Unit)):=
 let s21:=x.1
 let eq2:=x.2.1
 let t6:=x.2.2.1
 let t15:=x.2.2.2.1
 let t16:=x.2.2.2.2.1
 let t17:=x.2.2.2.2.2.1
 cond (decide (t17 < t16))
 (grd (decide (0<=t17)&&decide (t17 < t15.length)) (
 grd (decide (0<=t17)&&decide (t17 < s21.length)) (
 (qQW (t15.getD t17.toNat qEK) (s21.getD t17.toNat qEK)).bind fun r1=>
 cond (!r1.1.1)
 (some (Ex.ret,(s21,(),false,t15,t16,t17,())))
 (some (Ex.normal,(s21,(),t6,t15,t16,qI (t17+1),()))))))
 (some (Ex.exit 0,(s21,(),t6,t15,t16,t17,())))
def qXC (s10:List Val) (s21:List Val) (eq2:Unit):Option ((Bool×Unit)×Unit):=
 cond ((s10.length:Int) !=(s21.length:Int))
 (some ((false,()),()))
 ((qOA qNC (s21,(),false,s10,(s10.length:Int),0,())).bind fun y1=>
 cond (Ex.same y1.1 (Ex.exit 0))
 (some ((true,()),()))
 (cond (Ex.same y1.1 Ex.ret)
 (some ((y1.2.2.2.1,()),()))
 (none)))
def qJQ (l0:List Val) (a1:Option (List Val)):Option ((Bool×Unit)×Unit):=
 grd (a1.isSome) (
 (qXC l0 (a1.getD ([]:List Val)) ()).bind fun r1=>
 some ((r1.1.1,()),()))
def qRC (x:(List (List Val))×(Option (List Val))×Int×Int×Int×Unit):Option (Ex×((List (List Val))×(Option (List Val))×Int×Int×Int×Unit)):=
 let s0:=x.1
 let f1:=x.2.1
 let t4:=x.2.2.1
 let t7:=x.2.2.2.1
 let t8:=x.2.2.2.2.1
 cond (decide (t8 < t7))
 (grd (decide (0<=t8)&&decide (t8 < s0.length)) (
 (qJQ (s0.getD t8.toNat ([]:List Val)) f1).bind fun r1=>
 cond (r1.1.1)
 (some (Ex.ret,(s0,f1,t8,t7,t8,())))
 (some (Ex.normal,(s0,f1,t4,t7,qI (t8+1),())))))
 (some (Ex.exit 0,(s0,f1,t4,t7,t8,())))
def qBD (s0:List (List Val)) (f1:Option (List Val)):Option ((Int×Unit)×Unit):=
 (qOA qRC (s0,f1,0,(s0.length:Int),0,())).bind fun y1=>
 cond (Ex.same y1.1 (Ex.exit 0))
 (some ((-1,()),()))
 (cond (Ex.same y1.1 Ex.ret)
 (some ((y1.2.2.2.1,()),()))
 (none))
def qMN (e0:Evl) (n1:Nod) (kids2:List Val):Option ((Val×Int×Unit)×(Evl×Unit)):=
 cond (!((qGD n1.2.2.1 e0.2.2.2).isSome))
 (some ((((0:Int),false,([]:qBs),([]:List qBs),([]:List qBs)),4,()),e0,()))
 ((qBD ((((qGD n1.2.2.1 e0.2.2.2).getD qGL).2).1) (some kids2)).bind fun r1=>
 cond (decide (r1.1.1>=0))
 (grd (decide (0<=r1.1.1)&&decide (r1.1.1 < (((((qGD n1.2.2.1 e0.2.2.2).getD qGL).2).2).1).length)) (
 cond ((((((((qGD n1.2.2.1 e0.2.2.2).getD qGL).2).2).1).getD r1.1.1.toNat qEK).1) !=n1.2.1)
 (some ((((0:Int),false,([]:qBs),([]:List qBs),([]:List qBs)),3,()),e0,()))
 (some (((((((qGD n1.2.2.1 e0.2.2.2).getD qGL).2).2).1).getD r1.1.1.toNat qEK,0,()),e0,()))))
 (cond (((((((qGD n1.2.2.1 e0.2.2.2).getD qGL).2).2).2).1) !=n1.2.1)
 (some ((((0:Int),false,([]:qBs),([]:List qBs),([]:List qBs)),3,()),e0,()))
 (some ((((((qGD n1.2.2.1 e0.2.2.2).getD qGL).2).2).2,0,()),e0,()))))
def qEs (v0:Val):Option ((Bool×Unit)×Unit):=
 some ((!v0.2.1,()),())
def qFB (x:(List Val)×Unit×Int×Int×Int×Unit):Option (Ex×((List Val)×Unit×Int×Int×Int×Unit)):=
 let s0:=x.1
 let f1:=x.2.1
 let t4:=x.2.2.1
 let t7:=x.2.2.2.1
 let t8:=x.2.2.2.2.1
 cond (decide (t8 < t7))
 (grd (decide (0<=t8)&&decide (t8 < s0.length)) (
 (qEs (s0.getD t8.toNat qEK)).bind fun r1=>
 cond (r1.1.1)
 (some (Ex.ret,(s0,(),t8,t7,t8,())))
 (some (Ex.normal,(s0,(),t4,t7,qI (t8+1),())))))
 (some (Ex.exit 0,(s0,(),t4,t7,t8,())))
def qMD (s0:List Val) (f1:Unit):Option ((Int×Unit)×Unit):=
 (qOA qFB (s0,(),0,(s0.length:Int),0,())).bind fun y1=>
 cond (Ex.same y1.1 (Ex.exit 0))
 (some ((-1,()),()))
 (cond (Ex.same y1.1 Ex.ret)
 (some ((y1.2.2.2.1,()),()))
 (none))
def qGB (s0:List Val) (f1:Unit):Option ((Bool×Unit)×Unit):=
 (qMD s0 ()).bind fun r1=>
 some ((decide (r1.1.1>=0),()),())
def qON (is0:Bool):Option ((Val×Unit)×Unit):=
 some (((1,is0,([]:qBs),([]:List qBs),([]:List qBs)),()),())
def v_is (v0:Val):Option ((Bool×Unit)×Unit):=
 some ((v0.2.1,()),())
def qIB (x:(List Val)×Unit×Int×Int×Int×Unit):Option (Ex×((List Val)×Unit×Int×Int×Int×Unit)):=
 let s0:=x.1
 let f1:=x.2.1
 let t4:=x.2.2.1
 let t7:=x.2.2.2.1
 let t8:=x.2.2.2.2.1
 cond (decide (t8 < t7))
 (grd (decide (0<=t8)&&decide (t8 < s0.length)) (
 (v_is (s0.getD t8.toNat qEK)).bind fun r1=>
 cond (r1.1.1)
 (some (Ex.ret,(s0,(),t8,t7,t8,())))
 (some (Ex.normal,(s0,(),t4,t7,qI (t8+1),())))))
 (some (Ex.exit 0,(s0,(),t4,t7,t8,())))
def qVD (s0:List Val) (f1:Unit):Option ((Int×Unit)×Unit):=
 (qOA qIB (s0,(),0,(s0.length:Int),0,())).bind fun y1=>
 cond (Ex.same y1.1 (Ex.exit 0))
 (some ((-1,()),()))
 (cond (Ex.same y1.1 Ex.ret)
 (some ((y1.2.2.2.1,()),()))
 (none))
def qJB (s0:List Val) (f1:Unit):Option ((Bool×Unit)×Unit):=
 (qVD s0 ()).bind fun r1=>
 some ((decide (r1.1.1>=0),()),())
def qQK (sort0:Int) (a1:qBs):Option ((Val×Unit)×Unit):=
 some (((sort0,false,a1,([]:List qBs),([]:List qBs)),()),())
def qCg (x0:Sml) (y1:Sml):Option ((qBs×Unit)×Unit):=
 (qGM (qI (x0.1 * y1.1)) (qI (x0.2 * y1.2))).bind fun r1=>
 some ((r1.1.1,()),())
def qEU (x0:Rt) (y1:Rt):Option ((Rt×Unit)×Unit):=
 (qJL x0.2.1 y1.2.1).bind fun r1=>
 (qJL x0.2.2 y1.2.2).bind fun r2=>
 (qCQ (!(x0.1==y1.1)) r1.1.1 r2.1.1).bind fun r3=>
 some (((r3.1.1.1,r3.1.1.2.1,r3.1.1.2.2),()),())
def qKf (x0:Rt) (y1:Rt):Option ((qBs×Unit)×Unit):=
 (qEU (x0.1,x0.2.1,x0.2.2) (y1.1,y1.2.1,y1.2.2)).bind fun r1=>
 (qGK (r1.1.1.1,r1.1.1.2.1,r1.1.1.2.2)).bind fun r2=>
 some ((r2.1.1,()),())
def qID (a0:qBs) (b1:qBs) (small2:Unit) (all3:Unit):Option ((qBs×Unit)×Unit):=
 (qEC a0).bind fun r1=>
 (qEC b1).bind fun r2=>
 cond (r1.1.2.1)
 (cond (r2.1.2.1)
 ((qCg (r1.1.1.1,r1.1.1.2) (r2.1.1.1,r2.1.1.2)).bind fun r3=>
 some ((r3.1.1,()),()))
 ((qAH a0).bind fun r4=>
 (qAH b1).bind fun r5=>
 cond (!r4.1.2.1)
 (some ((([]:qBs),()),()))
 (cond (!r5.1.2.1)
 (some ((([]:qBs),()),()))
 ((qKf (r4.1.1.1,r4.1.1.2.1,r4.1.1.2.2) (r5.1.1.1,r5.1.1.2.1,r5.1.1.2.2)).bind fun r6=>
 some ((r6.1.1,()),())))))
 ((qAH a0).bind fun r7=>
 (qAH b1).bind fun r8=>
 cond (!r7.1.2.1)
 (some ((([]:qBs),()),()))
 (cond (!r8.1.2.1)
 (some ((([]:qBs),()),()))
 ((qKf (r7.1.1.1,r7.1.1.2.1,r7.1.1.2.2) (r8.1.1.1,r8.1.1.2.1,r8.1.1.2.2)).bind fun r9=>
 some ((r9.1.1,()),()))))
def qLx (a0:qBs) (b1:qBs):Option ((qBs×Unit)×Unit):=
 (qID a0 b1 () ()).bind fun r1=>
 some ((r1.1.1,()),())
def qHQ (x0:Rt) (y1:Rt):Option ((Rt×Rt×Unit)×Unit):=
 (qFI x0.2.1 y1.2.1).bind fun r1=>
 cond (x0.1)
 (cond (decide ((r1.1.2.1.length:Int) > (0:Int)))
 ((qWQ r1.1.1 ([1]:List Int)).bind fun r2=>
 (qTO y1.2.1 r1.1.2.1).bind fun r3=>
 some (((!(x0.1==y1.1),r2.1.1,([1]:List Int)),(false,r3.1.1,([1]:List Int)),()),()))
 (some (((!(x0.1==y1.1),r1.1.1,([1]:List Int)),(false,r1.1.2.1,([1]:List Int)),()),())))
 (some (((!(x0.1==y1.1),r1.1.1,([1]:List Int)),(false,r1.1.2.1,([1]:List Int)),()),()))
def qLX (a0:qBs) (b1:qBs):Option ((qBs×qBs×Unit)×Unit):=
 (qUH a0).bind fun r1=>
 cond (!r1.1.1)
 (some ((([]:qBs),([]:qBs),()),()))
 ((qUH b1).bind fun r2=>
 cond (!r2.1.1)
 (some ((([]:qBs),([]:qBs),()),()))
 (cond (b1==([48]:qBs))
 (some ((([]:qBs),([]:qBs),()),()))
 ((qAH a0).bind fun r3=>
 (qAH b1).bind fun r4=>
 (qHQ (r3.1.1.1,r3.1.1.2.1,r3.1.1.2.2) (r4.1.1.1,r4.1.1.2.1,r4.1.1.2.2)).bind fun r5=>
 (qGK (r5.1.1.1,r5.1.1.2.1,r5.1.1.2.2)).bind fun r6=>
 (qGK (r5.1.2.1.1,r5.1.2.1.2.1,r5.1.2.1.2.2)).bind fun r7=>
 some ((r6.1.1,r7.1.1,()),()))))
def qQw (a0:qBs) (b1:qBs):Option ((qBs×Unit)×Unit):=
 (qLX a0 b1).bind fun r1=>
 some ((r1.1.1,()),())
def qXu (a0:qBs) (b1:qBs):Option ((qBs×Unit)×Unit):=
 (qLX a0 b1).bind fun r1=>
 some ((r1.1.2.1,()),())
def qJA (x:(List qBs)×qBs×Unit×Int×Int×Int×Unit):Option (Ex×((List qBs)×qBs×Unit×Int×Int×Int×Unit)):=
 let x0:=x.1
 let target1:=x.2.1
 let cmp2:=x.2.2.1
 let n8:=x.2.2.2.1
 let i9:=x.2.2.2.2.1
 let j10:=x.2.2.2.2.2.1
 cond (decide (i9 < j10))
 (grd (decide (0<=(1:Int))) (
 grd (decide (0<=qI ((qU (qI (i9+j10))).fdiv (2 ^ min (1:Int).toNat IntKind.u64.bits)))&&decide (qI ((qU (qI (i9+j10))).fdiv (2 ^ min (1:Int).toNat IntKind.u64.bits)) < x0.length)) (
 (qAT (x0.getD (qI ((qU (qI (i9+j10))).fdiv (2 ^ min (1:Int).toNat IntKind.u64.bits))).toNat ([]:qBs)) target1).bind fun r1=>
 cond (decide (r1.1.1 < (0:Int)))
 (some (Ex.normal,(x0,target1,(),n8,qI ((qI ((qU (qI (i9+j10))).fdiv (2 ^ min (1:Int).toNat IntKind.u64.bits)))+1),j10,())))
 (some (Ex.normal,(x0,target1,(),n8,i9,qI ((qU (qI (i9+j10))).fdiv (2 ^ min (1:Int).toNat IntKind.u64.bits)),()))))))
 (some (Ex.exit 0,(x0,target1,(),n8,i9,j10,())))
def qSA (x0:List qBs) (target1:qBs) (cmp2:Unit):Option ((Int×Bool×Unit)×Unit):=
 (qOA qJA (x0,target1,(),(x0.length:Int),0,(x0.length:Int),())).bind fun y1=>
 cond (Ex.same y1.1 (Ex.exit 0))
 (cond (decide (y1.2.2.2.2.2.1 < y1.2.2.2.2.1))
 (grd (decide (0<=y1.2.2.2.2.2.1)&&decide (y1.2.2.2.2.2.1 < y1.2.1.length)) (
 (qAT (y1.2.1.getD y1.2.2.2.2.2.1.toNat ([]:qBs)) y1.2.2.1).bind fun r2=>
 some ((y1.2.2.2.2.2.1,r2.1.1==0,()),())))
 (some ((y1.2.2.2.2.2.1,false,()),())))
 (none)
def qFb (a0:Val) (index1:qBs):Option ((Int×Bool×Unit)×Unit):=
 (qSA a0.2.2.2.1 index1 ()).bind fun r1=>
 some ((r1.1.1,r1.1.2.1,()),())
def v_at (a0:Val) (index1:qBs):Option ((qBs×Unit)×Unit):=
 (qFb a0 index1).bind fun r1=>
 cond (r1.1.2.1)
 (grd (decide (0<=r1.1.1)&&decide (r1.1.1 < a0.2.2.2.2.length)) (some ((a0.2.2.2.2.getD r1.1.1.toNat ([]:qBs),()),())))
 (some ((a0.2.2.1,()),()))
def qCb (v0:Val):Option (((Int×Bool×qBs×(List qBs)×List qBs)×Unit)×Unit):=
 (qFE v0.2.2.2.1).bind fun r1=>
 (qFE v0.2.2.2.2).bind fun r2=>
 some (((v0.1,v0.2.1,v0.2.2.1,r1.1.1,r2.1.1),()),())
def qRa (a0:Val) (index1:qBs) (num2:qBs):Option ((Val×Unit)×Unit):=
 (qCb a0).bind fun r1=>
 (qFb r1.1.1 index1).bind fun r2=>
 cond (r2.1.2.1)
 (cond (num2==r1.1.1.2.2.1)
 ((qOC r1.1.1.2.2.2.1 r2.1.1 (qI (r2.1.1+1))).bind fun r3=>
 (qOC r1.1.1.2.2.2.2 r2.1.1 (qI (r2.1.1+1))).bind fun r4=>
 some (((r1.1.1.1,r1.1.1.2.1,r1.1.1.2.2.1,r3.2.1.take r3.1.1,r4.2.1.take r4.1.1),()),()))
 (cond (r2.1.2.1)
 (grd (decide (0<=r2.1.1)&&decide (r2.1.1 < r1.1.1.2.2.2.2.length)) (grd (decide (r2.1.1.toNat < r1.1.1.2.2.2.2.length)) (some (((r1.1.1.1,r1.1.1.2.1,r1.1.1.2.2.1,r1.1.1.2.2.2.1,r1.1.1.2.2.2.2.set r2.1.1.toNat num2),()),()))))
 (cond (!(num2==r1.1.1.2.2.1))
 ((qMB r1.1.1.2.2.2.1 r2.1.1 ([index1]:List qBs)).bind fun r5=>
 (qMB r1.1.1.2.2.2.2 r2.1.1 ([num2]:List qBs)).bind fun r6=>
 some (((r1.1.1.1,r1.1.1.2.1,r1.1.1.2.2.1,r5.1.1,r6.1.1),()),()))
 (some ((r1.1.1,()),())))))
 (cond (r2.1.2.1)
 (grd (decide (0<=r2.1.1)&&decide (r2.1.1 < r1.1.1.2.2.2.2.length)) (grd (decide (r2.1.1.toNat < r1.1.1.2.2.2.2.length)) (some (((r1.1.1.1,r1.1.1.2.1,r1.1.1.2.2.1,r1.1.1.2.2.2.1,r1.1.1.2.2.2.2.set r2.1.1.toNat num2),()),()))))
 (cond (!(num2==r1.1.1.2.2.1))
 ((qMB r1.1.1.2.2.2.1 r2.1.1 ([index1]:List qBs)).bind fun r7=>
 (qMB r1.1.1.2.2.2.2 r2.1.1 ([num2]:List qBs)).bind fun r8=>
 some (((r1.1.1.1,r1.1.1.2.1,r1.1.1.2.2.1,r7.1.1,r8.1.1),()),()))
 (some ((r1.1.1,()),()))))
def qTM (x:(List Val)×Val×qBs×(List Val)×Int×Int×Unit):Option (Ex×((List Val)×Val×qBs×(List Val)×Int×Int×Unit)):=
 let l1:=x.1
 let t4:=x.2.1
 let sum5:=x.2.2.1
 let t19:=x.2.2.2.1
 let t20:=x.2.2.2.2.1
 let t21:=x.2.2.2.2.2.1
 cond (decide (t21 < t20))
 (grd (decide (0<=t21)&&decide (t21 < t19.length)) (
 (qOp sum5 ((((t19.getD t21.toNat qEK).2).2).1)).bind fun r1=>
 some (Ex.normal,(l1,t4,r1.1.1,t19,t20,qI (t21+1),()))))
 (some (Ex.exit 1,(l1,t4,sum5,t19,t20,t21,())))
def qGY (n0:Nod) (l1:List Val):Option ((Val×Unit)×Unit):=
 cond (n0.1==3)
 ((qQK n0.2.1 n0.2.2.2.1).bind fun r1=>
 some ((r1.1.1,()),()))
 (cond (n0.1==14)
 ((qOA qTM (l1,((0:Int),false,([]:qBs),([]:List qBs),([]:List qBs)),([48]:qBs),l1,(l1.length:Int),0,())).bind fun y2=>
 cond (Ex.same y2.1 (Ex.exit 1))
 (grd (decide (0<=(0:Int))&&decide ((0:Int) < y2.2.1.length)) (
 (qQK ((y2.2.1.getD (0:Int).toNat qEK).1) y2.2.2.2.1).bind fun r3=>
 some ((r3.1.1,()),())))
 (none))
 (cond (n0.1==15)
 (grd (decide (0<=(0:Int))&&decide ((0:Int) < l1.length)) (
 grd (decide (0<=(0:Int))&&decide ((0:Int) < l1.length)) (
 grd (decide (0<=(1:Int))&&decide ((1:Int) < l1.length)) (
 (qLx ((((l1.getD (0:Int).toNat qEK).2).2).1) ((((l1.getD (1:Int).toNat qEK).2).2).1)).bind fun r4=>
 (qQK ((l1.getD (0:Int).toNat qEK).1) r4.1.1).bind fun r5=>
 some ((r5.1.1,()),())))))
 (cond (n0.1==16)
 (grd (decide (0<=(0:Int))&&decide ((0:Int) < l1.length)) (
 (qQw ((((l1.getD (0:Int).toNat qEK).2).2).1) n0.2.2.2.1).bind fun r6=>
 (qQK 2 r6.1.1).bind fun r7=>
 some ((r7.1.1,()),())))
 (cond (n0.1==17)
 (grd (decide (0<=(0:Int))&&decide ((0:Int) < l1.length)) (
 (qXu ((((l1.getD (0:Int).toNat qEK).2).2).1) n0.2.2.2.1).bind fun r8=>
 (qQK 2 r8.1.1).bind fun r9=>
 some ((r9.1.1,()),())))
 (cond (n0.1==18)
 (grd (decide (0<=(0:Int))&&decide ((0:Int) < l1.length)) (
 grd (decide (0<=(1:Int))&&decide ((1:Int) < l1.length)) (
 (v_at (l1.getD (0:Int).toNat qEK) ((((l1.getD (1:Int).toNat qEK).2).2).1)).bind fun r10=>
 (qQK 2 r10.1.1).bind fun r11=>
 some ((r11.1.1,()),()))))
 (cond (n0.1==19)
 (grd (decide (0<=(0:Int))&&decide ((0:Int) < l1.length)) (
 grd (decide (0<=(1:Int))&&decide ((1:Int) < l1.length)) (
 grd (decide (0<=(2:Int))&&decide ((2:Int) < l1.length)) (
 (qRa (l1.getD (0:Int).toNat qEK) ((((l1.getD (1:Int).toNat qEK).2).2).1) ((((l1.getD (2:Int).toNat qEK).2).2).1)).bind fun r12=>
 some ((r12.1.1,()),())))))
 (grd (decide (0<=(0:Int))&&decide ((0:Int) < l1.length)) (some (((4,false,(((l1.getD (0:Int).toNat qEK).2).2).1,([]:List qBs),([]:List qBs)),()),())))))))))
def qTT (n0:Nod) (l1:List Val):Option ((Val×Unit)×Unit):=
 cond (n0.1==1)
 ((qGB l1 ()).bind fun r1=>
 (qON !r1.1.1).bind fun r2=>
 some ((r2.1.1,()),()))
 (cond (n0.1==7)
 ((qGB l1 ()).bind fun r3=>
 (qON !r3.1.1).bind fun r4=>
 some ((r4.1.1,()),()))
 (cond (n0.1==2)
 ((qJB l1 ()).bind fun r5=>
 (qON r5.1.1).bind fun r6=>
 some ((r6.1.1,()),()))
 (cond (n0.1==8)
 ((qJB l1 ()).bind fun r7=>
 (qON r7.1.1).bind fun r8=>
 some ((r8.1.1,()),()))
 (cond (n0.1==6)
 (grd (decide (0<=(0:Int))&&decide ((0:Int) < l1.length)) (
 (qEs (l1.getD (0:Int).toNat qEK)).bind fun r9=>
 (qON r9.1.1).bind fun r10=>
 some ((r10.1.1,()),())))
 (cond (n0.1==9)
 (grd (decide (0<=(0:Int))&&decide ((0:Int) < l1.length)) (
 (qEs (l1.getD (0:Int).toNat qEK)).bind fun r11=>
 cond (r11.1.1)
 ((qON true).bind fun r12=>
 some ((r12.1.1,()),()))
 (grd (decide (0<=(1:Int))&&decide ((1:Int) < l1.length)) (
 (v_is (l1.getD (1:Int).toNat qEK)).bind fun r13=>
 (qON r13.1.1).bind fun r14=>
 some ((r14.1.1,()),())))))
 (cond (n0.1==10)
 (grd (decide (0<=(0:Int))&&decide ((0:Int) < l1.length)) (
 (v_is (l1.getD (0:Int).toNat qEK)).bind fun r15=>
 cond (r15.1.1)
 (grd (decide (0<=(1:Int))&&decide ((1:Int) < l1.length)) (some ((l1.getD (1:Int).toNat qEK,()),())))
 (grd (decide (0<=(2:Int))&&decide ((2:Int) < l1.length)) (some ((l1.getD (2:Int).toNat qEK,()),())))))
 (cond (n0.1==11)
 (grd (decide (0<=(0:Int))&&decide ((0:Int) < l1.length)) (
 grd (decide (0<=(1:Int))&&decide ((1:Int) < l1.length)) (
 (qQW (l1.getD (0:Int).toNat qEK) (l1.getD (1:Int).toNat qEK)).bind fun r16=>
 (qON r16.1.1).bind fun r17=>
 some ((r17.1.1,()),()))))
 (cond (n0.1==12)
 (grd (decide (0<=(0:Int))&&decide ((0:Int) < l1.length)) (
 grd (decide (0<=(1:Int))&&decide ((1:Int) < l1.length)) (
 (qAT ((((l1.getD (0:Int).toNat qEK).2).2).1) ((((l1.getD (1:Int).toNat qEK).2).2).1)).bind fun r18=>
 (qON (decide (r18.1.1<=0))).bind fun r19=>
 some ((r19.1.1,()),()))))
 (cond (n0.1==13)
 (grd (decide (0<=(0:Int))&&decide ((0:Int) < l1.length)) (
 grd (decide (0<=(1:Int))&&decide ((1:Int) < l1.length)) (
 (qAT ((((l1.getD (0:Int).toNat qEK).2).2).1) ((((l1.getD (1:Int).toNat qEK).2).2).1)).bind fun r20=>
 (qON (decide (r20.1.1 < (0:Int)))).bind fun r21=>
 some ((r21.1.1,()),()))))
 ((qGY n0 l1).bind fun r22=>
 some ((r22.1.1,()),())))))))))))
def qUB (qBaA:Evl->Option ((Val×Int×Unit)×(Evl×Unit))) (x:Evl×Val×Int×Nod×(List Val)×Int×Int×Unit):Option (Ex×(Evl×Val×Int×Nod×(List Val)×Int×Int×Unit)):=
 let e0:=x.1
 let t2:=x.2.1
 let t3:=x.2.2.1
 let n4:=x.2.2.2.1
 let kids5:=x.2.2.2.2.1
 let t26:=x.2.2.2.2.2.1
 let t27:=x.2.2.2.2.2.2.1
 cond (decide (t27 < t26))
 ((qBaA e0).bind fun r1=>
 cond (r1.1.2.1 !=(0:Int))
 (some (Ex.ret,(r1.2.1,((0:Int),false,([]:qBs),([]:List qBs),([]:List qBs)),r1.1.2.1,n4,kids5,t26,t27,())))
 (grd (decide (kids5.length+([r1.1.1]:List Val).length<=qXE)) (some (Ex.normal,(r1.2.1,t2,t3,n4,kids5++([r1.1.1]:List Val),t26,qI (t27+1),())))))
 (some (Ex.exit 0,(e0,t2,t3,n4,kids5,t26,t27,())))
def qAI (qBaA:Evl->Option ((Val×Int×Unit)×(Evl×Unit))) (e0:Evl):Option ((Val×Int×Unit)×(Evl×Unit)):=
 grd (decide (0<=e0.2.1)&&decide (e0.2.1 < e0.1.length)) (
 (qOA (qUB qBaA) ((e0.1,qI (e0.2.1+1),e0.2.2),((0:Int),false,([]:qBs),([]:List qBs),([]:List qBs)),0,e0.1.getD e0.2.1.toNat qSE,([]:List Val),((((e0.1.getD e0.2.1.toNat qSE).2).2).2).2,0,())).bind fun y1=>
 cond (Ex.same y1.1 (Ex.exit 0))
 (cond (y1.2.2.2.2.1.1==4)
 ((qBJ y1.2.1 y1.2.2.2.2.1).bind fun r2=>
 some ((r2.1.1,r2.1.2.1,()),r2.2.1,()))
 (cond (y1.2.2.2.2.1.1==5)
 ((qMN y1.2.1 y1.2.2.2.2.1 y1.2.2.2.2.2.1).bind fun r3=>
 some ((r3.1.1,r3.1.2.1,()),r3.2.1,()))
 ((qTT y1.2.2.2.2.1 y1.2.2.2.2.2.1).bind fun r4=>
 some ((r4.1.1,0,()),y1.2.1,()))))
 (cond (Ex.same y1.1 Ex.ret)
 (some ((y1.2.2.1,y1.2.2.2.1,()),y1.2.1,()))
 (none)))
def qQC:Nat->Evl->Option ((Val×Int×Unit)×(Evl×Unit))
 |0=>fun _=>none
 |n+1=>qAI (qQC n)
def qIQ (t0:List Nod) (env1:List qRV) (fns2:List Interp):Option ((Val×Int×Unit)×Unit):=
 (qJR env1).bind fun r1=>
 (qXa fns2).bind fun r2=>
 cond (!r1.1.2.1)
 (some ((((0:Int),false,([]:qBs),([]:List qBs),([]:List qBs)),1,()),()))
 (cond (!r2.1.2.1)
 (some ((((0:Int),false,([]:qBs),([]:List qBs),([]:List qBs)),1,()),()))
 ((qSf t0).bind fun r3=>
 cond (!r3.1.1)
 (some ((((0:Int),false,([]:qBs),([]:List qBs),([]:List qBs)),1,()),()))
 ((qQC big (t0,0,r1.1.1,r2.1.1)).bind fun r4=>
 cond (r4.1.2.1 !=(0:Int))
 (some ((((0:Int),false,([]:qBs),([]:List qBs),([]:List qBs)),r4.1.2.1,()),()))
 ((qCb r4.1.1).bind fun r5=>
 some ((r5.1.1,0,()),())))))
def qTL (x:qBs×(List qBs)×Int×Int×Unit):Option (Ex×(qBs×(List qBs)×Int×Int×Unit)):=
 let sum3:=x.1
 let t6:=x.2.1
 let t7:=x.2.2.1
 let t8:=x.2.2.2.1
 cond (decide (t8 < t7))
 (grd (decide (0<=t8)&&decide (t8 < t6.length)) (
 (qOp sum3 (t6.getD t8.toNat ([]:qBs))).bind fun r1=>
 some (Ex.normal,(r1.1.1,t6,t7,qI (t8+1),()))))
 (some (Ex.exit 0,(sum3,t6,t7,t8,())))
def qSag (l0:List qBs):Option ((qBs×Unit)×Unit):=
 (qOA qTL (([48]:qBs),l0,(l0.length:Int),0,())).bind fun y1=>
 cond (Ex.same y1.1 (Ex.exit 0))
 (some ((y1.2.1,()),()))
 (none)
def qFe (t0:List Nod) (env1:List qRV) (fns2:List Interp):Option ((Bool×Unit)×Unit):=
 (qIQ t0 env1 fns2).bind fun r1=>
 cond (r1.1.2.1==0)
 (cond (r1.1.1.1==1)
 (some ((r1.1.1.2.1,()),()))
 (some ((false,()),())))
 (some ((false,()),()))
def qLak (sort0:Int):Option ((Val×Int×Unit)×Unit):=
 cond (sort0==1)
 (some (((sort0,false,([]:qBs),([]:List qBs),([]:List qBs)),0,()),()))
 (cond (sort0==2)
 (some (((sort0,false,([48]:qBs),([]:List qBs),([]:List qBs)),0,()),()))
 (cond (sort0==3)
 (some (((sort0,false,([48]:qBs),([]:List qBs),([]:List qBs)),0,()),()))
 (cond (sort0==4)
 (some (((sort0,false,([48]:qBs),([]:List qBs),([]:List qBs)),0,()),()))
 (some ((((0:Int),false,([]:qBs),([]:List qBs),([]:List qBs)),1,()),())))))
def qJad (v0:Val):Option ((Bool×Unit)×Unit):=
 cond (v0.1==4)
 ((qPT v0).bind fun r1=>
 some ((r1.1.1,()),()))
 (some ((false,()),()))
def qHq (a0:Val) (index1:qBs) (num2:qBs):Option ((Val×Int×Unit)×Unit):=
 (qJad a0).bind fun r1=>
 cond (!r1.1.1)
 (some ((((0:Int),false,([]:qBs),([]:List qBs),([]:List qBs)),1,()),()))
 ((qUH index1).bind fun r2=>
 cond (!r2.1.1)
 (some ((((0:Int),false,([]:qBs),([]:List qBs),([]:List qBs)),1,()),()))
 ((qUH num2).bind fun r3=>
 cond (!r3.1.1)
 (some ((((0:Int),false,([]:qBs),([]:List qBs),([]:List qBs)),1,()),()))
 ((qRa a0 index1 num2).bind fun r4=>
 some ((r4.1.1,0,()),()))))
def qWY (a0:qBs):Option ((Nod×Unit)×Unit):=
 some (((3,2,([]:qBs),a0,(0:Int)),()),())
def qXi (x:Val×(List Nod)×Int×Int×Unit):Option (Ex×(Val×(List Nod)×Int×Int×Unit)):=
 let v1:=x.1
 let t4:=x.2.1
 let t31:=x.2.2.1
 let t32:=x.2.2.2.1
 cond (decide (t32 < t31))
 (grd (decide (t4.length+([(19,(0:Int),([]:qBs),([]:qBs),3)]:List Nod).length<=qXE)) (some (Ex.normal,(v1,t4++([(19,(0:Int),([]:qBs),([]:qBs),3)]:List Nod),t31,qI (t32+1),()))))
 (some (Ex.exit 1,(v1,t4,t31,t32,())))
def qVi (x:Val×(List Nod)×(List qBs)×Int×Int×Unit):Option (Ex×(Val×(List Nod)×(List qBs)×Int×Int×Unit)):=
 let v1:=x.1
 let t4:=x.2.1
 let t47:=x.2.2.1
 let t48:=x.2.2.2.1
 let t49:=x.2.2.2.2.1
 cond (decide (t49 < t48))
 (grd (decide (0<=t49)&&decide (t49 < t47.length)) (
 (qWY (t47.getD t49.toNat ([]:qBs))).bind fun r1=>
 grd (decide (0<=t49)&&decide (t49 < v1.2.2.2.2.length)) (
 (qWY (v1.2.2.2.2.getD t49.toNat ([]:qBs))).bind fun r2=>
 grd (decide (t4.length+([r1.1.1,r2.1.1]:List Nod).length<=qXE)) (some (Ex.normal,(v1,t4++([r1.1.1,r2.1.1]:List Nod),t47,t48,qI (t49+1),()))))))
 (some (Ex.exit 3,(v1,t4,t47,t48,t49,())))
def qXaj (v0:Val):Option (((List Nod)×Int×Unit)×Unit):=
 (qPT v0).bind fun r1=>
 cond (!r1.1.1)
 (some ((([]:List Nod),1,()),()))
 (cond (v0.1==1)
 (cond (v0.2.1)
 (some ((([(1,(0:Int),([]:qBs),([]:qBs),(0:Int))]:List Nod),0,()),()))
 (some ((([(2,(0:Int),([]:qBs),([]:qBs),(0:Int))]:List Nod),0,()),())))
 (cond (v0.1==2)
 (some ((([(3,v0.1,([]:qBs),v0.2.2.1,(0:Int))]:List Nod),0,()),()))
 (cond (v0.1==3)
 (some ((([(3,v0.1,([]:qBs),v0.2.2.1,(0:Int))]:List Nod),0,()),()))
 ((qOA qXi (v0,([]:List Nod),(v0.2.2.2.1.length:Int),0,())).bind fun y2=>
 cond (Ex.same y2.1 (Ex.exit 1))
 ((qWY y2.2.1.2.2.1).bind fun r3=>
 grd (decide (y2.2.2.1.length+([(20,(0:Int),([]:qBs),([]:qBs),1),r3.1.1]:List Nod).length<=qXE)) (
 (qOA qVi (y2.2.1,y2.2.2.1++([(20,(0:Int),([]:qBs),([]:qBs),1),r3.1.1]:List Nod),y2.2.1.2.2.2.1,(y2.2.1.2.2.2.1.length:Int),0,())).bind fun y4=>
 cond (Ex.same y4.1 (Ex.exit 3))
 ((qSf y4.2.2.1).bind fun r5=>
 cond (!r5.1.1)
 (some ((([]:List Nod),6,()),()))
 (some ((y4.2.2.1,0,()),())))
 (none)))
 (none)))))
def qDaq (a0:qBs):Option ((qBs×Unit)×Unit):=
 (qLQ a0).bind fun r1=>
 cond (!r1.1.1)
 (some ((([]:qBs),()),()))
 ((strings_Cut a0 ([47]:qBs)).bind fun r2=>
 some ((r2.1.1,()),()))
def qOar (a0:qBs):Option ((qBs×Unit)×Unit):=
 (qLQ a0).bind fun r1=>
 cond (!r1.1.1)
 (some ((([]:qBs),()),()))
 ((strings_Cut a0 ([47]:qBs)).bind fun r2=>
 cond (r2.1.2.2.1)
 (some ((r2.1.2.1,()),()))
 (some ((([49]:qBs),()),())))
def qSX (qZaz:Int->qBs->Option ((qBs×Unit)×Unit)) (sort0:Int) (a1:qBs):Option ((qBs×Unit)×Unit):=
 (qTY a1).bind fun r1=>
 cond (decide (r1.1.1 < (0:Int)))
 ((qTad a1).bind fun r2=>
 (qZaz sort0 r2.1.1).bind fun r3=>
 grd (decide (([40,45,32]:qBs).length+r3.1.1.length<=qWN)) (grd (decide ((([40,45,32]:qBs)++r3.1.1).length+([41]:qBs).length<=qWN)) (some (((([40,45,32]:qBs)++r3.1.1)++([41]:qBs),()),()))))
 (cond (sort0==2)
 (some ((a1,()),()))
 ((qUH a1).bind fun r4=>
 cond (r4.1.1)
 (grd (decide (a1.length+([46,48]:qBs).length<=qWN)) (some ((a1++([46,48]:qBs),()),())))
 ((qDaq a1).bind fun r5=>
 grd (decide (([40,47,32]:qBs).length+r5.1.1.length<=qWN)) (
 grd (decide ((([40,47,32]:qBs)++r5.1.1).length+([46,48,32]:qBs).length<=qWN)) (
 (qOar a1).bind fun r6=>
 grd (decide (((([40,47,32]:qBs)++r5.1.1)++([46,48,32]:qBs)).length+r6.1.1.length<=qWN)) (grd (decide ((((([40,47,32]:qBs)++r5.1.1)++([46,48,32]:qBs))++r6.1.1).length+([46,48,41]:qBs).length<=qWN)) (some (((((([40,47,32]:qBs)++r5.1.1)++([46,48,32]:qBs))++r6.1.1)++([46,48,41]:qBs),()),()))))))))
def qPP:Nat->Int->qBs->Option ((qBs×Unit)×Unit)
 |0=>fun _ _=>none
 |n+1=>qSX (qPP n)
def qMt (n0:Nod):Option ((qBs×Unit)×Unit):=
 cond (n0.1==6)
 (some ((([110,111,116]:qBs),()),()))
 (cond (n0.1==7)
 (some ((([97,110,100]:qBs),()),()))
 (cond (n0.1==8)
 (some ((([111,114]:qBs),()),()))
 (cond (n0.1==9)
 (some ((([61,62]:qBs),()),()))
 (cond (n0.1==10)
 (some ((([105,116,101]:qBs),()),()))
 (cond (n0.1==11)
 (some ((([61]:qBs),()),()))
 (cond (n0.1==12)
 (some ((([60,61]:qBs),()),()))
 (cond (n0.1==13)
 (some ((([60]:qBs),()),()))
 (cond (n0.1==14)
 (some ((([43]:qBs),()),()))
 (cond (n0.1==15)
 (some ((([42]:qBs),()),()))
 (cond (n0.1==16)
 (some ((([100,105,118]:qBs),()),()))
 (cond (n0.1==17)
 (some ((([109,111,100]:qBs),()),()))
 (cond (n0.1==18)
 (some ((([115,101,108,101,99,116]:qBs),()),()))
 (cond (n0.1==19)
 (some ((([115,116,111,114,101]:qBs),()),()))
 (cond (n0.1==20)
 (some ((([99,111,110,115,116]:qBs),()),()))
 (some ((n0.2.2.1,()),()))))))))))))))))
def qNE (b0:Unit×List Int) (c1:Int):Option ((Bool×Unit)×((Unit×List Int)×Unit)):=
 (qPE ((),b0.2)).bind fun r1=>
 grd (decide (r1.2.1.2.length+([c1]:List Int).length<=qXE)) (some ((false,()),((),r1.2.1.2++([c1]:List Int)),()))
def qJT (qAaA:Option qOQ->(Unit×List Int)->Int->Option ((Unit)×((Unit×List Int)×Unit))) (x:(Option qOQ)×(Unit×List Int)×Nod×(List Int)×Int×Int×Unit):Option (Ex×((Option qOQ)×(Unit×List Int)×Nod×(List Int)×Int×Int×Unit)):=
 let v0:=x.1
 let b1:=x.2.1
 let n6:=x.2.2.1
 let t25:=x.2.2.2.1
 let t26:=x.2.2.2.2.1
 let t27:=x.2.2.2.2.2.1
 cond (decide (t27 < t26))
 (grd (decide (0<=t27)&&decide (t27 < t25.length)) (
 (qNE ((),b1.2) 32).bind fun r1=>
 (qAaA v0 ((),r1.2.1.2) (t25.getD t27.toNat (0:Int))).bind fun r2=>
 some (Ex.normal,(v0,((),r2.2.1.2),n6,t25,t26,qI (t27+1),()))))
 (some (Ex.exit 1,(v0,((),b1.2),n6,t25,t26,t27,())))
def qSV (qAaA:Option qOQ->(Unit×List Int)->Int->Option ((Unit)×((Unit×List Int)×Unit))) (v0:Option qOQ) (b1:Unit×List Int) (i2:Int):Option ((Unit)×((Unit×List Int)×Unit)):=
 grd (v0.isSome) (
 grd (decide (0<=i2)&&decide (i2 < ((v0.getD qQM).1).length)) (
 cond (((((v0.getD qQM).1).getD i2.toNat qSE).1)==1)
 ((qQA ((),b1.2) ([116,114,117,101]:qBs)).bind fun r1=>
 some ((),((),r1.2.1.2),()))
 (cond (((((v0.getD qQM).1).getD i2.toNat qSE).1)==2)
 ((qQA ((),b1.2) ([102,97,108,115,101]:qBs)).bind fun r2=>
 some ((),((),r2.2.1.2),()))
 (cond (((((v0.getD qQM).1).getD i2.toNat qSE).1)==3)
 ((qPP big (((((v0.getD qQM).1).getD i2.toNat qSE).2).1) (((((((v0.getD qQM).1).getD i2.toNat qSE).2).2).2).1)).bind fun r3=>
 (qQA ((),b1.2) r3.1.1).bind fun r4=>
 some ((),((),r4.2.1.2),()))
 (cond (((((v0.getD qQM).1).getD i2.toNat qSE).1)==4)
 ((qQA ((),b1.2) ((((((v0.getD qQM).1).getD i2.toNat qSE).2).2).1)).bind fun r5=>
 some ((),((),r5.2.1.2),()))
 ((qMt (((v0.getD qQM).1).getD i2.toNat qSE)).bind fun r6=>
 grd (decide (([40]:qBs).length+r6.1.1.length<=qWN)) (
 (qQA ((),b1.2) (([40]:qBs)++r6.1.1)).bind fun r7=>
 (qNP v0 i2).bind fun r8=>
 (qOA (qJT qAaA) (v0,((),r7.2.1.2),((v0.getD qQM).1).getD i2.toNat qSE,r8.1.1,(r8.1.1.length:Int),0,())).bind fun y9=>
 cond (Ex.same y9.1 (Ex.exit 1))
 (cond (!(y9.2.2.2.1.2.2.2.1==([]:qBs)))
 (grd (decide (([32]:qBs).length+y9.2.2.2.1.2.2.2.1.length<=qWN)) (
 (qQA ((),y9.2.2.1.2) (([32]:qBs)++y9.2.2.2.1.2.2.2.1)).bind fun r10=>
 (qNE ((),r10.2.1.2) 41).bind fun r11=>
 some ((),((),r11.2.1.2),())))
 ((qNE ((),y9.2.2.1.2) 41).bind fun r12=>
 some ((),((),r12.2.1.2),())))
 (none))))))))
def qNM:Nat->Option qOQ->(Unit×List Int)->Int->Option ((Unit)×((Unit×List Int)×Unit))
 |0=>fun _ _ _=>none
 |n+1=>qSV (qNM n)
def qBu (t0:List Nod):Option ((qBs×Unit)×Unit):=
 (qLa t0).bind fun r1=>
 cond (!r1.1.2.1)
 (some ((([]:qBs),()),()))
 ((qNM big r1.1.1 ((),([]:List Int)) 0).bind fun r2=>
 (qJE ((),r2.2.1.2)).bind fun r3=>
 some ((r3.1.1,()),()))
def qWt (v0:Val):Option ((qBs×Unit)×Unit):=
 (qXaj v0).bind fun r1=>
 cond (r1.1.2.1 !=(0:Int))
 (some ((([]:qBs),()),()))
 ((qBu r1.1.1).bind fun r2=>
 some ((r2.1.1,()),()))
def qFs:Option ((Bool×Unit)×Unit):=
 (qLak 4).bind fun r1=>
 (qHq r1.1.1 ([51]:qBs) ([55]:qBs)).bind fun r2=>
 (qHq r2.1.1 ([51]:qBs) ([48]:qBs)).bind fun r3=>
 (qBM 2 ([45,55]:qBs)).bind fun r4=>
 (qUO (16,(0:Int),([]:qBs),([50]:qBs),(0:Int)) ([r4.1.1]:List (List Nod))).bind fun r5=>
 (qIQ r5.1.1 ([]:List qRV) ([]:List Interp)).bind fun r6=>
 cond (r1.1.2.1==0)
 (cond (r2.1.2.1==0)
 (cond (r3.1.2.1==0)
 (cond (r6.1.2.1==0)
 (cond ((r2.1.1.2.2.2.1.length:Int)==1)
 (grd (decide (0<=(0:Int))&&decide ((0:Int) < r2.1.1.2.2.2.2.length)) (
 cond ((r2.1.1.2.2.2.2.getD (0:Int).toNat ([]:qBs))==([55]:qBs))
 ((qQW r3.1.1 r1.1.1).bind fun r7=>
 cond (r7.1.1)
 (cond (r6.1.1.2.2.1==([45,52]:qBs))
 ((qWt (4,false,([49]:qBs),([([45,50]:qBs)]:List qBs),([([53]:qBs)]:List qBs))).bind fun r8=>
 some ((r8.1.1==([40,115,116,111,114,101,32,40,99,111,110,115,116,32,49,41,32,40,45,32,50,41,32,53,41]:qBs),()),()))
 (some ((false,()),())))
 (some ((false,()),())))
 (some ((false,()),()))))
 (some ((false,()),())))
 (some ((false,()),())))
 (some ((false,()),())))
 (some ((false,()),())))
 (some ((false,()),()))
def qTI (l0:List Int) (m1:List Int):Option ((Bool×Unit)×Unit):=
 (qMae l0).bind fun r1=>
 (qMae m1).bind fun r2=>
 qIo.bind fun r3=>
 (qXN r2.1.1 r3.1.1).bind fun r4=>
 qIo.bind fun r5=>
 (qVA big r1.1.1 2 2 r5.1.1).bind fun r6=>
 qIo.bind fun r7=>
 (qVA big r6.2.1 2 2 r7.1.1).bind fun r8=>
 (qBC r8.2.1).bind fun r9=>
 (qFA r9.2.1 9).bind fun r10=>
 (qKF (qI ((1:Int)+r10.1.1))).bind fun r11=>
 (qIQ r6.1.1 r4.1.1 ([]:List Interp)).bind fun r12=>
 (qIQ r8.1.1 r4.1.1 ([]:List Interp)).bind fun r13=>
 cond (r12.1.2.1 !=(0:Int))
 (some ((false,()),()))
 (cond (r13.1.2.1 !=(0:Int))
 (some ((false,()),()))
 ((qUO (14,(0:Int),([]:qBs),([]:qBs),(0:Int)) ([r6.1.1,r8.1.1,r6.1.1]:List (List Nod))).bind fun r14=>
 (qIQ r14.1.1 r4.1.1 ([]:List Interp)).bind fun r15=>
 (qBM 2 r9.1.1).bind fun r16=>
 (qUO (15,(0:Int),([]:qBs),([]:qBs),(0:Int)) ([r16.1.1,r6.1.1]:List (List Nod))).bind fun r17=>
 (qIQ r17.1.1 r4.1.1 ([]:List Interp)).bind fun r18=>
 (qUO (16,(0:Int),([]:qBs),r11.1.1,(0:Int)) ([r6.1.1]:List (List Nod))).bind fun r19=>
 (qIQ r19.1.1 r4.1.1 ([]:List Interp)).bind fun r20=>
 (qUO (17,(0:Int),([]:qBs),r11.1.1,(0:Int)) ([r6.1.1]:List (List Nod))).bind fun r21=>
 (qIQ r21.1.1 r4.1.1 ([]:List Interp)).bind fun r22=>
 (qSag ([r12.1.1.2.2.1,r13.1.1.2.2.1,r12.1.1.2.2.1]:List qBs)).bind fun r23=>
 cond (r15.1.1.2.2.1==r23.1.1)
 ((qLx r9.1.1 r12.1.1.2.2.1).bind fun r24=>
 cond (r18.1.1.2.2.1==r24.1.1)
 ((qQw r12.1.1.2.2.1 r11.1.1).bind fun r25=>
 cond (r20.1.1.2.2.1==r25.1.1)
 ((qXu r12.1.1.2.2.1 r11.1.1).bind fun r26=>
 cond (r22.1.1.2.2.1==r26.1.1)
 ((qUO (12,(0:Int),([]:qBs),([]:qBs),(0:Int)) ([r6.1.1,r8.1.1]:List (List Nod))).bind fun r27=>
 (qFe r27.1.1 r4.1.1 ([]:List Interp)).bind fun r28=>
 (qAT r12.1.1.2.2.1 r13.1.1.2.2.1).bind fun r29=>
 cond (r28.1.1==(decide (r29.1.1<=0)))
 ((qUO (13,(0:Int),([]:qBs),([]:qBs),(0:Int)) ([r6.1.1,r8.1.1]:List (List Nod))).bind fun r30=>
 (qFe r30.1.1 r4.1.1 ([]:List Interp)).bind fun r31=>
 (qAT r12.1.1.2.2.1 r13.1.1.2.2.1).bind fun r32=>
 cond (r31.1.1==(decide (r32.1.1 < (0:Int))))
 (qFs.bind fun r33=>
 some ((r33.1.1,()),()))
 (some ((false,()),())))
 (some ((false,()),())))
 (some ((false,()),())))
 (some ((false,()),())))
 (some ((false,()),())))
 (some ((false,()),()))))
end
end Go.AM.Num
end
section
namespace Go.AM
open Go.Proofs Go.RowKit
attribute [local go_sem] Oper.semAt_some
theorem qUy {xs:List Int} {k:Nat} (h:k < xs.length):xs.zipIdx.reverse[k]?=some (xs[xs.length - 1 - k],xs.length - 1 - k):=by
 rw[List.getElem?_reverse (by simpa using h)]
 simp only[List.length_zipIdx,List.getElem?_zipIdx,Nat.zero_add]
 rw[qZ5 (by omega)]
 rfl
set_option maxHeartbeats 1000000 in
theorem qOr (F:Fence) (n:Nat) (h:F.fn 194) (hro:F.round=none) (v:Value) (w:World) (hv:v.oneCell'=true) :
 CallsIn F n Tryz.prog 194 #[v] w fun e w'=>e=.returned (.func (.func 247) #[] #[.pointer (some ⟨w.heap.size,0,none⟩)])/\∃ ty,w'=w.alloc (.cells #[v] ty):=by
 cases v<;>(try (simp[Value.oneCell'] at hv;done))
 all_goals refine callsIn_of_wp Tryz.func194 rfl h ?_ hro
 all_goals simp only[Tryz.ntmps194,List.size_toArray,qY11,List.length_nil,Nat.reduceAdd,Nat.reduceSub,Array.replicate_succ,Array.replicate_zero,List.push_toArray,List.append_toArray,qY15,qY5]
 all_goals gi_wp2
 all_goals go_ret
 all_goals exact ⟨rfl,_,rfl⟩
theorem qEn:qBV Tryz.prog 194 247:=by
 refine ⟨⟨_,Tryz.func194,by decide,rfl⟩,fun v w hv=>(callsIn_wide (n:=0)).1 (CallsIn.mono (qOr Fence.wide 0 trivial rfl v w hv) ?_)⟩
 rintro e w' ⟨rfl,ty,rfl⟩
 exact ⟨ty,rfl,Ext.alloc _ _,by simp,World.alloc_heap_new _ _⟩
set_option maxRecDepth 100000 in
set_option maxHeartbeats 2000000 in
theorem qSm (F:Fence) (n:Nat) (h8:F.fn 247) (hro:F.round=none) (hn:1<=n) (Bs ob:Nat) (ad:Option Addr) (cap:Nat) (xs:List Int) (W:World) (l:Nat) (J:Nat->World->Prop) (hlen:xs.length<=2 ^ 40) (hBs:W.cell? ⟨Bs,ob,none⟩=some (.slice ad xs.length cap))
 (hcs:xs≠[]->∃ b off,ad=some ⟨b,off,none⟩/\∀ (k:Nat) x,xs[k]?=some x->W.cell? ⟨b,off+k,none⟩=some (.int .i64 x))
 (hY:∀ (k:Nat) x W1,xs.zipIdx.reverse[k]?=some x->J k W1->YieldAt F (n - 1) Tryz.prog l (encI .i64 x) W1 fun e W'=>e=.returned (.bool true)/\J (k+1) W'/\qJY Bs (ad.map (·.block)) W1 W') (h0:J 0 W) :
 CallsIn F n Tryz.prog 247 #[.func (.yield l) #[] #[],.pointer (some ⟨Bs,ob,none⟩)] W fun e W'=>(∃ v,e=.returned v)/\J xs.length W':=by
 refine callsIn_of_wp Tryz.func247 rfl h8 ?_ hro
 simp only[Tryz.ntmps247,List.size_toArray,qY11,List.length_nil,Nat.reduceAdd,Nat.reduceSub,Array.replicate_succ,Array.replicate_zero,List.push_toArray,List.append_toArray,qY15,qY5]
 gi_wp2
 gi_loopw [3] (fun i wr=>∃ k:Nat,k<=xs.length/\i=.int .i64 ((xs.length:Int) - 1 - k)/\J k wr/\qJY Bs (ad.map (·.block)) W wr)
  (fun i _=>((RowKit.intOf i)+1).toNat)
 case atStart=>exact ⟨0,Nat.zero_le _,by simp,h0,⟨Nat.le_refl _,rfl,fun _ _=>rfl⟩⟩
 case round=>
  obtain ⟨k,hk,rfl,hJk,hnx⟩:=hrel
  by_cases hlt:k < xs.length
  ·have hz:=qUy hlt
   obtain ⟨fn,tmps,assign,body,hy,hR⟩:=hY k _ wr hz hJk
   dsimp only[encI] at hy
   have hix:((xs.length - 1 - k:Nat):Int)=(xs.length:Int) - 1 - k:=by omega
   rw[hix] at hy
   have hBx:wr.cell? ⟨Bs,ob,none⟩=some (.slice ad xs.length cap):=by rw[<-hBs];simp only[World.cell?,hnx.2.1]
   obtain ⟨b,off,rfl,hcell⟩:=hcs (by intro e;rw[e] at hlt;simp at hlt)
   have hcx:wr.cell? ⟨b,off+(xs.length - 1 - k),none⟩=some (.int .i64 (xs[xs.length - 1 - k]'(by omega))):=by
    rw[<-hcell (xs.length - 1 - k) _ (qZ5 (by omega))]
    simp only[World.cell?,hnx.2.2 b rfl]
   gi_wp2
   refine hR.mono ?_
   rintro e W3 ⟨rfl,hJ3,hk3⟩
   gi_wp2
   go_roundw
   case rel=>exact ⟨k+1,by omega,by simp;omega,hJ3,⟨Nat.le_trans hnx.1 hk3.1,hk3.2.1.trans hnx.2.1,fun j hj=>(hk3.2.2 j hj).trans (hnx.2.2 j hj)⟩⟩
   case measure=>simp[RowKit.intOf];omega
  ·obtain rfl:k=xs.length:=by omega
   gi_wp2
   go_end0
   exact ⟨⟨_,rfl⟩,hJk⟩
theorem qSw:qQu Tryz.prog 247 .i64:=
 ⟨⟨_,Tryz.func247,by decide,rfl⟩,fun Bs ob ad cap xs W l J hlen hBs hcs hY h0=>(callsIn_wide (n:=0)).2 ((callsIn_wide (n:=1)).1 (qSm Fence.wide 1 trivial rfl (Nat.le_refl _) Bs ob ad cap xs W l J hlen hBs hcs hY h0))⟩
set_option maxHeartbeats 1000000 in
theorem qWq (F:Fence) (n:Nat) (h:F.fn 205) (hro:F.round=none) (v:Value) (w:World) (hv:v.oneCell'=true) :
 CallsIn F n Tryz.prog 205 #[v] w fun e w'=>e=.returned (.func (.func 260) #[] #[.pointer (some ⟨w.heap.size,0,none⟩)])/\∃ ty,w'=w.alloc (.cells #[v] ty):=by
 cases v<;>(try (simp[Value.oneCell'] at hv;done))
 all_goals refine callsIn_of_wp Tryz.func205 rfl h ?_ hro
 all_goals simp only[Tryz.ntmps205,List.size_toArray,qY11,List.length_nil,Nat.reduceAdd,Nat.reduceSub,Array.replicate_succ,Array.replicate_zero,List.push_toArray,List.append_toArray,qY15,qY5]
 all_goals gi_wp2
 all_goals go_ret
 all_goals exact ⟨rfl,_,rfl⟩
theorem qGo:qBV Tryz.prog 205 260:=by
 refine ⟨⟨_,Tryz.func205,by decide,rfl⟩,fun v w hv=>(callsIn_wide (n:=0)).1 (CallsIn.mono (qWq Fence.wide 0 trivial rfl v w hv) ?_)⟩
 rintro e w' ⟨rfl,ty,rfl⟩
 exact ⟨ty,rfl,Ext.alloc _ _,by simp,World.alloc_heap_new _ _⟩
set_option maxRecDepth 100000 in
set_option maxHeartbeats 2000000 in
theorem qWn (F:Fence) (n:Nat) (h8:F.fn 260) (hro:F.round=none) (hn:1<=n) (Bs ob:Nat) (ad:Option Addr) (cap:Nat) (xs:List Int) (W:World) (l:Nat) (J:Nat->World->Prop) (hlen:xs.length<=2 ^ 40) (hBs:W.cell? ⟨Bs,ob,none⟩=some (.slice ad xs.length cap))
 (hcs:xs≠[]->∃ b off,ad=some ⟨b,off,none⟩/\∀ (k:Nat) x,xs[k]?=some x->W.cell? ⟨b,off+k,none⟩=some (.int .u32 x))
 (hY:∀ (k:Nat) x W1,xs.zipIdx.reverse[k]?=some x->J k W1->YieldAt F (n - 1) Tryz.prog l (encI .u32 x) W1 fun e W'=>e=.returned (.bool true)/\J (k+1) W'/\qJY Bs (ad.map (·.block)) W1 W') (h0:J 0 W) :
 CallsIn F n Tryz.prog 260 #[.func (.yield l) #[] #[],.pointer (some ⟨Bs,ob,none⟩)] W fun e W'=>(∃ v,e=.returned v)/\J xs.length W':=by
 refine callsIn_of_wp Tryz.func260 rfl h8 ?_ hro
 simp only[Tryz.ntmps260,List.size_toArray,qY11,List.length_nil,Nat.reduceAdd,Nat.reduceSub,Array.replicate_succ,Array.replicate_zero,List.push_toArray,List.append_toArray,qY15,qY5]
 gi_wp2
 gi_loopw [3] (fun i wr=>∃ k:Nat,k<=xs.length/\i=.int .i64 ((xs.length:Int) - 1 - k)/\J k wr/\qJY Bs (ad.map (·.block)) W wr)
  (fun i _=>((RowKit.intOf i)+1).toNat)
 case atStart=>exact ⟨0,Nat.zero_le _,by simp,h0,⟨Nat.le_refl _,rfl,fun _ _=>rfl⟩⟩
 case round=>
  obtain ⟨k,hk,rfl,hJk,hnx⟩:=hrel
  by_cases hlt:k < xs.length
  ·have hz:=qUy hlt
   obtain ⟨fn,tmps,assign,body,hy,hR⟩:=hY k _ wr hz hJk
   dsimp only[encI] at hy
   have hix:((xs.length - 1 - k:Nat):Int)=(xs.length:Int) - 1 - k:=by omega
   rw[hix] at hy
   have hBx:wr.cell? ⟨Bs,ob,none⟩=some (.slice ad xs.length cap):=by rw[<-hBs];simp only[World.cell?,hnx.2.1]
   obtain ⟨b,off,rfl,hcell⟩:=hcs (by intro e;rw[e] at hlt;simp at hlt)
   have hcx:wr.cell? ⟨b,off+(xs.length - 1 - k),none⟩=some (.int .u32 (xs[xs.length - 1 - k]'(by omega))):=by
    rw[<-hcell (xs.length - 1 - k) _ (qZ5 (by omega))]
    simp only[World.cell?,hnx.2.2 b rfl]
   gi_wp2
   refine hR.mono ?_
   rintro e W3 ⟨rfl,hJ3,hk3⟩
   gi_wp2
   go_roundw
   case rel=>exact ⟨k+1,by omega,by simp;omega,hJ3,⟨Nat.le_trans hnx.1 hk3.1,hk3.2.1.trans hnx.2.1,fun j hj=>(hk3.2.2 j hj).trans (hnx.2.2 j hj)⟩⟩
   case measure=>simp[RowKit.intOf];omega
  ·obtain rfl:k=xs.length:=by omega
   gi_wp2
   go_end0
   exact ⟨⟨_,rfl⟩,hJk⟩
theorem qWx:qQu Tryz.prog 260 .u32:=
 ⟨⟨_,Tryz.func260,by decide,rfl⟩,fun Bs ob ad cap xs W l J hlen hBs hcs hY h0=>(callsIn_wide (n:=0)).2 ((callsIn_wide (n:=1)).1 (qWn Fence.wide 1 trivial rfl (Nat.le_refl _) Bs ob ad cap xs W l J hlen hBs hcs hY h0))⟩
end Go.AM
end
