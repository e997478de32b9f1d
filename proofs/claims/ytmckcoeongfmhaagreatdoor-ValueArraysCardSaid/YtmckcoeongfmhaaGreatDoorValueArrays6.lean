/- Law ValueArrays of the values: a machine of plain values, what the program's functions compute in it, and what that is. No condition beyond what the statement says. -/
import Derived.Test.YtmckcoeongfmhaaGreatDoorValueArrays5
import Derived.Lib.SlTrimSet
import Derived.Test.YtmckcoeongfmhaaGreatDoorValueArrays3
import Derived.Test.YtmckcoeongfmhaaGreatDoorRows
import Derived.Shelf.Vars
import Derived.Lib.LaidTab
import Derived.ProofKit
import Derived.MakeChecks
import Derived.OpenShut
import Derived.Lib.Strings
import Derived.SliceStrings
import Derived.SizedLaws
import Derived.Test.YtmckcoeongfmhaaGreatDoorCards
import Derived.Test.YtmckcoeongfmhaaGreatDoorTie
import Derived.ShutString
import Derived.ChangeOld
import Derived.Below
import Derived.LaidMore
import Derived.Deep.DeepHandedRow
import Derived.Deep.DeepWitnessRowRef
import GoSem.PinnedTables
import Derived.ChangeArms
set_option linter.unusedSimpArgs false
set_option linter.unusedVariables false
section
set_option linter.unusedSimpArgs false
set_option linter.unusedVariables false
namespace Go.AM.Num
theorem qEg (M:Nat) (hM:1000000000000000000<=M) (s:qBs) (acc:Nat) (hd:qBH s) (h:acc * 10 ^ s.length+dval s < 1000000000000000000):Lib.parseUintM M acc s=.ok (acc * 10 ^ s.length+dval s):=by
 induction s generalizing acc with
 |nil=>simp[Lib.parseUintM,dval]
 |cons c s ih=>
  have hc:=hd c (by simp)
  have hdc:c.toNat - 48=dig c:=rfl
  rw[qTI,qY11,Nat.pow_succ] at h ⊢
  have hp:1<=10 ^ s.length:=Nat.one_le_pow _ _ (by decide)
  have e:acc * (10 ^ s.length * 10)+(dig c * 10 ^ s.length+dval s)=(acc * 10+dig c) * 10 ^ s.length+dval s:=by grind
  rw[e] at h ⊢
  have h1:(acc * 10+dig c) * 1<=(acc * 10+dig c) * 10 ^ s.length:=Nat.mul_le_mul_left _ hp
  unfold Lib.parseUintM
  rw[if_pos ⟨hc.1,hc.2⟩,if_neg (by omega),hdc,if_neg (by omega)]
  exact ih (acc * 10+dig c) (fun x hx=>hd x (by simp[hx])) h
theorem qIS (n:Nat) (h:n < 1000000000):qKC (dd n) 10 64=some (((n:Int),false,()),()):=by
 have hl:(dd n).length<=9:=qHF (by simpa using h) (by decide)
 have hm:=qEg (2 ^ 64 - 1) (by decide) (dd n) 0 (qEX n) (by rw[qCD];omega)
 rw[qCD,Nat.zero_mul,Nat.zero_add] at hm
 unfold qKC
 rw[if_pos ⟨rfl,rfl,by omega⟩]
 have:Lib.parseIntB 64 (dd n)=.ok (n:Int):=by
  cases e:dd n with
  |nil=>exact absurd e (qFa n)
  |cons c r=>
   have hc:=qEX n c (by rw[e];simp)
   unfold Lib.parseIntB
   have h1:¬ (c.toNat=43\/c.toNat=45):=by have:=hc.1;omega
   have h2:¬ c.toNat=45:=by have:=hc.1;omega
   simp only[if_neg h1]
   unfold Lib.parseUintB
   rw[if_neg (by simp),<-e,hm]
   simp[h2]
   omega
 rw[this]
theorem qJc (m n:Nat):qIL (m:Int) (n:Int)=some ((((Nat.gcd m n:Nat):Int),()),()):=by
 obtain ⟨r,hr,b,rfl⟩:=qVA (step:=qEK) (Q:=fun r=>∃ b,r=(Ex.exit 0,(((Nat.gcd m n:Nat):Int),b,())))
  (fun k x=>∃ a b:Nat,x=((a:Int),(b:Int),())/\k=b/\Nat.gcd a b=Nat.gcd m n) (by
   rintro k x ⟨a,b,rfl,rfl,hg⟩
   by_cases h0:k=0
   ·subst h0
    refine .inl ⟨(Ex.exit 0,((a:Int),0,())),?_,by simp,0,?_⟩
    ·simp (disch:=(first | omega | (simp only[lnn];omega))) only[qEK,stp]
     rfl
    ·rw[<-hg,Nat.gcd_zero_right]
   ·refine .inr ⟨a % k,_,?_,Nat.mod_lt _ (by omega),k,a % k,rfl,rfl,?_⟩
    ·simp (disch:=(first | omega | (simp only[lnn];omega))) only[qEK,stp]
     rw[<-Int.natCast_emod]
    ·rw[Nat.gcd_comm,<-Nat.gcd_rec,Nat.gcd_comm,hg]) n _ ⟨m,n,rfl,rfl,rfl⟩
 unfold qIL
 rw[hr]
 simp (disch:=(first | omega | (simp only[lnn];omega))) only[stp]
def qOe (a:qBs) (r:Int×Int):Prop:=∃ q,a=txt q/\r=(q.num,(q.den:Int))/\q.num.natAbs < 1000000000/\q.den < 1000000000
theorem qWV {n:Nat} (h:(dd n).length<=9):n < 1000000000:=by
 have:=qHK n
 have h2:10 ^ (dd n).length<=10 ^ 9:=Nat.pow_le_pow_right (by decide) h
 omega
theorem qUV (a:qBs) (hl:a.length<=10000000):∃ r ok,qDB a=some ((r,ok,()),())/\(ok=true->qOe a r):=by
 obtain ⟨neg,s,hcp,ha,hs⟩:=qJd a
 have hsl:s.length<=10000000:=by rw[ha,qZ6] at hl;omega
 have nope:∀ (r:Int×Int),qDB a=some ((r,false,()),())->∃ r ok,qDB a=some ((r,ok,()),())/\(ok=true->qOe a r):=fun r h=>⟨r,false,h,fun h=>by cases h⟩
 rcases qHm 47 s with ⟨x,y,rfl,hx⟩ | hx
 ·have hxl:x.length<=10000000:=by rw[qZ6] at hsl;omega
  have hyl:y.length<=10000000:=by rw[qZ6,qY11] at hsl;omega
  have hcut:=qJv (y:=y) hx (by omega)
  by_cases h9:x.length<=9
  ·by_cases hy9:y.length<=9
   ·by_cases hnx:x=dd (dval x)
    ·have hox:=qAC hnx
     by_cases h0:x=[48]
     ·refine nope (0,0) ?_
      unfold qDB
      simp (disch:=(first | omega | (simp only[lnn];omega))) only[hcp,hcut,qLA x (by omega),hox,qAC h0,stp]
      cases neg<;>rfl
     ·have hm0:dval x≠0:=fun e=>h0 (by rw[hnx,e,qIC])
      have hmB:dval x < 1000000000:=qWV (by rw[<-hnx];exact h9)
      have hp:=qIS (dval x) hmB
      rw[<-hnx] at hp
      by_cases hny:y=dd (dval y)
      ·have hdB:dval y < 1000000000:=qWV (by rw[<-hny];exact hy9)
       have hpy:=qIS (dval y) hdB
       rw[<-hny] at hpy
       by_cases h2:dval y < 2
       ·refine nope (0,0) ?_
        unfold qDB
        simp (disch:=(first | omega | (simp only[lnn];omega))) only[hcp,hcut,qLA x (by omega),hox,qPB h0,hp,qLA y (by omega),qAC hny,hpy,stp]
       ·have hdv:=qJc (dval x) (dval y)
        by_cases hg:Nat.gcd (dval x) (dval y)=1
        ·have hd0:dval y≠0:=by omega
         obtain ⟨e1,e2⟩:=qNV neg (dval x) (dval y) hd0 hg
         have hsm:qOe a (sg neg (dval x),((dval y:Nat):Int)):=by
          refine ⟨mkRat (sg neg (dval x)) (dval y),?_,by rw[e1,e2],by rw[e1,qGF];exact hmB,by rw[e2];exact hdB⟩
          rw[<-qSQ neg _ _ hd0 hg,<-qXf (fun _=>hm0),if_neg (by omega),<-hnx,<-hny]
          exact ha
         rw[hg] at hdv
         cases neg with
         |true=>
          refine ⟨_,true,?_,fun _=>hsm⟩
          unfold qDB
          simp (disch:=(first | omega | (simp only[lnn];omega))) only[hcp,hcut,qLA x (by omega),hox,qPB h0,hp,qLA y (by omega),qAC hny,hpy,hdv,stp]
          simp[sg]
         |false=>
          refine ⟨_,true,?_,fun _=>hsm⟩
          unfold qDB
          simp (disch:=(first | omega | (simp only[lnn];omega))) only[hcp,hcut,qLA x (by omega),hox,qPB h0,hp,qLA y (by omega),qAC hny,hpy,hdv,stp]
          simp[sg]
        ·refine nope (0,0) ?_
         unfold qDB
         simp (disch:=(first | omega | (simp only[lnn];omega))) only[hcp,hcut,qLA x (by omega),hox,qPB h0,hp,qLA y (by omega),qAC hny,hpy,hdv,stp]
      ·refine nope (0,0) ?_
       unfold qDB
       simp (disch:=(first | omega | (simp only[lnn];omega))) only[hcp,hcut,qLA x (by omega),hox,qPB h0,hp,qLA y (by omega),qPB hny,stp]
    ·refine nope (0,0) ?_
     unfold qDB
     simp (disch:=(first | omega | (simp only[lnn];omega))) only[hcp,hcut,qLA x (by omega),qPB hnx,stp]
   ·refine nope (0,0) ?_
    unfold qDB
    simp (disch:=(first | omega | (simp only[lnn];omega))) only[hcp,hcut,stp]
  ·refine nope (0,0) ?_
   unfold qDB
   simp (disch:=(first | omega | (simp only[lnn];omega))) only[hcp,hcut,stp]
 ·have hcut:=qSz hx (by omega)
  have hnil:(([]:qBs).length:Int)=0:=rfl
  by_cases h9:s.length<=9
  ·by_cases hnx:s=dd (dval s)
   ·have hox:=qAC hnx
    have hmB:dval s < 1000000000:=qWV (by rw[<-hnx];exact h9)
    have hp:=qIS (dval s) hmB
    rw[<-hnx] at hp
    have fin:(neg=true->dval s≠0)->qOe a (sg neg (dval s),1):=by
     intro h
     obtain ⟨e1,e2⟩:=qNV neg (dval s) 1 (by decide) (Nat.gcd_one_right _)
     refine ⟨mkRat (sg neg (dval s)) 1,?_,by rw[e1,e2];rfl,by rw[e1,qGF];exact hmB,by rw[e2];decide⟩
     rw[<-qSQ neg _ _ (by decide) (Nat.gcd_one_right _),<-qXf h]
     simp only[if_true,qY4]
     rw[<-hnx];exact ha
    by_cases h0:s=[48]
    ·cases neg with
     |true=>
      refine nope (0,0) ?_
      unfold qDB
      simp (disch:=(first | omega | (simp only[lnn];omega))) only[hcp,hcut,hnil,qLA s (by omega),hox,qAC h0,stp]
     |false=>
      refine ⟨_,true,?_,fun _=>fin (fun h=>by cases h)⟩
      unfold qDB
      simp (disch:=(first | omega | (simp only[lnn];omega))) only[hcp,hcut,hnil,qLA s (by omega),hox,qAC h0,hp,stp]
      simp[sg]
    ·have hm0:dval s≠0:=fun e=>h0 (by rw[hnx,e,qIC])
     cases neg with
     |true=>
      refine ⟨_,true,?_,fun _=>fin (fun _=>hm0)⟩
      unfold qDB
      simp (disch:=(first | omega | (simp only[lnn];omega))) only[hcp,hcut,hnil,qLA s (by omega),hox,qPB h0,hp,stp]
      simp[sg]
     |false=>
      refine ⟨_,true,?_,fun _=>fin (fun _=>hm0)⟩
      unfold qDB
      simp (disch:=(first | omega | (simp only[lnn];omega))) only[hcp,hcut,hnil,qLA s (by omega),hox,qPB h0,hp,stp]
      simp[sg]
   ·refine nope (0,0) ?_
    unfold qDB
    simp (disch:=(first | omega | (simp only[lnn];omega))) only[hcp,hcut,hnil,qLA s (by omega),qPB hnx,stp]
  ·refine nope (0,0) ?_
   unfold qDB
   simp (disch:=(first | omega | (simp only[lnn];omega))) only[hcp,hcut,stp]
theorem qXab (neg:Bool) (m:Nat):Lib.itoa (sg neg m)=(if neg=true/\m≠0 then [45] else [])++dd m:=by
 unfold Lib.itoa
 by_cases h:sg neg m < 0
 ·rw[if_pos h,if_pos ((qHL _ _).1 h),qGF];rfl
 ·rw[if_neg h,if_neg (fun e=>h ((qHL _ _).2 e))]
  have:(sg neg m).toNat=m:=by have:=qGF neg m;omega
  rw[this];rfl
theorem qUm {n:Int} (h:n.natAbs < 9000000000000000000):qWt n:=⟨by omega,by omega⟩
theorem qQz (neg:Bool) (m:Nat) (h:m < 9000000000000000000):qMB (sg neg m) 10=some (((if neg=true/\m≠0 then [45] else [])++dd m,()),()):=by
 unfold qMB
 rw[if_pos ⟨qUm (by rw[qGF];exact h),rfl⟩,qXab]
theorem qFab (m:Nat) (h:m < 9000000000000000000):qMB (m:Int) 10=some ((dd m,()),()):=by
 have:=qQz false m h
 simpa [sg] using this
theorem qSac (neg:Bool) (m g:Nat):(sg neg m).tdiv (g:Int)=sg neg (m / g):=by
 cases neg with
 |false=>simp only[sg,Bool.false_eq_true,if_false];rw[Int.tdiv_eq_ediv_of_nonneg (by omega),Int.natCast_ediv]
 |true=>simp only[sg,if_true];rw[Int.neg_tdiv,Int.tdiv_eq_ediv_of_nonneg (by omega),Int.natCast_ediv]
theorem qMy (n:Int):qDW n (0 - n)=(n.natAbs:Int):=by rw[qQd];split<;>omega
theorem qCl (neg:Bool) (m:Nat):-(m:Int)<=sg neg m/\sg neg m<=m:=by cases neg<;>simp[sg]<;>omega
theorem qWae (n:Int):n=sg (decide (n < 0)) n.natAbs:=by
 unfold sg
 by_cases h:n < 0
 ·rw[qZ10 h];simp;omega
 ·rw[qZ9 h];simp;omega
theorem qQI:qXK=1152921504606846976:=rfl
theorem qMad (p:Prop) [Decidable p]:(if p then [(45:UInt8)] else []).length<=1:=by split<;>simp
theorem qTm (neg:Bool) (m d:Nat) (hd:d≠0) (hm:m < 9000000000000000000) (hdB:d < 9000000000000000000) :
 qDJ (sg neg m) (d:Int)=some ((txt (mkRat (sg neg m) d),()),()):=by
 have hg0:Nat.gcd m d≠0:=fun e=>hd (Nat.gcd_eq_zero_iff.1 e).2
 have hdv:=qJc m d
 obtain ⟨b1,b2⟩:=qCl neg m
 have hmx:qDW (sg neg m) (0 - sg neg m)=(m:Int):=by rw[qMy,qGF]
 have hn1:=Nat.div_le_self m (Nat.gcd m d)
 have hn2:=Nat.div_le_self d (Nat.gcd m d)
 obtain ⟨c1,c2⟩:=qCl neg (m / Nat.gcd m d)
 have f1:=qQz neg (m / Nat.gcd m d) (by omega)
 have f2:=qFab (d / Nat.gcd m d) (by omega)
 have hdt:((d:Int)).tdiv ((Nat.gcd m d:Nat):Int)=((d / Nat.gcd m d:Nat):Int):=by rw[Int.tdiv_eq_ediv_of_nonneg (by omega),Int.natCast_ediv]
 have hdt2:(d:Int) / ((Nat.gcd m d:Nat):Int)=((d / Nat.gcd m d:Nat):Int):=(Int.natCast_ediv _ _).symm
 have hl1:(dd (m / Nat.gcd m d)).length<=19:=qHF (by omega) (by decide)
 have hl2:(dd (d / Nat.gcd m d)).length<=19:=qHF (by omega) (by decide)
 rw[<-qRT neg m d hd]
 unfold tx
 have hnum:=qSac neg m (Nat.gcd m d)
 obtain ⟨pre,hpre⟩:∃ pre:qBs,pre=(if neg=true/\m / Nat.gcd m d≠0 then [45] else []):=⟨_,rfl⟩
 have hprel:pre.length<=1:=by rw[hpre];exact qMad _
 rw[<-hpre] at f1 ⊢
 unfold qDJ
 by_cases h1:d / Nat.gcd m d=1
 ·rw[if_pos h1]
  rw[h1] at hdt hdt2
  simp (disch:=(first | omega | (simp only[lnn];omega))) only[hmx,hdv,hnum,f1,hdt,hdt2,stp]
  simp
 ·have hq0:0 < d / Nat.gcd m d:=Nat.div_pos (Nat.le_of_dvd (by omega) (Nat.gcd_dvd_right m d)) (by omega)
  rw[if_neg h1]
  have g1:([47]:qBs).length+(dd (d / Nat.gcd m d)).length<=qXK:=by rw[qQI];simp;omega
  have g2:(pre++dd (m / Nat.gcd m d)).length+(([47]:qBs)++dd (d / Nat.gcd m d)).length<=qXK:=by rw[qQI];simp;omega
  simp (disch:=(first | omega | (simp only[lnn];omega))) only[hmx,hdv,hnum,f1,hdt,hdt2,f2,qBA g1,qBA g2,stp]
  simp
theorem qOab (n d:Int) (hd:d≠0) (hn:n.natAbs < 9000000000000000000) (hdB:d.natAbs < 9000000000000000000) :
 qDJ n d=some ((txt (Rat.divInt n d),()),()):=by
 by_cases h:d < 0
 ·have h1:=qTm (decide (-n < 0)) n.natAbs d.natAbs (by omega) hn hdB
  have e1:sg (decide (-n < 0)) n.natAbs=-n:=by have:=qWae (-n);rw[Int.natAbs_neg] at this;exact this.symm
  rw[e1] at h1
  have e2:(d.natAbs:Int)=-d:=by omega
  rw[e2] at h1
  have e3:Rat.divInt n d=mkRat (-n) d.natAbs:=by rw[<-Rat.neg_divInt_neg,<-e2,Rat.divInt_ofNat]
  rw[e3,<-h1]
  have w1:qI (0 - n)=0 - n:=w64 (by omega)
  have w2:qI (0 - d)=0 - d:=w64 (by omega)
  unfold qDJ
  rw[w1,w2,show (0:Int) - n=-n by omega,show (0:Int) - d=-d by omega,qKA h,qWA (by omega)]
 ·have h1:=qTm (decide (n < 0)) n.natAbs d.natAbs (by omega) hn hdB
  rw[<-qWae n] at h1
  have e2:(d.natAbs:Int)=d:=by omega
  rw[<-Rat.divInt_ofNat,e2] at h1
  exact h1
end Go.AM.Num
end
section
set_option linter.unusedSimpArgs false
set_option linter.unusedVariables false
namespace Go.AM.Num
theorem qCi (neg:Bool) (m d:Nat) (hm:(dd m).length<=100000000) (hd:(dd d).length<=100000000):qXH (neg,limbs m,limbs d)=some ((tx neg m d,()),()):=by
 have tm':=qQs m (by have:=qKH m;omega)
 have td':=qQs d (by have:=qKH d;omega)
 have o:=qSY d
 have h1:([45]:qBs).length+(dd m).length<=qXK:=by rw[qQI];simp;omega
 have h2:([47]:qBs).length+(dd d).length<=qXK:=by rw[qQI];simp;omega
 have h3:(([45]:qBs)++dd m).length+(([47]:qBs)++dd d).length<=qXK:=by rw[qQI];simp;omega
 have h4:(dd m).length+(([47]:qBs)++dd d).length<=qXK:=by rw[qQI];simp;omega
 have hl0:¬ ((limbs 0).length:Int) > 0:=by rw[limbs_zero];simp
 unfold qXH tx
 cases neg with
 |true=>
  by_cases hm0:m=0
  ·subst hm0
   by_cases h:d=1
   ·subst h
    simp (disch:=(first | omega | (simp only[lnn];omega))) only[tm',td',qSY 1,qWA hl0,decide_true,stp]
    simp
   ·simp (disch:=(first | omega | (simp only[lnn];omega))) only[tm',td',o,qWA hl0,qZ9 h,qBA h2,qBA h4,stp]
    simp[h]
  ·have hl:((limbs m).length:Int) > 0:=by
    have:(limbs m).length≠0:=fun e=>hm0 (limbs_nil.1 (List.eq_nil_of_length_eq_zero e))
    omega
   by_cases h:d=1
   ·subst h
    simp (disch:=(first | omega | (simp only[lnn];omega))) only[tm',td',qSY 1,qKA hl,decide_true,qBA h1,stp]
    simp[hm0]
   ·simp (disch:=(first | omega | (simp only[lnn];omega))) only[tm',td',o,qKA hl,qZ9 h,qBA h1,qBA h2,qBA h3,stp]
    simp[h,hm0]
 |false=>
  by_cases h:d=1
  ·subst h
   simp (disch:=(first | omega | (simp only[lnn];omega))) only[tm',td',qSY 1,decide_true,stp]
   simp
  ·simp (disch:=(first | omega | (simp only[lnn];omega))) only[tm',td',o,qZ9 h,qBA h2,qBA h4,stp]
   simp[h]
def Is (r:Bool×List Int×List Int) (q:Rat):Prop:=∃ neg m d,r=(neg,limbs m,limbs d)/\tx neg m d=txt q/\(dd m).length<=100000000/\(dd d).length<=100000000
theorem Is.text {r:Bool×List Int×List Int} {q:Rat} (h:Is r q):qXH (r.1,r.2.1,r.2.2)=some ((txt q,()),()):=by
 obtain ⟨neg,m,d,rfl,h1,h2,h3⟩:=h
 rw[qCi neg m d h2 h3,h1]
theorem qVY (neg:Bool) (m d:Nat) (hd:d≠0) (hm:(dd m).length<=100000000) (hdl:(dd d).length<=100000000) :
 ∃ r,qLM neg (limbs m) (limbs d)=some ((r,()),())/\Is r (mkRat (sg neg m) d):=
 ⟨_,qQq neg m d hd (Nat.le_trans (qKH _) hm) (Nat.le_trans (qKH _) hdl),neg,_,_,rfl,qRT neg m d hd,
  Nat.le_trans (qTA (Nat.div_le_self _ _)) hm,Nat.le_trans (qTA (Nat.div_le_self _ _)) hdl⟩
theorem qLS (q:Rat):(dd q.num.natAbs).length<=D q:=by unfold D;omega
theorem qWR (q:Rat):(dd q.den).length<=D q:=by unfold D;omega
theorem qBm (p q:Rat):p+q=mkRat (sg (decide (p.num < 0)) (p.num.natAbs * q.den)+sg (decide (q.num < 0)) (q.num.natAbs * p.den)) (p.den * q.den):=by
 rw[Rat.add_def']
 congr 1
 have h1:=qPs (decide (p.num < 0)) false p.num.natAbs q.den
 have h2:=qPs (decide (q.num < 0)) false q.num.natAbs p.den
 rw[qTc] at h1 h2
 simp only[Bool.bne_false] at h1 h2
 rw[<-h1,<-h2];rfl
theorem radd (p q:Rat) (h:D p+D q<=10000000):∃ r,qEU (rep p) (rep q)=some ((r,()),())/\Is r (p+q):=by
 have a1:=qLS p
 have a2:=qWR p
 have a3:=qLS q
 have a4:=qWR q
 have b1:=qRB p.num.natAbs q.den
 have b2:=qRB q.num.natAbs p.den
 have b3:=qRB p.den q.den
 have b4:=qGQ (p.num.natAbs * q.den) (q.num.natAbs * p.den)
 have b5:=qTA (Nat.sub_le (p.num.natAbs * q.den) (q.num.natAbs * p.den))
 have b6:=qTA (Nat.sub_le (q.num.natAbs * p.den) (p.num.natAbs * q.den))
 have L:=qKH
 have m1:=qSq p.num.natAbs q.den (by have:=L p.num.natAbs;omega) (by have:=L q.den;omega)
 have m2:=qSq q.num.natAbs p.den (by have:=L q.num.natAbs;omega) (by have:=L p.den;omega)
 have m3:=qSq p.den q.den (by have:=L p.den;omega) (by have:=L q.den;omega)
 have hd0:p.den * q.den≠0:=Nat.mul_ne_zero p.den_nz q.den_nz
 obtain ⟨x,hx⟩:∃ x,x=p.num.natAbs * q.den:=⟨_,rfl⟩
 obtain ⟨y,hy⟩:∃ y,y=q.num.natAbs * p.den:=⟨_,rfl⟩
 have hf:=qBm p q
 rw[<-hx] at b1 b4 b5 b6 m1 hf
 rw[<-hy] at b2 b4 b5 b6 m2 hf
 have Lx:=L x
 have Ly:=L y
 rw[hf]
 obtain ⟨n1,hn1⟩:∃ n,n=decide (p.num < 0):=⟨_,rfl⟩
 obtain ⟨n2,hn2⟩:∃ n,n=decide (q.num < 0):=⟨_,rfl⟩
 unfold qEU rep
 rw[<-hn1,<-hn2]
 by_cases hs:n1=n2
 ·subst hs
  have e:sg n1 x+sg n1 y=sg n1 (x+y):=by cases n1<;>simp[sg];omega
  rw[e]
  obtain ⟨r,hr,hi⟩:=qVY n1 (x+y) (p.den * q.den) hd0 (by omega) (by omega)
  refine ⟨r,?_,hi⟩
  simp (disch:=(first | omega | (simp only[lnn];omega))) only[m1,m2,m3,qEaf x y (by omega) (by omega),hr,beq_self_eq_true,stp]
 ·have hsb:(n1==n2)=false:=by simpa using hs
  obtain ⟨c,hc,hc1,hc2⟩:=qWz x y (by omega) (by omega)
  by_cases hle:y<=x
  ·have hc0:c>=0:=by
    rcases Int.lt_or_le c 0 with h | h
    ·have:=hc1.1 h;omega
    ·exact h
   have e:sg n1 x+sg n2 y=sg n1 (x - y):=by cases n1<;>cases n2<;>simp_all [sg]<;>omega
   rw[e]
   obtain ⟨r,hr,hi⟩:=qVY n1 (x - y) (p.den * q.den) hd0 (by omega) (by omega)
   refine ⟨r,?_,hi⟩
   simp (disch:=(first | omega | (simp only[lnn];omega))) only[m1,m2,m3,hsb,hc,qRz x y (by omega) hle,hr,stp]
  ·have hc0:¬ c>=0:=by have:=hc1.2 (by omega);omega
   have e:sg n1 x+sg n2 y=sg n2 (y - x):=by cases n1<;>cases n2<;>simp_all [sg]<;>omega
   rw[e]
   obtain ⟨r,hr,hi⟩:=qVY n2 (y - x) (p.den * q.den) hd0 (by omega) (by omega)
   refine ⟨r,?_,hi⟩
   simp (disch:=(first | omega | (simp only[lnn];omega))) only[m1,m2,m3,hsb,hc,qRz y x (by omega) (by omega),hr,stp]
end Go.AM.Num
end
section
set_option linter.unusedSimpArgs false
set_option linter.unusedVariables false
namespace Go.AM.Num
noncomputable def bin (f:Rat->Rat->qBs) (a b:qBs):qBs:=
 match rd a,rd b with
 |some p,some q=>f p q
 |_,_=>[]
theorem qXZ (f:Rat->Rat->qBs) (p q:Rat):bin f (txt p) (txt q)=f p q:=by unfold bin;rw[qPO,qPO]
theorem qIab {f:Rat->Rat->qBs} {a b:qBs} (h:rd a=none):bin f a b=[]:=by unfold bin;rw[h]
theorem qIu {f:Rat->Rat->qBs} {a b:qBs} (h:rd b=none):bin f a b=[]:=by
 unfold bin;rw[h];cases rd a<;>rfl
theorem qLe {q:Rat} {n:Nat} (h:(txt q).length<=n):D q<=n+1:=by have:=D_le q;omega
theorem qTV {a b:Nat} (ha:a < 1000000000) (hb:b < 1000000000):a * b<=999999998000000001:=by
 have h1:a * b<=999999999 * b:=Nat.mul_le_mul_right _ (by omega)
 omega
section
variable {a b:qBs}
theorem qCab (p q:Rat) (h1:p.num.natAbs < 1000000000) (h2:p.den < 1000000000) (h3:q.num.natAbs < 1000000000) (h4:q.den < 1000000000) :
 qQY (p.num,(p.den:Int)) (q.num,(q.den:Int))=some ((txt (p+q),()),()):=by
 have e1:=qTV h1 h4
 have e2:=qTV h3 h2
 have e3:=qTV h2 h4
 have f1:(p.num * q.den).natAbs=p.num.natAbs * q.den:=by rw[Int.natAbs_mul,Int.natAbs_natCast]
 have f2:(q.num * p.den).natAbs=q.num.natAbs * p.den:=by rw[Int.natAbs_mul,Int.natAbs_natCast]
 have f3:((p.den:Int) * q.den).natAbs=p.den * q.den:=by rw[Int.natAbs_mul,Int.natAbs_natCast,Int.natAbs_natCast]
 have hd:p.den * q.den≠0:=Nat.mul_ne_zero p.den_nz q.den_nz
 have hfr:=qOab (p.num * q.den+q.num * p.den) ((p.den:Int) * q.den) (by omega) (by omega) (by omega)
 rw[<-Int.natCast_mul,Rat.divInt_ofNat,<-Rat.add_def',Int.natCast_mul] at hfr
 unfold qQY
 simp (disch:=(first | omega | (simp only[lnn];omega))) only[hfr,stp]
theorem qDab {f:Rat->Rat->Rat} {F1:Int×Int->Int×Int->Option ((qBs×Unit)×Unit)} {F2:Bool×List Int×List Int->Bool×List Int×List Int->Option ((qBs×Unit)×Unit)}
 {two:qBs->qBs->Unit->Unit->Option ((qBs×Unit)×Unit)}
 (htwo:∀ a b r1 k1 r2 k2,qDB a=some ((r1,k1,()),())->qDB b=some ((r2,k2,()),())->
  (k1=true->k2=true->∀ t,F1 r1 r2=some ((t,()),())->two a b () ()=some ((t,()),()))/\
  ((k1=false\/k2=false)->∀ s1 o1 s2 o2,qWE a=some ((s1,o1,()),())->qWE b=some ((s2,o2,()),())->
   ((o1=false\/o2=false)->two a b () ()=some (([],()),()))/\(o1=true->o2=true->∀ t,F2 s1 s2=some ((t,()),())->two a b () ()=some ((t,()),()))))
 (ok:Rat->Prop)
 (h1:∀ p q:Rat,ok q->p.num.natAbs < 1000000000->p.den < 1000000000->q.num.natAbs < 1000000000->q.den < 1000000000->F1 (p.num,(p.den:Int)) (q.num,(q.den:Int))=some ((txt (f p q),()),()))
 (h2:∀ p q:Rat,ok q->D p+D q<=10000000->F2 (rep p) (rep q)=some ((txt (f p q),()),()))
 (ha:a.length<=3000000) (hb:b.length<=3000000) (hok:∀ q,b=txt q->ok q):two a b () ()=some ((bin (fun p q=>txt (f p q)) a b,()),()):=by
 obtain ⟨r1,k1,e1,s1⟩:=qUV a (by omega)
 obtain ⟨r2,k2,e2,s2⟩:=qUV b (by omega)
 obtain ⟨t1,t2⟩:=htwo a b r1 k1 r2 k2 e1 e2
 by_cases hk:k1=true/\k2=true
 ·obtain ⟨p,rfl,rfl,b1,b2⟩:=s1 hk.1
  obtain ⟨q,rfl,rfl,b3,b4⟩:=s2 hk.2
  rw[qXZ]
  exact t1 hk.1 hk.2 _ (h1 p q (hok q rfl) b1 b2 b3 b4)
 ·obtain ⟨r,o1,e3,q1⟩:=qSX a (by omega)
  obtain ⟨r',o2,e4,q2⟩:=qSX b (by omega)
  have hk':k1=false\/k2=false:=by
   rcases Bool.eq_false_or_eq_true k1 with h | h
   ·rcases Bool.eq_false_or_eq_true k2 with h' | h'
    ·exact absurd ⟨h,h'⟩ hk
    ·exact .inr h'
   ·exact .inl h
  obtain ⟨u1,u2⟩:=t2 hk' r o1 r' o2 e3 e4
  rcases q1 with ⟨rfl,p,rfl,rfl⟩ | ⟨rfl,hn⟩
  ·rcases q2 with ⟨rfl,q,rfl,rfl⟩ | ⟨rfl,hn⟩
   ·rw[qXZ]
    exact u2 rfl rfl _ (h2 p q (hok q rfl) (by have:=qLe ha;have:=qLe hb;omega))
   ·rw[qIu (qSZ hn)]
    exact u1 (.inr rfl)
  ·rw[qIab (qSZ hn)]
   exact u1 (.inl rfl)
theorem qAz (ha:a.length<=3000000) (hb:b.length<=3000000):qBu a b=some ((bin (fun p q=>txt (p+q)) a b,()),()):=by
 have:=qDab (f:=(·+·)) (F1:=qQY) (F2:=qKZ) (two:=qBC) (a:=a) (b:=b) (by
  intro a b r1 k1 r2 k2 e1 e2
  constructor
  ·rintro rfl rfl t ht
   unfold qBC
   simp (disch:=(first | omega | (simp only[lnn];omega))) only[e1,e2,ht,stp]
  ·intro hk s1 o1 s2 o2 e3 e4
   constructor
   ·intro ho
    unfold qBC
    cases k1<;>cases k2<;>cases o1<;>cases o2<;>simp_all [cond]
   ·rintro rfl rfl t ht
    unfold qBC
    cases k1<;>cases k2<;>simp_all [cond]) (fun _=>True) (fun p q _=>qCab p q) (fun p q _ h=>by
  obtain ⟨r,hr,hi⟩:=radd p q h
  unfold qKZ
  simp (disch:=(first | omega | (simp only[lnn];omega))) only[hr,hi.text,stp]) ha hb (fun _ _=>trivial)
 unfold qBu
 rw[this];rfl
theorem txt_zero:txt 0=[48]:=by unfold txt;simp[qIC]
end
theorem qDl {a:qBs} (ha:a.length<=10000000):qPM a=some (((rd a).isSome,()),()):=by
 obtain ⟨r1,k1,e1,s1⟩:=qUV a ha
 unfold qPM
 cases k1 with
 |true=>
  obtain ⟨p,rfl,rfl,b1,b2⟩:=s1 rfl
  simp (disch:=(first | omega | (simp only[lnn];omega))) only[e1,stp]
  rw[qPO];rfl
 |false=>
  obtain ⟨r,o1,e3,q1⟩:=qSX a ha
  rcases q1 with ⟨rfl,p,rfl,rfl⟩ | ⟨rfl,hn⟩
  ·simp (disch:=(first | omega | (simp only[lnn];omega))) only[e1,e3,stp]
   rw[qPO];rfl
  ·simp (disch:=(first | omega | (simp only[lnn];omega))) only[e1,e3,stp]
   rw[qSZ hn];rfl
noncomputable def qUa (a:qBs):Int:=match rd a with | some q=>q.num.sign | none=>0
theorem qTk (q:Rat):(q.num < 0->∃ s,txt q=45::s)/\(0 < q.num->∃ c s,txt q=c::s/\c≠45):=by
 unfold txt
 constructor
 ·intro h;rw[if_pos h];exact ⟨_,rfl⟩
 ·intro h
  rw[if_neg (by omega)]
  obtain ⟨c,s,e,hc,_⟩:=qAj (n:=q.num.natAbs) (by omega)
  refine ⟨c,_,by rw[e];rfl,?_⟩
  rintro rfl
  have:=hc.1;simp at this
theorem qFS {q:Rat}:txt q=[48] ↔ q=0:=by
 constructor
 ·intro h;rw[<-txt_zero] at h;exact txt_inj h
 ·rintro rfl;exact txt_zero
theorem qMk {a:qBs} (ha:a.length<=10000000):qUS a=some ((qUa a,()),()):=by
 have hv:=qDl ha
 unfold qUS qUa
 cases hr:rd a with
 |none=>rw[hr] at hv;simp (disch:=(first | omega | (simp only[lnn];omega))) only[hv,Option.isSome_none,stp]
 |some q=>
  rw[hr] at hv
  have hq:=qAO hr
  rcases Int.lt_trichotomy q.num 0 with h | h | h
  ·obtain ⟨s,e⟩:=(qTk q).1 h
   have hne:a≠[48]:=by rw[hq,e];simp
   have e2:((a.getD 0 0).toNat:Int)=45:=by rw[hq,e];rfl
   have hal:0 < a.length:=by rw[hq,e];simp
   have h00:((0:Int)).toNat=0:=rfl
   simp (disch:=(first | omega | (simp only[lnn];omega))) only[hv,Option.isSome_some,qPB hne,h00,e2,stp]
   rw[Int.sign_eq_neg_one_of_neg h]
  ·have hz:a=[48]:=by rw[hq];exact qFS.2 (Rat.num_eq_zero.1 h)
   simp (disch:=(first | omega | (simp only[lnn];omega))) only[hv,Option.isSome_some,qAC hz,stp]
   rw[h];rfl
  ·obtain ⟨c,s,e,hc⟩:=(qTk q).2 h
   have hne:a≠[48]:=fun e0=>by
    rw[hq,qFS] at e0;rw[e0] at h;simp at h
   have e2:((a.getD 0 0).toNat:Int)≠45:=by
    rw[hq,e]
    show ((c.toNat:Nat):Int)≠45
    intro h45
    exact hc (UInt8.toNat_inj.1 (by show c.toNat=45;omega))
   have hal:0 < a.length:=by rw[hq,e];simp
   have h00:((0:Int)).toNat=0:=rfl
   simp (disch:=(first | omega | (simp only[lnn];omega))) only[hv,Option.isSome_some,qPB hne,h00,qXB e2,stp]
   rw[Int.sign_eq_one_of_pos h]
noncomputable def un (f:Rat->qBs) (a:qBs):qBs:=match rd a with | some q=>f q | none=>[]
theorem qEaa (f:Rat->qBs) (q:Rat):un f (txt q)=f q:=by unfold un;rw[qPO]
theorem qCq {f:Rat->qBs} {a:qBs} (h:rd a=none):un f a=[]:=by unfold un;rw[h]
theorem qSR {q:Rat} (h:q.num < 0):txt q=45::txt (-q):=by
 unfold txt
 rw[if_pos h,Rat.neg_num,Rat.neg_den,if_neg (show ¬ (-q.num < 0) by omega),Int.natAbs_neg];rfl
theorem qSs:rd []=none:=qSZ fun q h=>by
 unfold txt at h
 have:=qFa q.num.natAbs
 simp at h
 exact this h.2.1
theorem qNz {a:qBs} (ha:a.length<=10000000):qBv a=some ((un (fun q=>txt (-q)) a,()),()):=by
 have hs:=qMk ha
 unfold qBv
 cases hr:rd a with
 |none=>
  have hne:a≠[48]:=fun e=>by rw[e,<-txt_zero,qPO] at hr;cases hr
  have e:qUa a=0:=by unfold qUa;rw[hr]
  rw[e] at hs
  rw[qCq hr]
  simp (disch:=(first | omega | (simp only[lnn];omega))) only[hs,qPB hne,stp]
 |some q=>
  have hq:=qAO hr
  have e:qUa a=q.num.sign:=by unfold qUa;rw[hr]
  rw[e] at hs
  have hu:un (fun q=>txt (-q)) a=txt (-q):=by rw[hq,qEaa]
  rw[hu]
  rcases Int.lt_trichotomy q.num 0 with h | h | h
  ·rw[Int.sign_eq_neg_one_of_neg h] at hs
   have ht:=qSR h
   have hal:1<=a.length:=by rw[hq,ht];simp
   have h11:((1:Int)).toNat=1:=rfl
   simp (disch:=(first | omega | (simp only[lnn];omega))) only[hs,h11,stp]
   rw[hq,ht];rfl
  ·have hq0:q=0:=Rat.num_eq_zero.1 h
   have hz:a=[48]:=by rw[hq];exact qFS.2 hq0
   rw[h,Int.sign_zero] at hs
   simp (disch:=(first | omega | (simp only[lnn];omega))) only[hs,qAC hz,stp]
   rw[hz,hq0,Rat.neg_zero,txt_zero]
  ·rw[Int.sign_eq_one_of_pos h] at hs
   have ht:=qSR (q:=-q) (by rw[Rat.neg_num];omega)
   rw[Rat.neg_neg] at ht
   have g:([45]:qBs).length+a.length<=qXK:=by rw[qQI];simp;omega
   simp (disch:=(first | omega | (simp only[lnn];omega))) only[hs,qBA g,stp]
   rw[ht,hq];rfl
theorem qDaf {f:Rat->Rat} {k:Nat} (hf:∀ q,D (f q)<=D q) {a:qBs} (ha:a.length<=k):(un (fun q=>txt (f q)) a).length<=k+3:=by
 unfold un
 cases hr:rd a with
 |none=>simp
 |some q=>
  have hq:=qAO hr
  have h1:=qUZ (f q)
  have h2:=hf q
  have h3:=D_le q
  rw[<-hq] at h3
  show (txt (f q)).length<=k+3
  omega
theorem qOi {k:Nat} {a:qBs} (ha:a.length<=k):(un (fun q=>txt (-q)) a).length<=k+3:=qDaf (fun q=>by rw[qIac];exact Nat.le_refl _) ha
theorem qPr {f:Rat->Rat->Rat} {k:Nat} (hf:∀ p q,D (f p q)<=2 * (D p+D q)+1) {a b:qBs} (ha:a.length<=k) (hb:b.length<=k):(bin (fun p q=>txt (f p q)) a b).length<=4 * k+8:=by
 unfold bin
 cases hr:rd a with
 |none=>simp
 |some p=>
  cases hr2:rd b with
  |none=>simp
  |some q=>
   have h1:=qUZ (f p q)
   have h2:=hf p q
   have h3:=D_le p
   have h4:=D_le q
   rw[<-qAO hr] at h3
   rw[<-qAO hr2] at h4
   show (txt (f p q)).length<=_
   omega
theorem qLk {a b:qBs} (ha:a.length<=2000000) (hb:b.length<=2000000):qLr a b=some ((bin (fun p q=>txt (p - q)) a b,()),()):=by
 unfold qLr
 rw[qNz (by omega),qAA]
 dsimp only
 rw[qAz (by omega) (by have:=qOi hb;omega),qAA]
 congr 3
 unfold un
 cases hr:rd b with
 |none=>rw[qIu qSs,qIu hr]
 |some q=>
  have hq:=qAO hr
  unfold bin
  rw[qPO,hr]
  cases rd a with
  |none=>rfl
  |some p=>simp only[Rat.sub_eq_add_neg]
noncomputable def qKl (a b:qBs):Int:=
 match rd a,rd b with
 |some p,some q=>(p - q).num.sign
 |_,_=>0
theorem qRj {a b:qBs} (ha:a.length<=2000000) (hb:b.length<=2000000):qMS a b=some ((qKl a b,()),()):=by
 unfold qMS
 have hl:=qPr (f:=fun p q=>p - q) (fun p q=>by rw[Rat.sub_eq_add_neg];have:=qBaf p (-q);rw[qIac] at this;exact this) ha hb
 rw[qLk ha hb,qAA]
 dsimp only
 rw[qMk (by omega),qAA]
 congr 3
 unfold qUa qKl bin
 cases hr:rd a with
 |none=>simp only[qSs]
 |some p=>
  cases hr2:rd b with
  |none=>simp only[qSs]
  |some q=>simp only[qPO]
end Go.AM.Num
end
section
set_option linter.unusedSimpArgs false
set_option linter.unusedVariables false
namespace Go.AM.Num
theorem qRh (n:Int):txt (n:Rat)=(if n < 0 then [45] else [])++dd n.natAbs:=by
 unfold txt
 rw[Rat.num_intCast,Rat.den_intCast];simp
theorem qHae (neg:Bool) (m:Nat):tx neg m 1=txt ((sg neg m:Int):Rat):=by
 rw[qRh,qGF]
 unfold tx
 simp only[qHL];simp
theorem qDu {q:Rat} (h:q.den=1):q=((q.num:Int):Rat):=Rat.ext (by rw[Rat.num_intCast]) (by rw[Rat.den_intCast,h])
noncomputable def isI (a:qBs):Bool:=match rd a with | some q=>q.den==1 | none=>false
theorem qLac (q:Rat):isI (txt q)=(q.den==1):=by unfold isI;rw[qPO]
theorem qVd {a:qBs} (h:isI a=true):∃ n:Int,a=txt (n:Rat)/\rd a=some (n:Rat):=by
 unfold isI at h
 cases hr:rd a with
 |none=>rw[hr] at h;cases h
 |some q=>
  rw[hr] at h
  have hd:q.den=1:=by simpa using h
  exact ⟨q.num,by rw[<-qDu hd];exact qAO hr,by rw[<-qDu hd]⟩
theorem qBr (n:Int):isI (txt (n:Rat))=true:=by rw[qLac,Rat.den_intCast];rfl
theorem qJG {a:qBs} (ha:a.length<=10000000):qOE a=some ((isI a,()),()):=by
 obtain ⟨neg,s,hcp,has,hs⟩:=qJd a
 have hsl:s.length<=10000000:=by rw[has,qZ6] at ha;omega
 have hn:=qLA s (by omega)
 unfold qOE
 by_cases hd:s=dd (dval s)
 ·have good:(neg=true->dval s≠0)->isI a=true:=by
   intro h
   have:a=txt ((sg neg (dval s):Int):Rat):=by
    have e:=qXf (neg:=neg) (m:=dval s) (d:=1) h
    rw[if_pos rfl,qY4,<-hd] at e
    rw[has,e,qHae]
   rw[this];exact qBr _
  by_cases h0:s=[48]
  ·cases neg with
   |true=>
    have hb:isI a=false:=by
     cases hi:isI a with
     |false=>rfl
     |true=>
      obtain ⟨n,hn1,_⟩:=qVd hi
      obtain ⟨e1,e2⟩:=shape hs (has ▸ hn1)
      rw[Rat.den_intCast,if_pos rfl,qY4,Rat.num_intCast,h0,<-qIC] at e2
      rw[Rat.num_intCast] at e1
      have:=of_decide_eq_true e1.symm
      have:=qGN e2
      omega
    rw[hb]
    simp (disch:=(first | omega | (simp only[lnn];omega))) only[hcp,hn,qAC hd,qAC h0,stp]
   |false=>
    rw[good (fun h=>by cases h)]
    simp (disch:=(first | omega | (simp only[lnn];omega))) only[hcp,hn,qAC hd,stp]
  ·have hm0:dval s≠0:=fun e=>h0 (by rw[hd,e,qIC])
   rw[good (fun _=>hm0)]
   cases neg with
   |true=>simp (disch:=(first | omega | (simp only[lnn];omega))) only[hcp,hn,qAC hd,qPB h0,stp]
   |false=>simp (disch:=(first | omega | (simp only[lnn];omega))) only[hcp,hn,qAC hd,stp]
 ·have hb:isI a=false:=by
   cases hi:isI a with
   |false=>rfl
   |true=>
    obtain ⟨n,hn1,_⟩:=qVd hi
    obtain ⟨e1,e2⟩:=shape hs (has ▸ hn1)
    rw[Rat.den_intCast,if_pos rfl,qY4] at e2
    exact absurd (by rw[e2,qCD]) hd
  rw[hb]
  simp (disch:=(first | omega | (simp only[lnn];omega))) only[hcp,hn,qPB hd,stp]
end Go.AM.Num
end
section
set_option linter.unusedSimpArgs false
set_option linter.unusedVariables false
namespace Go.AM.Num
def qHz (s:qBs):Prop:=s≠[]/\qBH s
instance (s:qBs):Decidable (qBH s):=by unfold qBH isD;infer_instance
instance (s:qBs):Decidable (qHz s):=by unfold qHz;infer_instance
inductive DecParts:qBs->Bool->qBs->Option qBs->Prop
 |mk {a s:qBs} {neg:Bool} (h:a=sgn neg++s) (hs:neg=false->∀ r,s≠45::r) {x:qBs} {y:Option qBs}
  (hxy:(y=none/\s=x/\(46:UInt8)∉s)\/(∃ z,y=some z/\s=x++46::z/\(46:UInt8)∉x)):DecParts a neg x y
end Go.AM.Num
end
section
set_option linter.unusedSimpArgs false
set_option linter.unusedVariables false
namespace Go.AM.Num
theorem qQN {s:qBs} (hl:s.length<=1000000000):qAJ s=some ((decide (qHz s),()),()):=by
 obtain ⟨r,hr,hq⟩:=qVA (step:=qMH) (Q:=fun r=>(qBH s/\r=(Ex.exit 0,(s,false,(s.length:Int),())))\/(¬ qBH s/\∃ i,r=(Ex.ret,(s,false,i,()))))
  (fun m x=>∃ k:Nat,m+k=s.length/\x=(s,false,(k:Int),())/\qBH (s.take k)) (by
   rintro m x ⟨k,hm,rfl,hd⟩
   by_cases hk:k < s.length
   ·have hg:s.getD k 0=s[k]:=by rw[qZ4,qZ5 hk];rfl
    have e:(k:Int).toNat=k:=by omega
    have hmem:s[k]∈s:=List.getElem_mem hk
    by_cases h1:s[k].toNat < 48
    ·refine .inl ⟨_,?_,?_,.inr ⟨fun h=>?_,(k:Int),rfl⟩⟩
     ·simp (disch:=(first | omega | (simp only[lnn];omega))) only[qMH,e,hg,stp]
     ·simp
     ·have:=(h _ hmem).1;omega
    ·by_cases h2:s[k].toNat > 57
     ·refine .inl ⟨_,?_,?_,.inr ⟨fun h=>?_,(k:Int),rfl⟩⟩
      ·simp (disch:=(first | omega | (simp only[lnn];omega))) only[qMH,e,hg,stp]
      ·simp
      ·have:=(h _ hmem).2;omega
     ·refine .inr ⟨m - 1,_,?_,by omega,k+1,by omega,rfl,?_⟩
      ·simp (disch:=(first | omega | (simp only[lnn];omega))) only[qMH,e,hg,stp]
       rfl
      ·rw[List.take_succ_eq_append_getElem hk]
       refine hd.app fun c hc=>?_
       rw[List.mem_singleton.1 hc]
       exact ⟨by omega,by omega⟩
   ·have hks:k=s.length:=by omega
    subst hks
    refine .inl ⟨_,?_,?_,.inl ⟨by simpa using hd,rfl⟩⟩
    ·simp (disch:=(first | omega | (simp only[lnn];omega))) only[qMH,stp]
    ·simp) s.length (s,false,0,()) ⟨0,by omega,rfl,by simp[qBH]⟩
 unfold qAJ
 rw[hr]
 rcases hq with ⟨hd,rfl⟩ | ⟨hd,i,rfl⟩
 ·simp (disch:=(first | omega | (simp only[lnn];omega))) only[stp]
  by_cases h0:s=[]
  ·subst h0
   have:decide (qHz [])=false:=qZ9 (fun h=>h.1 rfl)
   rw[this];rfl
  ·rw[qPB h0,qZ10 (show qHz s from ⟨h0,hd⟩)];rfl
 ·simp (disch:=(first | omega | (simp only[lnn];omega))) only[stp]
  rw[qZ9 (fun h=>hd h.2)]
theorem qEI {s:qBs} (hd:qBH s) (hne:s≠[]) (hl:s.length<=1000000000):qRK s=some ((dd (dval s),()),()):=by
 obtain ⟨r,hr,rfl⟩:=qVA (step:=qXM) (Q:=fun r=>r=(Ex.exit 0,(dd (dval s),())))
  (fun m x=>∃ t:qBs,x=(t,())/\m=t.length/\qBH t/\t≠[]/\dval t=dval s/\t.length<=1000000000) (by
   rintro m x ⟨t,rfl,hm,h1,h2,h3,h4⟩
   cases t with
   |nil=>exact absurd rfl h2
   |cons c t=>
    have h00:((0:Int)).toNat=0:=rfl
    have h11:((1:Int)).toNat=1:=rfl
    have hg:(c::t:qBs).getD 0 0=c:=rfl
    have hlen:(c::t).length=t.length+1:=rfl
    by_cases ht:t=[]
    ·subst ht
     refine .inl ⟨(Ex.exit 0,([c],())),?_,by simp,?_⟩
     ·simp only[qXM]
      rw[qWA (by simp)]
     ·rw[<-h3,<-qPy h1 h2 (by
       by_cases hc:c=48
       ·left;rw[hc]
       ·right;simpa using hc)]
    ·have hpos:0 < t.length:=List.length_pos_iff.2 ht
     by_cases hc:c=48
     ·subst hc
      refine .inr ⟨t.length,(t,()),?_,by omega,t,rfl,rfl,fun x hx=>h1 x (by simp[hx]),ht,?_,by omega⟩
      ·have h48:(((48:UInt8).toNat:Nat):Int)=48:=rfl
       simp only[qXM]
       rw[qKA (by omega),qJA,qBA (by omega),qBA (by omega),h00,hg,h48]
       rw[qUE rfl,qJA,qBA (by omega),qBA (by omega),h11];rfl
      ·rw[<-h3,qTI];simp[dig]
     ·refine .inl ⟨(Ex.exit 0,(c::t,())),?_,by simp,?_⟩
      ·have hne':((c.toNat:Nat):Int)≠48:=fun e=>hc (UInt8.toNat_inj.1 (by show c.toNat=48;omega))
       simp only[qXM]
       rw[qKA (by omega),qJA,qBA (by omega),qBA (by omega),h00,hg,qXB hne']
      ·rw[<-h3,<-qPy h1 h2 (.inr (by simpa using hc))]) s.length (s,()) ⟨s,rfl,rfl,hd,hne,rfl,hl⟩
 unfold qRK
 rw[hr]
 simp (disch:=(first | omega | (simp only[lnn];omega))) only[stp]
theorem qPa {a b:qBs} (ha:qBH a) (hb:qBH b) (hl:a.length=b.length):qIk a b=decide (dval a < dval b):=by
 unfold qIk
 induction a generalizing b with
 |nil=>
  cases b with
  |nil=>simp[Op.bytesLess,dval]
  |cons c b=>simp at hl
 |cons x a ih=>
  cases b with
  |nil=>simp at hl
  |cons y b=>
   have hx:=ha x (by simp)
   have hy:=hb y (by simp)
   have hA:qBH a:=fun c hc=>ha c (by simp[hc])
   have hB:qBH b:=fun c hc=>hb c (by simp[hc])
   have hl':a.length=b.length:=by simpa using hl
   have la:=qSM hA
   have lb:=qSM hB
   rw[qTI,qTI,hl']
   rw[hl'] at la
   have ih':=ih hA hB hl'
   have hdx:dig x=x.toNat - 48:=rfl
   have hdy:dig y=y.toNat - 48:=rfl
   have:=hx.1
   have:=hy.1
   rcases Nat.lt_trichotomy x.toNat y.toNat with h | h | h
   ·have h1:(dig x+1) * 10 ^ b.length<=dig y * 10 ^ b.length:=Nat.mul_le_mul_right _ (by omega)
    rw[Nat.add_mul] at h1
    rw[qZ10 (by omega)]
    unfold Op.bytesLess
    have:x < y:=UInt8.lt_iff_toNat_lt.2 h
    simp[this]
   ·have hxy:x=y:=UInt8.toNat_inj.1 h
    subst hxy
    unfold Op.bytesLess
    have h1:¬ x < x:=fun e=>Nat.lt_irrefl _ (UInt8.lt_iff_toNat_lt.1 e)
    simp only[h1,if_false]
    rw[ih']
    simp
   ·have h1:(dig y+1) * 10 ^ b.length<=dig x * 10 ^ b.length:=Nat.mul_le_mul_right _ (by omega)
    rw[Nat.add_mul] at h1
    rw[qZ9 (by omega)]
    unfold Op.bytesLess
    have h2:¬ x < y:=fun e=>by have:=UInt8.lt_iff_toNat_lt.1 e;omega
    have h3:x≠y:=fun e=>by rw[e] at h;omega
    simp[h2,h3]
theorem qFl (m n:Nat):∃ c,qLU (dd m) (dd n)=some ((c,()),())/\(c < 0 ↔ m < n)/\(c=0 ↔ m=n):=by
 unfold qLU
 rcases Nat.lt_trichotomy (dd m).length (dd n).length with h | h | h
 ·have hlt:m < n:=by
   rcases Nat.lt_or_ge m n with h' | h'
   ·exact h'
   ·have:=qTA h';omega
  refine ⟨-1,?_,by omega,by omega⟩
  simp (disch:=(first | omega | (simp only[lnn];omega))) only[stp]
 ·have hs:=qPa (qEX m) (qEX n) h
  rw[qCD,qCD] at hs
  rcases Nat.lt_trichotomy m n with h' | h' | h'
  ·refine ⟨-1,?_,by omega,by omega⟩
   simp (disch:=(first | omega | (simp only[lnn];omega))) only[hs,qZ10 h',stp]
  ·subst h'
   refine ⟨0,?_,by omega,by omega⟩
   simp (disch:=(first | omega | (simp only[lnn];omega))) only[hs,qZ9 (Nat.lt_irrefl m),qAC rfl,stp]
  ·refine ⟨1,?_,by omega,by omega⟩
   have hne:dd m≠dd n:=fun e=>by have:=qGN e;omega
   simp (disch:=(first | omega | (simp only[lnn];omega))) only[hs,qZ9 (show ¬ m < n by omega),qPB hne,stp]
 ·have hlt:n < m:=by
   rcases Nat.lt_or_ge n m with h' | h'
   ·exact h'
   ·have:=qTA h';omega
  have hne:dd m≠dd n:=fun e=>by have:=qGN e;omega
  refine ⟨1,?_,by omega,by omega⟩
  simp (disch:=(first | omega | (simp only[lnn];omega))) only[qPB hne,stp]
def sfx (a:qBs) (i:Nat):Nat:=dval (a.drop (a.length - i))
theorem qIX (a:qBs):sfx a 0=0:=by unfold sfx;rw[Nat.sub_zero,List.drop_length];rfl
theorem qNK {a:qBs} {i:Nat} (h:a.length<=i):sfx a i=dval a:=by unfold sfx;rw[Nat.sub_eq_zero_of_le h,List.drop_zero]
theorem qAT {a:qBs} {i:Nat} (h:i < a.length):sfx a (i+1)=dig (a[a.length - 1 - i]'(by omega)) * 10 ^ i+sfx a i:=by
 unfold sfx
 rw[show a.length - (i+1)=a.length - 1 - i by omega,List.drop_eq_getElem_cons (by omega),qTI,List.length_drop,show a.length - 1 - i+1=a.length - i by omega,show a.length - (a.length - i)=i by omega]
theorem qMe {α:Type} {l:List α} {i:Nat} (h:i < l.length) (c:α):(l.set i c).drop i=c::l.drop (i+1):=by
 rw[List.drop_eq_getElem_cons (by simpa using h),List.getElem_set_self,List.drop_set_of_lt (by omega)]
def qFM (s:qBs):List Int:=s.map fun b=>(b.toNat:Int)
theorem qNQ (s:qBs):(qFM s).map (fun n=>UInt8.ofNat n.toNat)=s:=by
 unfold qFM
 rw[List.map_map]
 conv=>rhs;rw[<-List.map_id s]
 apply List.map_congr_left
 intro b _
 simp
theorem qEd {k:Int} (h:0<=k/\k < 10):∃ c:UInt8,(c.toNat:Int)=48+k/\isD c/\(dig c:Int)=k:=by
 obtain ⟨n,rfl⟩:∃ n:Nat,k=n:=⟨k.toNat,by omega⟩
 obtain ⟨h1,h2⟩:=dig_of (k:=n) (by omega)
 refine ⟨UInt8.ofNat (48+n),?_,h2,by rw[h1]⟩
 have h3:=h2.1
 have h4:dig (UInt8.ofNat (48+n))=(UInt8.ofNat (48+n)).toNat - 48:=rfl
 omega
theorem qBH.cons {c:UInt8} {s:qBs} (h:isD c) (hs:qBH s):qBH (c::s):=fun x hx=>(List.mem_cons.1 hx).elim (fun e=>e ▸ h) (hs x)
theorem qQP {s:qBs} {k:Nat} (h:k < s.length):s.getD k 0=s[k]:=by rw[qZ4,qZ5 h];rfl
set_option maxHeartbeats 2000000 in
theorem qFw (m n:Nat) (hm:(dd m).length<=100000000) (hn:(dd n).length<=100000000):qGX (dd m) (dd n)=some ((dd (m+n),()),()):=by
 obtain ⟨a,ha⟩:∃ a,a=dd m:=⟨_,rfl⟩
 obtain ⟨b,hb⟩:∃ b,b=dd n:=⟨_,rfl⟩
 have hda:qBH a:=ha ▸ qEX m
 have hdb:qBH b:=hb ▸ qEX n
 rw[<-ha,<-hb]
 rw[<-ha] at hm
 rw[<-hb] at hn
 obtain ⟨N,hN⟩:∃ N,N=max a.length b.length+1:=⟨_,rfl⟩
 have hmx:=qUk a.length b.length
 have hw:qI (qDW (a.length:Int) (b.length:Int)+1)=(N:Int):=by rw[hmx,w64 (by omega)];omega
 obtain ⟨r,hr,s,rfl,h1,h2,h3⟩:=qVA (step:=qDE) (Q:=fun r=>∃ s:qBs,r=(Ex.exit 0,(a,b,(N:Int),qFM s,0,(N:Int),()))/\qBH s/\s.length=N/\dval s=dval a+dval b)
  (fun k x=>∃ (i:Nat) (out:List Int) (c:Int) (s:qBs),x=(a,b,(N:Int),out,c,(i:Int),())/\k+i=N/\out.length=N/\(0<=c/\c<=1)/\out.drop (N - i)=qFM s/\qBH s/\s.length=i/\(dval s:Int)+c * 10 ^ i=(sfx a i:Int)+sfx b i) (by
   rintro k x ⟨i,out,c,s,rfl,hk,hol,hc,hds,hs,hsl,hv⟩
   by_cases hi:i < N
   ·have hix:((N:Int) - 1 - i).toNat=N - 1 - i:=by omega
    have hax:((a.length:Int) - 1 - i).toNat=a.length - 1 - i:=by omega
    have hbx:((b.length:Int) - 1 - i).toNat=b.length - 1 - i:=by omega
    have go:∀ v:Int,(0<=v/\v < 20)->(v * 10 ^ i+((sfx a i:Int)+sfx b i)=c * 10 ^ i+((sfx a (i+1):Int)+sfx b (i+1)))->
     qDE (a,b,(N:Int),out,c,(i:Int),())=some (Ex.normal,(a,b,(N:Int),out.set (N - 1 - i) (48+v % 10),v / 10,(i:Int)+1,()))->
     ∃ m y,qDE (a,b,(N:Int),out,c,(i:Int),())=some (Ex.normal,y)/\m < k/\∃ (i:Nat) (out:List Int) (c:Int) (s:qBs),y=(a,b,(N:Int),out,c,(i:Int),())/\m+i=N/\out.length=N/\(0<=c/\c<=1)/\out.drop (N - i)=qFM s/\qBH s/\s.length=i/\(dval s:Int)+c * 10 ^ i=(sfx a i:Int)+sfx b i:=by
     intro v hv1 hv2 hst
     obtain ⟨d,hd1,hd2,hd3⟩:=qEd (k:=v % 10) (by omega)
     refine ⟨k - 1,_,hst,by omega,i+1,_,_,d::s,rfl,by omega,by simpa using hol,by omega,?_,hs.cons hd2,by simp[hsl],?_⟩
     ·rw[show N - (i+1)=N - 1 - i by omega,qMe (by omega),show N - 1 - i+1=N - i by omega,hds,<-hd1];rfl
     ·rw[qTI,hsl,Int.natCast_add,Int.natCast_mul,hd3,Int.pow_succ]
      have:=Int.emod_add_mul_ediv v 10
      push_cast
      grind
    by_cases hia:i < a.length
    ·have hga:=qQP (s:=a) (k:=a.length - 1 - i) (by omega)
     have hdA:=hda (a[a.length - 1 - i]'(by omega)) (List.getElem_mem _)
     have hsa:=qAT hia
     obtain ⟨A,hA⟩:∃ A,A=a[a.length - 1 - i]'(by omega):=⟨_,rfl⟩
     rw[<-hA] at hga hdA hsa
     have hA1:=hdA.1
     have hA2:=hdA.2
     have hAd:(dig A:Int)=(A.toNat:Int) - 48:=by unfold dig;omega
     by_cases hib:i < b.length
     ·have hgb:=qQP (s:=b) (k:=b.length - 1 - i) (by omega)
      have hdB:=hdb (b[b.length - 1 - i]'(by omega)) (List.getElem_mem _)
      have hsb:=qAT hib
      obtain ⟨B,hB⟩:∃ B,B=b[b.length - 1 - i]'(by omega):=⟨_,rfl⟩
      rw[<-hB] at hgb hdB hsb
      have hB1:=hdB.1
      have hB2:=hdB.2
      have hBd:(dig B:Int)=(B.toNat:Int) - 48:=by unfold dig;omega
      refine .inr (go (c+((A.toNat:Int) - 48)+((B.toNat:Int) - 48)) (by omega) (by rw[hsa,hsb];push_cast;rw[hAd,hBd];grind) ?_)
      simp (disch:=(first | omega | (simp only[lnn];omega))) only[qDE,hix,hax,hbx,hga,hgb,stp]
     ·have hsb:sfx b (i+1)=sfx b i:=by rw[qNK (by omega),qNK (by omega)]
      refine .inr (go (c+((A.toNat:Int) - 48)) (by omega) (by rw[hsa,hsb];push_cast;rw[hAd];grind) ?_)
      simp (disch:=(first | omega | (simp only[lnn];omega))) only[qDE,hix,hax,hga,stp]
    ·have hsa:sfx a (i+1)=sfx a i:=by rw[qNK (by omega),qNK (by omega)]
     by_cases hib:i < b.length
     ·have hgb:=qQP (s:=b) (k:=b.length - 1 - i) (by omega)
      have hdB:=hdb (b[b.length - 1 - i]'(by omega)) (List.getElem_mem _)
      have hsb:=qAT hib
      obtain ⟨B,hB⟩:∃ B,B=b[b.length - 1 - i]'(by omega):=⟨_,rfl⟩
      rw[<-hB] at hgb hdB hsb
      have hB1:=hdB.1
      have hB2:=hdB.2
      have hBd:(dig B:Int)=(B.toNat:Int) - 48:=by unfold dig;omega
      refine .inr (go (c+((B.toNat:Int) - 48)) (by omega) (by rw[hsa,hsb];push_cast;rw[hBd];grind) ?_)
      simp (disch:=(first | omega | (simp only[lnn];omega))) only[qDE,hix,hbx,hgb,stp]
     ·have hsb:sfx b (i+1)=sfx b i:=by rw[qNK (by omega),qNK (by omega)]
      refine .inr (go c (by omega) (by rw[hsa,hsb]) ?_)
      simp (disch:=(first | omega | (simp only[lnn];omega))) only[qDE,hix,stp]
   ·have hiN:i=N:=by omega
    subst hiN
    rw[Nat.sub_self,List.drop_zero] at hds
    rw[qNK (by omega),qNK (by omega)] at hv
    have hla:=qSM hda
    have hlb:=qSM hdb
    have hp1:10 ^ a.length<=10 ^ (max a.length b.length):=Nat.pow_le_pow_right (by decide) (by omega)
    have hp2:10 ^ b.length<=10 ^ (max a.length b.length):=Nat.pow_le_pow_right (by decide) (by omega)
    have hpN:10 ^ i=10 * 10 ^ (max a.length b.length):=by rw[hN,Nat.pow_succ,Nat.mul_comm]
    have hc0:c=0:=by
     rcases (show c=0\/c=1 by omega) with h | h
     ·exact h
     ·exfalso
      rw[h,show ((10:Int) ^ i)=((10 ^ i:Nat):Int) by push_cast;rfl] at hv
      omega
    subst hc0
    refine .inl ⟨(Ex.exit 0,(a,b,(i:Int),qFM s,0,(i:Int),())),?_,by simp,s,rfl,hs,hsl,by omega⟩
    rw[<-hds]
    simp (disch:=(first | omega | (simp only[lnn];omega))) only[qDE,stp]) N (a,b,(N:Int),List.replicate ((N:Int)).toNat 0,0,0,()) ⟨0,_,0,[],rfl,by omega,by simp,by omega,by simp[qFM],by simp[qBH],rfl,by rw[qIX,qIX];simp[dval]⟩
 have ht:=qEI h1 (fun e=>by rw[e] at h2;simp at h2;omega) (by omega)
 rw[h3] at ht
 have hva:dval a=m:=by rw[ha,qCD]
 have hvb:dval b=n:=by rw[hb,qCD]
 rw[hva,hvb] at ht
 unfold qGX
 simp only[hw]
 rw[hr]
 simp (disch:=(first | omega | (simp only[lnn];omega))) only[qNQ,ht,stp]
end Go.AM.Num
end
section
set_option linter.unusedSimpArgs false
set_option linter.unusedVariables false
namespace Go.AM.Num
set_option maxHeartbeats 2000000 in
theorem qAe (m n:Nat) (hm:(dd m).length<=100000000) (hle:n<=m):qHQ (dd m) (dd n)=some ((dd (m - n),()),()):=by
 obtain ⟨a,ha⟩:∃ a,a=dd m:=⟨_,rfl⟩
 obtain ⟨b,hb⟩:∃ b,b=dd n:=⟨_,rfl⟩
 have hda:qBH a:=ha ▸ qEX m
 have hdb:qBH b:=hb ▸ qEX n
 have hbl:b.length<=a.length:=by rw[ha,hb];exact qTA hle
 have hane:a≠[]:=ha ▸ qFa m
 rw[<-ha,<-hb]
 rw[<-ha] at hm
 have hva:dval a=m:=by rw[ha,qCD]
 have hvb:dval b=n:=by rw[hb,qCD]
 obtain ⟨N,hN⟩:∃ N,N=a.length:=⟨_,rfl⟩
 obtain ⟨r,hr,s,rfl,h1,h2,h3⟩:=qVA (step:=qEE) (Q:=fun r=>∃ s:qBs,r=(Ex.exit 0,(a,b,qFM s,0,(N:Int),()))/\qBH s/\s.length=N/\dval s=m - n)
  (fun k x=>∃ (i:Nat) (out:List Int) (c:Int) (s:qBs),x=(a,b,out,c,(i:Int),())/\k+i=N/\out.length=N/\(0<=c/\c<=1)/\out.drop (N - i)=qFM s/\qBH s/\s.length=i/\(dval s:Int)+sfx b i=(sfx a i:Int)+c * 10 ^ i) (by
   rintro k x ⟨i,out,c,s,rfl,hk,hol,hc,hds,hs,hsl,hv⟩
   by_cases hi:i < N
   ·have hax:((a.length:Int) - 1 - i).toNat=a.length - 1 - i:=by omega
    have hbx:((b.length:Int) - 1 - i).toNat=b.length - 1 - i:=by omega
    have go:∀ v c':Int,(0<=v/\v < 10)->(0<=c'/\c'<=1)->((sfx a (i+1):Int)+c' * (10 ^ i * 10) - sfx b (i+1)=v * 10 ^ i+((sfx a i:Int)+c * 10 ^ i - sfx b i))->
     qEE (a,b,out,c,(i:Int),())=some (Ex.normal,(a,b,out.set (a.length - 1 - i) (48+v),c',(i:Int)+1,()))->
     ∃ m y,qEE (a,b,out,c,(i:Int),())=some (Ex.normal,y)/\m < k/\∃ (i:Nat) (out:List Int) (c:Int) (s:qBs),y=(a,b,out,c,(i:Int),())/\m+i=N/\out.length=N/\(0<=c/\c<=1)/\out.drop (N - i)=qFM s/\qBH s/\s.length=i/\(dval s:Int)+sfx b i=(sfx a i:Int)+c * 10 ^ i:=by
     intro v c' hv1 hc' hv2 hst
     obtain ⟨d,hd1,hd2,hd3⟩:=qEd (k:=v) (by omega)
     refine ⟨k - 1,_,hst,by omega,i+1,_,_,d::s,rfl,by omega,by simpa using hol,by omega,?_,hs.cons hd2,by simp[hsl],?_⟩
     ·rw[show N - (i+1)=a.length - 1 - i by omega,qMe (by omega),show a.length - 1 - i+1=N - i by omega,hds,<-hd1];rfl
     ·rw[qTI,hsl,Int.natCast_add,Int.natCast_mul,hd3,Int.pow_succ]
      push_cast
      grind
    have hia:i < a.length:=by omega
    have hga:=qQP (s:=a) (k:=a.length - 1 - i) (by omega)
    have hdA:=hda (a[a.length - 1 - i]'(by omega)) (List.getElem_mem _)
    have hsa:=qAT hia
    obtain ⟨A,hA⟩:∃ A,A=a[a.length - 1 - i]'(by omega):=⟨_,rfl⟩
    rw[<-hA] at hga hdA hsa
    have hA1:=hdA.1
    have hA2:=hdA.2
    have hAd:(dig A:Int)=(A.toNat:Int) - 48:=by unfold dig;omega
    by_cases hib:i < b.length
    ·have hgb:=qQP (s:=b) (k:=b.length - 1 - i) (by omega)
     have hdB:=hdb (b[b.length - 1 - i]'(by omega)) (List.getElem_mem _)
     have hsb:=qAT hib
     obtain ⟨B,hB⟩:∃ B,B=b[b.length - 1 - i]'(by omega):=⟨_,rfl⟩
     rw[<-hB] at hgb hdB hsb
     have hB1:=hdB.1
     have hB2:=hdB.2
     have hBd:(dig B:Int)=(B.toNat:Int) - 48:=by unfold dig;omega
     by_cases hneg:(A.toNat:Int) - 48 - c - ((B.toNat:Int) - 48) < 0
     ·refine .inr (go ((A.toNat:Int) - 48 - c - ((B.toNat:Int) - 48)+10) 1 (by omega) (by omega) (by rw[hsa,hsb];push_cast;rw[hAd,hBd];grind) ?_)
      simp (disch:=(first | omega | (simp only[lnn];omega))) only[qEE,hax,hbx,hga,hgb,stp]
     ·refine .inr (go ((A.toNat:Int) - 48 - c - ((B.toNat:Int) - 48)) 0 (by omega) (by omega) (by rw[hsa,hsb];push_cast;rw[hAd,hBd];grind) ?_)
      simp (disch:=(first | omega | (simp only[lnn];omega))) only[qEE,hax,hbx,hga,hgb,stp]
    ·have hsb:sfx b (i+1)=sfx b i:=by rw[qNK (by omega),qNK (by omega)]
     by_cases hneg:(A.toNat:Int) - 48 - c < 0
     ·refine .inr (go ((A.toNat:Int) - 48 - c+10) 1 (by omega) (by omega) (by rw[hsa,hsb];push_cast;rw[hAd];grind) ?_)
      simp (disch:=(first | omega | (simp only[lnn];omega))) only[qEE,hax,hga,stp]
     ·refine .inr (go ((A.toNat:Int) - 48 - c) 0 (by omega) (by omega) (by rw[hsa,hsb];push_cast;rw[hAd];grind) ?_)
      simp (disch:=(first | omega | (simp only[lnn];omega))) only[qEE,hax,hga,stp]
   ·have hiN:i=N:=by omega
    subst hiN
    rw[Nat.sub_self,List.drop_zero] at hds
    rw[qNK (by omega),qNK (by omega),hva,hvb] at hv
    have hls:=qSM hs
    rw[hsl] at hls
    have hc0:c=0:=by
     rcases (show c=0\/c=1 by omega) with h | h
     ·exact h
     ·exfalso
      rw[h,show ((10:Int) ^ i)=((10 ^ i:Nat):Int) by push_cast;rfl] at hv
      omega
    subst hc0
    refine .inl ⟨(Ex.exit 0,(a,b,qFM s,0,(i:Int),())),?_,by simp,s,rfl,hs,hsl,by omega⟩
    rw[<-hds]
    simp (disch:=(first | omega | (simp only[lnn];omega))) only[qEE,stp]) N (a,b,List.replicate ((a.length:Int)).toNat 0,0,0,()) ⟨0,_,0,[],rfl,by omega,by simp;omega,by omega,by simp[qFM];omega,by simp[qBH],rfl,by rw[qIX,qIX];simp[dval]⟩
 have hapos:0 < a.length:=List.length_pos_iff.2 hane
 have ht:=qEI h1 (fun e=>by rw[e] at h2;simp at h2;omega) (by omega)
 rw[h3] at ht
 unfold qHQ
 rw[hr]
 simp (disch:=(first | omega | (simp only[lnn];omega))) only[qNQ,ht,stp]
def iv (l:List Int):Int:=l.foldl (fun v x=>10 * v+x) 0
theorem qCy (l:List Int) (v:Int):l.foldl (fun v x=>10 * v+x) v=v * 10 ^ l.length+iv l:=by
 induction l generalizing v with
 |nil=>simp[iv]
 |cons c s ih=>
  simp only[List.foldl_cons,iv,qY11,Int.pow_succ]
  rw[ih (10 * v+c),ih (10 * 0+c)]
  grind
theorem qUd (x:Int) (l:List Int):iv (x::l)=x * 10 ^ l.length+iv l:=by
 show (x::l).foldl (fun v x=>10 * v+x) 0=_
 rw[List.foldl_cons,qCy];simp
theorem qYaf {l:List Int} {k:Nat} (h:k < l.length) (x:Int):iv (l.set k x)=iv l+(x - l.getD k 0) * 10 ^ (l.length - 1 - k):=by
 induction l generalizing k with
 |nil=>simp at h
 |cons y l ih=>
  cases k with
  |zero=>
   simp only[List.set_cons_zero,qUd,qZ3,qY11]
   rw[show l.length+1 - 1 - 0=l.length by omega]
   grind
  |succ k=>
   simp only[List.set_cons_succ,qUd,qZ2,qY11,List.length_set]
   rw[ih (by simpa using h),show l.length+1 - 1 - (k+1)=l.length - 1 - k by omega]
   omega
theorem iv_zeros (n:Nat):iv (List.replicate n 0)=0:=by
 induction n with
 |zero=>rfl
 |succ n ih=>rw[List.replicate_succ,qUd,ih];simp
def pfx (a:qBs) (i:Nat):Nat:=dval (a.take i)
theorem qRc {a:qBs} {i:Nat} (h:i < a.length):pfx a (i+1)=10 * pfx a i+dig a[i]:=by
 unfold pfx
 rw[List.take_succ_eq_append_getElem h,qSI]
def Bd (l:List Int) (B:Int):Prop:=∀ x∈l,0<=x/\x<=B
theorem Bd.at {l:List Int} {B:Int} (h:Bd l B) (hB:0<=B) (k:Nat):0<=l.getD k 0/\l.getD k 0<=B:=by
 by_cases hk:k < l.length
 ·rw[qWU hk];exact h _ (List.getElem_mem hk)
 ·rw[qHd (by omega)];omega
theorem Bd.set {l:List Int} {B B':Int} (h:Bd l B) (hB:B<=B') {k:Nat} {x:Int} (hx:0<=x/\x<=B'):Bd (l.set k x) B':=by
 intro y hy
 rcases List.mem_or_eq_of_mem_set hy with hy | rfl
 ·have:=h y hy;omega
 ·exact hx
theorem qLh {a b:qBs} {out0:List Int} {i:Nat} {B:Int} (hda:qBH a) (hdb:qBH b) (hi:i < a.length) (hol:out0.length=a.length+b.length) (hbl:b.length<=100000000) (hal:a.length<=100000000)
 (hB:0<=B/\B<=1000000000000000000) (hb0:Bd out0 B) :
 ∃ out,qMA qEJ (a,b,out0,(i:Int),0,())=some (Ex.exit 2,(a,b,out,(i:Int),(b.length:Int),()))/\out.length=out0.length/\Bd out (B+81 * b.length)/\
  iv out=iv out0+(dig a[i]:Int) * 10 ^ (a.length - 1 - i) * dval b:=by
 have hA:=hda a[i] (List.getElem_mem hi)
 obtain ⟨A,hAe⟩:∃ A,A=a[i]:=⟨_,rfl⟩
 rw[<-hAe] at hA ⊢
 have hga:a.getD i 0=A:=by rw[qQP hi,hAe]
 have hA1:=hA.1
 have hA2:=hA.2
 have hAd:(dig A:Int)=(A.toNat:Int) - 48:=by unfold dig;omega
 obtain ⟨r,hr,out,rfl,h1,h2,h3⟩:=qVA (step:=qEJ) (Q:=fun r=>∃ out,r=(Ex.exit 2,(a,b,out,(i:Int),(b.length:Int),()))/\out.length=out0.length/\Bd out (B+81 * b.length)/\
  iv out=iv out0+(dig A:Int) * 10 ^ (a.length - 1 - i) * dval b)
  (fun k x=>∃ (j:Nat) (out:List Int),k+j=b.length/\x=(a,b,out,(i:Int),(j:Int),())/\out.length=out0.length/\Bd out (B+81 * j)/\
   iv out=iv out0+(dig A:Int) * 10 ^ (a.length - 1 - i) * ((pfx b j:Int) * 10 ^ (b.length - j))) (by
   rintro k x ⟨j,out,hk,rfl,h1,h2,h3⟩
   by_cases hj:j < b.length
   ·have hgb:=qQP hj
    have hBd:=hdb b[j] (List.getElem_mem hj)
    have hp:=qRc hj
    obtain ⟨C,hC⟩:∃ C,C=b[j]:=⟨_,rfl⟩
    rw[<-hC] at hgb hBd hp
    have hC1:=hBd.1
    have hC2:=hBd.2
    have hCd:(dig C:Int)=(C.toNat:Int) - 48:=by unfold dig;omega
    have e1:(i:Int).toNat=i:=by omega
    have e2:(j:Int).toNat=j:=by omega
    have e3:((i:Int)+j+1).toNat=i+j+1:=by omega
    have hz:=h2.at (by omega) (i+j+1)
    obtain ⟨P,hP⟩:∃ P,P=((A.toNat:Int) - 48) * ((C.toNat:Int) - 48):=⟨_,rfl⟩
    have hP0:0<=P:=by rw[hP];exact Int.mul_nonneg (by omega) (by omega)
    have hP1:P<=81:=by
     rw[hP]
     have:((A.toNat:Int) - 48) * ((C.toNat:Int) - 48)<=9 * ((C.toNat:Int) - 48):=Int.mul_le_mul_of_nonneg_right (by omega) (by omega)
     omega
    refine .inr ⟨k - 1,(a,b,out.set (i+j+1) (out.getD (i+j+1) 0+P),(i:Int),((j+1:Nat):Int),()),?_,by omega,j+1,_,by omega,rfl,by simpa using h1,h2.set (by omega) (by omega),?_⟩
    ·rw[hP]
     rw[hP] at hP0 hP1
     simp (disch:=(first | omega | (simp only[lnn];omega))) only[qEJ,e1,e2,e3,hga,hgb,stp]
     rfl
    ·rw[qYaf (by omega),h3,hp]
     have ex:out.length - 1 - (i+j+1)=(a.length - 1 - i)+(b.length - (j+1)):=by omega
     have ey:b.length - j=(b.length - (j+1))+1:=by omega
     rw[ex,ey,Int.pow_add,Int.pow_succ,hP,<-hAd,<-hCd]
     push_cast
     grind
   ·have hjb:j=b.length:=by omega
    subst hjb
    refine .inl ⟨(Ex.exit 2,(a,b,out,(i:Int),(b.length:Int),())),?_,by simp,out,rfl,h1,h2,?_⟩
    ·simp (disch:=(first | omega | (simp only[lnn];omega))) only[qEJ,stp]
    ·rw[h3];unfold pfx;rw[List.take_length,Nat.sub_self];simp) b.length _ ⟨0,out0,by omega,rfl,rfl,by simpa using hb0,by unfold pfx;simp[dval]⟩
 exact ⟨out,hr,h1,h2,h3⟩
set_option maxHeartbeats 1000000 in
theorem qHT (m n:Nat) (hm:(dd m).length<=10000000) (hn:(dd n).length<=10000000):qKJ (dd m) (dd n)=some ((dd (m * n),()),()):=by
 obtain ⟨a,ha⟩:∃ a,a=dd m:=⟨_,rfl⟩
 obtain ⟨b,hb⟩:∃ b,b=dd n:=⟨_,rfl⟩
 have hda:qBH a:=ha ▸ qEX m
 have hdb:qBH b:=hb ▸ qEX n
 have hapos:0 < a.length:=by rw[ha];exact qHN m
 rw[<-ha,<-hb]
 rw[<-ha] at hm
 rw[<-hb] at hn
 have hva:dval a=m:=by rw[ha,qCD]
 have hvb:dval b=n:=by rw[hb,qCD]
 obtain ⟨r,hr,out,rfl,h1,h2,h3⟩:=qVA (step:=qJL) (Q:=fun r=>∃ out,r=(Ex.exit 0,(a,b,out,(a.length:Int),()))/\out.length=a.length+b.length/\Bd out (81 * 100000000000000)/\iv out=(dval a:Int) * dval b)
  (fun k x=>∃ (i:Nat) (out:List Int),k+i=a.length/\x=(a,b,out,(i:Int),())/\out.length=a.length+b.length/\Bd out (81 * ((i * b.length:Nat):Int))/\iv out=(pfx a i:Int) * 10 ^ (a.length - i) * dval b) (by
   rintro k x ⟨i,out,hk,rfl,h1,h2,h3⟩
   have hib:i * b.length<=a.length * b.length:=Nat.mul_le_mul_right _ (by omega)
   have hab:a.length * b.length<=10000000 * b.length:=Nat.mul_le_mul_right _ hm
   by_cases hi:i < a.length
   ·obtain ⟨o2,hin,g1,g2,g3⟩:=qLh (B:=81 * ((i * b.length:Nat):Int)) hda hdb hi h1 (by omega) (by omega) (by omega) h2
    have hp:=qRc hi
    refine .inr ⟨k - 1,(a,b,o2,((i+1:Nat):Int),()),?_,by omega,i+1,o2,by omega,rfl,by omega,?_,?_⟩
    ·simp (disch:=(first | omega | (simp only[lnn];omega))) only[qJL,hin,stp]
     rfl
    ·intro y hy
     have:=g2 y hy
     rw[Nat.add_mul]
     omega
    ·rw[g3,h3,hp,show a.length - i=(a.length - 1 - i)+1 by omega,show a.length - (i+1)=a.length - 1 - i by omega,Int.pow_succ]
     push_cast
     grind
   ·have hia:i=a.length:=by omega
    subst hia
    refine .inl ⟨(Ex.exit 0,(a,b,out,(a.length:Int),())),?_,by simp,out,rfl,h1,?_,?_⟩
    ·simp (disch:=(first | omega | (simp only[lnn];omega))) only[qJL,stp]
    ·intro y hy;have:=h2 y hy;omega
    ·rw[h3];unfold pfx;rw[List.take_length,Nat.sub_self];simp) a.length (a,b,List.replicate ((((a.length:Int)+b.length)).toNat) 0,0,()) ⟨0,_,by omega,rfl,by simp;omega,by intro y hy;rw[List.eq_of_mem_replicate hy];simp,by rw[iv_zeros];unfold pfx;simp[dval]⟩
 obtain ⟨N,hN⟩:∃ N,N=out.length:=⟨_,rfl⟩
 obtain ⟨r2,hr2,s,rfl,g1,g2,g3⟩:=qVA (step:=qWJ) (Q:=fun r=>∃ s:qBs,r=(Ex.exit 4,(out,qFM s,0,-1,()))/\qBH s/\s.length=N/\dval s=m * n)
  (fun k x=>∃ (o:List Int) (c:Int) (s:qBs),x=(out,o,c,(k:Int) - 1,())/\k<=N/\o.length=N/\(0<=c/\c<=81 * 100000000000000)/\o.drop k=qFM s/\qBH s/\s.length=N - k/\(dval s:Int)+c * 10 ^ (N - k)=iv (out.drop k)) (by
   rintro k x ⟨o,c,s,rfl,hk,hol,hc,hds,hs,hsl,hv⟩
   by_cases h0:k=0
   ·subst h0
    rw[List.drop_zero] at hds hv
    rw[Nat.sub_zero] at hv hsl
    rw[h3] at hv
    have hla:=qSM hda
    have hlb:=qSM hdb
    have hprod:dval a * dval b < 10 ^ N:=by
     rw[hN,h1,Nat.pow_add]
     exact Nat.mul_lt_mul'' hla hlb
    have hc0:c=0:=by
     rcases Int.lt_or_eq_of_le hc.1 with h | h
     ·exfalso
      have e1:1 * (10:Int) ^ N<=c * 10 ^ N:=Int.mul_le_mul_of_nonneg_right (by omega) (by have:(0:Int) < 10 ^ N:=Int.pow_pos (by decide);omega)
      rw[show ((10:Int) ^ N)=((10 ^ N:Nat):Int) by push_cast;rfl] at e1 hv
      rw[<-Int.natCast_mul] at hv
      omega
     ·exact h.symm
    subst hc0
    refine .inl ⟨(Ex.exit 4,(out,qFM s,0,-1,())),?_,by simp,s,rfl,hs,hsl,?_⟩
    ·rw[<-hds]
     simp (disch:=(first | omega | (simp only[lnn];omega))) only[qWJ,stp]
     rfl
    ·rw[Int.zero_mul,Int.add_zero,<-Int.natCast_mul,hva,hvb] at hv;omega
   ·have e:((k:Int) - 1).toNat=k - 1:=by omega
    have hz:=h2.at (by omega) (k - 1)
    obtain ⟨v,hvv⟩:∃ v,v=out.getD (k - 1) 0+c:=⟨_,rfl⟩
    obtain ⟨d,hd1,hd2,hd3⟩:=qEd (k:=v % 10) (by omega)
    refine .inr ⟨k - 1,(out,o.set (k - 1) (48+v % 10),v / 10,(k:Int) - 1 - 1,()),?_,by omega,o.set (k - 1) (48+v % 10),v / 10,d::s,?_,by omega,by simpa using hol,by omega,?_,hs.cons hd2,by simp[hsl];omega,?_⟩
    ·rw[hvv]
     simp (disch:=(first | omega | (simp only[lnn];omega))) only[qWJ,e,stp]
    ·rw[show (k:Int) - 1 - 1=((k - 1:Nat):Int) - 1 by omega]
    ·rw[qMe (by omega),show k - 1+1=k by omega,hds,<-hd1];rfl
    ·rw[qTI,hsl,Int.natCast_add,Int.natCast_mul,hd3,List.drop_eq_getElem_cons (show k - 1 < out.length by omega),qUd,<-qWU (by omega),show k - 1+1=k by omega,<-hv,List.length_drop,show N - (k - 1)=(N - k)+1 by omega,<-hN,Int.pow_succ]
     have:=Int.emod_add_mul_ediv v 10
     push_cast
     grind) N (out,List.replicate ((out.length:Int)).toNat 0,0,(out.length:Int) - 1,()) ⟨_,0,[],by rw[hN],Nat.le_refl _,by simp;omega,by omega,by rw[List.drop_of_length_le (by simp;omega)];rfl,by simp[qBH],by simp,by rw[List.drop_of_length_le (by omega)];simp[dval,iv]⟩
 have ht:=qEI g1 (fun e=>by rw[e] at g2;simp at g2;omega) (by omega)
 rw[g3] at ht
 have hlen:out.length=a.length+b.length:=h1
 have hw:qI ((out.length:Int) - 1)=(out.length:Int) - 1:=w64 (by omega)
 have hw2:qI ((a.length:Int)+b.length)=(a.length:Int)+b.length:=w64 (by omega)
 unfold qKJ
 simp only[hw2]
 rw[hr]
 simp only[qAA,qPI,qWB,hw]
 rw[hr2]
 simp (disch:=(first | omega | (simp only[lnn];omega))) only[qNQ,ht,stp]
end Go.AM.Num
end
section
set_option linter.unusedSimpArgs false
set_option linter.unusedVariables false
namespace Go.AM.Num
theorem qUh (a:qBs) (q:List Int) (i:Int) (R B:Nat) (hB:B≠0) (hR:(dd R).length<=100000000) (hlt:R < 10 * B) :
 qMA qFJ (a,dd B,q,dd R,i,48,())=some (Ex.exit 2,(a,dd B,q,dd (R % B),i,48+((R / B:Nat):Int),())):=by
 obtain ⟨r,hr,rfl⟩:=qVA (step:=qFJ) (Q:=fun r=>r=(Ex.exit 2,(a,dd B,q,dd (R % B),i,48+((R / B:Nat):Int),())))
  (fun k x=>∃ S d:Nat,x=(a,dd B,q,dd S,i,48+(d:Int),())/\k=S/\S+d * B=R) (by
   rintro k x ⟨S,d,rfl,rfl,h⟩
   obtain ⟨c,hc,hc1,hc2⟩:=qFl k B
   by_cases hlt':k < B
   ·have hneg:=hc1.2 hlt'
    have hq:R / B=d:=by rw[<-h,Nat.add_mul_div_right _ _ (by omega),Nat.div_eq_of_lt hlt'];omega
    have hm:R % B=k:=by rw[<-h,Nat.add_mul_mod_self_right,Nat.mod_eq_of_lt hlt']
    refine .inl ⟨(Ex.exit 2,(a,dd B,q,dd k,i,48+(d:Int),())),?_,by simp,by rw[hq,hm]⟩
    simp (disch:=(first | omega | (simp only[lnn];omega))) only[qFJ,hc,stp]
   ·have hge:c>=0:=by
     rcases Int.lt_or_le c 0 with h' | h'
     ·exact absurd (hc1.1 h') hlt'
     ·exact h'
    have hkl:(dd k).length<=100000000:=Nat.le_trans (qTA (by rw[<-h];omega)) hR
    have hs:=qAe k B hkl (by omega)
    have hd9:d < 9:=by
     have:(d+1) * B<=R:=by rw[Nat.add_mul];omega
     have h2:(d+1) * B < 10 * B:=by omega
     have:=Nat.lt_of_mul_lt_mul_right h2
     omega
    refine .inr ⟨k - B,(a,dd B,q,dd (k - B),i,48+((d+1:Nat):Int),()),?_,by omega,k - B,d+1,rfl,rfl,by rw[Nat.add_mul];omega⟩
    simp (disch:=(first | omega | (simp only[lnn];omega))) only[qFJ,hc,hs,stp]
    congr 7) R (a,dd B,q,dd R,i,48,()) ⟨R,0,by simp,rfl,by omega⟩
 exact hr
theorem qMx {α:Type} {l:List α} {i:Nat} (h:i < l.length) (c:α):(l.set i c).take (i+1)=l.take i++[c]:=by
 rw[List.take_succ_eq_append_getElem (by simpa using h),List.getElem_set_self,List.take_set_of_le (by omega)]
theorem qQn (s:qBs) (d:UInt8):qFM (s++[d])=qFM s++[(d.toNat:Int)]:=by simp[qFM]
set_option maxHeartbeats 1000000 in
theorem qJT (m n:Nat) (hm:(dd m).length<=10000000) (hn:(dd n).length<=10000000) (h0:n≠0):qXQ (dd m) (dd n)=some ((dd (m / n),dd (m % n),()),()):=by
 obtain ⟨a,ha⟩:∃ a,a=dd m:=⟨_,rfl⟩
 have hda:qBH a:=ha ▸ qEX m
 have hva:dval a=m:=by rw[ha,qCD]
 have hapos:0 < a.length:=by rw[ha];exact qHN m
 rw[<-ha]
 rw[<-ha] at hm
 obtain ⟨r,hr,s,rfl,h1,h2,h3⟩:=qVA (step:=qAM) (Q:=fun r=>∃ s:qBs,r=(Ex.exit 0,(a,dd n,qFM s,dd (m % n),(a.length:Int),()))/\qBH s/\s.length=a.length/\dval s=m / n)
  (fun k x=>∃ (i:Nat) (q:List Int) (R:Nat) (s:qBs),x=(a,dd n,q,dd R,(i:Int),())/\k+i=a.length/\q.length=a.length/\q.take i=qFM s/\qBH s/\s.length=i/\R < n/\pfx a i=dval s * n+R) (by
   rintro k x ⟨i,q,R,s,rfl,hk,hql,hqt,hs,hsl,hR,hv⟩
   by_cases hi:i < a.length
   ·have hp:=qRc hi
    have hA:=hda a[i] (List.getElem_mem hi)
    have hcut:(a.take (i+1)).drop i=[a[i]]:=by
     rw[List.take_succ_eq_append_getElem hi]
     have hl:(a.take i).length=i:=by rw[List.length_take];omega
     conv=>lhs;arg 1;rw[<-hl]
     exact List.drop_left
    obtain ⟨A,hAe⟩:∃ A,A=a[i]:=⟨_,rfl⟩
    rw[<-hAe] at hp hA hcut
    have hAl:=qNu hA
    have hRl:(dd R).length<=(dd n).length:=qTA (by omega)
    have htr:=qEI (s:=dd R++[A]) ((qEX R).app (fun c hc=>by rw[List.mem_singleton.1 hc];exact hA)) (by simp) (by simp;omega)
    rw[qSI,qCD] at htr
    obtain ⟨S,hS⟩:∃ S,S=10 * R+dig A:=⟨_,rfl⟩
    rw[<-hS] at htr
    have hSl:(dd S).length<=100000000:=by
     have:S < 10 ^ ((dd n).length+1):=by
      have h1:=qHK n
      rw[Nat.pow_succ];omega
     have:=qHF this (by omega)
     omega
    have hin:=qUh a q (i:Int) S n h0 hSl (by omega)
    have hd9:S / n<=9:=by
     have:S / n < 10:=Nat.div_lt_of_lt_mul (by omega)
     omega
    obtain ⟨d,hd1,hd2,hd3⟩:=qEd (k:=((S / n:Nat):Int)) ⟨Int.natCast_nonneg _,by exact_mod_cast Nat.lt_succ_of_le hd9⟩
    have e1:((i:Int)+1).toNat=i+1:=by omega
    have e2:((i:Int)).toNat=i:=by omega
    have g:(dd R).length+([A]:qBs).length<=qXK:=by rw[qQI];simp;omega
    refine .inr ⟨k - 1,(a,dd n,q.set i (48+((S / n:Nat):Int)),dd (S % n),((i+1:Nat):Int),()),?_,by omega,i+1,_,S % n,s++[d],rfl,by omega,by simpa using hql,?_,?_,by simp[hsl],Nat.mod_lt _ (by omega),?_⟩
    ·simp (disch:=(first | omega | (simp only[lnn];omega))) only[qAM,e1,e2,hcut,qBA g,htr,hin,stp]
     rfl
    ·rw[qMx (by omega),hqt,qQn,hd1]
    ·exact hs.app (fun c hc=>by rw[List.mem_singleton.1 hc];exact hd2)
    ·rw[qSI,hp,hv]
     have h5:dig d=S / n:=by exact_mod_cast hd3
     have h6:=Nat.div_add_mod S n
     rw[h5]
     grind
   ·have hia:i=a.length:=by omega
    subst hia
    rw[List.take_of_length_le (by omega)] at hqt
    have hv':m=dval s * n+R:=by rw[<-hva,<-hv];unfold pfx;rw[List.take_length]
    have hq':m / n=dval s:=by rw[hv',Nat.mul_comm,Nat.mul_add_div (by omega),Nat.div_eq_of_lt hR];omega
    have hm':m % n=R:=by rw[hv',Nat.mul_comm,Nat.mul_add_mod,Nat.mod_eq_of_lt hR]
    refine .inl ⟨(Ex.exit 0,(a,dd n,qFM s,dd (m % n),(a.length:Int),())),?_,by simp,s,rfl,hs,hsl,hq'.symm⟩
    rw[<-hqt,hm']
    simp (disch:=(first | omega | (simp only[lnn];omega))) only[qAM,stp]) a.length (a,dd n,List.replicate ((a.length:Int)).toNat 0,[48],0,()) ⟨0,_,0,[],by rw[qIC];rfl,by omega,by simp,by simp[qFM],by simp[qBH],rfl,by omega,by unfold pfx;simp[dval]⟩
 have ht:=qEI h1 (fun e=>by rw[e] at h2;simp at h2;omega) (by omega)
 rw[h3] at ht
 unfold qXQ
 rw[hr]
 simp (disch:=(first | omega | (simp only[lnn];omega))) only[qNQ,ht,stp]
theorem qQk (m n:Nat) (hm:(dd m).length<=10000000) (hn:(dd n).length<=10000000):qCX (dd m) (dd n)=some ((dd (Nat.gcd m n),()),()):=by
 obtain ⟨r,hr,b,rfl⟩:=qVA (step:=qOL) (Q:=fun r=>∃ b,r=(Ex.exit 0,(dd (Nat.gcd m n),b,())))
  (fun k x=>∃ a b:Nat,x=(dd a,dd b,())/\k=b/\Nat.gcd a b=Nat.gcd m n/\(dd a).length<=10000000/\(dd b).length<=10000000) (by
   rintro k x ⟨a,b,rfl,rfl,hg,ha,hb⟩
   by_cases h0:k=0
   ·subst h0
    refine .inl ⟨(Ex.exit 0,(dd a,dd 0,())),?_,by simp,dd 0,by rw[<-hg,Nat.gcd_zero_right]⟩
    simp (disch:=(first | omega | (simp only[lnn];omega))) only[qOL,qAC qIC,stp]
   ·have hne:dd k≠[48]:=fun e=>h0 (by rw[<-qIC] at e;exact qGN e)
    refine .inr ⟨a % k,_,?_,Nat.mod_lt _ (by omega),k,a % k,rfl,rfl,?_,hb,?_⟩
    ·simp (disch:=(first | omega | (simp only[lnn];omega))) only[qOL,qPB hne,qJT a k ha hb h0,stp]
    ·rw[Nat.gcd_comm,<-Nat.gcd_rec,Nat.gcd_comm,hg]
    ·exact Nat.le_trans (qTA (Nat.le_of_lt (Nat.mod_lt _ (by omega)))) hb) n _ ⟨m,n,rfl,rfl,rfl,hm,hn⟩
 unfold qCX
 rw[hr]
 simp (disch:=(first | omega | (simp only[lnn];omega))) only[stp]
end Go.AM.Num
end
section
set_option linter.unusedSimpArgs false
set_option linter.unusedVariables false
namespace Go.AM.Num
theorem qIJ (m:Nat):(dd m==[48])=decide (m=0):=by
 by_cases h:m=0
 ·subst h;rw[qZ10 rfl];exact qAC qIC
 ·rw[qZ9 h];exact qPB (fun e=>h (by rw[<-qIC] at e;exact qGN e))
theorem qOb (m:Nat):(dd m==[49])=decide (m=1):=by
 by_cases h:m=1
 ·subst h;rw[qZ10 rfl];exact qAC qGT
 ·rw[qZ9 h];exact qPB (fun e=>h (by rw[<-qGT] at e;exact qGN e))
def rr (neg:Bool) (m d:Nat):Bool×qBs×qBs:=(neg&&decide (m≠0),dd m,dd d)
theorem qQg (neg:Bool) (m d:Nat) (hm:(dd m).length<=100000000) (hd:(dd d).length<=100000000):qXA ((rr neg m d).1,(rr neg m d).2.1,(rr neg m d).2.2)=some ((tx neg m d,()),()):=by
 have h1:([45]:qBs).length+(dd m).length<=qXK:=by rw[qQI];simp;omega
 have h2:([47]:qBs).length+(dd d).length<=qXK:=by rw[qQI];simp;omega
 have h3:(([45]:qBs)++dd m).length+(([47]:qBs)++dd d).length<=qXK:=by rw[qQI];simp;omega
 have h4:(dd m).length+(([47]:qBs)++dd d).length<=qXK:=by rw[qQI];simp;omega
 have h5:=qOb d
 unfold qXA tx rr
 dsimp only
 by_cases hn:neg=true/\m≠0
 ·have e:(neg&&decide (m≠0))=true:=by rw[hn.1,qZ10 hn.2];rfl
  rw[e,if_pos hn]
  by_cases h:d=1
  ·rw[qZ10 h] at h5
   simp (disch:=(first | omega | (simp only[lnn];omega))) only[h5,qBA h1,stp]
   rw[if_pos h];simp
  ·rw[qZ9 h] at h5
   simp (disch:=(first | omega | (simp only[lnn];omega))) only[h5,qBA h1,qBA h2,qBA h3,stp]
   rw[if_neg h];rfl
 ·have e:(neg&&decide (m≠0))=false:=by
   cases neg with
   |false=>rfl
   |true=>
    have:m=0:=by simpa using hn
    subst this;rfl
  rw[e,if_neg hn]
  by_cases h:d=1
  ·rw[qZ10 h] at h5
   simp (disch:=(first | omega | (simp only[lnn];omega))) only[h5,stp]
   rw[if_pos h];simp
  ·rw[qZ9 h] at h5
   simp (disch:=(first | omega | (simp only[lnn];omega))) only[h5,qBA h2,qBA h4,stp]
   rw[if_neg h];rfl
theorem qOk (neg:Bool) (m d:Nat) (hd:d≠0) (hm:(dd m).length<=10000000) (hdl:(dd d).length<=10000000) :
 qOF neg (dd m) (dd d)=some ((rr neg (m / Nat.gcd m d) (d / Nat.gcd m d),()),()):=by
 have hg0:Nat.gcd m d≠0:=fun e=>hd (Nat.gcd_eq_zero_iff.1 e).2
 have hgl:(dd (Nat.gcd m d)).length<=10000000:=Nat.le_trans (qTA (Nat.le_of_dvd (by omega) (Nat.gcd_dvd_right m d))) hdl
 have hz:=qIJ (m / Nat.gcd m d)
 unfold qOF rr
 cases neg with
 |false=>
  simp (disch:=(first | omega | (simp only[lnn];omega))) only[qQk m d hm hdl,qJT m _ hm hgl hg0,qJT d _ hdl hgl hg0,stp]
  rfl
 |true=>
  simp (disch:=(first | omega | (simp only[lnn];omega))) only[qQk m d hm hdl,qJT m _ hm hgl hg0,qJT d _ hdl hgl hg0,hz,stp]
  simp only[Bool.true_and,ne_eq,decide_not]
theorem qCad (neg:Bool) (m d:Nat) (hd:d≠0) (hm:(dd m).length<=10000000) (hdl:(dd d).length<=10000000) :
 ∃ r,qOF neg (dd m) (dd d)=some ((r,()),())/\qXA (r.1,r.2.1,r.2.2)=some ((txt (mkRat (sg neg m) d),()),()):=by
 refine ⟨_,qOk neg m d hd hm hdl,?_⟩
 rw[qQg neg _ _ (Nat.le_trans (qTA (Nat.div_le_self _ _)) (by omega)) (Nat.le_trans (qTA (Nat.div_le_self _ _)) (by omega)),qRT neg m d hd]
def bad:Bool×qBs×qBs:=(false,[],[])
noncomputable def qFp (a:qBs) (neg:Bool) (num den:qBs):Option (((Bool×qBs×qBs)×Bool×Unit)×Unit):=
 (qAJ num).bind fun r2=>
 cond (!r2.1.1)
 (some (((false,([]:qBs),([]:qBs)),false,()),()))
 ((qAJ den).bind fun r3=>
 cond (!r3.1.1)
 (some (((false,([]:qBs),([]:qBs)),false,()),()))
 (cond (den==([48]:qBs))
 (some (((false,([]:qBs),([]:qBs)),false,()),()))
 ((qRK num).bind fun r4=>
 cond (!(r4.1.1==num))
 (some (((false,([]:qBs),([]:qBs)),false,()),()))
 ((qRK den).bind fun r5=>
 cond (!(r5.1.1==den))
 (some (((false,([]:qBs),([]:qBs)),false,()),()))
 ((qOF neg num den).bind fun r6=>
 (qXA (r6.1.1.1,r6.1.1.2.1,r6.1.1.2.2)).bind fun r7=>
 cond (!(r7.1.1==a))
 (some (((false,([]:qBs),([]:qBs)),false,()),()))
 (some (((neg,num,den),true,()),())))))))
theorem qMt (m:Nat):qHz (dd m):=⟨qFa m,qEX m⟩
theorem qDp {a:qBs} {neg:Bool} {m d:Nat} (hd:d≠0) (hm:(dd m).length<=10000000) (hdl:(dd d).length<=10000000) (ha:a=txt (mkRat (sg neg m) d)) :
 qFp a neg (dd m) (dd d)=some (((neg,dd m,dd d),true,()),()):=by
 obtain ⟨r,h1,h2⟩:=qCad neg m d hd hm hdl
 have t1:=qEI (qEX m) (qFa m) (by omega)
 have t2:=qEI (qEX d) (qFa d) (by omega)
 rw[qCD] at t1 t2
 have z:=qIJ d
 rw[qZ9 hd] at z
 unfold qFp
 simp (disch:=(first | omega | (simp only[lnn];omega))) only[qQN (s:=dd m) (by omega),qQN (s:=dd d) (by omega),qZ10 (qMt m),qZ10 (qMt d),z,t1,t2,qAC (rfl:dd m=dd m),qAC (rfl:dd d=dd d),h1,h2,qAC ha.symm,stp]
theorem qPn {a num den:qBs} {neg:Bool} (hn:num.length<=1000000) (hdl:den.length<=1000000) :
 (∃ m d,num=dd m/\den=dd d/\d≠0/\a=txt (mkRat (sg neg m) d)/\qFp a neg num den=some (((neg,num,den),true,()),()))\/
 (qFp a neg num den=some ((bad,false,()),())/\¬ ∃ m d,num=dd m/\den=dd d/\d≠0/\a=txt (mkRat (sg neg m) d)):=by
 by_cases hex:∃ m d,num=dd m/\den=dd d/\d≠0/\a=txt (mkRat (sg neg m) d)
 ·obtain ⟨m,d,rfl,rfl,hd,ha⟩:=hex
  exact .inl ⟨m,d,rfl,rfl,hd,ha,qDp hd (by omega) (by omega) ha⟩
 ·refine .inr ⟨?_,hex⟩
  have d1:=qQN (s:=num) (by omega)
  have d2:=qQN (s:=den) (by omega)
  unfold qFp bad
  by_cases f1:qHz num
  ·by_cases f2:qHz den
   ·have t1:=qEI f1.2 f1.1 (by omega)
    have t2:=qEI f2.2 f2.1 (by omega)
    by_cases z:den=[48]
    ·simp (disch:=(first | omega | (simp only[lnn];omega))) only[d1,d2,qZ10 f1,qZ10 f2,qAC z,stp]
    ·by_cases e1:dd (dval num)=num
     ·by_cases e2:dd (dval den)=den
      ·have hd:dval den≠0:=fun e=>z (by rw[<-e2,e,qIC])
       obtain ⟨r,g1,g2⟩:=qCad neg (dval num) (dval den) hd (by rw[e1];omega) (by rw[e2];omega)
       rw[e1,e2] at g1
       have hna:txt (mkRat (sg neg (dval num)) (dval den))≠a:=fun e=>hex ⟨_,_,e1.symm,e2.symm,hd,e.symm⟩
       simp (disch:=(first | omega | (simp only[lnn];omega))) only[d1,d2,qZ10 f1,qZ10 f2,qPB z,t1,t2,qAC e1,qAC e2,g1,g2,qPB hna,stp]
      ·simp (disch:=(first | omega | (simp only[lnn];omega))) only[d1,d2,qZ10 f1,qZ10 f2,qPB z,t1,t2,qAC e1,qPB e2,stp]
     ·simp (disch:=(first | omega | (simp only[lnn];omega))) only[d1,d2,qZ10 f1,qZ10 f2,qPB z,t1,qPB e1,stp]
   ·simp (disch:=(first | omega | (simp only[lnn];omega))) only[d1,d2,qZ10 f1,qZ9 f2,stp]
  ·simp (disch:=(first | omega | (simp only[lnn];omega))) only[d1,qZ9 f1,stp]
theorem qGab (a s:qBs) (t2:Bool×qBs×qBs) (neg:Bool) (hl:s.length<=1000000000) :
 ∃ num den i,qMA qGG (a,t2,(neg,[],[49]),s,0,())=some (Ex.exit 0,(a,t2,(neg,[],den),num,i,()))/\
  ((s=num/\den=[49]/\(47:UInt8)∉s)\/(s=num++47::den/\(47:UInt8)∉num)):=by
 obtain ⟨r,hr,num,den,i,rfl,hq⟩:=qVA (step:=qGG) (Q:=fun r=>∃ num den i,r=(Ex.exit 0,(a,t2,(neg,[],den),num,i,()))/\((s=num/\den=[49]/\(47:UInt8)∉s)\/(s=num++47::den/\(47:UInt8)∉num)))
  (fun m x=>∃ k:Nat,m+k=s.length/\x=(a,t2,(neg,[],[49]),s,(k:Int),())/\(47:UInt8)∉s.take k) (by
   rintro m x ⟨k,hm,rfl,hk⟩
   by_cases h:k < s.length
   ·have hg:=qQP h
    have e:(k:Int).toNat=k:=by omega
    have e1:((k:Int)+1).toNat=k+1:=by omega
    by_cases h47:s[k]=47
    ·have hc:((s[k].toNat:Nat):Int)=47:=by rw[h47];rfl
     refine .inl ⟨(Ex.exit 0,(a,t2,(neg,[],s.drop (k+1)),s.take k,(k:Int),())),?_,by simp,s.take k,s.drop (k+1),(k:Int),rfl,.inr ⟨?_,hk⟩⟩
     ·simp (disch:=(first | omega | (simp only[lnn];omega))) only[qGG,e,e1,hg,hc,stp]
     ·conv=>lhs;rw[<-List.take_append_drop k s,List.drop_eq_getElem_cons h,h47]
    ·have hc:((s[k].toNat:Nat):Int)≠47:=fun e=>h47 (UInt8.toNat_inj.1 (by show s[k].toNat=47;omega))
     refine .inr ⟨m - 1,(a,t2,(neg,[],[49]),s,((k+1:Nat):Int),()),?_,by omega,k+1,by omega,rfl,?_⟩
     ·simp (disch:=(first | omega | (simp only[lnn];omega))) only[qGG,e,hg,qXB hc,stp]
      rfl
     ·rw[List.take_succ_eq_append_getElem h]
      intro hm'
      rcases List.mem_append.1 hm' with hm' | hm'
      ·exact hk hm'
      ·exact h47 (List.mem_singleton.1 hm').symm
   ·have hks:k=s.length:=by omega
    subst hks
    refine .inl ⟨(Ex.exit 0,(a,t2,(neg,[],[49]),s,(s.length:Int),())),?_,by simp,s,[49],_,rfl,.inl ⟨rfl,rfl,by simpa using hk⟩⟩
    simp (disch:=(first | omega | (simp only[lnn];omega))) only[qGG,stp]) s.length _ ⟨0,by omega,rfl,by simp⟩
 exact ⟨num,den,i,hr,hq⟩
theorem qTj (a:qBs) (hl:a.length<=1000000000):∃ neg s num den,a=sgn neg++s/\(neg=false->∀ r,s≠45::r)/\((s=num/\den=[49]/\(47:UInt8)∉s)\/(s=num++47::den/\(47:UInt8)∉num))/\qRE a=qFp a neg num den:=by
 have h00:((0:Int)).toNat=0:=rfl
 have h11:((1:Int)).toNat=1:=rfl
 by_cases h0:a=[]
 ·subst h0
  obtain ⟨num,den,i,hs,hq⟩:=qGab [] [] (false,[],[]) false (by simp)
  refine ⟨false,[],num,den,rfl,fun _ r=>by simp,hq,?_⟩
  unfold qRE
  simp (disch:=(first | omega | (simp only[lnn];omega))) only[hs,stp]
  rfl
 ·cases a with
  |nil=>exact absurd rfl h0
  |cons c s=>
   have hne:=qPB h0
   have hg:(c::s:qBs).getD 0 0=c:=rfl
   have hlen:(c::s).length=s.length+1:=rfl
   by_cases hc:c=45
   ·subst hc
    obtain ⟨num,den,i,hs,hq⟩:=qGab (45::s) s (false,[],[]) true (by omega)
    have h45:(((45:UInt8).toNat:Nat):Int)=45:=rfl
    refine ⟨true,s,num,den,rfl,(fun h=>by cases h),hq,?_⟩
    have hdrop:(45::s:qBs).drop 1=s:=rfl
    unfold qRE
    simp (disch:=(first | omega | (simp only[lnn];omega))) only[hne,h00,hg,h45,h11,hdrop,hs,stp]
    rfl
   ·have hcn:((c.toNat:Nat):Int)≠45:=fun e=>hc (UInt8.toNat_inj.1 (by show c.toNat=45;omega))
    obtain ⟨num,den,i,hs,hq⟩:=qGab (c::s) (c::s) (false,[],[]) false (by omega)
    refine ⟨false,c::s,num,den,rfl,fun _ r h=>hc (by simpa using (List.cons.inj h).1),hq,?_⟩
    unfold qRE
    simp (disch:=(first | omega | (simp only[lnn];omega))) only[hne,h00,hg,qXB hcn,hs,stp]
    rfl
theorem qKf (a:qBs) (hl:a.length<=1000000) :
 (∃ q,a=txt q/\qRE a=some (((decide (q.num < 0),dd q.num.natAbs,dd q.den),true,()),()))\/(qRE a=some ((bad,false,()),())/\rd a=none):=by
 obtain ⟨neg,s,num,den,ha,hs,hq,hp⟩:=qTj a (by omega)
 have hsl:s.length<=1000000:=by rw[ha,qZ6] at hl;omega
 have hnl:num.length<=1000000/\den.length<=1000000:=by
  rcases hq with ⟨rfl,rfl,_⟩ | ⟨rfl,_⟩
  ·exact ⟨hsl,by simp⟩
  ·rw[qZ6,qY11] at hsl;exact ⟨by omega,by omega⟩
 have shp:∀ q,a=txt q->neg=decide (q.num < 0)/\num=dd q.num.natAbs/\den=dd q.den:=by
  intro q h
  obtain ⟨e1,e2⟩:=shape hs (ha ▸ h)
  refine ⟨e1,?_⟩
  rcases hq with ⟨rfl,rfl,hx⟩ | ⟨rfl,hx⟩
  ·by_cases hd:q.den=1
   ·rw[if_pos hd,qY4] at e2
    exact ⟨e2,by rw[hd,qGT]⟩
   ·rw[if_neg hd] at e2
    exact absurd (by rw[e2];simp) hx
  ·by_cases hd:q.den=1
   ·rw[if_pos hd,qY4] at e2
    exact absurd (show (47:UInt8)∈dd q.num.natAbs by rw[<-e2];simp) qHW
   ·rw[if_neg hd] at e2
    exact qTY hx qHW e2
 rw[hp]
 rcases qPn (a:=a) (neg:=neg) hnl.1 hnl.2 with ⟨m,d,rfl,rfl,hd,hat,hg⟩ | ⟨hg,hno⟩
 ·obtain ⟨e1,e2,e3⟩:=shp _ hat
  refine .inl ⟨_,hat,?_⟩
  rw[hg,<-e1,<-e2,<-e3]
 ·refine .inr ⟨hg,qSZ fun q h=>hno ?_⟩
  obtain ⟨e1,e2,e3⟩:=shp q h
  refine ⟨q.num.natAbs,q.den,e2,e3,q.den_nz,?_⟩
  rw[e1,qTc,Rat.mkRat_self];exact h
end Go.AM.Num
end
section
set_option linter.unusedSimpArgs false
set_option linter.unusedVariables false
namespace Go.AM.Num
theorem rp (a:qBs) (hl:a.length<=1000000) :
 (∃ q,a=txt q/\rd a=some q/\D q<=1000001/\qRE a=some (((decide (q.num < 0),dd q.num.natAbs,dd q.den),true,()),()))\/(rd a=none/\qRE a=some ((bad,false,()),())):=by
 rcases qKf a hl with ⟨q,rfl,h⟩ | ⟨h1,h2⟩
 ·exact .inl ⟨q,rfl,qPO q,qLe hl,h⟩
 ·exact .inr ⟨h2,h1⟩
theorem qFV {a:qBs} (ha:a.length<=1000000):qUM a=some (((rd a).isSome,()),()):=by
 unfold qUM
 rcases rp a ha with ⟨q,e,hr,_,hp⟩ | ⟨hr,hp⟩
 ·rw[hr];simp (disch:=(first | omega | (simp only[lnn];omega))) only[hp,stp];rfl
 ·rw[hr];simp (disch:=(first | omega | (simp only[lnn];omega))) only[hp,stp];rfl
theorem qJF {a:qBs} (ha:a.length<=1000000):qQE a=some ((isI a,()),()):=by
 unfold qQE isI
 rcases rp a ha with ⟨q,e,hr,_,hp⟩ | ⟨hr,hp⟩
 ·rw[hr]
  simp (disch:=(first | omega | (simp only[lnn];omega))) only[hp,qOb,stp]
  rfl
 ·rw[hr];simp (disch:=(first | omega | (simp only[lnn];omega))) only[hp,stp]
theorem qHt {a:qBs} (ha:a.length<=1000000):qWl a=some ((qUa a,()),()):=by
 unfold qWl qUa
 rcases rp a ha with ⟨q,e,hr,_,hp⟩ | ⟨hr,hp⟩
 ·rw[hr]
  rcases Int.lt_trichotomy q.num 0 with h | h | h
  ·simp (disch:=(first | omega | (simp only[lnn];omega))) only[hp,qIJ,qZ9 (show ¬ q.num.natAbs=0 by omega),qZ10 h,stp]
   rw[Int.sign_eq_neg_one_of_neg h]
  ·simp (disch:=(first | omega | (simp only[lnn];omega))) only[hp,qIJ,qZ10 (show q.num.natAbs=0 by omega),stp]
   rw[h];rfl
  ·simp (disch:=(first | omega | (simp only[lnn];omega))) only[hp,qIJ,qZ9 (show ¬ q.num.natAbs=0 by omega),qZ9 (show ¬ q.num < 0 by omega),stp]
   rw[Int.sign_eq_one_of_pos h]
 ·rw[hr];simp (disch:=(first | omega | (simp only[lnn];omega))) only[hp,stp]
theorem qJm (neg:Bool) (q:Rat) (h:D q<=1000001):qXA (neg&&decide (q.num.natAbs≠0),dd q.num.natAbs,dd q.den)=some ((tx neg q.num.natAbs q.den,()),()):=
 qQg neg _ _ (by have:=qLS q;omega) (by have:=qWR q;omega)
theorem qFz (q:Rat):tx (!decide (q.num < 0)) q.num.natAbs q.den=txt (-q):=by
 unfold tx txt
 rw[Rat.neg_num,Rat.neg_den,Int.natAbs_neg]
 have:((!decide (q.num < 0))=true/\q.num.natAbs≠0) ↔ -q.num < 0:=by
  constructor
  ·rintro ⟨h1,h2⟩
   have:¬ q.num < 0:=by simpa using h1
   omega
  ·intro h;exact ⟨by rw[qZ9 (by omega)];rfl,by omega⟩
 simp only[this]
theorem qOx {a:qBs} (ha:a.length<=1000000):qBw a=some ((un (fun q=>txt (-q)) a,()),()):=by
 unfold qBw
 rcases rp a ha with ⟨q,e,hr,hD,hp⟩ | ⟨hr,hp⟩
 ·rw[e] at hp ⊢
  rw[qEaa]
  by_cases h:q.num < 0
  ·have ht:=qJm false q hD
   have e1:=qFz q
   rw[qZ10 h] at e1
   simp only[qY2] at e1
   rw[e1] at ht
   simp (disch:=(first | omega | (simp only[lnn];omega))) only[hp,qZ10 h,stp]
   simp only[Bool.false_and] at ht
   rw[ht];rfl
  ·have ht:=qJm true q hD
   have e1:=qFz q
   rw[qZ9 h] at e1
   simp only[qY1] at e1
   rw[e1] at ht
   have e2:(!(dd q.num.natAbs==[48]))=(true&&decide (q.num.natAbs≠0)):=by rw[qIJ];simp
   rw[<-e2] at ht
   simp (disch:=(first | omega | (simp only[lnn];omega))) only[hp,qZ9 h,stp]
   rw[ht];rfl
 ·rw[qCq hr];simp (disch:=(first | omega | (simp only[lnn];omega))) only[hp,stp]
theorem qXy (neg:Bool) (m d:Nat) (hd:d≠0) (hm:(dd m).length<=10000000) (hdl:(dd d).length<=10000000) {ρ:Type} (K:qBs->Option ρ) :
 (qOF neg (dd m) (dd d)).bind (fun r5=>(qXA (r5.1.1.1,r5.1.1.2.1,r5.1.1.2.2)).bind fun r6=>K r6.1.1)=K (txt (mkRat (sg neg m) d)):=by
 obtain ⟨r,h1,h2⟩:=qCad neg m d hd hm hdl
 rw[h1,qAA]
 show (qXA (r.1,r.2.1,r.2.2)).bind _=_
 rw[h2];rfl
theorem qJu {a b:qBs} (ha:a.length<=900000) (hb:b.length<=900000):qWw a b=some ((bin (fun p q=>txt (p+q)) a b,()),()):=by
 unfold qWw
 rcases rp a (by omega) with ⟨p,rfl,hr1,hD1,hp1⟩ | ⟨hr1,hp1⟩
 ·rcases rp b (by omega) with ⟨q,rfl,hr2,hD2,hp2⟩ | ⟨hr2,hp2⟩
  ·rw[qXZ,qBm]
   have a1:=qLS p
   have a2:=qWR p
   have a3:=qLS q
   have a4:=qWR q
   have b1:=qRB p.num.natAbs q.den
   have b2:=qRB q.num.natAbs p.den
   have b3:=qRB p.den q.den
   have b4:=qGQ (p.num.natAbs * q.den) (q.num.natAbs * p.den)
   have b5:=qTA (Nat.sub_le (p.num.natAbs * q.den) (q.num.natAbs * p.den))
   have b6:=qTA (Nat.sub_le (q.num.natAbs * p.den) (p.num.natAbs * q.den))
   have m1:=qHT p.num.natAbs q.den (by omega) (by omega)
   have m2:=qHT q.num.natAbs p.den (by omega) (by omega)
   have m3:=qHT p.den q.den (by omega) (by omega)
   have hd0:p.den * q.den≠0:=Nat.mul_ne_zero p.den_nz q.den_nz
   obtain ⟨x,hx⟩:∃ x,x=p.num.natAbs * q.den:=⟨_,rfl⟩
   obtain ⟨y,hy⟩:∃ y,y=q.num.natAbs * p.den:=⟨_,rfl⟩
   rw[<-hx] at b1 b4 b5 b6 m1 ⊢
   rw[<-hy] at b2 b4 b5 b6 m2 ⊢
   obtain ⟨n1,hn1⟩:∃ n,n=decide (p.num < 0):=⟨_,rfl⟩
   obtain ⟨n2,hn2⟩:∃ n,n=decide (q.num < 0):=⟨_,rfl⟩
   rw[<-hn1] at hp1 ⊢
   rw[<-hn2] at hp2 ⊢
   by_cases hs:n1=n2
   ·subst hs
    have e:sg n1 x+sg n1 y=sg n1 (x+y):=by cases n1<;>simp[sg];omega
    rw[e]
    simp (disch:=(first | omega | (simp only[lnn];omega))) only[hp1,hp2,m1,m2,m3,beq_self_eq_true,qFw x y (by omega) (by omega),stp]
    exact qXy n1 (x+y) (p.den * q.den) hd0 (by omega) (by omega) (fun t=>some ((t,()),()))
   ·have hsb:(n1==n2)=false:=by simpa using hs
    obtain ⟨c,hc,hc1,hc2⟩:=qFl x y
    by_cases hle:y<=x
    ·have hc0:c>=0:=by
      rcases Int.lt_or_le c 0 with h | h
      ·have:=hc1.1 h;omega
      ·exact h
     have e:sg n1 x+sg n2 y=sg n1 (x - y):=by cases n1<;>cases n2<;>simp_all [sg]<;>omega
     rw[e]
     simp (disch:=(first | omega | (simp only[lnn];omega))) only[hp1,hp2,m1,m2,m3,hsb,hc,qAe x y (by omega) hle,stp]
     exact qXy n1 (x - y) (p.den * q.den) hd0 (by omega) (by omega) (fun t=>some ((t,()),()))
    ·have hc0:¬ c>=0:=by have:=hc1.2 (by omega);omega
     have e:sg n1 x+sg n2 y=sg n2 (y - x):=by cases n1<;>cases n2<;>simp_all [sg]<;>omega
     rw[e]
     simp (disch:=(first | omega | (simp only[lnn];omega))) only[hp1,hp2,m1,m2,m3,hsb,hc,qAe y x (by omega) (by omega),stp]
     exact qXy n2 (y - x) (p.den * q.den) hd0 (by omega) (by omega) (fun t=>some ((t,()),()))
  ·rw[qIu hr2];simp (disch:=(first | omega | (simp only[lnn];omega))) only[hp1,hp2,stp]
 ·rcases rp b (by omega) with ⟨q,rfl,hr2,hD2,hp2⟩ | ⟨hr2,hp2⟩<;>(rw[qIab hr1];simp (disch:=(first | omega | (simp only[lnn];omega))) only[hp1,hp2,stp])
theorem qRr {a b:qBs} (ha:a.length<=900000) (hb:b.length<=900000):qLx a b=some ((bin (fun p q=>txt (p * q)) a b,()),()):=by
 unfold qLx
 rcases rp a (by omega) with ⟨p,rfl,hr1,hD1,hp1⟩ | ⟨hr1,hp1⟩
 ·rcases rp b (by omega) with ⟨q,rfl,hr2,hD2,hp2⟩ | ⟨hr2,hp2⟩
  ·rw[qXZ,Rat.mul_def']
   have a1:=qLS p
   have a2:=qWR p
   have a3:=qLS q
   have a4:=qWR q
   have b1:=qRB p.num.natAbs q.num.natAbs
   have b3:=qRB p.den q.den
   have m1:=qHT p.num.natAbs q.num.natAbs (by omega) (by omega)
   have m3:=qHT p.den q.den (by omega) (by omega)
   have e:p.num * q.num=sg (decide (p.num < 0) !=decide (q.num < 0)) (p.num.natAbs * q.num.natAbs):=by rw[<-qPs,qTc,qTc]
   rw[e]
   simp (disch:=(first | omega | (simp only[lnn];omega))) only[hp1,hp2,m1,m3,stp]
   exact qXy _ (p.num.natAbs * q.num.natAbs) (p.den * q.den) (Nat.mul_ne_zero p.den_nz q.den_nz) (by omega) (by omega) (fun t=>some ((t,()),()))
  ·rw[qIu hr2];simp (disch:=(first | omega | (simp only[lnn];omega))) only[hp1,hp2,stp]
 ·rcases rp b (by omega) with ⟨q,rfl,hr2,hD2,hp2⟩ | ⟨hr2,hp2⟩<;>(rw[qIab hr1];simp (disch:=(first | omega | (simp only[lnn];omega))) only[hp1,hp2,stp])
theorem qDs {a b:qBs} (ha:a.length<=200000) (hb:b.length<=200000):qOv a b=some ((bin (fun p q=>txt (p - q)) a b,()),()):=by
 have h1:=qLk (a:=a) (b:=b) (by omega) (by omega)
 unfold qLr at h1
 rw[qNz (by omega),qAA] at h1
 dsimp only at h1
 rw[qAz (by omega) (by have:=qOi hb;omega),qAA] at h1
 unfold qOv
 rw[qOx (by omega),qAA]
 dsimp only
 rw[qJu (by omega) (by have:=qOi hb;omega),qAA]
 exact h1
theorem qGf {a b:qBs} (ha:a.length<=200000) (hb:b.length<=200000):qSa a b=some ((qKl a b,()),()):=by
 have h1:=qRj (a:=a) (b:=b) (by omega) (by omega)
 have hl:=qPr (f:=fun p q=>p - q) (fun p q=>by rw[Rat.sub_eq_add_neg];have:=qBaf p (-q);rw[qIac] at this;exact this) ha hb
 unfold qMS at h1
 rw[qLk (by omega) (by omega),qAA] at h1
 dsimp only at h1
 rw[qMk (by omega),qAA] at h1
 unfold qSa
 have v1:=qFV (a:=a) (by omega)
 have v2:=qFV (a:=b) (by omega)
 cases hr1:rd a with
 |none=>
  have e:qKl a b=0:=by unfold qKl;rw[hr1]
  rw[hr1] at v1
  rw[e];simp (disch:=(first | omega | (simp only[lnn];omega))) only[v1,Option.isSome_none,stp]
 |some p=>
  rw[hr1] at v1
  cases hr2:rd b with
  |none=>
   have e:qKl a b=0:=by unfold qKl;rw[hr1,hr2]
   rw[hr2] at v2
   rw[e];simp (disch:=(first | omega | (simp only[lnn];omega))) only[v1,v2,Option.isSome_some,Option.isSome_none,stp]
  |some q=>
   rw[hr2] at v2
   simp (disch:=(first | omega | (simp only[lnn];omega))) only[v1,v2,Option.isSome_some,qDs (a:=a) (b:=b) (by omega) (by omega),stp]
   rw[qHt (by omega),qAA]
   exact h1
end Go.AM.Num
end
section
set_option linter.unusedSimpArgs false
set_option linter.unusedVariables false
namespace Go.AM.Num
theorem qRs (x:Int):0<=qU x/\qU x<=18446744073709551615:=by
 show 0<=IntKind.wrap .u64 x/\IntKind.wrap .u64 x<=18446744073709551615
 simp[IntKind.wrap,IntKind.bits,IntKind.signed];omega
theorem tdm (v:Int):(v.tmod 10=if v < 0 then -((v.natAbs % 10:Nat):Int) else ((v.natAbs % 10:Nat):Int))/\(v.tdiv 10=if v < 0 then -((v.natAbs / 10:Nat):Int) else ((v.natAbs / 10:Nat):Int)):=by
 by_cases h:v < 0
 ·obtain ⟨u,hu⟩:∃ u:Nat,v=-(u:Int):=⟨v.natAbs,by omega⟩
  rw[if_pos h,if_pos h,hu,Int.neg_tmod,Int.neg_tdiv,tm (by omega),td (by omega)]
  constructor<;>omega
 ·rw[if_neg h,if_neg h,tm (by omega),td (by omega)]
  constructor<;>omega
theorem qFad (n v:Int) (s:qBs) (hv:-9223372036854775808<=v/\v<=9223372036854775807) (hs:s.length<=1000) (h:v≠0\/s=[]) :
 qUH (n,s,v,())=some (.normal,(n,UInt8.ofNat (48+v.natAbs % 10)::s,v.tdiv 10,())):=by
 obtain ⟨h1,h2⟩:=tdm v
 have e3:qI (v.tdiv 10)=v.tdiv 10:=w64 (by rw[h2];split<;>omega)
 have e1:v.tmod 10 < 0->IntKind.u8.wrap (qI ((48:Int)+qI (0 - v.tmod 10)))=((48+v.natAbs % 10:Nat):Int):=by
  intro hn
  rw[h1] at hn ⊢
  split at hn
  ·rename_i hv0
   rw[if_pos hv0,show (0:Int) - -((v.natAbs % 10:Nat):Int)=((v.natAbs % 10:Nat):Int) by omega,w64 (x:=((v.natAbs % 10:Nat):Int)) (by omega),w64 (by omega),wu8 (by omega)];omega
  ·omega
 have e2:¬ v.tmod 10 < 0->IntKind.u8.wrap (qI ((48:Int)+v.tmod 10))=((48+v.natAbs % 10:Nat):Int):=by
  intro hn
  rw[h1] at hn ⊢
  split at hn
  ·rename_i hv0
   rw[if_pos hv0,w64 (by omega),wu8 (by omega)];omega
  ·rename_i hv0
   rw[if_neg hv0,w64 (by omega),wu8 (by omega)];omega
 have e4:([((48+v.natAbs % 10:Nat):Int)]:List Int).map (fun n=>UInt8.ofNat n.toNat)=[UInt8.ofNat (48+v.natAbs % 10)]:=rfl
 have e5:([UInt8.ofNat (48+v.natAbs % 10)]:qBs).length+s.length<=qXK:=by rw[qQI];simp;omega
 simp only[qUH]
 by_cases h0:v=0
 ·rcases h with h | h
  ·exact absurd h0 h
  ·rw[qVG h0,qAC h,qWB,qNR (by decide)]
   by_cases hn:v.tmod 10 < 0
   ·rw[qKA hn,e1 hn,e4,qBA e5,qNR (by decide),e3];rfl
   ·rw[qWA hn,e2 hn,e4,qBA e5,qNR (by decide),e3];rfl
 ·rw[qRL h0,qNR (by decide)]
  by_cases hn:v.tmod 10 < 0
  ·rw[qKA hn,e1 hn,e4,qBA e5,qNR (by decide),e3];rfl
  ·rw[qWA hn,e2 hn,e4,qBA e5,qNR (by decide),e3];rfl
theorem qXaf (v:Nat) (s:qBs) (h:v / 10≠0):dd (v / 10)++UInt8.ofNat (48+v % 10)::s=dd v++s:=by
 rw[qIZ (n:=v) (by omega)];simp
theorem qHM {n:Int} (h:qWt n):qXJ n=some ((txt (n:Rat),()),()):=by
 have hn:-9223372036854775808<=n/\n<=9223372036854775807:=h
 have hl:(dd n.natAbs).length<=20:=qHF (by have h9:n.natAbs<=9223372036854775808:=(by omega);omega) (by decide)
 obtain ⟨r,hr,v,rfl⟩:=qVA (step:=qUH) (Q:=fun r=>∃ v,r=(Ex.exit 0,(n,dd n.natAbs,v,())))
  (fun k x=>∃ v s,x=(n,s,v,())/\(-9223372036854775808<=v/\v<=9223372036854775807)/\((s=[]/\v=n/\k=n.natAbs+1)\/(s≠[]/\k=v.natAbs/\(if v=0 then s else dd v.natAbs++s)=dd n.natAbs))) (by
   rintro k x ⟨v,s,rfl,hv,hI⟩
   obtain ⟨h1,h2⟩:=tdm v
   by_cases hgo:v≠0\/s=[]
   ·have hs:s.length<=1000:=by
     rcases hI with ⟨rfl,_⟩ | ⟨_,_,hc⟩
     ·simp
     ·have:=congrArg List.length hc
      split at this<;>(try rw[qZ6] at this)<;>omega
    refine .inr ⟨v.natAbs / 10,_,qFad n v s hv hs hgo,?_,v.tdiv 10,_,rfl,?_,.inr ⟨by simp,?_,?_⟩⟩
    ·rcases hI with ⟨_,e,rfl⟩ | ⟨hne,rfl,_⟩
     ·rw[e];omega
     ·rcases hgo with hgo | hgo
      ·omega
      ·exact absurd hgo hne
    ·rw[h2];split<;>omega
    ·rw[h2];split<;>omega
    ·have hz:(v.tdiv 10=0) ↔ v.natAbs / 10=0:=by rw[h2];split<;>omega
     have ha:(v.tdiv 10).natAbs=v.natAbs / 10:=by rw[h2];split<;>omega
     have key:(if v.tdiv 10=0 then UInt8.ofNat (48+v.natAbs % 10)::s else dd (v.tdiv 10).natAbs++UInt8.ofNat (48+v.natAbs % 10)::s)=dd v.natAbs++s:=by
      by_cases hq:v.natAbs / 10=0
      ·rw[if_pos (hz.2 hq),qWK (n:=v.natAbs) (by omega),show v.natAbs % 10=v.natAbs by omega];rfl
      ·rw[if_neg (fun e=>hq (hz.1 e)),ha,qXaf _ _ hq]
     rw[key]
     rcases hI with ⟨rfl,rfl,_⟩ | ⟨hne,_,hc⟩
     ·simp
     ·rcases hgo with hgo | hgo
      ·rw[if_neg hgo] at hc;exact hc
      ·exact absurd hgo hne
   ·have hv0:v=0:=Classical.byContradiction fun e=>hgo (.inl e)
    have hs0:s≠[]:=fun e=>hgo (.inr e)
    rcases hI with ⟨e,_⟩ | ⟨_,_,hc⟩
    ·exact absurd e hs0
    ·rw[if_pos hv0] at hc
     subst hv0
     refine .inl ⟨_,?_,?_,0,rfl⟩
     ·simp only[qUH]
      rw[qVG rfl,qPB hs0,qNE,hc]
     ·simp) _ (n,[],n,()) ⟨n,[],rfl,hn,.inl ⟨rfl,rfl,rfl⟩⟩
 unfold qXJ
 rw[hr,qAA]
 simp only
 rw[qPI,qWB,qRh]
 by_cases h0:n < 0
 ·rw[qKA h0,if_pos h0,qBA (by rw[qQI];simp;omega)]
 ·rw[qWA h0,if_neg h0];rfl
theorem qVv (v:Int) {n:Int} (h:0 < n/\n<=9223372036854775807):∃ r,qPw v n=some ((r,()),())/\0<=r/\r < n:=by
 have hu:=qRs v
 unfold qPw
 rw[wu64 (x:=n) (by omega),qNR (by omega),tm hu.1]
 have h1:=Int.emod_nonneg (qU v) (show n≠0 by omega)
 have h2:=Int.emod_lt_of_pos (qU v) h.1
 exact ⟨_,by rw[w64 (by omega)],h1,h2⟩
def CI (c:List Int×Int):Prop:=0<=c.2/\c.2<=c.1.length/\c.1.length<=400
theorem qOl (l:List Int):∃ c,qEt l=some ((c,()),())/\CI c:=by
 unfold qEt
 have h:qAy (l.length:Int) 400=((min l.length 400:Nat):Int):=by rw[qGx];split<;>omega
 rw[h,qJA,qBA (by omega),qBA (by omega)]
 exact ⟨_,rfl,by refine ⟨by simp,by simp,?_⟩;simp;omega⟩
theorem qON {c:List Int×Int} (hc:CI c) {n:Int} (h:0 < n/\n<=9223372036854775807):∃ r c',qRA c n=some ((r,()),(c',()))/\CI c'/\0<=r/\r < n:=by
 obtain ⟨h1,h2,h3⟩:=hc
 unfold qRA
 by_cases hd:c.2>=(c.1.length:Int)
 ·rw[qKA hd];exact ⟨_,_,rfl,⟨h1,h2,h3⟩,by omega,by omega⟩
 ·have hw:qI (c.2+1)=c.2+1:=w64 (by omega)
  have hw2:qI (c.2+1 - 1)=c.2:=by rw[w64 (by omega)];omega
  rw[qWA hd,hw,hw2,qJA,qBA h1,qBA (by omega)]
  obtain ⟨r,hr,r1,r2⟩:=qVv (c.1.getD c.2.toNat 0) h
  rw[hr,qAA]
  exact ⟨r,(c.1,c.2+1),rfl,⟨by simp only;omega,by simp only;omega,h3⟩,r1,r2⟩
theorem qJe {n:Int} (h:n.natAbs < 100000000000000000000):D (n:Rat)<=21:=by
 rw[qAah];have:=qHF (n:=n.natAbs) (k:=20) (by omega) (by decide);omega
theorem qDf {c:List Int×Int} (hc:CI c):∃ (z:Int) (c':List Int×Int),qAB c=some ((txt (z:Rat),()),(c',()))/\CI c'/\D (z:Rat)<=50:=by
 unfold qAB
 obtain ⟨r1,c1,e1,hc1,a1,b1⟩:=qON hc (n:=8) (by omega)
 have e1':qRA (c.1,c.2) 8=some ((r1,()),(c1,())):=e1
 rw[e1',qAA]
 simp only
 by_cases h6:r1=6
 ·rw[qUE h6]
  obtain ⟨r2,c2,e2,hc2,a2,b2⟩:=qON hc1 (n:=2001) (by omega)
  have e2':qRA (c1.1,c1.2) 2001=some ((r2,()),(c2,())):=e2
  rw[e2',qAA]
  simp only
  rw[w64 (by omega),qHM (show qWt _ from ⟨by omega,by omega⟩),qAA]
  exact ⟨_,_,rfl,hc2,Nat.le_trans (qJe (by omega)) (by omega)⟩
 ·rw[qXB h6]
  by_cases h7:r1=7
  ·rw[qUE h7]
   obtain ⟨r2,c2,e2,hc2,a2,b2⟩:=qON hc1 (n:=1099511627776) (by omega)
   have e2':qRA (c1.1,c1.2) 1099511627776=some ((r2,()),(c2,())):=e2
   rw[e2',qAA]
   simp only
   rw[w64 (by omega),qHM (show qWt _ from ⟨by omega,by omega⟩),qAA]
   obtain ⟨r3,c3,e3,hc3,a3,b3⟩:=qON hc2 (n:=1099511627776) (by omega)
   have e3':qRA (c2.1,c2.2) 1099511627776=some ((r3,()),(c3,())):=e3
   rw[e3',qAA]
   simp only
   rw[qHM (show qWt _ from ⟨by omega,by omega⟩),qAA]
   simp only
   have d1:=qJe (n:=r2 - 549755813888) (by omega)
   have d2:=qJe (n:=r3) (by omega)
   have l1:=qUZ ((r2 - 549755813888:Int):Rat)
   have l2:=qUZ ((r3:Int):Rat)
   rw[qRr (by omega) (by omega),qXZ,qAA]
   have d3:=qBah ((r2 - 549755813888:Int):Rat) ((r3:Int):Rat)
   rw[<-Rat.intCast_mul] at d3 ⊢
   exact ⟨_,_,rfl,hc3,by omega⟩
  ·rw[qXB h7]
   obtain ⟨r2,c2,e2,hc2,a2,b2⟩:=qON hc1 (n:=9) (by omega)
   have e2':qRA (c1.1,c1.2) 9=some ((r2,()),(c2,())):=e2
   rw[e2',qAA]
   simp only
   rw[w64 (by omega),qHM (show qWt _ from ⟨by omega,by omega⟩),qAA]
   exact ⟨_,_,rfl,hc2,Nat.le_trans (qJe (by omega)) (by omega)⟩
end Go.AM.Num
end
section
set_option linter.unusedSimpArgs false
set_option linter.unusedVariables false
namespace Go.AM.Num
theorem t0:([48]:qBs)=txt ((0:Int):Rat):=txt_zero.symm
theorem t1:([49]:qBs)=txt ((1:Int):Rat):=by rw[qRh];simp[qGT]
end Go.AM.Num
end
section
namespace Go.AM.Num
theorem qPu {α:Type} {step:α->Option (Ex×α)} (St:Nat->α) (n:Nat) {E:Ex} (hE:E≠.normal) (stop:Nat->Option (Ex×α)) (hs:∀ k r,stop k=some r->r.1≠.normal)
 (h:∀ k,k < n->step (St k)=some ((stop k).getD (.normal,St (k+1)))) (he:step (St n)=some (E,St n)):∀ j k,k+j=n->qMA step (St k)=some (((List.range' k j).findSome? stop).getD (E,St n)):=by
 intro j
 induction j with
 |zero=>
  intro k hk;obtain rfl:k=n:=by omega
  exact qJK he hE
 |succ j ih=>
  intro k hk
  have h1:=h k (by omega)
  rw[List.range'_succ,List.findSome?_cons]
  cases hst:stop k with
  |none=>
   rw[hst] at h1
   rw[qOI h1,ih (k+1) (by omega)]
  |some r=>
   rw[hst] at h1
   exact qJK h1 (hs k r hst)
theorem qJU {α:Type} {step:α->Option (Ex×α)} (St bad:Nat->α) (n:Nat) {E B:Ex} (hE:E≠.normal) (hB:B≠.normal) (ok:Nat->Bool)
 (h:∀ k,k < n->step (St k)=some (if ok k then (.normal,St (k+1)) else (B,bad k))) (he:step (St n)=some (E,St n)) :
 ((List.range n).all ok=true/\qMA step (St 0)=some (E,St n))\/((List.range n).all ok=false/\∃ k,qMA step (St 0)=some (B,bad k)):=by
 have:=qPu St n hE (fun k=>if ok k then none else some (B,bad k)) (fun k r hr=>by
  split at hr
  ·cases hr
  ·cases hr;exact hB) (fun k hk=>by rw[h k hk];split<;>rfl) he n 0 (by omega)
 rw[<-List.range_eq_range'] at this
 cases hf:(List.range n).findSome? (fun k=>if ok k then none else some (B,bad k)) with
 |none=>
  rw[hf] at this
  refine .inl ⟨?_,this⟩
  rw[List.findSome?_eq_none_iff] at hf
  rw[List.all_eq_true]
  intro k hk
  have:=hf k hk
  split at this
  ·assumption
  ·cases this
 |some r=>
  rw[hf] at this
  obtain ⟨k,hk,hr⟩:=List.exists_of_findSome?_eq_some hf
  split at hr
  ·cases hr
  ·rename_i hn
   cases hr
   refine .inr ⟨?_,k,this⟩
   rw[List.all_eq_false]
   exact ⟨k,hk,hn⟩
structure Short (N:Nat) (v:Val):Prop where
 num:v.2.2.1.length<=N
 keys:∀ s∈v.2.2.2.1,s.length<=N
 vals:∀ s∈v.2.2.2.2,s.length<=N
 few:v.2.2.2.1.length<=1000000000/\v.2.2.2.2.length<=1000000000
theorem qGM {l:List qBs} {k N:Nat} (h:∀ s∈l,s.length<=N):(l.getD k []).length<=N:=by
 rw[qZ4]
 cases hk:l[k]? with
 |none=>simp
 |some s=>exact h s (qY14 hk)
noncomputable def okAt (num:qBs) (ks vs:List qBs) (i:Nat):Bool:=isI (ks.getD i [])&&isI (vs.getD i [])&&!(vs.getD i []==num)&&(decide (i=0)||decide (qKl (ks.getD (i - 1) []) (ks.getD i []) < 0))
noncomputable def qTW (num:qBs) (ks vs:List qBs):Bool:=(List.range ks.length).all (okAt num ks vs)
def qKV (v:Val):Bool:=decide (v.2.2.2.1.length=0)&&decide (v.2.2.2.2.length=0)
noncomputable def qDN (v:Val):Bool:=
 if v.1=1 then v.2.2.1==[]&&qKV v
 else if v.1=2 then !v.2.1&&isI v.2.2.1&&qKV v
 else if v.1=3 then !v.2.1&&(rd v.2.2.1).isSome&&qKV v
 else if v.1=4 then !v.2.1&&isI v.2.2.1&&decide (v.2.2.2.1.length=v.2.2.2.2.length)&&qTW v.2.2.1 v.2.2.2.1 v.2.2.2.2
 else false
theorem qTh (v:Val):qVQ v=some ((qKV v,()),()):=by
 unfold qVQ qKV
 by_cases h:v.2.2.2.1.length=0
 ·rw[qUE (by omega),qZ10 h,Bool.true_and]
  congr 3
  by_cases h2:v.2.2.2.2.length=0<;>simp[h2]
 ·rw[qXB (by omega),qZ9 h,Bool.false_and]
theorem qKe {N:Nat} (hN:N<=100000) {v:Val} (hv:Short N v):qQQ v=some ((decide (v.2.2.2.1.length=v.2.2.2.2.length)&&qTW v.2.2.1 v.2.2.2.1 v.2.2.2.2,()),()):=by
 obtain ⟨s,b,num,ks,vs⟩:=v
 have hk:=hv.keys;have hw:=hv.vals;have hf:=hv.few
 simp only at hk hw hf ⊢
 unfold qQQ
 simp only
 by_cases hl:ks.length=vs.length
 ·rw[qVG (by omega),qZ10 hl,Bool.true_and]
  have hik:∀ k,qOE (ks.getD k [])=some ((isI (ks.getD k []),()),()):=fun k=>qJG (by have:=qGM (k:=k) hk;omega)
  have hiv:∀ k,qOE (vs.getD k [])=some ((isI (vs.getD k []),()),()):=fun k=>qJG (by have:=qGM (k:=k) hw;omega)
  have hc:∀ k j,qMS (ks.getD k []) (ks.getD j [])=some ((qKl (ks.getD k []) (ks.getD j []),()),()):=fun k j=>qRj (by have:=qGM (k:=k) hk;omega) (by have:=qGM (k:=j) hk;omega)
  have:=qJU (step:=qRI) (fun k=>((s,b,num,ks,vs),false,ks,(ks.length:Int),(k:Int),())) (fun k=>((s,b,num,ks,vs),false,ks,(ks.length:Int),(k:Int),())) ks.length (E:=.exit 0) (B:=.ret) (by simp) (by simp) (okAt num ks vs) (fun k hk'=>by
   unfold qRI
   simp only
   rw[qKA (by omega),qJA,qBA (by omega),qBA (by omega),qZ0,hik,qAA,qJA,qBA (by omega),qBA (by omega),hiv,qAA,qJA,qBA (by omega),qBA (by omega)]
   unfold okAt
   cases isI (ks.getD k []) with
   |false=>rfl
   |true=>
    cases isI (vs.getD k []) with
    |false=>rfl
    |true=>
     cases (vs.getD k []==num) with
     |true=>rfl
     |false=>
      simp only[qY2,qY1,qNE,Bool.true_and]
      rw[w64 (x:=(k:Int)+1) (by omega)]
      by_cases h0:k=0
      ·subst h0
       rw[qWA (by omega)]
       rfl
      ·rw[qKA (by omega),w64 (by omega),qJA,qBA (by omega),qBA (by omega)]
       have e:((k:Int) - 1).toNat=k - 1:=by omega
       rw[e,hc,qAA,qZ9 h0,Bool.false_or]
       by_cases hs:qKl (ks.getD (k - 1) []) (ks.getD k []) < 0
       ·rw[qWA (by simp only;omega),if_pos (qZ10 hs)]
        rfl
       ·rw[qKA (by simp only;omega),if_neg (by rw[qZ9 hs];exact Bool.false_ne_true)]) (by
   unfold qRI
   simp only
   rw[qWA (by omega)])
  rcases this with ⟨h1,h2⟩ | ⟨h1,k,h2⟩
  ·rw[show ((0:Nat):Int)=0 from rfl] at h2
   rw[h2]
   simp only[qAA,qPI,qWB,qTW,h1]
  ·rw[show ((0:Nat):Int)=0 from rfl] at h2
   rw[h2]
   simp only[qAA,qBP,qJP,qWB,qNE,qTW,h1]
 ·rw[qRL (by omega),qZ9 hl,Bool.false_and]
theorem qXn {N:Nat} (hN:N<=100000) {v:Val} (hv:Short N v):qVP v=some ((qDN v,()),()):=by
 have h1:qOE v.2.2.1=some ((isI v.2.2.1,()),()):=qJG (by have:=hv.num;omega)
 have h2:qPM v.2.2.1=some (((rd v.2.2.1).isSome,()),()):=qDl (by have:=hv.num;omega)
 unfold qVP qDN
 rw[qTh,qKe hN hv,h1,h2]
 simp only[qAA]
 by_cases e1:v.1=1
 ·rw[qUE e1,if_pos e1];cases (v.2.2.1==([]:qBs))<;>rfl
 ·rw[qXB e1,if_neg e1]
  by_cases e2:v.1=2
  ·rw[qUE e2,if_pos e2];cases v.2.1<;>cases isI v.2.2.1<;>rfl
  ·rw[qXB e2,if_neg e2]
   by_cases e3:v.1=3
   ·rw[qUE e3,if_pos e3];cases v.2.1<;>cases (rd v.2.2.1).isSome<;>rfl
   ·rw[qXB e3,if_neg e3]
    by_cases e4:v.1=4
    ·rw[qUE e4,if_pos e4];cases v.2.1<;>cases isI v.2.2.1<;>simp[qWB,qNE]
    ·rw[qXB e4,if_neg e4]
theorem qHp {N:Nat} (hN:N<=100000) {v:Val} (hv:Short N v) (hl:v.2.2.2.1.length=v.2.2.2.2.length) :
 (qTW v.2.2.1 v.2.2.2.1 v.2.2.2.2=true/\qMA qKB (v,false,0,())=some (.exit 1,v,false,(v.2.2.2.1.length:Int),()))\/(qTW v.2.2.1 v.2.2.2.1 v.2.2.2.2=false/\∃ k:Nat,qMA qKB (v,false,0,())=some (.ret,v,false,(k:Int),())):=by
 obtain ⟨s,b,num,ks,vs⟩:=v
 have hk:=hv.keys;have hw:=hv.vals;have hf:=hv.few
 simp only at hk hw hf hl ⊢
 have hik:∀ k,qQE (ks.getD k [])=some ((isI (ks.getD k []),()),()):=fun k=>qJF (by have:=qGM (k:=k) hk;omega)
 have hiv:∀ k,qQE (vs.getD k [])=some ((isI (vs.getD k []),()),()):=fun k=>qJF (by have:=qGM (k:=k) hw;omega)
 have hc:∀ k j,qSa (ks.getD k []) (ks.getD j [])=some ((qKl (ks.getD k []) (ks.getD j []),()),()):=fun k j=>qGf (by have:=qGM (k:=k) hk;omega) (by have:=qGM (k:=j) hk;omega)
 exact qJU (step:=qKB) (fun k=>((s,b,num,ks,vs),false,(k:Int),())) (fun k=>((s,b,num,ks,vs),false,(k:Int),())) ks.length (E:=.exit 1) (B:=.ret) (by simp) (by simp) (okAt num ks vs) (fun k hk'=>by
  unfold qKB
  simp only
  rw[qKA (by omega),qJA,qBA (by omega),qBA (by omega),qZ0,hik,qAA,qJA,qBA (by omega),qBA (by omega),hiv,qAA,qJA,qBA (by omega),qBA (by omega)]
  unfold okAt
  cases isI (ks.getD k []) with
  |false=>rfl
  |true=>
   cases isI (vs.getD k []) with
   |false=>rfl
   |true=>
    cases (vs.getD k []==num) with
    |true=>rfl
    |false=>
     simp only[qY2,qY1,qNE,Bool.true_and]
     rw[w64 (x:=(k:Int)+1) (by omega)]
     by_cases h0:k=0
     ·subst h0
      rw[qWA (by omega)]
      rfl
     ·rw[qKA (by omega),w64 (by omega),qJA,qBA (by omega),qBA (by omega),qJA,qBA (by omega),qBA (by omega)]
      have e:((k:Int) - 1).toNat=k - 1:=by omega
      rw[e,hc,qAA,qZ9 h0,Bool.false_or]
      by_cases hs:qKl (ks.getD (k - 1) []) (ks.getD k []) < 0
      ·rw[qWA (by simp only;omega),if_pos (qZ10 hs)]
       rfl
      ·rw[qKA (by simp only;omega),if_neg (by rw[qZ9 hs];exact Bool.false_ne_true)]) (by
  unfold qKB
  simp only
  rw[qWA (by omega)])
end Go.AM.Num
end
section
namespace Go.AM.Num
theorem qJQ:qOV=some ((true,()),()):=by kernel_rfl
end Go.AM.Num
end
section
namespace Go.AM.Num
def ti (z:Int):qBs:=txt (z:Rat)
theorem qVz {a b:Int} (h:ti a=ti b):a=b:=by
 have:=txt_inj h
 exact_mod_cast this
abbrev KV:=List (Int×Int)
def lo (i:Int) (P:KV):KV:=P.filter fun p=>decide (p.1 < i)
def hi (i:Int) (P:KV):KV:=P.filter fun p=>decide (i < p.1)
def qKu (P:KV):Prop:=P.Pairwise fun a b=>a.1 < b.1
structure Canon (d:Int) (P:KV):Prop where
 incr:qKu P
 vals:∀ p∈P,p.2≠d
def atP (d:Int) (P:KV) (i:Int):Int:=((P.find? fun p=>decide (p.1=i)).map (·.2)).getD d
def stP (d:Int) (P:KV) (i n:Int):KV:=lo i P++(if n=d then [] else [(i,n)])++hi i P
theorem qSb {i:Int} {P:KV} {p:Int×Int}:p∈lo i P ↔ p∈P/\p.1 < i:=by simp[lo]
theorem qMf {i:Int} {P:KV} {p:Int×Int}:p∈hi i P ↔ p∈P/\i < p.1:=by simp[hi]
theorem qCaa (i:Int):∀ {P:KV},qKu P->∃ m,P=lo i P++m++hi i P/\(m=[]\/∃ w,m=[(i,w)]):=by
 intro P
 induction P with
 |nil=>intro _;exact ⟨[],rfl,.inl rfl⟩
 |cons p P ih=>
  intro h
  obtain ⟨hp,hP⟩:=List.pairwise_cons.1 h
  obtain ⟨m,e,hm⟩:=ih hP
  by_cases h1:p.1 < i
  ·refine ⟨m,?_,hm⟩
   have a1:lo i (p::P)=p::lo i P:=by simp[lo,h1]
   have a2:hi i (p::P)=hi i P:=by simp[hi,show ¬ i < p.1 by omega]
   rw[a1,a2,qY5,qY5,<-e]
  ·have e1:lo i P=[]:=List.filter_eq_nil_iff.2 fun q hq=>by have:=hp q hq;simp;omega
   have e2:hi i P=P:=List.filter_eq_self.2 fun q hq=>by have:=hp q hq;simp;omega
   have a1:lo i (p::P)=[]:=by simp[lo,h1];intro a b hab;have:=hp _ hab;simp at this;omega
   by_cases h2:p.1=i
   ·refine ⟨[p],?_,.inr ⟨p.2,by rw[<-h2]⟩⟩
    have a2:hi i (p::P)=P:=by rw[<-e2];simp[hi,show ¬ i < p.1 by omega]
    rw[a1,a2];rfl
   ·refine ⟨[],?_,.inl rfl⟩
    have a2:hi i (p::P)=p::P:=by
     have:hi i (p::P)=p::hi i P:=by simp[hi,show i < p.1 by omega]
     rw[this,e2]
    rw[a1,a2];rfl
theorem qNr {d i:Int} {P:KV} (h:∀ p∈P,p.1≠i):atP d P i=d:=by
 unfold atP
 rw[List.find?_eq_none.2 (fun p hp=>by simp[h p hp])]
 rfl
theorem qOq {d i:Int} {P Q:KV} (h:∀ p∈P,p.1≠i):atP d (P++Q) i=atP d Q i:=by
 unfold atP
 rw[List.find?_append,List.find?_eq_none.2 (fun p hp=>by simp[h p hp])]
 rfl
theorem qAu {d i w:Int} {Q:KV}:atP d ((i,w)::Q) i=w:=by simp[atP]
theorem qCr {d i:Int} {L m H:KV} (hL:∀ p∈L,p.1 < i) (hH:∀ p∈H,i < p.1) (hm:m=[]\/∃ w,m=[(i,w)]):atP d (L++m++H) i=(m.head?.map (·.2)).getD d:=by
 rw[qZ1,qOq (fun p hp=>by have:=hL p hp;omega)]
 rcases hm with rfl | ⟨w,rfl⟩
 ·exact qNr fun p hp=>by have:=hH p hp;omega
 ·exact qAu
theorem qVg {d:Int} {P:KV} (h:Canon d P) (i n:Int):Canon d (stP d P i n):=by
 refine ⟨?_,?_⟩
 ·unfold qKu stP
  rw[List.pairwise_append,List.pairwise_append]
  refine ⟨⟨List.Pairwise.filter _ h.incr,by split<;>simp,fun a ha b hb=>?_⟩,List.Pairwise.filter _ h.incr,fun a ha b hb=>?_⟩
  ·have:=(qSb.1 ha).2
   split at hb
   ·simp at hb
   ·simp at hb;subst hb;exact this
  ·have hb':=(qMf.1 hb).2
   rcases List.mem_append.1 ha with ha | ha
   ·have:=(qSb.1 ha).2;omega
   ·split at ha
    ·simp at ha
    ·simp at ha;subst ha;exact hb'
 ·intro p hp
  unfold stP at hp
  rcases List.mem_append.1 hp with hp | hp
  ·rcases List.mem_append.1 hp with hp | hp
   ·exact h.vals p (qSb.1 hp).1
   ·split at hp
    ·simp at hp
    ·simp at hp;subst hp;assumption
  ·exact h.vals p (qMf.1 hp).1
end Go.AM.Num
end
section
namespace Go.AM.Num
def ks (P:KV):List qBs:=P.map fun p=>ti p.1
def vs (P:KV):List qBs:=P.map fun p=>ti p.2
abbrev qKF (d:Int) (P:KV):Val:=(4,false,ti d,ks P,vs P)
theorem qND (P:KV):(ks P).length=P.length:=by simp[ks]
theorem qAI (P:KV):(vs P).length=P.length:=by simp[vs]
theorem qAP {P:KV} {k:Nat} (h:k < P.length):(ks P).getD k []=ti P[k].1:=by simp[ks,qZ4,h]
theorem qGW {P:KV} {k:Nat} (h:k < P.length):(vs P).getD k []=ti P[k].2:=by simp[vs,qZ4,h]
theorem qNe (a b:Int):qKl (ti a) (ti b)=(a - b).sign:=by
 unfold qKl ti
 rw[qPO,qPO]
 simp only
 rw[<-Rat.intCast_sub,Rat.num_intCast]
theorem qMs {x:Int}:x.sign < 0 ↔ x < 0:=by
 rcases Int.lt_trichotomy x 0 with h | h | h
 ·rw[Int.sign_eq_neg_one_of_neg h];omega
 ·subst h;simp
 ·rw[Int.sign_eq_one_of_pos h];omega
theorem qLae {x:Int}:(x.sign==0)=decide (x=0):=by
 rcases Int.lt_trichotomy x 0 with h | h | h
 ·rw[Int.sign_eq_neg_one_of_neg h,qZ9 (by omega)];rfl
 ·subst h;rfl
 ·rw[Int.sign_eq_one_of_pos h,qZ9 (by omega)];rfl
theorem qGU (a:Int):isI (ti a)=true:=qBr a
theorem qTX {s:qBs} (h:isI s=true):∃ z,s=ti z:=by
 obtain ⟨z,h1,_⟩:=qVd h
 exact ⟨z,h1⟩
theorem qMz:∀ {l:List qBs},(∀ s∈l,isI s=true)->∃ zs:List Int,l=zs.map ti:=by
 intro l
 induction l with
 |nil=>intro _;exact ⟨[],rfl⟩
 |cons s l ih=>
  intro h
  obtain ⟨z,hz⟩:=qTX (h s (by simp))
  obtain ⟨zs,hzs⟩:=ih fun x hx=>h x (qY13 _ hx)
  exact ⟨z::zs,by rw[hz,hzs];rfl⟩
theorem qSab {P:KV} (h:∀ i (hi:i < P.length),i=0\/(P[i - 1]'(by omega)).1 < P[i].1):qKu P:=by
 unfold qKu
 rw[List.pairwise_iff_getElem]
 intro i j hi hj hij
 induction j with
 |zero=>omega
 |succ j ih=>
  have h1:P[j].1 < P[j+1].1:=by
   rcases h (j+1) hj with h | h
   ·omega
   ·exact h
  by_cases e:i=j
  ·subst e;exact h1
  ·have:=ih (by omega) (by omega);omega
theorem qOX {v:Val} (h:qDN v=true) (h4:v.1=4):∃ d P,v=qKF d P/\Canon d P:=by
 obtain ⟨s,b,num,k,w⟩:=v
 simp only at h4
 subst h4
 unfold qDN at h
 simp only[show ¬ (4:Int)=1 by omega,show ¬ (4:Int)=2 by omega,show ¬ (4:Int)=3 by omega,if_false,if_true,qY0,Bool.not_eq_true',decide_eq_true_eq,qTW,List.all_eq_true,List.mem_range,okAt,Bool.or_eq_true,beq_eq_false_iff_ne] at h
 obtain ⟨⟨⟨hb,hn⟩,hl⟩,he⟩:=h
 subst hb
 obtain ⟨d,rfl⟩:=qTX hn
 have hg:∀ (l:List qBs),(∀ i,i < l.length->isI (l.getD i [])=true)->∀ s∈l,isI s=true:=by
  intro l hl s hs
  obtain ⟨i,hi,rfl⟩:=List.getElem_of_mem hs
  have:=hl i hi
  simpa [qZ4,hi] using this
 obtain ⟨zs,rfl⟩:=qMz (hg k fun i hi=>(he i hi).1.1.1)
 obtain ⟨ws,rfl⟩:=qMz (hg w fun i hi=>(he i (by omega)).1.1.2)
 simp only[List.length_map] at hl he
 have e1:ks (zs.zip ws)=zs.map ti:=by
  have:(zs.zip ws).map (·.1)=zs:=List.map_fst_zip (by omega)
  conv=>rhs;rw[<-this,List.map_map]
  rfl
 have e2:vs (zs.zip ws)=ws.map ti:=by
  have:(zs.zip ws).map (·.2)=ws:=List.map_snd_zip (by omega)
  conv=>rhs;rw[<-this,List.map_map]
  rfl
 refine ⟨d,zs.zip ws,by unfold qKF;rw[e1,e2],qSab fun i hi=>?_,fun p hp=>?_⟩
 ·have hi':i < zs.length:=by simp at hi;omega
  rcases (he i hi').2 with h0 | h1
  ·exact .inl h0
  ·by_cases h0:i=0
   ·exact .inl h0
   ·refine .inr ?_
    rw[<-e1,qAP (by simp;omega),qAP hi,qNe] at h1
    have:=qMs.1 h1
    omega
 ·obtain ⟨i,hi,rfl⟩:=List.getElem_of_mem hp
  have hi':i < zs.length:=by simp at hi;omega
  have h1:=(he i hi').1.2
  rw[<-e2,qGW hi] at h1
  exact fun e=>h1 (congrArg ti e)
theorem qOU {d:Int} {P:KV} (h:Canon d P):qDN (qKF d P)=true:=by
 unfold qDN qKF
 simp only[show ¬ (4:Int)=1 by omega,show ¬ (4:Int)=2 by omega,show ¬ (4:Int)=3 by omega,if_false,if_true,qY0,Bool.not_eq_true',decide_eq_true_eq,qTW,List.all_eq_true,List.mem_range,okAt,Bool.or_eq_true,beq_eq_false_iff_ne,qND,qAI,qGU,true_and]
 intro i hi
 rw[qAP hi,qGW hi]
 refine ⟨⟨⟨qGU _,qGU _⟩,fun e=>h.vals _ (List.getElem_mem hi) (qVz e)⟩,?_⟩
 by_cases h0:i=0
 ·exact .inl h0
 ·refine .inr ?_
  rw[qAP (by omega),qNe]
  have:=List.pairwise_iff_getElem.1 h.incr (i - 1) i (by omega) hi (by omega)
  rw[Int.sign_eq_neg_one_of_neg (by omega)]
  omega
theorem qEab {K:List qBs} {t:qBs} {c:Nat} (hl:K.length<=1000000000) (hc:∀ k,k < K.length->∃ s:Int,qMS (K.getD k []) t=some ((s,()),())/\(s < 0 ↔ k < c)) :
 ∀ n lo hi:Nat,hi - lo<=n->lo<=c->c<=hi->hi<=K.length->qMA qCA (K,t,(),(K.length:Int),(lo:Int),(hi:Int),())=some (.exit 0,(K,t,(),(K.length:Int),(c:Int),(c:Int),())):=by
 have done:∀ lo hi:Nat,lo<=c->c<=hi->¬ lo < hi->qMA qCA (K,t,(),(K.length:Int),(lo:Int),(hi:Int),())=some (.exit 0,(K,t,(),(K.length:Int),(c:Int),(c:Int),())):=by
  intro lo hi h1 h2 h3
  obtain rfl:lo=c:=by omega
  obtain rfl:hi=lo:=by omega
  refine qJK ?_ (by simp)
  unfold qCA
  simp only
  rw[qWA (by omega)]
 intro n
 induction n with
 |zero=>intro lo hi h1 h2 h3 h4;exact done lo hi h2 h3 (by omega)
 |succ n ih=>
  intro lo hi h1 h2 h3 h4
  by_cases hlt:lo < hi
  ·have hE:qI ((qU (qI ((lo:Int)+(hi:Int)))).fdiv (2 ^ min (1:Int).toNat IntKind.u64.bits))=(((lo+hi) / 2:Nat):Int):=by
    have e2:(2:Int) ^ min (1:Int).toNat IntKind.u64.bits=2:=by decide
    rw[e2,w64 (x:=(lo:Int)+hi) (by omega),wu64 (by omega),Int.fdiv_eq_ediv_of_nonneg _ (by omega),w64 (by omega)]
    omega
   obtain ⟨s,hs,hsc⟩:=hc ((lo+hi) / 2) (by omega)
   have step:qCA (K,t,(),(K.length:Int),(lo:Int),(hi:Int),())=if (lo+hi) / 2 < c then some (.normal,(K,t,(),(K.length:Int),(((lo+hi) / 2+1:Nat):Int),(hi:Int),())) else some (.normal,(K,t,(),(K.length:Int),(lo:Int),(((lo+hi) / 2:Nat):Int),())):=by
    unfold qCA
    simp only
    rw[qKA (by omega),qBA (by omega),hE,qJA,qBA (by omega),qBA (by omega),qZ0,hs,qAA]
    simp only
    by_cases hm:(lo+hi) / 2 < c
    ·rw[qKA (hsc.2 hm),if_pos hm,w64 (by omega)];rfl
    ·rw[qWA (fun h=>hm (hsc.1 h)),if_neg hm]
   by_cases hm:(lo+hi) / 2 < c
   ·rw[if_pos hm] at step
    rw[qOI step]
    exact ih _ _ (by omega) (by omega) h3 h4
   ·rw[if_neg hm] at step
    rw[qOI step]
    exact ih _ _ (by omega) h2 (by omega) (by omega)
  ·exact done lo hi h2 h3 hlt
theorem qPag {K:List qBs} {t:qBs} {c:Nat} {f:Bool} (hl:K.length<=1000000000) (hcl:c<=K.length) (hc:∀ k,k < K.length->∃ s:Int,qMS (K.getD k []) t=some ((s,()),())/\(s < 0 ↔ k < c))
 (hf:c < K.length->∃ s:Int,qMS (K.getD c []) t=some ((s,()),())/\(s==0)=f) (hn:¬ c < K.length->f=false) :
 qHA K t ()=some (((c:Int),f,()),()):=by
 unfold qHA
 have:=qEab hl hc K.length 0 K.length (by omega) (by omega) hcl (Nat.le_refl _)
 rw[show ((0:Nat):Int)=0 from rfl] at this
 rw[this,qAA]
 simp only[qPI,qWB]
 by_cases h:c < K.length
 ·obtain ⟨s,h1,h2⟩:=hf h
  rw[qKA (by omega),qJA,qBA (by omega),qBA (by omega),qZ0,h1,qAA,h2]
 ·rw[qWA (by omega),hn h]
end Go.AM.Num
end
section
namespace Go.AM.Num
structure Sm (N:Nat) (d:Int) (P:KV):Prop where
 num:(ti d).length<=N
 els:∀ p∈P,(ti p.1).length<=N/\(ti p.2).length<=N
 few:P.length<=1000000000
theorem Sm.short {N:Nat} {d:Int} {P:KV} (h:Sm N d P):Short N (qKF d P):=
 ⟨h.num,fun s hs=>by obtain ⟨p,hp,rfl⟩:=List.mem_map.1 hs;exact (h.els p hp).1,fun s hs=>by obtain ⟨p,hp,rfl⟩:=List.mem_map.1 hs;exact (h.els p hp).2,by simp only[qKF];rw[qND,qAI];exact ⟨h.few,h.few⟩⟩
theorem qNq {N:Nat} {d:Int} {P:KV} (h:Short N (qKF d P)):Sm N d P:=by
 refine ⟨h.num,fun p hp=>⟨h.keys _ (List.mem_map_of_mem hp),h.vals _ (List.mem_map_of_mem hp)⟩,?_⟩
 have:=h.few.1
 simp only[qKF] at this
 rwa [qND] at this
theorem qKae {a b:Int} (ha:(ti a).length<=2000000) (hb:(ti b).length<=2000000):qMS (ti a) (ti b)=some (((a - b).sign,()),()):=by rw[qRj ha hb,qNe]
theorem qPh {a b:Int} (ha:(ti a).length<=200000) (hb:(ti b).length<=200000):qSa (ti a) (ti b)=some (((a - b).sign,()),()):=by rw[qGf ha hb,qNe]
theorem qMR (a b:Int):(ti a==ti b)=decide (a=b):=by
 by_cases h:a=b
 ·subst h;simp
 ·rw[qZ9 h,beq_eq_false_iff_ne];exact fun e=>h (qVz e)
structure Parts (i:Int) (L m H:KV):Prop where
 lo:∀ p∈L,p.1 < i
 mid:m=[]\/∃ w,m=[(i,w)]
 hi:∀ p∈H,i < p.1
theorem qDe {P:KV} (h:qKu P) (i:Int):∃ m,P=lo i P++m++hi i P/\Parts i (lo i P) m (hi i P):=by
 obtain ⟨m,e,hm⟩:=qCaa i h
 exact ⟨m,e,fun p hp=>(qSb.1 hp).2,hm,fun p hp=>(qMf.1 hp).2⟩
theorem Parts.lt {i:Int} {L m H:KV} (h:Parts i L m H) {k:Nat} (hk:k < (L++m++H).length):(L++m++H)[k].1 < i ↔ k < L.length:=by
 have e:L++m++H=L++(m++H):=qZ1 ..
 simp only[e] at hk ⊢
 by_cases hl:k < L.length
 ·rw[List.getElem_append_left hl]
  exact ⟨fun _=>hl,fun _=>h.lo _ (List.getElem_mem hl)⟩
 ·rw[List.getElem_append_right (by omega)]
  refine ⟨fun hlt=>?_,fun h=>absurd h hl⟩
  have hm:=List.getElem_mem (l:=m++H) (n:=k - L.length) (by simp at hk ⊢;omega)
  rcases List.mem_append.1 hm with hm | hm
  ·rcases h.mid with rfl | ⟨w,rfl⟩
   ·cases hm
   ·have:=congrArg Prod.fst (List.mem_singleton.1 hm);simp only at this;omega
  ·have:=h.hi _ hm;omega
theorem Parts.eq {i:Int} {L m H:KV} (h:Parts i L m H) (hk:L.length < (L++m++H).length):(L++m++H)[L.length].1=i ↔ m≠[]:=by
 have e:L++m++H=L++(m++H):=qZ1 ..
 simp only[e] at hk ⊢
 rw[List.getElem_append_right (by omega)]
 simp only[Nat.sub_self]
 rcases h.mid with rfl | ⟨w,rfl⟩
 ·simp only[qY15,ne_eq,not_true_eq_false,iff_false]
  have:=h.hi _ (List.getElem_mem (l:=H) (n:=0) (by simp at hk;omega))
  omega
 ·simp
theorem qGl {N:Nat} (hN:N<=100000) {d i:Int} {L m H:KV} (h:Parts i L m H) (hs:Sm N d (L++m++H)) (hi:(ti i).length<=N):qXU (qKF d (L++m++H)) (ti i)=some (((L.length:Int),decide (m≠[]),()),()):=by
 have hc:∀ k (hk:k < (L++m++H).length),qMS ((ks (L++m++H)).getD k []) (ti i)=some ((((L++m++H)[k].1 - i).sign,()),()):=fun k hk=>by
  rw[qAP hk]
  exact qKae (by have:=(hs.els _ (List.getElem_mem hk)).1;omega) (by omega)
 have:=qPag (K:=ks (L++m++H)) (t:=ti i) (c:=L.length) (f:=decide (m≠[])) (by rw[qND];exact hs.few) (by rw[qND];simp)
  (fun k hk=>by
   rw[qND] at hk
   refine ⟨_,hc k hk,?_⟩
   rw[qMs,<-h.lt hk]
   omega)
  (fun hk=>by
   rw[qND] at hk
   refine ⟨_,hc _ hk,?_⟩
   rw[qLae]
   have:=h.eq hk
   by_cases hm:m=[]
   ·rw[qZ9 (fun e=>(this.1 (by omega)) hm),qZ9 (fun e=>e hm)]
   ·rw[qZ10 (by have:=this.2 hm;omega),qZ10 hm])
  (fun hk=>by
   rw[qND] at hk
   refine qZ9 fun hm=>hk ?_
   have:=List.length_pos_iff.2 hm
   simp;omega)
 unfold qXU
 show ((qHA (ks (L++m++H)) (ti i) ()).bind _)=_
 rw[this,qAA]
theorem qUg (P Q:KV):ks (P++Q)=ks P++ks Q:=by simp[ks]
theorem qBT (P Q:KV):vs (P++Q)=vs P++vs Q:=by simp[vs]
theorem qPaf (L H:KV) (i w:Int):(vs (L++[(i,w)]++H)).getD L.length []=ti w:=by
 rw[qGW (by simp)]
 simp
theorem qMae {N:Nat} (hN:N<=100000) {d i:Int} {P:KV} (hP:qKu P) (hs:Sm N d P) (hi:(ti i).length<=N):v_at (qKF d P) (ti i)=some ((ti (atP d P i),()),()):=by
 obtain ⟨m,e,hp⟩:=qDe hP i
 have hpl:qXU (qKF d P) (ti i)=some ((((lo i P).length:Int),decide (m≠[]),()),()):=by
  have:=qGl hN hp (e ▸ hs) hi
  rwa [<-e] at this
 have ha:atP d P i=(m.head?.map (·.2)).getD d:=by
  have:=qCr (d:=d) hp.lo hp.hi hp.mid
  rwa [<-e] at this
 unfold v_at
 rw[hpl,qAA,ha]
 rcases hp.mid with rfl | ⟨w,rfl⟩
 ·rfl
 ·have hlt:(lo i P).length < P.length:=by
   have:=congrArg List.length e
   simp at this;omega
  have hg:(vs P).getD (lo i P).length []=ti w:=(congrArg (fun Q=>(vs Q).getD (lo i P).length []) e).trans (qPaf ..)
  simp only
  rw[qKA (by simp),qJA,qBA (by omega),qBA (by rw[qAI];exact_mod_cast hlt),qZ0,hg]
  rfl
end Go.AM.Num
end
section
namespace Go.AM.Num
theorem qTy {v:Val} (h1:v.2.2.2.1.length<=1000000000) (h2:v.2.2.2.2.length<=1000000000):qKY v=some ((v,()),()):=by
 unfold qKY qLC
 rw[qBA (by rw[qKE];omega),qAA,qBA (by rw[qKE];omega),qAA]
theorem qDt {K:List qBs} {A B:List qBs} {x:qBs} (hK:K=A++x::B) (hl:K.length<=1000000000) :
 qIB K (A.length:Int) (qI ((A.length:Int)+1))=some (((A++B).length,()),(A++B++[[]],())):=by
 have hw:qI ((A.length:Int)+1)=((A.length+1:Nat):Int):=by
  have:A.length<=K.length:=by rw[hK];simp
  rw[w64 (by omega)];rfl
 have hlen:K.length=A.length+B.length+1:=by rw[hK];simp;omega
 unfold qIB
 rw[hw,qJA,qJA,qBA (by omega),qBA (by omega),qBA (by omega),qZ0,qZ0]
 have e1:K.take A.length=A:=by rw[hK];exact List.take_left
 have e2:K.drop (A.length+1)=B:=by rw[hK];simp
 rw[e1,e2,show A.length+1 - A.length=1 by omega,show K.length - 1=(A++B).length by simp;omega]
 rfl
theorem qUp {K A B:List qBs} {x:qBs} (hK:K=A++B) (hl:K.length<=1000000000) :
 qPA K (A.length:Int) ([x]:List qBs)=some ((A++[x]++B,()),()):=by
 have hlen:K.length=A.length+B.length:=by rw[hK];simp
 unfold qPA
 rw[qJA,qJA,qJA,qBA (by omega),qBA (by omega),qBA (by rw[qKE];simp;omega),qBA (by simp),qZ0]
 have e1:K.take A.length=A:=by rw[hK];exact List.take_left
 have e2:K.drop A.length=B:=by rw[hK];exact List.drop_left
 rw[e1,e2]
theorem qIj {N:Nat} (hN:N<=100000) {d i n:Int} {L m H:KV} (h:Parts i L m H) (hs:Sm N d (L++m++H)) (hi:(ti i).length<=N) :
 qCV (qKF d (L++m++H)) (ti i) (ti n)=some ((qKF d (L++(if n=d then [] else [(i,n)])++H),()),()):=by
 have hf:=hs.few
 have hp:=qGl hN h hs hi
 have hcl:=qTy (v:=qKF d (L++m++H)) (by simp only;rw[qND];exact hf) (by simp only;rw[qAI];exact hf)
 have hkl:=qND L;have hvl:=qAI L
 unfold qCV
 rw[hcl,qAA,hp,qAA]
 simp only[qMR]
 rcases h.mid with rfl | ⟨w,rfl⟩
 ·rw[qWA (by simp),qWA (by simp)]
  by_cases hn:n=d
  ·rw[qZ10 hn,if_pos hn];rfl
  ·rw[qZ9 hn,if_neg hn]
   have i1:=qUp (K:=ks (L++[]++H)) (A:=ks L) (B:=ks H) (x:=ti i) (by rw[<-qUg];simp) (by rw[qND];exact hf)
   have i2:=qUp (K:=vs (L++[]++H)) (A:=vs L) (B:=vs H) (x:=ti n) (by rw[<-qBT];simp) (by rw[qAI];exact hf)
   rw[hkl] at i1;rw[hvl] at i2
   simp only[qY1,qWB]
   rw[i1,qAA,i2,qAA]
   simp only[qKF,qUg,qBT]
   rfl
 ·rw[qKA (by simp)]
  by_cases hn:n=d
  ·have d1:=qDt (K:=ks (L++[(i,w)]++H)) (A:=ks L) (B:=ks H) (x:=ti i) (by rw[qUg,qUg];simp[ks]) (by rw[qND];exact hf)
   have d2:=qDt (K:=vs (L++[(i,w)]++H)) (A:=vs L) (B:=vs H) (x:=ti w) (by rw[qBT,qBT];simp[vs]) (by rw[qAI];exact hf)
   rw[hkl] at d1;rw[hvl] at d2
   rw[qKA hn,d1,qAA,d2,qAA,if_pos hn]
   simp only[List.take_left]
   rw[<-qUg,<-qBT,qY4]
  ·rw[qWA hn,qKA (by simp),if_neg hn]
   have hl:((L.length:Nat):Int) < ((vs (L++[(i,w)]++H)).length:Nat):=by rw[qAI];simp;omega
   rw[qJA,qBA (by omega),qBA hl,qBA (by rw[qZ0];omega),qZ0]
   have e1:ks (L++[(i,w)]++H)=ks (L++[(i,n)]++H):=by simp[ks]
   have e2:(vs (L++[(i,w)]++H)).set L.length (ti n)=vs (L++[(i,n)]++H):=by
    rw[qBT,qBT,qBT,qBT,qZ1,<-hvl,List.set_append_right _ _ (Nat.le_refl _),Nat.sub_self,qZ1]
    rfl
   rw[e1,e2]
theorem qLw {N:Nat} (hN:N<=100000) {d i n:Int} {P:KV} (hP:qKu P) (hs:Sm N d P) (hi:(ti i).length<=N):qCV (qKF d P) (ti i) (ti n)=some ((qKF d (stP d P i n),()),()):=by
 obtain ⟨m,e,hp⟩:=qDe hP i
 have:=qIj (n:=n) hN hp (e ▸ hs) hi
 rw[<-e] at this
 exact this
end Go.AM.Num
end
section
namespace Go.AM.Num
theorem qLH {N:Nat} (hN:N<=100000) {v:Val} (hv:Short N v):qSJ v=some ((qDN v,()),()):=by
 have h1:qQE v.2.2.1=some ((isI v.2.2.1,()),()):=qJF (by have:=hv.num;omega)
 have h2:qUM v.2.2.1=some (((rd v.2.2.1).isSome,()),()):=qFV (by have:=hv.num;omega)
 unfold qSJ qDN qKV
 rw[h1,h2]
 simp only[qAA]
 by_cases e4:v.1=4
 ·rw[qVG e4,if_neg (by omega),if_neg (by omega),if_neg (by omega),if_pos e4,qRL (by omega)]
  cases hb:v.2.1 with
  |true=>rfl
  |false=>
   simp only[qNE,qY1,Bool.true_and]
   rw[qXB (by omega),qXB (by omega),qXB (by omega),qUE e4]
   cases hi:isI v.2.2.1 with
   |false=>rfl
   |true=>
    simp only[qY2,qNE,Bool.true_and]
    by_cases hl:v.2.2.2.1.length=v.2.2.2.2.length
    ·rw[qVG (by omega),qZ10 hl,Bool.true_and]
     rcases qHp hN hv hl with ⟨a1,a2⟩ | ⟨a1,k,a2⟩
     ·rw[a1,a2];simp only[qAA,qPI,qWB]
     ·rw[a1,a2];simp only[qAA,qBP,qJP,qWB,qNE]
    ·rw[qRL (by omega),qZ9 hl,Bool.false_and]
 ·rw[qRL e4]
  by_cases k1:v.2.2.2.1.length=0
  ·rw[qWA (by omega),qZ10 k1,Bool.true_and]
   by_cases k2:v.2.2.2.2.length=0
   ·rw[qWA (by omega),qZ10 k2]
    simp only[Bool.and_true]
    by_cases e1:v.1=1
    ·rw[qVG e1,if_pos e1,qUE e1]
    ·rw[qRL e1,if_neg e1]
     by_cases e2:v.1=2
     ·rw[if_pos e2,qXB e1,qUE e2];cases v.2.1<;>rfl
     ·rw[if_neg e2]
      by_cases e3:v.1=3
      ·rw[if_pos e3,qXB e1,qXB e2,qUE e3];cases v.2.1<;>rfl
      ·rw[if_neg e3,if_neg e4,qXB e1,qXB e2,qXB e3,qXB e4];cases v.2.1<;>rfl
   ·rw[qKA (by omega),qZ9 k2]
    simp only[Bool.and_false,if_neg e4,ite_self]
  ·rw[qKA (by omega),qZ9 k1,Bool.false_and]
   simp only[Bool.and_false,if_neg e4,ite_self]
theorem qRx {d i:Int} {P:KV} (hf:P.length<=1000000000) (ret:qBs):∀ n k,k+n=P.length->(∀ j (hj:j < P.length),j < k->P[j].1≠i)->
 ∃ e x,qMA qGS (ti i,qKF d P,ret,(k:Int),())=some (e,x)/\((e=.exit 0/\x.2.1=qKF d P/\atP d P i=d)\/(e=.ret/\x.2.2.1=ti (atP d P i))):=by
 intro n
 induction n with
 |zero=>
  intro k hk hno
  refine ⟨_,_,qJK (e:=.exit 0) (by unfold qGS;simp only;rw[qWA (by rw[qND];omega)]) (by simp),.inl ⟨rfl,rfl,qNr fun p hp=>?_⟩⟩
  obtain ⟨j,hj,rfl⟩:=List.getElem_of_mem hp
  exact hno j hj (by omega)
 |succ n ih=>
  intro k hk hno
  have hkl:k < P.length:=by omega
  by_cases he:P[k].1=i
  ·refine ⟨.ret,_,qJK (by
    unfold qGS
    simp only
    rw[qKA (by rw[qND];omega),qJA,qBA (by omega),qBA (by rw[qND];omega),qZ0,qAP hkl,qMR,qZ10 he,qWB,qJA,qBA (by omega),qBA (by rw[qAI];omega)]) (by simp),.inr ⟨rfl,?_⟩⟩
   simp only
   rw[qGW hkl]
   congr 1
   have e:P=P.take k++P[k]::P.drop (k+1):=by rw[<-List.drop_eq_getElem_cons hkl,List.take_append_drop]
   have h2:atP d (P.take k++P[k]::P.drop (k+1)) i=P[k].2:=by
    rw[qOq (fun p hp=>by
     obtain ⟨j,hj,rfl⟩:=List.getElem_of_mem hp
     rw[List.getElem_take]
     exact hno j _ (by simp at hj;omega))]
    have:P[k]=(i,P[k].2):=Prod.ext he rfl
    rw[this];exact qAu
   rw[<-e] at h2
   exact h2.symm
  ·have step:qGS (ti i,qKF d P,ret,(k:Int),())=some (.normal,(ti i,qKF d P,ret,((k+1:Nat):Int),())):=by
    unfold qGS
    simp only
    rw[qKA (by rw[qND];omega),qJA,qBA (by omega),qBA (by rw[qND];omega),qZ0,qAP hkl,qMR,qZ9 he,qNE,w64 (by omega)]
    rfl
   rw[qOI step]
   exact ih (k+1) (by omega) fun j hj hlt=>by
    by_cases e:j=k
    ·subst e;exact he
    ·exact hno j hj (by omega)
end Go.AM.Num
end
section
namespace Go.AM.Num
section
variable {d i n:Int} {P:KV} {t6:Val}
theorem qES (Q:KV) (p:Int×Int):ks Q++[ti p.1]=ks (Q++[p]):=by simp[ks]
theorem qNS (Q:KV) (p:Int×Int):vs Q++[ti p.2]=vs (Q++[p]):=by simp[vs]
theorem qUaa {Q:KV} {k:Nat} (hf:P.length<=1000000000) (hQ:Q.length<=2000000000) (hk:k < P.length) (hne:P[k].1≠i) :
 qHB (ti i,ti n,qKF d P,t6,qKF d Q,true,(k:Int),())=some (.normal,(ti i,ti n,qKF d P,t6,qKF d (Q++[P[k]]),true,((k+1:Nat):Int),())):=by
 have a1:=qND P;have a2:=qAI P;have a3:=qND Q;have a4:=qAI Q
 unfold qHB
 simp only
 rw[qKA (by omega)]
 simp only[qY2,qNE]
 rw[qKA (by omega),qJA,qBA (by omega),qBA (by omega),qZ0,qAP hk,qGW hk,qMR,qZ9 hne]
 simp only[qY1,qWB]
 rw[qJA,qBA (by omega),qBA (by omega),qBA (by rw[qKE];simp only[qY11,List.length_nil];omega),qJA,qBA (by omega),qBA (by omega),qBA (by rw[qKE];simp only[qY11,List.length_nil];omega),w64 (by omega),qES,qNS]
 rfl
theorem qBaa {Q:KV} {b:Bool}:qHB (ti i,ti n,qKF d P,t6,qKF d Q,b,((P.length+1:Nat):Int),())=some (.exit 0,(ti i,ti n,qKF d P,t6,qKF d Q,b,((P.length+1:Nat):Int),())):=by
 have a1:=qND P
 unfold qHB
 simp only
 rw[qWA (by omega)]
theorem qNaa {Q:KV} (hf:P.length<=1000000000) :
 qHB (ti i,ti n,qKF d P,t6,qKF d Q,true,(P.length:Int),())=some (.normal,(ti i,ti n,qKF d P,t6,qKF d Q,true,((P.length+1:Nat):Int),())):=by
 have a1:=qND P
 unfold qHB
 simp only
 rw[qKA (by omega)]
 simp only[qY2,qNE]
 rw[qWA (by omega),w64 (by omega)]
 rfl
theorem qRu (hf:P.length<=1000000000):∀ (R pre Q:KV),P=pre++R->(∀ p∈R,p.1≠i)->Q.length+R.length<=2000000000->
 qMA qHB (ti i,ti n,qKF d P,t6,qKF d Q,true,(pre.length:Int),())=some (.exit 0,(ti i,ti n,qKF d P,t6,qKF d (Q++R),true,((P.length+1:Nat):Int),())):=by
 intro R
 induction R with
 |nil=>
  intro pre Q e _ _
  have:pre.length=P.length:=by rw[e];simp
  rw[this,qOI (qNaa hf),qJK qBaa (by simp),qY4]
 |cons p R ih=>
  intro pre Q e hne hQ
  have hk:pre.length < P.length:=by rw[e];simp
  have hp:P[pre.length]=p:=by simp[e]
  simp only[qY11] at hQ
  rw[qOI (qUaa hf (by omega) hk (by rw[hp];exact hne p (by simp))),hp]
  have:=ih (pre++[p]) (Q++[p]) (by rw[e];simp) (fun q hq=>hne q (qY13 _ hq)) (by simp;omega)
  rw[qZ1] at this
  simp only[qZ6,qY11,List.length_nil,qY5,qY15] at this
  exact this
theorem qZaf {N:Nat} (hN:N<=100000) {Q:KV} {k:Nat} (hs:Sm N d P) (hi:(ti i).length<=N) (hQ:Q.length<=2000000000) (hk:k < P.length) (hlt:P[k].1 < i) :
 qHB (ti i,ti n,qKF d P,t6,qKF d Q,false,(k:Int),())=some (.normal,(ti i,ti n,qKF d P,t6,qKF d (Q++[P[k]]),false,((k+1:Nat):Int),())):=by
 have a1:=qND P;have a2:=qAI P;have a3:=qND Q;have a4:=qAI Q;have hf:=hs.few
 have hc:qSa (ti P[k].1) (ti i)=some (((P[k].1 - i).sign,()),()):=qPh (by have:=(hs.els _ (List.getElem_mem hk)).1;omega) (by omega)
 have hsg:(P[k].1 - i).sign=-1:=Int.sign_eq_neg_one_of_neg (by omega)
 unfold qHB
 simp only
 rw[qKA (by omega)]
 simp only[qY1,qWB]
 rw[qXB (by omega),qJA,qBA (by omega),qBA (by omega),qZ0,qAP hk,qGW hk,hc,qAA,hsg]
 rw[qWA (by simp only;omega),qKA (by omega),qJA,qBA (by omega),qBA (by omega),qMR,qZ9 (by omega)]
 simp only[qY1,qWB]
 rw[qJA,qBA (by omega),qBA (by omega),qBA (by rw[qKE];simp only[qY11,List.length_nil];omega),qJA,qBA (by omega),qBA (by omega),qBA (by rw[qKE];simp only[qY11,List.length_nil];omega),w64 (by omega),qES,qNS]
 rfl
theorem qZac {N:Nat} (hN:N<=100000) (hs:Sm N d P) (hi:(ti i).length<=N):∀ (R pre Z:KV),P=pre++R++Z->(∀ p∈R,p.1 < i)->
 qMA qHB (ti i,ti n,qKF d P,t6,qKF d pre,false,(pre.length:Int),())=qMA qHB (ti i,ti n,qKF d P,t6,qKF d (pre++R),false,((pre++R).length:Int),()):=by
 intro R
 induction R with
 |nil=>intro pre Z _ _;rw[qY4]
 |cons p R ih=>
  intro pre Z e hlt
  have hk:pre.length < P.length:=by rw[e];simp
  have hp:P[pre.length]=p:=by simp[e]
  have hf:=hs.few
  rw[qOI (qZaf hN hs hi (by omega) hk (by rw[hp];exact hlt p (by simp))),hp]
  have:=ih (pre++[p]) Z (by rw[e];simp) (fun q hq=>hlt q (qY13 _ hq))
  rw[qZ1] at this
  simp only[qZ6,qY11,List.length_nil,qY5,qY15] at this ⊢
  exact this
end
end Go.AM.Num
end
section
namespace Go.AM.Num
def ins (d i n:Int):KV:=if n=d then [] else [(i,n)]
section
variable {d i n:Int} {P:KV} {t6:Val}
theorem qTo {L:KV} (hf:P.length<=1000000000) (hL:L.length=P.length) :
 qHB (ti i,ti n,qKF d P,t6,qKF d L,false,(P.length:Int),())=some (.normal,(ti i,ti n,qKF d P,t6,qKF d (L++ins d i n),true,((P.length+1:Nat):Int),())):=by
 have a1:=qND P;have a3:=qND L;have a4:=qAI L
 unfold qHB
 simp only
 rw[qKA (by omega)]
 simp only[qY1,qWB]
 rw[qUE (by omega),qMR]
 unfold ins
 by_cases hn:n=d
 ·rw[qZ10 hn,if_pos hn]
  simp only[qY2,qNE]
  rw[qWA (by omega),w64 (by omega),qY4]
  rfl
 ·rw[qZ9 hn,if_neg hn]
  simp only[qY1,qWB]
  rw[qBA (by rw[qKE];simp only[qY11,List.length_nil];omega),qBA (by rw[qKE];simp only[qY11,List.length_nil];omega),qWA (by omega),w64 (by omega),qES L (i,n),qNS L (i,n)]
  rfl
theorem qUo {N:Nat} (hN:N<=100000) (hs:Sm N d P) (hi:(ti i).length<=N) {L:KV} (hk:L.length < P.length) (hgt:i < P[L.length].1) :
 qHB (ti i,ti n,qKF d P,t6,qKF d L,false,(L.length:Int),())=some (.normal,(ti i,ti n,qKF d P,t6,qKF d (L++ins d i n++[P[L.length]]),true,((L.length+1:Nat):Int),())):=by
 have a1:=qND P;have a2:=qAI P;have a3:=qND L;have a4:=qAI L;have hf:=hs.few
 have hc:qSa (ti P[L.length].1) (ti i)=some (((P[L.length].1 - i).sign,()),()):=qPh (by have:=(hs.els _ (List.getElem_mem hk)).1;omega) (by omega)
 have hsg:(P[L.length].1 - i).sign=1:=Int.sign_eq_one_of_pos (by omega)
 unfold qHB
 simp only
 rw[qKA (by omega)]
 simp only[qY1,qWB]
 rw[qXB (by omega),qJA,qBA (by omega),qBA (by omega),qZ0,qAP hk,qGW hk,hc,qAA,hsg]
 rw[qKA (by simp only;omega),qMR,qMR]
 unfold ins
 by_cases hn:n=d
 ·rw[qZ10 hn,if_pos hn,qY4]
  simp only[qY2,qNE]
  rw[qKA (by omega),qJA,qBA (by omega),qBA (by omega),qZ9 (by omega)]
  simp only[qY1,qWB]
  rw[qJA,qBA (by omega),qBA (by omega),qBA (by rw[qKE];simp only[qY11,List.length_nil];omega),qJA,qBA (by omega),qBA (by omega),qBA (by rw[qKE];simp only[qY11,List.length_nil];omega),w64 (by omega),qES,qNS]
  rfl
 ·rw[qZ9 hn,if_neg hn]
  simp only[qY1,qWB]
  rw[qBA (by rw[qKE];simp only[qY11,List.length_nil];omega),qBA (by rw[qKE];simp only[qY11,List.length_nil];omega),qKA (by omega),qJA,qBA (by omega),qBA (by omega),qZ9 (by omega)]
  simp only[qY1,qWB]
  rw[qJA,qBA (by omega),qBA (by omega),qBA (by rw[qKE];simp only[qZ6,qY11,List.length_nil];omega),qJA,qBA (by omega),qBA (by omega),qBA (by rw[qKE];simp only[qZ6,qY11,List.length_nil];omega),w64 (by omega),qES L (i,n),qNS L (i,n),qES,qNS]
  rfl
theorem qPo {N:Nat} (hN:N<=100000) (hs:Sm N d P) (hi:(ti i).length<=N) {L:KV} (hk:L.length < P.length) (heq:P[L.length].1=i) :
 qHB (ti i,ti n,qKF d P,t6,qKF d L,false,(L.length:Int),())=some (.normal,(ti i,ti n,qKF d P,t6,qKF d (L++ins d i n),true,((L.length+1:Nat):Int),())):=by
 have a1:=qND P;have a2:=qAI P;have a3:=qND L;have a4:=qAI L;have hf:=hs.few
 have hc:qSa (ti P[L.length].1) (ti i)=some (((P[L.length].1 - i).sign,()),()):=qPh (by have:=(hs.els _ (List.getElem_mem hk)).1;omega) (by omega)
 have hsg:(P[L.length].1 - i).sign=0:=by rw[show P[L.length].1 - i=0 by omega];rfl
 unfold qHB
 simp only
 rw[qKA (by omega)]
 simp only[qY1,qWB]
 rw[qXB (by omega),qJA,qBA (by omega),qBA (by omega),qZ0,qAP hk,qGW hk,hc,qAA,hsg]
 rw[qKA (by simp only;omega),qMR,qMR]
 unfold ins
 by_cases hn:n=d
 ·rw[qZ10 hn,if_pos hn,qY4]
  simp only[qY2,qNE]
  rw[qKA (by omega),qJA,qBA (by omega),qBA (by omega),qZ10 heq]
  simp only[qY2,qNE]
  rw[w64 (by omega)]
  rfl
 ·rw[qZ9 hn,if_neg hn]
  simp only[qY1,qWB]
  rw[qBA (by rw[qKE];simp only[qY11,List.length_nil];omega),qBA (by rw[qKE];simp only[qY11,List.length_nil];omega),qKA (by omega),qJA,qBA (by omega),qBA (by omega),qZ10 heq]
  simp only[qY2,qNE]
  rw[w64 (by omega),qES L (i,n),qNS L (i,n)]
  rfl
theorem qAab {N:Nat} (hN:N<=100000) (hP:qKu P) (hs:Sm N d P) (hi:(ti i).length<=N) :
 qMA qHB (ti i,ti n,qKF d P,t6,qKF d [],false,0,())=some (.exit 0,(ti i,ti n,qKF d P,t6,qKF d (stP d P i n),true,((P.length+1:Nat):Int),())):=by
 obtain ⟨m,e,hp⟩:=qDe hP i
 have hf:=hs.few
 have hd:=qZac (n:=n) (t6:=t6) hN hs hi (lo i P) [] (m++Num.hi i P) (by rw[qY15,<-qZ1];exact e) hp.lo
 simp only[qY15,List.length_nil] at hd
 rw[show ((0:Nat):Int)=0 from rfl] at hd
 rw[hd]
 have hst:stP d P i n=lo i P++ins d i n++Num.hi i P:=rfl
 have hil:(ins d i n).length<=1:=by unfold ins;split<;>simp
 have hlen:=congrArg List.length e
 simp only[qZ6] at hlen
 rcases hp.mid with rfl | ⟨w,rfl⟩
 ·cases hH:Num.hi i P with
  |nil=>
   have hL:(lo i P).length=P.length:=by rw[hH] at hlen;simp at hlen;omega
   rw[hL,qOI (qTo hf hL),qJK qBaa (by simp),hst,hH,qY4]
  |cons p H'=>
   have hk:(lo i P).length < P.length:=by rw[hH] at hlen;simp at hlen;omega
   have hp0:P[(lo i P).length]=p:=by
    have:P=lo i P++p::H':=by rw[hH,qY4] at e;exact e
    have h2:P[(lo i P).length]?=some p:=(congrArg (fun Q:KV=>Q[(lo i P).length]?) this).trans (by simp)
    rw[qZ5 hk] at h2
    exact Option.some.inj h2
   have hmem:∀ q∈p::H',i < q.1:=fun q hq=>hp.hi q (by show q∈Num.hi i P;rw[hH];exact hq)
   have h1:=qUo (n:=n) (t6:=t6) hN hs hi hk (by rw[hp0];exact hmem p (by simp))
   rw[hp0] at h1
   have h2:=qRu (i:=i) (n:=n) (d:=d) (t6:=t6) hf H' (lo i P++[p]) (lo i P++ins d i n++[p]) (by rw[hH] at e;simpa using e) (fun q hq=>by have:=hmem q (qY13 _ hq);omega)
    (by rw[hH] at hlen;simp at hlen ⊢;omega)
   rw[qOI h1,hst,hH]
   simp only[qZ6,qY11,List.length_nil,qZ1,qY5,qY15] at h2 ⊢
   exact h2
 ·have hk:(lo i P).length < P.length:=by simp at hlen;omega
  have hp0:P[(lo i P).length].1=i:=by
   have h2:P[(lo i P).length]?=some (i,w):=(congrArg (fun Q:KV=>Q[(lo i P).length]?) e).trans (by simp)
   rw[qZ5 hk] at h2
   rw[Option.some.inj h2]
  have h1:=qPo (n:=n) (t6:=t6) hN hs hi hk hp0
  have h2:=qRu (i:=i) (n:=n) (d:=d) (t6:=t6) hf (Num.hi i P) (lo i P++[(i,w)]) (lo i P++ins d i n) e (fun q hq=>by have:=hp.hi q hq;omega)
   (by simp at hlen ⊢;omega)
  rw[qOI h1,hst]
  simp only[qZ6,qY11,List.length_nil] at h2 ⊢
  exact h2
end
end Go.AM.Num
end
section
namespace Go.AM.Num
theorem qGD {N:Nat} (hN:N<=100000) {v:Val} (hv:Short N v):qCa v=some ((decide (v.1=4)&&qDN v,()),()):=by
 unfold qCa
 by_cases h:v.1=4
 ·rw[qUE h,qXn hN hv,qAA,qZ10 h,Bool.true_and]
 ·rw[qXB h,qZ9 h,Bool.false_and]
theorem qLd {N:Nat} (hN:N<=100000) {d i n:Int} {P:KV} (hP:Canon d P) (hs:Sm N d P) (hi:(ti i).length<=N) (hn:(ti n).length<=N) :
 qMF (qKF d P) (ti i) (ti n)=some ((qKF d (stP d P i n),0,()),()):=by
 unfold qMF
 rw[qGD hN hs.short,qAA,qOU hP,qJG (by omega),qJG (by omega),qGU,qGU,qLw hN hP.incr hs hi]
 rfl
theorem qHZ {N:Nat} (hN:N<=100000) {d i n:Int} {P:KV} (hP:Canon d P) (hs:Sm N d P) (hi:(ti i).length<=N) (hn:(ti n).length<=N) :
 qCM (qKF d P) (ti i) (ti n)=some ((qKF d (stP d P i n),0,()),()):=by
 unfold qCM
 simp only
 rw[qVG (by omega),qLH hN hs.short,qAA,qOU hP,qJF (by omega),qJF (by omega),qGU,qGU]
 simp only[qY2,qNE,qAA]
 have:=qAab (n:=n) (t6:=((0:Int),false,([]:qBs),([]:List qBs),([]:List qBs))) hN hP.incr hs hi
 have e:(qKF d []:Val)=(4,false,ti d,([]:List qBs),([]:List qBs)):=rfl
 rw[e] at this
 rw[this,qAA]
 simp only[qPI,qWB]
theorem qLq {N:Nat} (hN:N<=100000) {d i:Int} {P:KV} (hP:Canon d P) (hs:Sm N d P) (hi:(ti i).length<=N) :
 qMv (qKF d P) (ti i)=some ((ti (atP d P i),()),()):=by
 unfold qMv
 rw[qGD hN hs.short,qAA,qOU hP,qJG (by omega),qGU,qMae hN hP.incr hs hi]
 rfl
theorem qPz {N:Nat} (hN:N<=100000) {d i:Int} {P:KV} (hP:Canon d P) (hs:Sm N d P) (hi:(ti i).length<=N) :
 qNv (qKF d P) (ti i)=some ((ti (atP d P i),()),()):=by
 unfold qNv
 simp only
 rw[qVG (by omega),qLH hN hs.short,qAA,qOU hP,qJF (by omega),qGU]
 simp only[qY2,qNE,qAA]
 obtain ⟨e,x,h1,h2⟩:=qRx (i:=i) (d:=d) hs.few ([]:qBs) P.length 0 (by omega) (fun j hj h=>by omega)
 rw[show ((0:Nat):Int)=0 from rfl] at h1
 rw[h1,qAA]
 rcases h2 with ⟨rfl,h3,h4⟩ | ⟨rfl,h3⟩
 ·simp only[qPI,qWB]
  rw[h3,h4]
 ·simp only[qBP,qJP,qWB,qNE]
  rw[h3]
theorem qKo {N:Nat} (hN:N<=100000) {v:Val} {i n:qBs} (hv:Short N v) (hi:i.length<=N) (hn:n.length<=N):∃ w e,qMF v i n=some ((w,e,()),())/\qCM v i n=some ((w,e,()),()):=by
 by_cases h4:v.1=4
 ·by_cases hval:qDN v=true
  ·by_cases h1:isI i=true
   ·by_cases h2:isI n=true
    ·obtain ⟨d,P,rfl,hc⟩:=qOX hval h4
     obtain ⟨i,rfl⟩:=qTX h1
     obtain ⟨n,rfl⟩:=qTX h2
     exact ⟨_,_,qLd hN hc (qNq hv) hi hn,qHZ hN hc (qNq hv) hi hn⟩
    ·refine ⟨(0,false,[],[],[]),1,?_,?_⟩
     ·unfold qMF;rw[qGD hN hv,qAA,qJG (by omega),qJG (by omega),qZ10 h4,hval,h1,eq_false_of_ne_true h2];rfl
     ·unfold qCM;rw[qVG h4,qLH hN hv,qAA,qJF (by omega),qJF (by omega),hval,h1,eq_false_of_ne_true h2];rfl
   ·refine ⟨(0,false,[],[],[]),1,?_,?_⟩
    ·unfold qMF;rw[qGD hN hv,qAA,qJG (by omega),qZ10 h4,hval,eq_false_of_ne_true h1];rfl
    ·unfold qCM;rw[qVG h4,qLH hN hv,qAA,qJF (by omega),hval,eq_false_of_ne_true h1];rfl
  ·refine ⟨(0,false,[],[],[]),1,?_,?_⟩
   ·unfold qMF;rw[qGD hN hv,qAA,qZ10 h4,eq_false_of_ne_true hval];rfl
   ·unfold qCM;rw[qVG h4,qLH hN hv,qAA,eq_false_of_ne_true hval];rfl
 ·refine ⟨(0,false,[],[],[]),1,?_,?_⟩
  ·unfold qMF;rw[qGD hN hv,qAA,qZ9 h4];rfl
  ·unfold qCM;rw[qRL h4]
theorem qHs {N:Nat} (hN:N<=100000) {v:Val} {i:qBs} (hv:Short N v) (hi:i.length<=N):∃ s,qMv v i=some ((s,()),())/\qNv v i=some ((s,()),()):=by
 by_cases h4:v.1=4
 ·by_cases hval:qDN v=true
  ·by_cases h1:isI i=true
   ·obtain ⟨d,P,rfl,hc⟩:=qOX hval h4
    obtain ⟨i,rfl⟩:=qTX h1
    exact ⟨_,qLq hN hc (qNq hv) hi,qPz hN hc (qNq hv) hi⟩
   ·refine ⟨[],?_,?_⟩
    ·unfold qMv;rw[qGD hN hv,qAA,qJG (by omega),qZ10 h4,hval,eq_false_of_ne_true h1];rfl
    ·unfold qNv;rw[qVG h4,qLH hN hv,qAA,qJF (by omega),hval,eq_false_of_ne_true h1];rfl
  ·refine ⟨[],?_,?_⟩
   ·unfold qMv;rw[qGD hN hv,qAA,qZ10 h4,eq_false_of_ne_true hval];rfl
   ·unfold qNv;rw[qVG h4,qLH hN hv,qAA,eq_false_of_ne_true hval];rfl
 ·refine ⟨[],?_,?_⟩
  ·unfold qMv;rw[qGD hN hv,qAA,qZ9 h4];rfl
  ·unfold qNv;rw[qRL h4]
theorem qLc {a b:List qBs} (ha:a.length<=2000000000):qDK a b=some ((decide (a=b),()),()):=by
 unfold qDK
 by_cases hl:a.length=b.length
 ·rw[qVG (by omega)]
  have:=qJU (step:=qFG) (fun k=>(a,b,false,(k:Int),())) (fun k=>(a,b,false,(k:Int),())) a.length (E:=.exit 0) (B:=.ret) (by simp) (by simp) (fun k=>a.getD k []==b.getD k []) (fun k hk=>by
   unfold qFG
   simp only
   rw[qKA (by omega),qJA,qBA (by omega),qBA (by omega),qJA,qBA (by omega),qBA (by omega),qZ0,w64 (by omega)]
   cases (a.getD k []==b.getD k [])<;>rfl) (by
   unfold qFG
   simp only
   rw[qWA (by omega)])
  rw[show ((0:Nat):Int)=0 from rfl] at this
  have heq:(List.range a.length).all (fun k=>a.getD k []==b.getD k [])=decide (a=b):=by
   rw[Bool.eq_iff_iff,List.all_eq_true,decide_eq_true_eq]
   constructor
   ·intro h
    refine List.ext_getElem hl fun k h1 h2=>?_
    have:=h k (List.mem_range.2 h1)
    simpa [qZ4,h1,h2] using this
   ·rintro rfl k _;simp
  rcases this with ⟨h1,h2⟩ | ⟨h1,k,h2⟩
  ·rw[h2,<-heq,h1];simp only[qAA,qPI,qWB]
  ·rw[h2,<-heq,h1];simp only[qAA,qBP,qJP,qWB,qNE]
 ·rw[qRL (by omega),qZ9 (fun e=>hl (by rw[e]))]
theorem qJb {a b:Val} (ha:a.2.2.2.1.length<=2000000000) (hb:a.2.2.2.2.length<=2000000000):qTJ a b=some ((decide (a=b),()),()):=by
 obtain ⟨s,t,u,k,w⟩:=a
 obtain ⟨s',t',u',k',w'⟩:=b
 unfold qTJ
 simp only at ha hb ⊢
 rw[qLc ha,qLc hb]
 simp only[qAA,Prod.mk.injEq]
 by_cases h1:s=s'
 ·rw[qUE h1]
  by_cases h2:t=t'
  ·rw[h2];simp only[beq_self_eq_true,qWB]
   by_cases h3:u=u'
   ·rw[h3];simp only[beq_self_eq_true,qWB]
    by_cases h4:k=k'
    ·rw[qZ10 h4];simp only[qWB];simp[h1,h4]
    ·rw[qZ9 h4];simp only[qNE];simp[h4]
   ·rw[show (u==u')=false from beq_eq_false_iff_ne.2 h3];simp[h3]
  ·rw[show (t==t')=false from beq_eq_false_iff_ne.2 h2];simp[h2]
 ·rw[qXB h1];simp[h1]
end Go.AM.Num
end
section
namespace Go.AM.Num
theorem qNc {d i n:Int} {P:KV} (h:qKu P):(stP d P i n).length<=P.length+1:=by
 obtain ⟨m,e,_⟩:=qCaa i h
 have:=congrArg List.length e
 unfold stP
 simp only[qZ6] at this ⊢
 split<;>simp<;>omega
theorem qBae {N:Nat} {d i n:Int} {P:KV} (hP:qKu P) (h:Sm N d P) (hi:(ti i).length<=N) (hn:(ti n).length<=N) (hl:P.length < 1000000000):Sm N d (stP d P i n):=by
 refine ⟨h.num,fun p hp=>?_,by have:=qNc (d:=d) (i:=i) (n:=n) hP;omega⟩
 unfold stP at hp
 rcases List.mem_append.1 hp with hp | hp
 ·rcases List.mem_append.1 hp with hp | hp
  ·exact h.els p (qSb.1 hp).1
  ·split at hp
   ·cases hp
   ·rw[List.mem_singleton.1 hp];exact ⟨hi,hn⟩
 ·exact h.els p (qMf.1 hp).1
theorem qDT {c:List Int×Int} (hc:CI c):∃ (z:Int) (c':List Int×Int),qAB c=some ((ti z,()),(c',()))/\CI c'/\(ti z).length<=52:=by
 obtain ⟨z,c',h1,h2,h3⟩:=qDf hc
 exact ⟨z,c',h1,h2,by have:=qUZ (z:Rat);unfold ti;omega⟩
theorem qBad {t4:Val}:∀ (n:Nat) {c:List Int×Int} {d:Int} {P:KV},CI c->Canon d P->Sm 52 d P->P.length+n<=60->
 ∃ c' P',qMA qBE (c,t4,qKF d P,(n:Int),())=some (.exit 1,(c',t4,qKF d P',0,()))/\CI c'/\Canon d P'/\Sm 52 d P'/\P'.length<=60:=by
 intro n
 induction n with
 |zero=>
  intro c d P hc hP hs hl
  exact ⟨c,P,qJK (by unfold qBE;simp only;rw[qWA (by omega)];rfl) (by simp),hc,hP,hs,by omega⟩
 |succ n ih=>
  intro c d P hc hP hs hl
  obtain ⟨i,c1,h1,hc1,hi⟩:=qDT hc
  obtain ⟨m,c2,h2,hc2,hm⟩:=qDT hc1
  have h3:=qHZ (N:=52) (by omega) hP hs hi hm
  have hlen:=qNc (d:=d) (i:=i) (n:=m) hP.incr
  obtain ⟨c',P',g1,g2,g3,g4,g5⟩:=ih hc2 (qVg hP i m) (qBae hP.incr hs hi hm (by omega)) (by omega)
  refine ⟨c',P',?_,g2,g3,g4,g5⟩
  rw[qOI (y:=(c2,t4,qKF d (stP d P i m),(n:Int),())) (by
   unfold qBE
   simp only
   rw[qKA (by omega),h1,qAA,h2,qAA,h3,qAA,w64 (by omega)]
   have e:((n+1:Nat):Int) - 1=(n:Int):=by omega
   rw[e])]
  exact g1
theorem qCh (d:Int):Canon d []:=⟨List.Pairwise.nil,fun _ hp=>absurd hp List.not_mem_nil⟩
theorem qRad {N:Nat} {d:Int} (h:(ti d).length<=N):Sm N d []:=⟨h,fun _ hp=>absurd hp List.not_mem_nil,Nat.zero_le _⟩
theorem qNo {c:List Int×Int} (hc:CI c):∃ d P c',qDI c 4=some ((qKF d P,()),(c',()))/\CI c'/\Canon d P/\Sm 52 d P/\P.length<=60:=by
 obtain ⟨d,c1,h1,hc1,hd⟩:=qDT hc
 obtain ⟨r,c2,h2,hc2,r0,r4⟩:=qON hc1 (n:=4) (by omega)
 obtain ⟨k,rfl⟩:∃ k:Nat,r=k:=⟨r.toNat,by omega⟩
 obtain ⟨c3,P,h3,hc3,hP,hs,hl⟩:=qBad (t4:=((0:Int),false,([]:qBs),([]:List qBs),([]:List qBs))) k hc2 (qCh d) (qRad hd) (by simp;omega)
 refine ⟨d,P,c3,?_,hc3,hP,hs,hl⟩
 have e:(qKF d []:Val)=(4,false,ti d,([]:List qBs),([]:List qBs)):=rfl
 rw[e] at h3
 unfold qDI
 rw[qXB (by omega),qUE rfl,h1,qAA,h2,qAA,h3,qAA]
 simp only[qPI,qWB]
theorem qGn {v:Val}:(∃ u,qJY v=some ((false,u),()))\/(qJY v=some ((true,()),())/\Short 50 v/\v.2.2.2.1.length<=12):=by
 unfold qJY
 by_cases a1:v.2.2.1.length > 50
 ·rw[qKA (by omega)];exact .inl ⟨(),rfl⟩
 ·rw[qWA (by omega)]
  by_cases a2:v.2.2.2.1.length > 12
  ·rw[qKA (by omega)];exact .inl ⟨(),rfl⟩
  ·rw[qWA (by omega)]
   by_cases a3:v.2.2.2.2.length > 12
   ·rw[qKA (by omega)];exact .inl ⟨(),rfl⟩
   ·rw[qWA (by omega)]
    have q1:=qJU (step:=qNN) (fun k=>(v,false,(k:Int),())) (fun k=>(v,false,(k:Int),())) v.2.2.2.1.length (E:=.exit 0) (B:=.ret) (by simp) (by simp) (fun k=>decide ((v.2.2.2.1.getD k []).length<=50)) (fun k hk=>by
     unfold qNN
     simp only
     rw[qKA (by omega),qJA,qBA (by omega),qBA (by omega),qZ0]
     by_cases hh:(v.2.2.2.1.getD k []).length<=50
     ·rw[qWA (by omega),if_pos (qZ10 hh),w64 (by omega)];rfl
     ·rw[qKA (by omega),if_neg (by simpa using hh)]) (by
     unfold qNN
     simp only
     rw[qWA (by omega)])
    have q2:=qJU (step:=qEN) (fun k=>(v,false,(k:Int),())) (fun k=>(v,false,(k:Int),())) v.2.2.2.2.length (E:=.exit 2) (B:=.ret) (by simp) (by simp) (fun k=>decide ((v.2.2.2.2.getD k []).length<=50)) (fun k hk=>by
     unfold qEN
     simp only
     rw[qKA (by omega),qJA,qBA (by omega),qBA (by omega),qZ0]
     by_cases hh:(v.2.2.2.2.getD k []).length<=50
     ·rw[qWA (by omega),if_pos (qZ10 hh),w64 (by omega)];rfl
     ·rw[qKA (by omega),if_neg (by simpa using hh)]) (by
     unfold qEN
     simp only
     rw[qWA (by omega)])
    rw[show ((0:Nat):Int)=0 from rfl] at q1 q2
    have all:∀ l:List qBs,(List.range l.length).all (fun k=>decide ((l.getD k []).length<=50))=true->∀ s∈l,s.length<=50:=by
     intro l hl s hs
     obtain ⟨k,hk,rfl⟩:=List.getElem_of_mem hs
     have:=List.all_eq_true.1 hl k (List.mem_range.2 hk)
     simpa [qZ4,hk] using this
    rcases q1 with ⟨b1,b2⟩ | ⟨b1,k,b2⟩
    ·rw[b2,qAA]
     simp only[qPI,qWB]
     rcases q2 with ⟨d1,d2⟩ | ⟨d1,k,d2⟩
     ·rw[d2,qAA]
      simp only[qPI,qWB]
      exact .inr ⟨trivial,⟨by omega,all _ b1,all _ d1,by omega,by omega⟩,by omega⟩
     ·rw[d2,qAA]
      simp only[qBP,qJP,qWB,qNE]
      exact .inl ⟨(),trivial⟩
    ·rw[b2,qAA]
     simp only[qBP,qJP,qWB,qNE]
     exact .inl ⟨(),trivial⟩
end Go.AM.Num
end
section
namespace Go.AM.Num
theorem qOr {N:Nat} (hN:N<=100000) {v w:Val} {i n:qBs} {e:Int} (hv:Short N v) (hi:i.length<=N) (hn:n.length<=N) (h:qMF v i n=some ((w,e,()),())):w.2.2.2.1.length<=2000000000/\w.2.2.2.2.length<=2000000000:=by
 have zero:qMF v i n=some (((0,false,[],[],[]),1,()),())->w.2.2.2.1.length<=2000000000/\w.2.2.2.2.length<=2000000000:=fun h2=>by
  rw[h] at h2
  cases h2
  exact ⟨by simp,by simp⟩
 by_cases h4:v.1=4
 ·by_cases hval:qDN v=true
  ·by_cases h1:isI i=true
   ·by_cases h2:isI n=true
    ·obtain ⟨d,P,rfl,hc⟩:=qOX hval h4
     obtain ⟨i,rfl⟩:=qTX h1
     obtain ⟨n,rfl⟩:=qTX h2
     have hs:=qNq hv
     rw[qLd hN hc hs hi hn] at h
     cases h
     have:=qNc (d:=d) (i:=i) (n:=n) hc.incr
     have:=hs.few
     exact ⟨by simp only;rw[qND];omega,by simp only;rw[qAI];omega⟩
    ·refine zero ?_
     unfold qMF;rw[qGD hN hv,qAA,qJG (by omega),qJG (by omega),qZ10 h4,hval,h1,eq_false_of_ne_true h2];rfl
   ·refine zero ?_
    unfold qMF;rw[qGD hN hv,qAA,qJG (by omega),qZ10 h4,hval,eq_false_of_ne_true h1];rfl
  ·refine zero ?_
   unfold qMF;rw[qGD hN hv,qAA,qZ10 h4,eq_false_of_ne_true hval];rfl
 ·refine zero ?_
  unfold qMF;rw[qGD hN hv,qAA,qZ9 h4];rfl
end Go.AM.Num
end
section
namespace Go.AM.Num
open Go.Proofs Go.Proofs.YtmckcoeongfmhaaGreatDoor
theorem gPow : Tryz.prog.globalNamed "internal/strconv.uint64pow10" = some 0 := by kernel_rfl
theorem tPow:(Tryz.prog.globals[0]?).map (·.type)=some 313:=by kernel_rfl
theorem qTaf {W:World} (h:W.ShapedOpen Tryz.prog):∃ m,W.cell? ⟨1,0,none⟩=some (.int .i64 m):=
 cell_of_shapedOpen_int (t:=3) (zero:=#[.int .i64 0]) h (of_decide_eq_true (by kernel_rfl)) (by kernel_rfl) rfl (by kernel_rfl) (by kernel_rfl) Tryz.underlying3
theorem qVag {W:World} (hL:laidMetH Tryz.prog Rows.valueZeroRow.laid W) (hsh:W.ShapedOpen Tryz.prog):GN W:=by
 rw[MakeChecks.laidMetH_plain _ _ _ (by kernel_rfl)] at hL
 obtain ⟨ps,⟨g0,t0,cs0,f0,p0,q0,hg0,ht0,hv0,hd0,⟨g1,t1,cs1,f1,p1,q1,hg1,ht1,hv1,hd1,⟨g2,t2,cs2,f2,p2,q2,hg2,ht2,hv2,hd2,_⟩,_⟩,_⟩,_⟩:=hL
 obtain rfl:=Option.some.inj (gPow.symm.trans hg2)
 obtain rfl:=Option.some.inj (tPow.symm.trans ht2)
 refine ⟨qTaf hsh,?_⟩
 have e:(Rows.laid_internal_strconv_uint64pow10:DataW Unit)=Lib.tabData .u64 Lib.pow10Tab:=by kernel_rfl
 rw[e] at hd2
 unfold Lib.TabIs
 rw[hv2,<-Lib.cells_of_tab Tryz.underlying313 Tryz.underlying231 (by kernel_rfl) (by kernel_rfl) hd2]
theorem qTab {w w':World} (h:GN w) (hb:∀ B,B < 2->w'.heap[B]?=w.heap[B]?):GN w':=by
 have hc:∀ B o,B < 2->w'.cell? ⟨B,o,none⟩=w.cell? ⟨B,o,none⟩:=fun B o hB=>by simp[World.cell?,hb B hB]
 refine ⟨?_,?_⟩
 ·rw[hc _ 0 (by decide)];exact h.maxLen
 ·have:=h.pow10
  unfold Lib.TabIs World.var? at this ⊢
  rw[gPow] at this ⊢
  simp only[Option.bind_some] at this ⊢
  rw[hb _ (by decide)]
  exact this
theorem qSaa {w:World} (h:GN w):2<=w.heap.size:=by
 obtain ⟨m,hm⟩:=h.maxLen
 exact World.block_lt_of_cell? w ⟨1,0,none⟩ hm
end Go.AM.Num
end
section
namespace Go.AM.Num
open Go.Proofs
noncomputable def VN:Env where
 P:=Tryz.prog
 gb:=2
 G:=GN
 keep:=fun w w' h _ hb=>qTab h hb
 mixed:=by kernel_rfl
theorem f0:Fs Tryz.prog VN l0:=
 (((((((((((⟨rfl,qEah⟩:Fs Tryz.prog VN []).cons (qVO rfl)).cons (qJO rfl (fun _ h=>h))).cons (qLP rfl)).cons (qVW rfl (fun _ h=>h))).cons (qSO rfl (fun _ h=>h))).cons (qEV rfl)).cons (qIT rfl)).cons (qQT rfl)).cons (qDS rfl)).cons (qTO rfl))
end Go.AM.Num
end
section
namespace Go.AM.Num
open Go.Proofs Go.Proofs.YtmckcoeongfmhaaGreatDoor Go.RowKit Go.ChangeShapes Go.WideShapes Go.ChangeAt
theorem qVp {k:FuncId} {ps:List PK} {g:qME ps->Option (qME [.val .bool]×qEZ ps)} (hG:Good VN k ⟨ps,[.val .bool],g⟩) (x:qME ps) (hin:qQA ps x=[]) (hk:cntK ps=0) (o:qEZ ps) (hx:g x=some ((true,()),o))
 (W:World) (hW:GN W) (vs:Array Value) (ha:RelL (rdW W) (fun B=>B < W.heap.size) (fun _=>none) (qOA ps x 0 0) vs.toList) :
 Calls Tryz.prog k vs W fun e w'=>e=.returned (.bool true)/\Below W.heap.size W w':=by
 refine Calls.mono (hG.spec x _ o hx W (fun B=>B < W.heap.size) (fun _=>none) vs hW (qSaa hW) ?_ ?_) ?_
 ·rw[hin];exact qQab fun _ h=>h
 ·rw[hk];exact ha
 ·rintro e w' ⟨us,I',β',rfl,hf,_,hr⟩
  obtain rfl:us=[.bool true]:=by
   have:qCO ps [.val .bool] (true,())=[.bool true]:=rfl
   rw[this] at hr
   simp only[RelL,RelV] at hr
   obtain ⟨u,us',rfl,rfl,rfl⟩:=hr
   rfl
  refine ⟨rfl,hf.os,hf.tape,hf.output,hf.size,fun B hB=>hf.block B hB ?_⟩
  rw[hin]
  exact qUN B
def IL (l:List Int):Prop:=l.length<=9223372036854775807/\∀ x∈l,qWt x
def SL (s:qBs):Prop:=s.length<=9223372036854775807
theorem qLaa {n:Int} (h:(Lit.int .i64 n).wf=true):qWt n:=by
 simp only[Lit.wf,qY0,decide_eq_true_eq] at h
 exact h
theorem qJaf {l:List Int} (h:l.length<=maxLen) (hw:∀ x∈l,(Lit.int .i64 x).wf=true):IL l:=⟨by unfold maxLen at h;omega,fun x hx=>qLaa (hw x hx)⟩
theorem qOac {s:ByteArray} (h:s.size<=maxLen):SL s.data.toList:=by unfold SL;unfold maxLen at h;have:=Lib.size_eq s;omega
section
variable {H:Type} {enc:TypeId×Value->H} {W:World} {I:Nat->Prop} {rd:Nat->Nat->Option Value} {β:Nat->Option Place}
theorem qGaa (s:ByteArray):RelV rd I β (Go.AM.enc .str s.data.toList) (.string s):=by
 have e:Go.AM.enc .str s.data.toList=.str s.data.toList:=rfl
 rw[e];simp only[RelV];exact ⟨s,rfl,rfl⟩
theorem qMaf:RelL rd I β (qOA [] () 0 0) []:=by simp only[qOA,RelL]
theorem qCZ {t:GT} {ps:List PK} {x:t.ty} {y:qME ps} {v:Value} {vs:List Value} (h:RelV rd I β (Go.AM.enc t x) v) (r:RelL rd I β (qOA ps y 0 0) vs):RelL rd I β (qOA (.val t::ps) (x,y) 0 0) (v::vs):=by
 simp only[qOA,RelL]
 exact ⟨v,vs,rfl,h,r⟩
theorem qPi (a:Addr) (i:Nat) (h:a.spot=none):a.add i=⟨a.block,a.off+i,none⟩:=by
 obtain ⟨b,o,s⟩:=a
 simp only at h;subst h
 simp[Addr.add]
theorem qXp {t e:TypeId} {k:IntKind} {a:Option Addr} {len cap:Nat} {d:DataW H} {p:List MemPlace} (ht:Tryz.prog.underlying t=some (.slice e)) (he:Tryz.prog.underlying e=some (.int k)) (hc:Tryz.prog.cellsOf e=1) (h:DataW.Trod enc Tryz.prog W 0 (fun _=>true) true t (.slice a len cap) d p) :
 ∃ l:List Int,l.length=len/\len<=maxLen/\(∀ x∈l,(Lit.int k x).wf=true)/\TV (rdW W) (fun B=>B < W.heap.size) (.sl (.int k)) l (.slice a len cap):=by
 obtain ⟨fuel,hf⟩:=h
 rcases open_ints ht he hc hf with ⟨hcs,_⟩ | ⟨x,l,c,zs,hcs,_,hl,hm,hz,_,hcell,hwz⟩
 ·simp[Value.cells] at hcs
  obtain ⟨rfl,rfl,rfl⟩:=hcs
  refine ⟨[],rfl,Nat.zero_le _,by simp,?_⟩
  simp only[TV,GT.isAgg,RelC]
  exact ⟨none,0,rfl,Nat.le_refl _,fun h=>absurd rfl h⟩
 ·simp[Value.cells] at hcs
  obtain ⟨rfl,rfl,rfl⟩:=hcs
  simp only[if_true] at hz
  have hzl:zs.length=cap:=by simpa using hz
  refine ⟨zs.take len,by simp;omega,by omega,fun y hy=>hwz y (List.mem_of_mem_take hy),?_⟩
  have hg:∀ i,i < zs.length->W.cell? (x.add i)=some (.int k (zs.getD i 0)):=hcell
  simp only[TV,GT.isAgg,RelC]
  refine ⟨some x,cap,by simp;omega,by simp;omega,fun hne=>?_⟩
  have hpos:0 < zs.length:=by
   have:zs.take len≠[]:=hne
   rcases zs with _ | ⟨z,zs⟩
   ·simp at this
   ·simp
  have hspot:x.spot=none:=by simpa [Addr.add] using World.cell?_spot (hg 0 hpos)
  have hat:∀ i,i < zs.length->W.cell? ⟨x.block,x.off+i,none⟩=some (.int k (zs.getD i 0)):=fun i hi=>by
   rw[<-qPi x i hspot];exact hg i hi
  refine ⟨x.block,x.off,by obtain ⟨b,o,s⟩:=x;simp only at hspot;subst hspot;rfl,World.block_lt_of_cell? W ⟨x.block,x.off+0,none⟩ (hat 0 hpos),fun i z hi=>?_⟩
  have hi1:i < zs.length:=by
   have:=(List.getElem?_eq_some_iff.1 hi).1
   simp at this;omega
  have hzi:zs.getD i 0=z:=by
   rw[List.getElem?_take] at hi
   split at hi
   ·rw[qZ4,hi];rfl
   ·cases hi
  refine ⟨[.int k z],rfl,fun j hj=>?_,rfl⟩
  have:j=0:=by simp[GT.cells] at hj;omega
  subst this
  have:=hat i hi1
  rw[hzi] at this
  have h2:=qPS this rfl
  simpa [GT.cells] using h2
end
end Go.AM.Num
end
section
namespace Go.AM.Num
open Go.Proofs Go.Proofs.YtmckcoeongfmhaaGreatDoor Go.RowKit Go.ChangeShapes Go.WideShapes Go.ChangeAt
noncomputable def qEP (os:Os):World:=
 { World.doorLaid Tryz.prog 400 os with heap:=(World.doorLaid Tryz.prog 400 os).heap.modify 6 fun
  |.cells _ t frozen=>.cells (Go.Pinned.utf8FirstZ.map fun n=>Value.int .u8 (n:Nat)).toArray t frozen
  |o=>o }
set_option maxRecDepth 100000 in
theorem qRw (os:Os) (args:Array Value):laidMet Tryz.prog Rows.valueZeroRow.laid ((qEP os).forCall (fun _ _=>0) ⟨#[],args,[]⟩).memory:=
 laidMet_of_run' 8 (by kernel_rfl) (by kernel_rfl)
theorem qCx (os:Os) (args:Array Value):(((qEP os).forCall (fun _ _=>0) ⟨#[],args,[]⟩).variablesRefB Tryz.prog)=true:=by kernel_rfl
theorem qKv (os:Os) (args:Array Value):((((qEP os).forCall (fun _ _=>0) ⟨#[],args,[]⟩).heap.toList.drop Tryz.prog.globals.size).take ((begin Tryz.prog (fun _ _=>0) default).world.heap.size - Tryz.prog.globals.size) =
 (begin Tryz.prog (fun _ _=>0) default).world.heap.toList.drop Tryz.prog.globals.size):=by kernel_rfl
theorem own:ownKnob Tryz.prog.godebug=none:=by kernel_rfl
theorem qHj:laidOutB Tryz.prog=true:=by kernel_rfl
end Go.AM.Num
end
section
set_option maxRecDepth 10000
namespace Go.AM.Num
open Go.Proofs Go.Proofs.YtmckcoeongfmhaaGreatDoor Go.RowKit Go.ChangeShapes Go.WideShapes Go.ChangeAt
def Inb:(T:GT)->T.ty->Prop
 |.int k,n=>(Lit.int k n).wf=true
 |.str,s=>List.length s<=9223372036854775807
 |.sl e,l=>List.length l<=9223372036854775807/\∀ x∈(l:List e.ty),Inb e x
 |.pair a b,x=>Inb a x.1/\Inb b x.2
 |_,_=>True
def qKp (T:GT) (t:TypeId):Prop:=∀ (H:Type) (enc:TypeId×Value->H) (W:World) (fuel:Nat) (cs:List Value) (x:DataW H×List MemPlace),DataW.trod enc Tryz.prog W 0 (fun _=>true) true fuel t cs=some x->
 ∃ v:T.ty,RelC (rdW W) (fun B=>B < W.heap.size) T v cs/\Inb T v
theorem qYad {k:IntKind} {t:TypeId} (ht:Tryz.prog.underlying t=some (.int k)):qKp (.int k) t:=fun H enc W fuel cs x h=>by
 obtain ⟨n,rfl,_,hw⟩:=DataW.trod_int ht h
 exact ⟨n,by simp only[RelC],hw⟩
theorem qIaa {t:TypeId} (ht:Tryz.prog.underlying t=some .bool):qKp .bool t:=fun H enc W fuel cs x h=>by
 obtain ⟨n,rfl,_⟩:=DataW.trod_bool ht h
 exact ⟨n,by simp only[RelC],trivial⟩
theorem qIz {t:TypeId} (ht:Tryz.prog.underlying t=some .string):qKp .str t:=fun H enc W fuel cs x h=>by
 obtain ⟨s,rfl,_,hs⟩:=DataW.trod_string ht h
 refine ⟨s.data.toList,by simp only[RelC];exact ⟨s,rfl,rfl⟩,?_⟩
 have:=qOac hs
 exact this
theorem qYac {α:Type} {P:Nat->α->Prop}:∀ n,(∀ i,i < n->∃ v,P i v)->∃ l:List α,l.length=n/\∀ i x,l[i]?=some x->P i x:=by
 intro n
 induction n with
 |zero=>exact fun _=>⟨[],rfl,fun i x h=>by simp at h⟩
 |succ n ih=>
  intro h
  obtain ⟨l,hl,hP⟩:=ih fun i hi=>h i (by omega)
  obtain ⟨v,hv⟩:=h n (by omega)
  refine ⟨l++[v],by simp[hl],fun i x hx=>?_⟩
  rcases Nat.lt_or_ge i l.length with h1 | h1
  ·rw[qY8 h1] at hx;exact hP i x hx
  ·rw[qY9 h1] at hx
   obtain ⟨h2,h3⟩:=List.getElem?_eq_some_iff.1 hx
   simp at h2 h3
   obtain rfl:i=n:=by omega
   rw[<-h3];exact hv
theorem qTag {E:GT} {t e:TypeId} (ht:Tryz.prog.underlying t=some (.slice e)) (hc:Tryz.prog.cellsOf e=E.cells) (hp:0 < E.cells) (hE:qKp E e):qKp (.sl E) t:=fun H enc W fuel cs x h=>by
 rcases DataW.trod_slice ht h with ⟨rfl,_⟩ | ⟨a,len,cap,elems,rest,n,_,rfl,_,_,hl,hm,hlen,hel,_,_⟩
 ·refine ⟨[],?_,?_⟩
  ·simp only[RelC];exact ⟨none,0,rfl,Nat.le_refl _,fun h=>absurd rfl h⟩
  ·exact ⟨Nat.zero_le _,fun x hx=>absurd hx List.not_mem_nil⟩
 ·have each:∀ i,i < len->∃ v:E.ty,(∃ us:List Value,us.length=E.cells/\(∀ j,j < E.cells->W.cell? ((a.add (i * E.cells)).add j)=us[j]?)/\RelC (rdW W) (fun B=>B < W.heap.size) E v us)/\Inb E v:=by
   intro i hi
   have hb:=hel i hi
   rw[qZ5 (by omega),Option.bind_eq_some_iff] at hb
   obtain ⟨us,h1,h2⟩:=hb
   obtain ⟨v,hv,hi'⟩:=hE H enc W n us _ h2
   obtain ⟨_,q1,q2⟩:=World.cells?_some h1
   rw[hc] at q1 q2
   exact ⟨v,⟨us,q1,q2,hv⟩,hi'⟩
  obtain ⟨l,hll,hP⟩:=qYac len each
  refine ⟨l,?_,⟨by unfold maxLen at hm;omega,fun x hx=>?_⟩⟩
  ·simp only[RelC]
   refine ⟨some a,cap,by rw[hll],by omega,fun hne=>?_⟩
   have h0:0 < l.length:=List.length_pos_iff.2 hne
   obtain ⟨⟨us,u1,u2,u3⟩,_⟩:=hP 0 l[0] (qZ5 h0)
   have hu:=u2 0 hp
   rw[qZ5 (by omega)] at hu
   have hspot:a.spot=none:=by simpa [Addr.add] using World.cell?_spot hu
   have hblk:a.block < W.heap.size:=by simpa [Addr.add] using World.block_lt_of_cell? W _ hu
   refine ⟨a.block,a.off,by obtain ⟨b,o,s⟩:=a;simp only at hspot;subst hspot;rfl,hblk,fun i x hx=>?_⟩
   obtain ⟨⟨us,u1,u2,u3⟩,_⟩:=hP i x hx
   refine ⟨us,u1,fun j hj=>?_,u3⟩
   have hj':=u2 j hj
   have e:(a.add (i * E.cells)).add j=⟨a.block,a.off+i * E.cells+j,none⟩:=by rw[qPi _ _ hspot,qPi _ _ rfl]
   rw[e,qZ5 (by omega)] at hj'
   rw[qZ5 (by omega)]
   exact qPS hj' (qID E x us u3 _ (List.getElem_mem _))
  ·obtain ⟨i,hi⟩:=List.getElem?_of_mem hx
   exact (hP i x hi).2
inductive RdFs:GT->List Field->Nat->Prop
 |one {T:GT} {f:Field} {o:Nat} (ho:f.offset=o) (hc:Tryz.prog.cellsOf f.type=T.cells) (h:qKp T f.type):RdFs T [f] o
 |cons {a b:GT} {f:Field} {fs:List Field} {o:Nat} (ho:f.offset=o) (hc:Tryz.prog.cellsOf f.type=a.cells) (h:qKp a f.type) (r:RdFs b fs (o+a.cells)):RdFs (.pair a b) (f::fs) o
theorem qNag {T:GT} {fs:List Field} {o:Nat} (h:RdFs T fs o):∀ {H:Type} {enc:TypeId×Value->H} {W:World} {n:Nat} {cs:List Value} {xs:List (DataW H×List MemPlace)},cs.length=o+T.cells->xs.length=fs.length->
 (∀ (i:Nat) (f:Field),fs[i]?=some f->DataW.trod enc Tryz.prog W 0 (fun _=>true) true n f.type ((cs.drop f.offset).take (Tryz.prog.cellsOf f.type))=xs[i]?)->
 ∃ v:T.ty,RelC (rdW W) (fun B=>B < W.heap.size) T v (cs.drop o)/\Inb T v:=by
 induction h with
 |one ho hc h=>
  intro H enc W n cs xs hl hx ht
  have h0:=ht 0 _ rfl
  rw[ho,hc,List.take_of_length_le (by simp;omega),qZ5 (by simp at hx;omega)] at h0
  exact h H enc W n _ _ h0
 |cons ho hc h r ih=>
  intro H enc W n cs xs hl hx ht
  simp only[GT.cells] at hl
  have h0:=ht 0 _ rfl
  rw[ho,hc,qZ5 (by simp at hx;omega)] at h0
  obtain ⟨v1,r1,i1⟩:=h H enc W n _ _ h0
  cases xs with
  |nil=>simp at hx
  |cons y ys=>
   obtain ⟨v2,r2,i2⟩:=ih (cs:=cs) (xs:=ys) (by omega) (by simpa using hx) fun i f hf=>by
    have:=ht (i+1) f (by simpa using hf)
    simpa using this
   refine ⟨(v1,v2),?_,i1,i2⟩
   simp only[RelC]
   refine ⟨_,_,?_,r1,r2⟩
   rw[<-List.drop_drop,List.take_append_drop]
theorem qQag {T:GT} {t:TypeId} {fs:Array Field} (ht:Tryz.prog.underlying t=some (.struct fs)) (hc:Tryz.prog.cellsOf t=T.cells) (h:RdFs T fs.toList 0):qKp T t:=fun H enc W fuel cs x hx=>by
 obtain ⟨xs,n,_,_,h1,h2,h3⟩:=DataW.trod_struct ht hx
 have:=qNag h (enc:=enc) (W:=W) (n:=n) (cs:=cs) (xs:=xs) (by omega) (by simpa using h2) fun i f hf=>h3 i f (by simpa using hf)
 simpa using this
theorem qQae {T:GT} {t:TypeId} (h:qKp T t) {H:Type} {enc:TypeId×Value->H} {W:World} {cs:Array Value} {d:DataW H} {p:List MemPlace} (hd:DataW.Trod enc Tryz.prog W 0 (fun _=>true) true t (.agg cs) d p)
 (hT:T.isAgg=true):∃ x:T.ty,Inb T x/\TV (rdW W) (fun B=>B < W.heap.size) T x (.agg cs):=by
 obtain ⟨fuel,hf⟩:=hd
 obtain ⟨x,hx,hi⟩:=h H enc W fuel _ _ hf
 refine ⟨x,hi,?_⟩
 unfold TV
 rw[if_pos hT]
 exact ⟨cs.toList,by simp,hx⟩
theorem qLn {W:World} {t:TypeId} {fs:Array Field} {v:Value} (ht:Tryz.prog.underlying t=some (.struct fs)) (h:Value.okWide Tryz.prog W .any 0 t v):∃ cs,v=.agg cs:=by
 simp only[Value.okWide,ht] at h
 obtain ⟨cs,rfl,_⟩:=h
 exact ⟨cs,rfl⟩
end Go.AM.Num
end
section
namespace Go.AM.Num
open Go.Proofs Go.Proofs.YtmckcoeongfmhaaGreatDoor Go.RowKit Go.ChangeShapes Go.WideShapes Go.ChangeAt
theorem qTq:qKp (.sl .str) 22:=qTag Tryz.underlying22 (by kernel_rfl) (by decide) (qIz Tryz.underlying9)
theorem qIaf:qKp (.int .i64) 3:=qYad Tryz.underlying3
theorem qSad:qKp qPD 24:=qQag Tryz.underlying24 (by kernel_rfl)
 (.cons rfl (by kernel_rfl) qIaf (.cons rfl (by kernel_rfl) (qIaa Tryz.underlying4) (.cons rfl (by kernel_rfl) (qIz Tryz.underlying9) (.cons rfl (by kernel_rfl) qTq (.one rfl (by kernel_rfl) qTq)))))
end Go.AM.Num
end
section
set_option linter.unusedVariables false
namespace Go.AM.Num
theorem qSc (v:Val) (hv:Inb qPD v) (i:qBs) (hi:SL i) (n:qBs) (hn:SL n) (l:List Int) (hl:IL l) (m:List Int) (hm:IL m):qEO v i n l m=some ((true,()),()):=by
 unfold qEO
 rcases qGn (v:=v) with ⟨u,h⟩ | ⟨h,hs,_⟩
 ·rw[h,qAA]
  simp only[qY1,qWB,qJQ,qAA]
 ·rw[h,qAA]
  simp only[qY2,qNE]
  by_cases h1:i.length > 50
  ·rw[qKA (by omega),qJQ,qAA]
  ·rw[qWA (by omega)]
   by_cases h2:n.length > 50
   ·rw[qKA (by omega),qJQ,qAA]
   ·rw[qWA (by omega)]
    obtain ⟨c0,n0,hc0⟩:=qOl m
    obtain ⟨c9,n9,hc9⟩:=qOl l
    obtain ⟨d,P,c1,g1,hc1,hP,hsP,hlen⟩:=qNo hc9
    obtain ⟨j,c2,g2,hc2,hj⟩:=qDT hc0
    obtain ⟨k,c3,g3,hc3,hk⟩:=qDT hc2
    have hs':Short 52 v:=⟨by have:=hs.num;omega,fun s h=>by have:=hs.keys s h;omega,fun s h=>by have:=hs.vals s h;omega,hs.few⟩
    obtain ⟨x,e,s1,s2⟩:=qKo (N:=52) (by omega) hs' (i:=i) (n:=n) (by omega) (by omega)
    obtain ⟨a,a1,a2⟩:=qHs (N:=52) (by omega) hs' (i:=i) (by omega)
    have s3:=qLd (N:=52) (by omega) hP hsP hj hk
    have s4:=qHZ (N:=52) (by omega) hP hsP hj hk
    have a3:=qLq (N:=52) (by omega) hP hsP hj
    have a4:=qPz (N:=52) (by omega) hP hsP hj
    obtain ⟨b,b1,b2⟩:=qHs (N:=52) (by omega) hsP.short (i:=i) (by omega)
    have hx:x.2.2.2.1.length<=2000000000/\x.2.2.2.2.length<=2000000000:=qOr (N:=52) (by omega) hs' (by omega) (by omega) s1
    have q1:=qJb hx.1 hx.2 (b:=x)
    have hst:=qNc (d:=d) (i:=j) (n:=k) hP.incr
    have q2:=qJb (a:=qKF d (stP d P j k)) (b:=qKF d (stP d P j k)) (by simp only;rw[qND];omega) (by simp only;rw[qAI];omega)
    rw[qZ10 rfl] at q1 q2
    rw[n0,qAA,n9,qAA,g1,qAA,g2,qAA,g3,qAA]
    simp only[s1,s2,s3,s4,a1,a2,a3,a4,b1,b2,q1,q2,qAA,beq_self_eq_true,qWB,qJQ]
end Go.AM.Num
end
