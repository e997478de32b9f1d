/- Law ValueEval of the values: a machine of plain values, what the program's functions compute in it, and what that is. No condition beyond what the statement says. -/
import Derived.Test.YtmckcoeongfmhaaGreatDoorValueEval5
import Derived.Lib.ItoaNum
import Derived.Lib.SlTrimSet
set_option linter.unusedSimpArgs false
set_option linter.unusedVariables false
section
set_option linter.unusedSimpArgs false
set_option linter.unusedVariables false
namespace Go.AM.Num
theorem qVac {l:List Int} {k:Nat} (h:Wf l) (hk:lv l < bp k) (hkl:k<=l.length):lv (l.drop k)=0:=by
 have h1:=qUJ l k hkl
 have h2:=qUE (h.take k)
 have h3:=qUE (h.drop k)
 rcases Int.lt_or_eq_of_le h3 with h4 | h4
 ·have h5:bp k * 1<=bp k * lv (l.drop k):=Int.mul_le_mul_of_nonneg_left (by omega) (by have:=qJS k;omega)
  omega
 ·exact h4.symm
theorem qLaj {u v:List Int} {sc:List Int} {lb K:Nat} (hu:Wf u) (hv:Wf v) (hvl:v.length=lb) (hlb:2<=lb) (hul:u.length=K+lb) (hN:K+lb<=1000000000) (ht:v.getD (lb - 1) 0≠0) (hlt:lv u < lv v * bp K) :
 ∃ u' q,qPA qIG (sc,u,v,List.replicate K 0,(K:Int) - 1,())=some (Ex.exit 3,(sc,u',v,q,-1,()))/\Wf u'/\u'.length=K+lb/\Wf q/\q.length=K/\lv u' < lv v/\lv u=lv u'+lv v * lv q:=by
 obtain ⟨V,hV⟩:∃ V,V=lv v:=⟨_,rfl⟩
 have hVl:V < bp lb:=by rw[hV,<-hvl];exact qTc hv
 have hV0:0<=V:=by rw[hV];exact qUE hv
 rw[<-hV] at hlt ⊢
 obtain ⟨r,hr,u',q,rfl,h1,h2,h3,h4,h5,h6⟩:=qTB (step:=qIG) (Q:=fun r=>∃ u' q,r=(Ex.exit 3,(sc,u',v,q,-1,()))/\Wf u'/\u'.length=K+lb/\Wf q/\q.length=K/\lv u' < V/\lv u=lv u'+V * lv q)
  (fun k x=>∃ u' q:List Int,x=(sc,u',v,q,(k:Int) - 1,())/\k<=K/\Wf u'/\u'.length=K+lb/\Wf q/\q.length=K/\lv u' < V * bp k/\lv u=lv u'+V * bp k * lv (q.drop k)) (by
   rintro k x ⟨u',q,rfl,hk,h1,h2,h3,h4,h5,h6⟩
   by_cases h0:k=0
   ·subst h0
    refine .inl ⟨(Ex.exit 3,(sc,u',v,q,-1,())),?_,by simp,u',q,rfl,h1,h2,h3,h4,by simpa [bp] using h5,by simpa [bp] using h6⟩
    simp (disch:=(first | omega | (simp only[lnn];omega))) only[qIG,stp]
    rfl
   ·obtain ⟨j,rfl⟩:∃ j,k=j+1:=⟨k - 1,by omega⟩
    have ej:((j:Int)).toNat=j:=by omega
    have ek:(((j+1:Nat):Int) - 1)=(j:Int):=by omega
    have eh:((j:Int)+lb+1).toNat - j=lb+1:=by omega
    have hvl':(v.length:Int)=(lb:Int):=by omega
    obtain ⟨w,hw⟩:∃ w,w=(u'.drop j).take (lb+1):=⟨_,rfl⟩
    have hww:Wf w:=by rw[hw];exact (h1.drop j).take _
    have hwl:w.length=lb+1:=by rw[hw,List.length_take,List.length_drop];omega
    have hbj:=qJS j
    have huz:lv (u'.drop (j+(lb+1)))=0:=by
     refine qVac h1 ?_ (by omega)
     have e1:V * bp (j+1)<=bp lb * bp (j+1):=Int.mul_le_mul_of_nonneg_right (by omega) (by have:=qJS (j+1);omega)
     rw[<-qHp] at e1
     rw[show j+(lb+1)=lb+(j+1) by omega]
     omega
    have hsplit:lv u'=lv (u'.take j)+bp j * lv w:=by
     rw[qUJ u' j (by omega)]
     have:=qUJ (u'.drop j) (lb+1) (by rw[List.length_drop];omega)
     rw[List.drop_drop,huz,<-hw] at this
     rw[this];simp
    have htk0:=qUE (h1.take j)
    have htk:=qTc (h1.take j)
    rw[List.length_take,Nat.min_eq_left (by omega)] at htk
    have hwV:lv w < lv v * 1000000000:=by
     rw[<-hV]
     have:bp j * lv w < bp j * (V * 1000000000):=by
      rw[qCK] at h5
      have e:bp j * (V * 1000000000)=V * (1000000000 * bp j):=by grind
      omega
     exact Int.lt_of_mul_lt_mul_left this (by omega)
    obtain ⟨o,hred,ho1,ho2,ho3,ho4,ho5⟩:=qIae hww hv hvl hlb hwl (by omega) ht hwV
    rw[<-hV] at hred ho3 ho4 ho5
    have hV1:0 < V:=by
     rcases Int.lt_or_eq_of_le hV0 with h | h
     ·exact h
     ·rw[<-h] at h5;simp at h5;have:=qUE h1;omega
    have hom:=Int.emod_lt_of_pos (lv w) hV1
    have hdm:=Int.emod_add_mul_ediv (lv w) V
    have hz:lv (u'.drop (j+(lb+1)))=0:=huz
    have hnew:lv (u'.take j++o++u'.drop (j+(lb+1)))=lv (u'.take j)+bp j * (lv w % V):=by
     rw[qPx,huz,qPx,List.length_take,Nat.min_eq_left (by omega),ho3];simp
    refine .inr ⟨j,(sc,u'.take j++o++u'.drop (j+(lb+1)),v,q.set j (lv w / V),(j:Int) - 1,()),?_,by omega,_,_,rfl,by omega,?_,?_,h3.set _ ⟨ho4,ho5⟩,by simpa using h4,?_,?_⟩
    ·have e0:(lv w / V,()).1=lv w / V:=rfl
     rw[ek]
     simp (disch:=(first | omega | (simp only[lnn];omega))) only[qIG,ej,hvl',eh,<-hw,hred,stp]
    ·exact ((h1.take j).app ho1).app (h1.drop _)
    ·simp only[qZ6,List.length_take,List.length_drop];omega
    ·rw[hnew]
     have:bp j * (lv w % V)<=bp j * (V - 1):=Int.mul_le_mul_of_nonneg_left (by omega) (by omega)
     rw[Int.mul_sub] at this
     rw[Int.mul_comm V]
     omega
    ·rw[hnew,qUI (by simpa using (show j < q.length by omega)),qIW (by omega),if_pos rfl,List.drop_set_of_lt (by omega),h6,hsplit,qCK]
     grind) K (sc,u,v,List.replicate K 0,(K:Int) - 1,()) ⟨u,_,rfl,Nat.le_refl _,hu,hul,Wf.zeros _,by simp,hlt,by rw[List.drop_of_length_le (by simp)];simp[lv]⟩
 exact ⟨u',q,hr,h1,h2,h3,h4,h5,h6⟩
theorem qUal {u sc v a:List Int} (hu:Wf u) (hl:u.length<=a.length+1) (hN:a.length<=1000000000) :
 ∃ u',qPA qHH (a,sc,u,v,())=some (Ex.exit 1,(a,sc,u',v,()))/\Wf u'/\u'.length=a.length+1/\lv u'=lv u:=by
 obtain ⟨r,hr,u',rfl,h1,h2,h3⟩:=qTB (step:=qHH) (Q:=fun r=>∃ u',r=(Ex.exit 1,(a,sc,u',v,()))/\Wf u'/\u'.length=a.length+1/\lv u'=lv u)
  (fun m x=>∃ u':List Int,x=(a,sc,u',v,())/\m+u'.length=a.length+1/\Wf u'/\lv u'=lv u) (by
   rintro m x ⟨u',rfl,hm,h1,h2⟩
   by_cases h:u'.length<=a.length
   ·refine .inr ⟨m - 1,(a,sc,u'++[0],v,()),?_,by omega,_,rfl,by simp;omega,h1.app (Wf.one (by omega)),by rw[qAY,h2];simp⟩
    simp (disch:=(first | omega | (simp only[lnn];omega))) only[qHH,stp]
   ·refine .inl ⟨(Ex.exit 1,(a,sc,u',v,())),?_,by simp,u',rfl,h1,by omega,h2⟩
    simp (disch:=(first | omega | (simp only[lnn];omega))) only[qHH,stp]) (a.length+1 - u.length) _ ⟨u,rfl,by omega,hu,rfl⟩
 exact ⟨u',hr,h1,h2,h3⟩
theorem qUa (m n:Nat) (hm:(limbs m).length<=100000000) (hn:(limbs n).length<=100000000) (h0:n≠0) :
 qGJ (limbs m) (limbs n)=some ((limbs (m / n),limbs (m % n),()),()):=by
 obtain ⟨c,hc,hc1,hc2⟩:=qGan m n (by omega) (by omega)
 unfold qGJ
 rw[hc]
 by_cases hlt:m < n
 ·have:=hc1.2 hlt
  simp (disch:=(first | omega | (simp only[lnn];omega))) only[stp]
  rw[Nat.div_eq_of_lt hlt,Nat.mod_eq_of_lt hlt,limbs_zero]
 ·have hc0:¬ c < 0:=fun h=>hlt (hc1.1 h)
  by_cases hl1:(limbs n).length=1
  ·have hnB:n < 1000000000:=by
    have:=qJL n
    rw[hl1] at this;simp[bp] at this;omega
   have hq:=qBl m n (by omega) (by omega)
   have hg:(limbs n).getD 0 0=(n:Int):=by rw[limbs_small h0 hnB];rfl
   have h00:((0:Int)).toNat=0:=rfl
   simp (disch:=(first | omega | (simp only[lnn];omega))) only[h00,hg,hq,stp]
  ·obtain ⟨lb,hlb⟩:∃ lb,lb=(limbs n).length:=⟨_,rfl⟩
   obtain ⟨la,hla⟩:∃ la,la=(limbs m).length:=⟨_,rfl⟩
   have hlb2:2<=lb:=by
    rcases Nat.lt_or_ge (limbs n).length 1 with h | h
    ·have:limbs n=[]:=List.eq_nil_of_length_eq_zero (by omega)
     exact absurd (limbs_nil.1 this) h0
    ·omega
   have hab:lb<=la:=by rw[hlb,hla];exact qHI (by omega)
   have hbw:=qRH n
   obtain ⟨t,ht⟩:∃ t,t=(limbs n).getD (lb - 1) 0:=⟨_,rfl⟩
   have htb:=hbw.at (lb - 1)
   have htop:=qMY n (lb - 1) (by omega)
   rw[<-ht] at htb htop
   obtain ⟨s,hs⟩:∃ s:Nat,(s:Int)=1000000000 / (t+1):=⟨(1000000000 / (t+1)).toNat,by have:=Int.ediv_nonneg (show (0:Int)<=1000000000 by omega) (show 0<=t+1 by omega);omega⟩
   have hs1:1<=(s:Int):=by rw[hs];exact Int.le_ediv_of_mul_le (by omega) (by omega)
   have hst:(s:Int) * (t+1)<=1000000000:=by rw[hs];exact Int.ediv_mul_le _ (by omega)
   have hs2:(s:Int)<=500000000:=by
    have:(s:Int) * 2<=(s:Int) * (t+1):=Int.mul_le_mul_of_nonneg_left (by omega) (by omega)
    omega
   have hsl:limbs s=[(s:Int)]:=limbs_small (by omega) (by omega)
   have hau:=qXv (qRH m) (Wf.one (x:=(s:Int)) (by omega)) (by omega) (by simp)
   have hbu:=qXv hbw (Wf.one (x:=(s:Int)) (by omega)) (by omega) (by simp)
   rw[qQF,qDag,<-Int.natCast_mul,qZ0] at hau hbu
   have hls:(limbs s).length=1:=by rw[hsl];rfl
   have hnlt:(n:Int) < (t+1) * bp (lb - 1):=by
    have e:=qUJ (limbs n) (lb - 1) (by omega)
    rw[qUI (by omega),show lb - 1+1=lb by omega,List.drop_of_length_le (by omega),qQF,<-ht] at e
    have h1:=qTc (hbw.take (lb - 1))
    rw[List.length_take,Nat.min_eq_left (by omega)] at h1
    simp only[lv] at e
    grind
   have hvlen:(limbs (n * s)).length=lb:=by
    have hup:(limbs (n * s)).length<=lb:=by
     refine qJR ?_
     rw[Int.natCast_mul]
     have e1:(n:Int) * s < (t+1) * bp (lb - 1) * s:=Int.mul_lt_mul_of_pos_right hnlt (by omega)
     have e2:s * (t+1) * bp (lb - 1)<=1000000000 * bp (lb - 1):=Int.mul_le_mul_of_nonneg_right hst (by have:=qJS (lb - 1);omega)
     have e3:bp lb=1000000000 * bp (lb - 1):=by rw[<-qCK,show lb - 1+1=lb by omega]
     grind
    have hlo:(limbs n).length<=(limbs (n * s)).length:=qHI (Nat.le_mul_of_pos_right n (by omega))
    omega
   have hulen:(limbs (m * s)).length<=(limbs m).length+1:=by
    have:=qFb m s
    omega
   obtain ⟨u',hpad,hu1,hu2,hu3⟩:=qUal (u:=limbs (m * s)) (sc:=[(s:Int)]) (v:=limbs (n * s)) (a:=limbs m) (qRH _) hulen (by omega)
   obtain ⟨K,hK⟩:∃ K:Nat,K=la+1 - lb:=⟨_,rfl⟩
   have hvt:=qMY (n * s) (lb - 1) (by omega)
   rw[qQF] at hu3
   have hVK:lv u' < lv (limbs (n * s)) * bp K:=by
    rw[hu3,qQF,Int.natCast_mul,Int.natCast_mul]
    have e1:(m:Int) < bp la:=by rw[hla];exact qJL m
    have e2:bp (lb - 1)<=(n:Int):=by rw[hlb];exact qBe h0
    have e3:bp la=bp (lb - 1) * bp K:=by rw[<-qHp,show lb - 1+K=la by omega]
    have e4:bp (lb - 1) * bp K<=(n:Int) * bp K:=Int.mul_le_mul_of_nonneg_right e2 (by have:=qJS K;omega)
    have e5:(m:Int) * s < (n:Int) * bp K * s:=Int.mul_lt_mul_of_pos_right (by omega) (by omega)
    grind
   obtain ⟨u2,q,hloop,g1,g2,g3,g4,g5,g6⟩:=qLaj (sc:=[(s:Int)]) (K:=K) hu1 (qRH (n * s)) hvlen hlb2 (by omega) (by omega) hvt hVK
   rw[hu3,qQF] at g6
   rw[qQF] at g5
   have hns:0 < n * s:=Nat.mul_pos (by omega) (by omega)
   have hu20:=qUE g1
   have hdiv:lv q=((m / n:Nat):Int):=by
    have e:((m * s:Nat):Int) / ((n * s:Nat):Int)=lv q:=by
     rw[g6,Int.add_mul_ediv_left _ _ (by omega),Int.ediv_eq_zero_of_lt hu20 g5];omega
    rw[<-e,<-Int.natCast_ediv,Nat.mul_div_mul_right _ _ (by omega)]
   have hmod:lv u2=((m % n * s:Nat):Int):=by
    have e:((m * s:Nat):Int) % ((n * s:Nat):Int)=lv u2:=by
     rw[g6,Int.add_mul_emod_self_left,Int.emod_eq_of_lt hu20 g5]
    rw[<-e,<-Int.natCast_emod,Nat.mul_mod_mul_right]
   have ht7:=qFT g1 (by omega)
   rw[hmod,qZ0] at ht7
   have hlen7:(limbs (m % n * s)).length<=1000000000:=by
    have h1:=qFb (m % n) s
    have h2:=qHI (Nat.le_of_lt (Nat.mod_lt m (show n > 0 by omega)))
    omega
   have hq8:=qBl (m % n * s) s hlen7 (by omega)
   rw[Nat.mul_div_cancel _ (by omega)] at hq8
   have ht9:=qFT g3 (by omega)
   rw[hdiv,qZ0] at ht9
   have hwrap:((lb:Int) - 1).toNat=lb - 1:=by omega
   have hKi:((la+1:Nat):Int) - (lb:Int)=(K:Int):=by omega
   have hKn:((K:Int)).toNat=K:=by omega
   have hlbi:((limbs n).length:Int)=(lb:Int):=by omega
   have hvli:((limbs (n * s)).length:Int)=(lb:Int):=by omega
   have hu2i:((u'.length:Nat):Int)=((la+1:Nat):Int):=by omega
   have hrl:(((List.replicate K (0:Int)).length:Nat):Int)=(K:Int):=by simp
   have h00:((0:Int)).toNat=0:=rfl
   have hg0:([(s:Int)]:List Int).getD 0 0=(s:Int):=rfl
   simp (disch:=(first | omega | (simp only[lnn];omega))) only[hwrap,hlbi,<-ht,<-hs,hau,hbu,hpad,hu2i,hvli,hKi,hKn,hrl,hloop,ht7,h00,hg0,hq8,ht9,stp]
end Go.AM.Num
end
section
set_option linter.unusedSimpArgs false
set_option linter.unusedVariables false
namespace Go.AM.Num
theorem qHag (m n:Nat) (hm:(limbs m).length<=100000000) (hn:(limbs n).length<=100000000):qZaa (limbs m) (limbs n)=some ((limbs (Nat.gcd m n),()),()):=by
 obtain ⟨r,hr,b,rfl⟩:=qTB (step:=qHa) (Q:=fun r=>∃ b,r=(Ex.exit 0,(limbs (Nat.gcd m n),b,())))
  (fun k x=>∃ a b:Nat,x=(limbs a,limbs b,())/\k=b/\Nat.gcd a b=Nat.gcd m n/\(limbs a).length<=100000000/\(limbs b).length<=100000000) (by
   rintro k x ⟨a,b,rfl,rfl,hg,ha,hb⟩
   by_cases h0:k=0
   ·subst h0
    refine .inl ⟨_,?_,?_,limbs 0,rfl⟩
    ·rw[limbs_zero]
     simp only[qHa]
     rw[<-hg,Nat.gcd_zero_right]
     rfl
    ·simp
   ·have hl:(limbs k).length≠0:=fun e=>h0 (limbs_nil.1 (List.eq_nil_of_length_eq_zero e))
    have hq:=qUa a k ha hb h0
    refine .inr ⟨a % k,_,?_,Nat.mod_lt _ (by omega),k,a % k,rfl,rfl,?_,hb,?_⟩
    ·simp (disch:=(first | omega | (simp only[lnn];omega))) only[qHa,hq,stp]
    ·rw[Nat.gcd_comm,<-Nat.gcd_rec,Nat.gcd_comm,hg]
    ·exact Nat.le_trans (qHI (Nat.le_of_lt (Nat.mod_lt _ (by omega)))) hb) n _ ⟨m,n,rfl,rfl,rfl,hm,hn⟩
 unfold qZaa
 rw[hr]
 simp (disch:=(first | omega | (simp only[lnn];omega))) only[stp]
theorem qNV:limbs 1=[1]:=by rw[limbs_small (by decide) (by decide)];rfl
theorem qUaf (neg:Bool) (m d:Nat) (hd:d≠0) (hm:(limbs m).length<=100000000) (hdl:(limbs d).length<=100000000) :
 qKR neg (limbs m) (limbs d)=some (((neg,limbs (m / Nat.gcd m d),limbs (d / Nat.gcd m d)),()),()):=by
 have hg0:Nat.gcd m d≠0:=fun e=>hd (Nat.gcd_eq_zero_iff.1 e).2
 have hgl:(limbs (Nat.gcd m d)).length<=100000000:=Nat.le_trans (qHI (Nat.le_of_dvd (by omega) (Nat.gcd_dvd_right m d))) hdl
 unfold qKR
 by_cases h1:Nat.gcd m d=1
 ·simp (disch:=(first | omega | (simp only[lnn];omega))) only[qHag m d hm hdl,qLf,h1,stp]
  simp
 ·simp (disch:=(first | omega | (simp only[lnn];omega))) only[qHag m d hm hdl,qLf,qUa m _ hm hgl hg0,qUa d _ hdl hgl hg0,stp]
  simp[h1]
abbrev dd (n:Nat):qBs:=Lib.decDigits n
theorem qFP {n:Nat} (h:n < 10):dd n=[UInt8.ofNat (48+n)]:=by unfold dd;rw[Lib.decDigits,dif_pos h]
theorem qSg {n:Nat} (h:¬ n < 10):dd n=dd (n / 10)++[UInt8.ofNat (48+n % 10)]:=by unfold dd;rw[Lib.decDigits,dif_neg h]
theorem dig_of {k:Nat} (h:k < 10):dig (UInt8.ofNat (48+k))=k/\isD (UInt8.ofNat (48+k)):=by
 have:(UInt8.ofNat (48+k)).toNat=48+k:=by simp[UInt8.toNat_ofNat];omega
 exact ⟨by unfold dig;omega,by unfold isD;omega⟩
theorem qGh (n:Nat):dd n≠[]:=by
 by_cases h:n < 10
 ·rw[qFP h];simp
 ·rw[qSg h];simp
theorem qBf (n:Nat):qJK (dd n):=by
 induction n using Nat.strongRecOn with
 |_ n ih=>
  by_cases h:n < 10
  ·rw[qFP h];intro c hc;rw[List.mem_singleton.1 hc];exact (dig_of h).2
  ·rw[qSg h]
   refine (ih (n / 10) (by omega)).app fun c hc=>?_
   rw[List.mem_singleton.1 hc];exact (dig_of (by omega)).2
theorem qOF (n:Nat):dval (dd n)=n:=by
 induction n using Nat.strongRecOn with
 |_ n ih=>
  by_cases h:n < 10
  ·rw[qFP h,show [UInt8.ofNat (48+n)]=[]++[UInt8.ofNat (48+n)] from rfl,qPM,(dig_of h).1];simp[dval]
  ·rw[qSg h,qPM,ih (n / 10) (by omega),(dig_of (by omega)).1];omega
theorem qKS {m n:Nat} (h:dd m=dd n):m=n:=by rw[<-qOF m,h,qOF]
theorem qFD:dd 0=[48]:=by rw[qFP (by decide)];rfl
theorem qRN:dd 1=[49]:=by rw[qFP (by decide)];rfl
theorem qQt {n:Nat} (h:n≠0):∃ c s,dd n=c::s/\isD c/\c≠48:=by
 induction n using Nat.strongRecOn with
 |_ n ih=>
  by_cases h1:n < 10
  ·refine ⟨UInt8.ofNat (48+n),[],qFP h1,(dig_of h1).2,fun e=>?_⟩
   have:=(dig_of h1).1
   rw[e] at this
   simp[dig] at this;omega
  ·obtain ⟨c,s,e,hc⟩:=ih (n / 10) (by omega) (by omega)
   exact ⟨c,s++[UInt8.ofNat (48+n % 10)],by rw[qSg h1,e];rfl,hc⟩
theorem qDak {s:qBs} (hd:qJK s) (hne:s≠[]) (hc:s=[48]\/s.head?≠some 48):s=dd (dval s):=by
 rcases hc with rfl | hc
 ·rw[show dval [48]=0 from rfl,qFD]
 ·have key:∀ (n:Nat) (s:qBs),s.length=n->qJK s->s≠[]->s.head?≠some 48->s=dd (dval s)/\dval s≠0:=by
   intro n
   induction n with
   |zero=>intro s hl _ hne;exact absurd (List.eq_nil_of_length_eq_zero hl) hne
   |succ n ih=>
    intro s hl hd hne hc
    obtain ⟨t,c,rfl⟩:∃ t c,s=t++[c]:=⟨s.dropLast,s.getLast hne,(List.dropLast_concat_getLast hne).symm⟩
    have hcd:isD c:=hd c (by simp)
    have hcl:=qWag hcd
    have hofc:UInt8.ofNat (48+dig c)=c:=by
     have h1:=hcd.1
     have:48+dig c=c.toNat:=by unfold dig;omega
     rw[this];simp
    by_cases ht:t=[]
    ·subst ht
     have h0:dig c≠0:=by
      intro e
      apply hc
      have h1:=hcd.1
      have h2:c.toNat=48:=by unfold dig at e;omega
      simp only[qY15,List.head?_cons,Option.some.injEq]
      exact UInt8.toNat_inj.1 h2
     rw[qPM,qNak]
     refine ⟨?_,by omega⟩
     rw[qFP (by omega)]
     simp[hofc]
    ·obtain ⟨e1,e2⟩:=ih t (by simpa using hl) (fun x hx=>hd x (by simp[hx])) ht (by
      cases t with
      |nil=>exact absurd rfl ht
      |cons x t=>simpa using hc)
     rw[qPM]
     refine ⟨?_,by omega⟩
     rw[qSg (by omega),show (10 * dval t+dig c) / 10=dval t by omega,show (10 * dval t+dig c) % 10=dig c by omega,<-e1,hofc]
  exact (key _ s rfl hd hne hc).1
theorem qDI {n k:Nat} (h:n < 10 ^ k) (hk:0 < k):(dd n).length<=k:=by
 induction k generalizing n with
 |zero=>omega
 |succ k ih=>
  by_cases h1:n < 10
  ·rw[qFP h1];simp
  ·rw[qSg h1,qZ6]
   have hk0:0 < k:=by
    rcases Nat.eq_zero_or_pos k with h0 | h0
    ·subst h0;simp at h;omega
    ·exact h0
   have:=ih (n:=n / 10) (by rw[Nat.pow_succ] at h;omega) hk0
   simp;omega
theorem qFO (n:Nat):n < 10 ^ (dd n).length:=by
 have:=qSR (qBf n)
 rwa [qOF] at this
theorem qUP (n:Nat):0 < (dd n).length:=List.length_pos_iff.2 (qGh n)
theorem qDB {m n:Nat} (h:m<=n):(dd m).length<=(dd n).length:=qDI (Nat.lt_of_le_of_lt h (qFO n)) (qUP n)
theorem qLP (m n:Nat):(dd (m+n)).length<=max (dd m).length (dd n).length+1:=by
 apply qDI _ (by omega)
 have h1:=qFO m
 have h2:=qFO n
 have h3:10 ^ (dd m).length<=10 ^ (max (dd m).length (dd n).length):=Nat.pow_le_pow_right (by decide) (by omega)
 have h4:10 ^ (dd n).length<=10 ^ (max (dd m).length (dd n).length):=Nat.pow_le_pow_right (by decide) (by omega)
 rw[Nat.pow_succ];omega
theorem qCC (m n:Nat):(dd (m * n)).length<=(dd m).length+(dd n).length:=by
 apply qDI _ (by have:=qUP m;omega)
 rw[Nat.pow_add]
 exact Nat.mul_lt_mul'' (qFO m) (qFO n)
theorem qAI (n:Nat):(limbs n).length<=(dd n).length:=by
 apply qJR
 rw[qEan]
 have h1:=qFO n
 have h2:10 ^ (dd n).length<=10 ^ (9 * (dd n).length):=Nat.pow_le_pow_right (by decide) (by omega)
 omega
theorem qGau {y:Int} (h:0<=y/\y < 1000000000):qJK (qFo y):=by
 unfold qFo
 refine qJK.app (fun c hc=>?_) (qBf _)
 rw[List.eq_of_mem_replicate hc]
 exact ⟨by decide,by decide⟩
theorem qMab (k:Nat) (s:qBs):dval (List.replicate k 48++s)=dval s:=by
 rw[qSe]
 have:dval (List.replicate k 48)=0:=by
  induction k with
  |zero=>rfl
  |succ k ih=>rw[List.replicate_succ',qPM,ih];rfl
 rw[this];simp
theorem qOw {y:Int} (h:0<=y/\y < 1000000000):(qFo y).length=9:=by
 have:(dd y.toNat).length<=9:=qDI (by simp;omega) (by decide)
 unfold qFo
 simp;unfold dd at this;omega
theorem qZah (y:Int):dval (qFo y)=y.toNat:=by unfold qFo;rw[qMab];exact qOF _
theorem qUar {n:Nat} (h:n / 1000000000≠0):dd n=dd (n / 1000000000)++qFo ((n % 1000000000:Nat):Int):=by
 have hb:0<=((n % 1000000000:Nat):Int)/\((n % 1000000000:Nat):Int) < 1000000000:=by omega
 obtain ⟨c,s,e,_,hc⟩:=qQt h
 have hv:dval (dd (n / 1000000000)++qFo ((n % 1000000000:Nat):Int))=n:=by
  rw[qSe,qOF,qZah,qOw hb]
  simp;omega
 have:=qDak (s:=dd (n / 1000000000)++qFo ((n % 1000000000:Nat):Int)) ((qBf _).app (qGau hb)) (by simp[qGh]) (.inr (by rw[e];simpa using hc))
 rw[hv] at this
 exact this.symm
theorem qHm (n:Nat):qAv (limbs n)=dd n:=by
 induction n using Nat.strongRecOn with
 |_ n ih=>
  by_cases h0:n=0
  ·subst h0;rw[limbs_zero,qFD];rfl
  ·by_cases h1:n / 1000000000=0
   ·rw[limbs_small h0 (by omega)]
    show Lib.decDigits ((n:Int)).toNat++[]=_
    simp
   ·rw[qUar h1,<-ih (n / 1000000000) (by omega),qVP h0]
    unfold qAv
    rw[List.reverse_cons]
    cases hr:(limbs (n / 1000000000)).reverse with
    |nil=>exact absurd (limbs_nil.1 (by simpa using hr)) h1
    |cons x r=>simp
abbrev bs (s:qBs):List Int:=s.map fun c=>((c.toNat:Nat):Int)
theorem qKas (a b:qBs):bs (a++b)=bs a++bs b:=by simp[bs]
theorem qRap (l:List Int):qEF ((),l)=some ((),((),l),()):=rfl
theorem qGar (t s:qBs) (h:t.length+s.length<=68719476736):qQA ((),bs t) s=some (((s.length:Int),false,()),((),bs (t++s)),()):=by
 unfold qQA
 rw[qRap]
 simp only[qAA,qKas]
 rw[qBA (by rw[qEH];simp[bs];omega)]
theorem qUaq (s:qBs) (h:s≠[]):qTE ((),bs s)=some ((s,()),()):=by
 unfold qTE
 rw[qBA (by have:=List.length_pos_iff.2 h;simpa [bs] using this)]
 have:(bs s).map (fun n=>UInt8.ofNat n.toNat)=s:=by
  simp only[bs,List.map_map]
  conv=>rhs;rw[<-List.map_id s]
  apply List.map_congr_left
  intro c _
  simp
 simp only[this]
theorem qOae {v:Int} (h0:0<=v) (h:v < 1000000000):qKF (qU v) 10=some ((dd v.toNat,()),()):=by
 rw[wu64 ⟨h0,by omega⟩]
 unfold qKF
 rw[if_pos ⟨h0,by omega,rfl⟩]
theorem qKaq {v:Int} (i:Nat) (t:qBs) (h0:0<=v) (h:v < 1000000000) (hl:t.length+9<=68719476736):qXJ v i (((),bs t),())=some (((),bs (t++qFo v)),()):=by
 have hd:(dd v.toNat).length<=9:=qDI (k:=9) (by omega) (by decide)
 unfold qXJ
 simp only[qOae h0 h,qAA]
 rw[qEA,qBA (by omega),qBA (by simp;omega)]
 have hz:([48,48,48,48,48,48,48,48,48]:qBs).drop ((dd v.toNat).length:Int).toNat=List.replicate (9 - (dd v.toNat).length) 48:=by
  rw[qZ0]
  rw[show ([48,48,48,48,48,48,48,48,48]:qBs)=List.replicate 9 48 from rfl,List.drop_replicate]
 rw[hz,qGar t _ (by simp;omega)]
 simp only[qAA]
 rw[qGar _ _ (by simp;omega)]
 simp only[qAA,qFo,qZ1]
theorem qTq:∀ (l:List (Int×Nat)) (t:qBs),(∀ p∈l,0<=p.1/\p.1 < 1000000000)->t.length+9 * l.length<=68719476736->
 foldO (fun p y=>(qXJ p.1 p.2 y).bind fun o=>some (qOM y o)) l (((),bs t),())=some (((),bs (t++(l.map fun p=>qFo p.1).flatten)),())
 |[],t,_,_=>by simp[foldO]
 |p::l,t,h,hl=>by
  have hp:=h p List.mem_cons_self
  simp only[qY11] at hl
  simp only[foldO]
  rw[qKaq p.2 t hp.1 hp.2 (by omega)]
  simp only[qAA]
  show foldO _ l (((),bs (t++qFo p.1)),())=_
  rw[qTq l _ (fun q hq=>h q (qY13 _ hq)) (by rw[qZ6,qOw hp];omega)]
  simp
theorem qIac (n:Nat) (h:(limbs n).length<=1000000000):qCN (limbs n)=some ((dd n,()),()):=by
 rw[<-qHm]
 have hw:=qRH n
 generalize limbs n=l at h hw
 unfold qCN
 rcases List.eq_nil_or_concat l with rfl | ⟨r,x,rfl⟩
 ·rfl
 ·rw[List.concat_eq_append] at h hw ⊢
  have hx:=hw x (by simp)
  have hr:∀ y∈r,0<=y/\y < 1000000000:=fun y hy=>hw y (by simp[hy])
  simp only[qZ6,List.length_singleton] at h ⊢
  rw[qDA (by omega),w64 (by omega)]
  have e1:((r.length+1:Nat):Int) - 1=(r.length:Int):=by omega
  rw[e1]
  rw[qEA,qBA (by omega),qBA (by omega)]
  have e2:(r++[x]).getD (r.length:Int).toNat 0=x:=by rw[qZ0];simp[List.getD]
  rw[e2,qOae hx.1 hx.2]
  simp only[qAA]
  have hd:(dd x.toNat).length<=9:=qDI (k:=9) (by omega) (by decide)
  rw[show (((),([]:List Int)):Unit×List Int)=((),bs []) from rfl,qGar [] _ (by simp;omega)]
  simp only[qAA,qY15]
  rw[qEA,qBA (by omega),qBA (by omega),qZ0,List.take_left' rfl,qBA (by rw[qEH];omega)]
  rw[qTq _ _ (fun p hp=>hr p.1 (by
   have:=List.mem_reverse.1 hp
   exact List.fst_mem_of_mem_zipIdx this)) (by simp;omega)]
  simp only[qAA,qVL]
  rw[qUaq _ (by simp[qGh])]
  simp only[qAA]
  have e3:(r.zipIdx.reverse.map fun p=>qFo p.1)=r.reverse.map qFo:=by
   rw[List.map_reverse,List.map_reverse]
   congr 1
   have:(r.zipIdx.map fun p=>qFo p.1)=(r.zipIdx.map Prod.fst).map qFo:=by rw[List.map_map];rfl
   rw[this,List.zipIdx_map_fst]
  rw[e3]
  simp[qAv]
end Go.AM.Num
end
section
set_option linter.unusedSimpArgs false
set_option linter.unusedVariables false
namespace Go.AM.Num
def txt (q:Rat):qBs:=(if q.num < 0 then [45] else [])++dd q.num.natAbs++(if q.den=1 then [] else 47::dd q.den)
def sg (neg:Bool) (m:Nat):Int:=if neg then -(m:Int) else m
def tx (neg:Bool) (m d:Nat):qBs:=(if neg=true/\m≠0 then [45] else [])++dd m++(if d=1 then [] else 47::dd d)
theorem qPG (neg:Bool) (m:Nat):(sg neg m).natAbs=m:=by cases neg<;>simp[sg]
theorem qTP (neg:Bool) (m:Nat):sg neg m < 0 ↔ neg=true/\m≠0:=by
 cases neg<;>simp[sg]<;>omega
theorem qMp (a b:Bool) (m n:Nat):sg a m * sg b n=sg (a !=b) (m * n):=by
 cases a<;>cases b<;>simp[sg,Int.neg_mul,Int.mul_neg]
theorem qJV (q:Rat):sg (decide (q.num < 0)) q.num.natAbs=q.num:=by
 unfold sg
 by_cases h:q.num < 0
 ·rw[qZ10 h];simp;omega
 ·rw[qZ9 h];simp;omega
theorem qZau (neg:Bool) (m g:Nat) (h:g ∣ m):sg neg m / (g:Int)=sg neg (m / g):=by
 cases neg with
 |false=>simp[sg]
 |true=>
  simp only[sg,if_true]
  rw[Int.neg_ediv_of_dvd (Int.natCast_dvd_natCast.2 h),<-Int.natCast_ediv]
theorem qRZ (neg:Bool) (m d:Nat) (hd:d≠0):tx neg (m / Nat.gcd m d) (d / Nat.gcd m d)=txt (mkRat (sg neg m) d):=by
 have hn:(mkRat (sg neg m) d).num=sg neg (m / Nat.gcd m d):=by
  rw[Rat.num_mkRat,if_neg hd,qPG,Nat.gcd_comm d m,qZau _ _ _ (Nat.gcd_dvd_left m d)]
 have hde:(mkRat (sg neg m) d).den=d / Nat.gcd m d:=by
  rw[Rat.den_mkRat,if_neg hd,qPG,Nat.gcd_comm d m]
 unfold txt tx
 rw[hn,hde,qPG]
 simp only[qTP]
theorem qHW (neg:Bool) (m d:Nat) (hd:d≠0) (hg:Nat.gcd m d=1):tx neg m d=txt (mkRat (sg neg m) d):=by
 have:=qRZ neg m d hd
 rwa [hg,Nat.div_one,Nat.div_one] at this
theorem qHd {n:Nat}:(47:UInt8)∉dd n:=fun h=>by have:=(qBf n _ h).1;simp at this
theorem qNau {n:Nat}:(45:UInt8)∉dd n:=fun h=>by have:=(qBf n _ h).1;simp at this
theorem qVm (n:Nat) (r:qBs) (s:qBs):dd n++r≠45::s:=by
 intro h
 cases e:dd n with
 |nil=>exact qGh n e
 |cons c t=>
  rw[e] at h
  simp only[qY5,List.cons.injEq] at h
  have:(45:UInt8)∈dd n:=by rw[e,h.1];simp
  exact qNau this
theorem qPi {a b x y:qBs} (ha:(47:UInt8)∉a) (hx:(47:UInt8)∉x) (h:a++47::b=x++47::y):a=x/\b=y:=by
 induction a generalizing x with
 |nil=>
  cases x with
  |nil=>simpa using h
  |cons c x=>simp only[qY15,qY5,List.cons.injEq] at h;exact absurd (h.1 ▸ List.mem_cons_self) hx
 |cons c a ih=>
  cases x with
  |nil=>simp only[qY15,qY5,List.cons.injEq] at h;exact absurd (h.1 ▸ List.mem_cons_self) ha
  |cons e x=>
   simp only[qY5,List.cons.injEq] at h
   obtain ⟨h1,h2⟩:=ih (fun hm=>ha (qY13 _ hm)) (fun hm=>hx (qY13 _ hm)) h.2
   exact ⟨by rw[h.1,h1],h2⟩
theorem txt_inj {p q:Rat} (h:txt p=txt q):p=q:=by
 unfold txt at h
 have hs:(p.num < 0 ↔ q.num < 0):=by
  by_cases h1:p.num < 0<;>by_cases h2:q.num < 0
  ·simp[h1,h2]
  ·rw[if_pos h1,if_neg h2] at h
   simp only[qY15,qZ1,qY5] at h
   exact absurd h.symm (qVm _ _ _)
  ·rw[if_neg h1,if_pos h2] at h
   simp only[qY15,qZ1,qY5] at h
   exact absurd h (qVm _ _ _)
  ·simp[h1,h2]
 have h':dd p.num.natAbs++(if p.den=1 then [] else 47::dd p.den)=dd q.num.natAbs++(if q.den=1 then [] else 47::dd q.den):=by
  by_cases h1:p.num < 0
  ·rw[if_pos h1,if_pos (hs.1 h1)] at h
   simpa using h
  ·rw[if_neg h1,if_neg (fun h2=>h1 (hs.2 h2))] at h
   simpa using h
 have key:p.num.natAbs=q.num.natAbs/\p.den=q.den:=by
  by_cases h1:p.den=1<;>by_cases h2:q.den=1
  ·rw[if_pos h1,if_pos h2] at h'
   simp only[qY4] at h'
   exact ⟨qKS h',by omega⟩
  ·rw[if_pos h1,if_neg h2] at h'
   simp only[qY4] at h'
   exact absurd (show (47:UInt8)∈dd p.num.natAbs by rw[h'];simp) qHd
  ·rw[if_neg h1,if_pos h2] at h'
   simp only[qY4] at h'
   exact absurd (show (47:UInt8)∈dd q.num.natAbs by rw[<-h'];simp) qHd
  ·rw[if_neg h1,if_neg h2] at h'
   obtain ⟨e1,e2⟩:=qPi qHd qHd h'
   exact ⟨qKS e1,qKS e2⟩
 exact Rat.ext (by omega) key.2
open Classical in
noncomputable def rd (a:qBs):Option Rat:=if h:∃ q,a=txt q then some h.choose else none
theorem qPK (q:Rat):rd (txt q)=some q:=by
 have h:∃ p,txt q=txt p:=⟨q,rfl⟩
 unfold rd
 rw[dif_pos h]
 exact congrArg some (txt_inj h.choose_spec).symm
theorem qBM {a:qBs} {q:Rat} (h:rd a=some q):a=txt q:=by
 unfold rd at h
 split at h
 ·rename_i hh
  have:=hh.choose_spec
  rw[Option.some.inj h] at this
  exact this
 ·cases h
theorem qFg {a:qBs} (h:∀ q,a≠txt q):rd a=none:=by
 cases e:rd a with
 |none=>rfl
 |some q=>exact absurd (qBM e) (h q)
def D (q:Rat):Nat:=(dd q.num.natAbs).length+(dd q.den).length
theorem qXD (q:Rat):(txt q).length<=D q+2:=by
 unfold txt D
 simp only[qZ6]
 have h1:(if q.num < 0 then [(45:UInt8)] else []).length<=1:=by split<;>simp
 have h2:(if q.den=1 then ([]:qBs) else 47::dd q.den).length<=(dd q.den).length+1:=by split<;>simp
 omega
theorem D_le (q:Rat):D q<=(txt q).length+1:=by
 unfold txt D
 simp only[qZ6]
 by_cases h:q.den=1
 ·rw[if_pos h,h,qRN];simp
 ·rw[if_neg h];simp;omega
theorem D_mk (n:Int) (d:Nat) (hd:d≠0):D (mkRat n d)<=(dd n.natAbs).length+(dd d).length:=by
 unfold D
 rw[Rat.num_mkRat,Rat.den_mkRat,if_neg hd,if_neg hd]
 have h1:(n / (d.gcd n.natAbs:Nat)).natAbs<=n.natAbs:=by
  obtain ⟨k,hk⟩:((d.gcd n.natAbs:Nat):Int) ∣ n:=by
   have:=Nat.gcd_dvd_right d n.natAbs
   exact Int.ofNat_dvd_left.2 this
  have hg:((d.gcd n.natAbs:Nat):Int)≠0:=fun e=>hd (Nat.gcd_eq_zero_iff.1 (by exact_mod_cast e)).1
  have e1:n / (d.gcd n.natAbs:Nat)=k:=by
   conv=>lhs;lhs;rw[hk]
   exact Int.mul_ediv_cancel_left _ hg
  rw[e1]
  conv=>rhs;rw[hk,Int.natAbs_mul]
  exact Nat.le_mul_of_pos_left _ (by omega)
 have h2:=Nat.div_le_self d (d.gcd n.natAbs)
 have:=qDB h1
 have:=qDB h2
 omega
theorem qOY (a b:Int):(a+b).natAbs<=a.natAbs+b.natAbs:=by omega
theorem qWas (p q:Rat):D (p+q)<=2 * (D p+D q)+1:=by
 rw[Rat.add_def']
 refine Nat.le_trans (D_mk _ _ (Nat.mul_ne_zero p.den_nz q.den_nz)) ?_
 have h1:=qDB (qOY (p.num * q.den) (q.num * p.den))
 have h2:=qLP (p.num * q.den).natAbs (q.num * p.den).natAbs
 rw[Int.natAbs_mul,Int.natAbs_mul,Int.natAbs_natCast,Int.natAbs_natCast] at h1 h2
 have h3:=qCC p.num.natAbs q.den
 have h4:=qCC q.num.natAbs p.den
 have h5:=qCC p.den q.den
 unfold D
 omega
theorem qLas (p q:Rat):D (p * q)<=D p+D q:=by
 rw[Rat.mul_def']
 refine Nat.le_trans (D_mk _ _ (Nat.mul_ne_zero p.den_nz q.den_nz)) ?_
 have h1:=qCC p.num.natAbs q.num.natAbs
 have h5:=qCC p.den q.den
 rw[Int.natAbs_mul]
 unfold D
 omega
theorem qJap (q:Rat):D (-q)=D q:=by unfold D;rw[Rat.neg_num,Rat.neg_den,Int.natAbs_neg]
theorem qEaw (q:Rat):D q⁻¹<=D q:=by
 unfold D
 rw[Rat.num_inv,Rat.den_inv]
 by_cases h:q.num=0
 ·rw[if_pos h,h];simp[qFD,qRN];have:=qUP q.den;omega
 ·rw[if_neg h,Int.natAbs_mul]
  have:(q.num.sign).natAbs=1:=Int.natAbs_sign_of_ne_zero h
  rw[this,Int.natAbs_natCast,Nat.one_mul];omega
theorem qXaq (n:Int):D (n:Rat)=(dd n.natAbs).length+1:=by
 unfold D;rw[Rat.num_intCast,Rat.den_intCast,qRN];rfl
end Go.AM.Num
end
section
set_option linter.unusedSimpArgs false
set_option linter.unusedVariables false
namespace Go.AM.Num
theorem qAal (r:qBs) (c:UInt8):strings_CutPrefix (c::r) [c]=some ((r,true,()),()):=by
 simp[strings_CutPrefix,Lib.trimPrefix,Lib.hasPrefix]
theorem qUap {s:qBs} {c:UInt8} (h:∀ r,s≠c::r):strings_CutPrefix s [c]=some ((s,false,()),()):=by
 have hp:Lib.hasPrefix s [c]=false:=by
  unfold Lib.hasPrefix
  cases s with
  |nil=>rfl
  |cons b t=>
   simp only[List.isPrefixOf,Bool.and_true,beq_eq_false_iff_ne,ne_eq]
   rintro rfl
   exact h t rfl
 simp[strings_CutPrefix,Lib.trimPrefix,hp]
theorem qZac {x y:qBs} {c:UInt8} (hx:c∉x):Lib.index (x++c::y) [c]=x.length:=by
 induction x with
 |nil=>unfold Lib.index;simp[List.isPrefixOf]
 |cons b x ih=>
  have hb:(c==b)=false:=by rw[beq_eq_false_iff_ne];rintro rfl;exact hx List.mem_cons_self
  have:=ih fun h=>hx (qY13 _ h)
  simp only[qY5]
  unfold Lib.index
  simp only[List.isPrefixOf,hb,Bool.false_and,this]
  have h1:((x.length:Int)==-1)=false:=by rw[beq_eq_false_iff_ne];omega
  simp[h1]
theorem qSaj {s:qBs} {c:UInt8} (hs:c∉s):Lib.index s [c]=-1:=by
 induction s with
 |nil=>rfl
 |cons b s ih=>
  have hb:(c==b)=false:=by rw[beq_eq_false_iff_ne];rintro rfl;exact hs List.mem_cons_self
  unfold Lib.index
  simp[List.isPrefixOf,hb,ih fun h=>hs (qY13 _ h)]
theorem qEad {x y:qBs} {c:UInt8} (hx:c∉x) (hl:(x++c::y).length<=1000000000):strings_Cut (x++c::y) [c]=some ((x,y,true,()),()):=by
 unfold strings_Cut
 rw[if_pos (by omega)]
 simp[Lib.cut,qZac hx]
theorem qZan {s:qBs} {c:UInt8} (hs:c∉s) (hl:s.length<=1000000000):strings_Cut s [c]=some ((s,[],false,()),()):=by
 unfold strings_Cut
 rw[if_pos (by omega)]
 simp[Lib.cut,qSaj hs]
theorem qUx (c:UInt8) (s:qBs):(∃ x y,s=x++c::y/\c∉x)\/c∉s:=by
 induction s with
 |nil=>exact .inr (by simp)
 |cons b s ih=>
  by_cases h:b=c
  ·subst h;exact .inl ⟨[],s,rfl,by simp⟩
  ·rcases ih with ⟨x,y,rfl,hx⟩ | hs
   ·refine .inl ⟨b::x,y,rfl,?_⟩
    intro hm
    rcases List.mem_cons.1 hm with rfl | hm
    ·exact h rfl
    ·exact hx hm
   ·refine .inr ?_
    intro hm
    rcases List.mem_cons.1 hm with rfl | hm
    ·exact h rfl
    ·exact hs hm
theorem qAam {s:qBs} {k:Nat} (h:k < s.length):(s.map (fun b=>(b.toNat:Int))).getD k 0=(s[k].toNat:Int):=by
 rw[qZ4,List.getElem?_map,qZ5 h];rfl
theorem qKq (s:qBs) (hl:s.length<=1000000000) :
 (qJK s/\qPA qSG (s,false,s.map (fun b=>(b.toNat:Int)),(s.length:Int),0,())=some (Ex.exit 0,(s,false,s.map (fun b=>(b.toNat:Int)),(s.length:Int),(s.length:Int),())))\/
 (¬ qJK s/\∃ i,qPA qSG (s,false,s.map (fun b=>(b.toNat:Int)),(s.length:Int),0,())=some (Ex.ret,(s,false,s.map (fun b=>(b.toNat:Int)),(s.length:Int),i,()))):=by
 obtain ⟨r,hr,hq⟩:=qTB (step:=qSG) (Q:=fun r=>(qJK s/\r=(Ex.exit 0,(s,false,s.map (fun b=>(b.toNat:Int)),(s.length:Int),(s.length:Int),())))\/(¬ qJK s/\∃ i,r=(Ex.ret,(s,false,s.map (fun b=>(b.toNat:Int)),(s.length:Int),i,()))))
  (fun m x=>∃ k:Nat,m+k=s.length/\x=(s,false,s.map (fun b=>(b.toNat:Int)),(s.length:Int),(k:Int),())/\qJK (s.take k)) (by
   rintro m x ⟨k,hm,rfl,hd⟩
   by_cases hk:k < s.length
   ·have hg:=qAam hk
    have e:(k:Int).toNat=k:=by omega
    have hml:(s.map (fun b=>(b.toNat:Int))).length=s.length:=by simp
    have hmem:s[k]∈s:=List.getElem_mem hk
    by_cases h1:s[k].toNat < 48
    ·refine .inl ⟨_,?_,?_,.inr ⟨fun h=>?_,(k:Int),rfl⟩⟩
     ·simp (disch:=(first | omega | (simp only[lnn];omega))) only[qSG,e,hg,hml,stp]
     ·simp
     ·have:=(h _ hmem).1;omega
    ·by_cases h2:s[k].toNat > 57
     ·refine .inl ⟨_,?_,?_,.inr ⟨fun h=>?_,(k:Int),rfl⟩⟩
      ·simp (disch:=(first | omega | (simp only[lnn];omega))) only[qSG,e,hg,hml,stp]
      ·simp
      ·have:=(h _ hmem).2;omega
     ·refine .inr ⟨m - 1,_,?_,by omega,k+1,by omega,rfl,?_⟩
      ·simp (disch:=(first | omega | (simp only[lnn];omega))) only[qSG,e,hg,hml,stp]
       rfl
      ·rw[List.take_succ_eq_append_getElem hk]
       refine hd.app fun c hc=>?_
       rw[List.mem_singleton.1 hc]
       exact ⟨by omega,by omega⟩
   ·have hks:k=s.length:=by omega
    subst hks
    refine .inl ⟨_,?_,?_,.inl ⟨by simpa using hd,rfl⟩⟩
    ·simp (disch:=(first | omega | (simp only[lnn];omega))) only[qSG,stp]
    ·simp) s.length _ ⟨0,by omega,rfl,by simp[qJK]⟩
 rcases hq with ⟨h,rfl⟩ | ⟨h,i,rfl⟩
 ·exact .inl ⟨h,hr⟩
 ·exact .inr ⟨h,i,hr⟩
theorem qDD {s t:qBs} (h:s=t):(s==t)=true:=by simpa using h
theorem qLC {s t:qBs} (h:s≠t):(s==t)=false:=by simpa using h
theorem qEB (s:qBs) (hl:s.length<=1000000000):qIK s=some ((s==dd (dval s),()),()):=by
 unfold qIK
 have hml:((s.map (fun b=>(b.toNat:Int))).length:Int)=(s.length:Int):=by simp
 rw[hml]
 rcases qKq s hl with ⟨hd,hr⟩ | ⟨hd,i,hr⟩
 ·simp (disch:=(first | omega | (simp only[lnn];omega))) only[hr,stp]
  by_cases h48:s=[48]
  ·subst h48
   rw[qDD rfl]
   have:([48]==dd (dval [48]))=true:=qDD (by rw[show dval [48]=0 from rfl,qFD])
   rw[this];rfl
  ·rw[qLC h48]
   cases s with
   |nil=>
    have:([]==dd (dval []))=false:=qLC (fun h=>qGh _ h.symm)
    rw[this];rfl
   |cons c t=>
    have hne:((c::t:qBs)==[])=false:=rfl
    rw[hne]
    simp only[qY1,qOA]
    simp (disch:=(first | omega | (simp only[lnn];omega))) only[stp]
    by_cases hc:c=48
    ·subst hc
     have:((48::t:qBs)==dd (dval (48::t)))=false:=qLC (fun h=>by
      by_cases h0:dval (48::t)=0
      ·rw[h0,qFD] at h;exact h48 h
      ·obtain ⟨c',s',e,_,hne'⟩:=qQt h0
       rw[e] at h
       simp only[List.cons.injEq] at h
       exact hne' h.1.symm)
     rw[this];rfl
    ·have:((c::t:qBs)==dd (dval (c::t)))=true:=qDD (qDak hd (by simp) (.inr (by simpa using hc)))
     rw[this]
     have hcn:((c.toNat:Int) !=48)=true:=by
      simp only[bne_iff_ne,ne_eq]
      intro e
      exact hc (UInt8.toNat_inj.1 (by show c.toNat=48;omega))
     show some (((((c::t).getD 0 0).toNat:Int) !=48,()),())=_
     rw[show ((c::t:qBs).getD 0 0)=c from rfl,hcn]
 ·simp (disch:=(first | omega | (simp only[lnn];omega))) only[hr,stp]
  have:(s==dd (dval s))=false:=qLC (fun h=>hd (h ▸ qBf _))
  rw[this]
end Go.AM.Num
end
section
set_option linter.unusedSimpArgs false
set_option linter.unusedVariables false
namespace Go.AM.Num
def rep (q:Rat):Bool×List Int×List Int:=(decide (q.num < 0),limbs q.num.natAbs,limbs q.den)
def sgn (neg:Bool):qBs:=if neg then [45] else []
theorem shape {neg:Bool} {s:qBs} {q:Rat} (hs:neg=false->∀ r,s≠45::r) (h:sgn neg++s=txt q):neg=decide (q.num < 0)/\s=dd q.num.natAbs++(if q.den=1 then [] else 47::dd q.den):=by
 unfold txt sgn at h
 cases neg with
 |true=>
  by_cases hq:q.num < 0
  ·rw[if_pos hq] at h
   simp only[if_true,List.singleton_append,qY5,qZ1,qY15,List.cons.injEq,true_and] at h
   exact ⟨(qZ10 hq).symm,h⟩
  ·rw[if_neg hq] at h
   simp only[if_true,List.singleton_append,qY15] at h
   exact absurd h.symm (qVm _ _ _)
 |false=>
  by_cases hq:q.num < 0
  ·rw[if_pos hq] at h
   simp only[Bool.false_eq_true,if_false,qY15,qY5,qZ1] at h
   exact absurd h (hs rfl _)
  ·rw[if_neg hq] at h
   simp only[Bool.false_eq_true,if_false,qY15] at h
   exact ⟨(qZ9 hq).symm,h⟩
theorem qPn (a:qBs):∃ neg s,strings_CutPrefix a [45]=some ((s,neg,()),())/\a=sgn neg++s/\(neg=false->∀ r,s≠45::r):=by
 by_cases h:∃ r,a=45::r
 ·obtain ⟨r,rfl⟩:=h
  exact ⟨true,r,qAal r 45,rfl,fun h=>by cases h⟩
 ·have h':∀ r,a≠45::r:=fun r e=>h ⟨r,e⟩
  exact ⟨false,a,qUap h',rfl,fun _=>h'⟩
theorem qNc (neg:Bool) (m d:Nat) (hd:d≠0) (hg:Nat.gcd m d=1):(mkRat (sg neg m) d).num=sg neg m/\(mkRat (sg neg m) d).den=d:=by
 rw[Rat.num_mkRat,Rat.den_mkRat,if_neg hd,if_neg hd,qPG,Nat.gcd_comm d m,hg]
 simp
theorem qVo {neg:Bool} {m d:Nat} (h:neg=true->m≠0):sgn neg++(dd m++(if d=1 then [] else 47::dd d))=tx neg m d:=by
 unfold sgn tx
 cases neg with
 |true=>simp[h rfl]
 |false=>simp
theorem qBh {neg:Bool} {m d:Nat} (hd:d≠0) (hg:Nat.gcd m d=1) (h:neg=true->m≠0):rep (mkRat (sg neg m) d)=(neg,limbs m,limbs d):=by
 obtain ⟨h1,h2⟩:=qNc neg m d hd hg
 unfold rep
 rw[h1,h2,qPG]
 congr 1
 cases neg with
 |true=>exact qZ10 ((qTP _ _).2 ⟨rfl,h rfl⟩)
 |false=>exact qZ9 (fun e=>by simpa using ((qTP _ _).1 e).1)
theorem qTa (a:qBs) (hl:a.length<=10000000) :
 ∃ r ok,qOH a=some ((r,ok,()),())/\((ok=true/\∃ q,a=txt q/\r=rep q)\/(ok=false/\∀ q,a≠txt q)):=by
 obtain ⟨neg,s,hcp,ha,hs⟩:=qPn a
 have hsl:s.length<=10000000:=by rw[ha,qZ6] at hl;omega
 have shp:∀ q,a=txt q->neg=decide (q.num < 0)/\s=dd q.num.natAbs++(if q.den=1 then [] else 47::dd q.den):=fun q h=>shape hs (ha ▸ h)
 have o:∀ n,qMK (limbs n)=some ((decide (n=1),()),()):=qLf
 rcases qUx 47 s with ⟨x,y,rfl,hx⟩ | hx
 ·have hxl:x.length<=10000000:=by rw[qZ6] at hsl;omega
  have hyl:y.length<=10000000:=by rw[qZ6,qY11] at hsl;omega
  have hcut:=qEad (y:=y) hx (by omega)
  have shp':∀ q,a=txt q->neg=decide (q.num < 0)/\q.den≠1/\x=dd q.num.natAbs/\y=dd q.den:=by
   intro q h
   obtain ⟨h1,h2⟩:=shp q h
   by_cases hd:q.den=1
   ·rw[if_pos hd,qY4] at h2
    exact absurd (show (47:UInt8)∈dd q.num.natAbs by rw[<-h2];simp) qHd
   ·rw[if_neg hd] at h2
    obtain ⟨e1,e2⟩:=qPi hx qHd h2
    exact ⟨h1,hd,e1,e2⟩
  by_cases hnx:x=dd (dval x)
  ·have hox:=qDD hnx
   by_cases h0:x=[48]
   ·refine ⟨(false,[],[]),false,?_,.inr ⟨rfl,fun q h=>?_⟩⟩
    ·unfold qOH
     simp (disch:=(first | omega | (simp only[lnn];omega))) only[hcp,hcut,qEB x (by omega),hox,qDD h0,stp]
     cases neg<;>rfl
    ·obtain ⟨_,h2,h3,_⟩:=shp' q h
     have hq0:q.num.natAbs=0:=qKS (by rw[<-h3,h0,qFD])
     have:Nat.gcd q.num.natAbs q.den=1:=q.reduced
     rw[hq0,Nat.gcd_zero_left] at this
     exact h2 this
   ·have hno:=qPm (s:=x) (hnx ▸ qBf _) (by omega)
    have hm0:dval x≠0:=fun e=>h0 (by rw[hnx,e,qFD])
    by_cases hny:y=dd (dval y)
    ·by_cases hy0:y=[48]
     ·refine ⟨(false,[],[]),false,?_,.inr ⟨rfl,fun q h=>?_⟩⟩
      ·unfold qOH
       simp (disch:=(first | omega | (simp only[lnn];omega))) only[hcp,hcut,qEB x (by omega),hox,qLC h0,hno,qEB y (by omega),qDD hny,qDD hy0,stp]
      ·obtain ⟨_,h2,h3,h4⟩:=shp' q h
       exact q.den_nz (qKS (by rw[<-h4,hy0,qFD]))
     ·by_cases hy1:y=[49]
      ·refine ⟨(false,[],[]),false,?_,.inr ⟨rfl,fun q h=>?_⟩⟩
       ·unfold qOH
        simp (disch:=(first | omega | (simp only[lnn];omega))) only[hcp,hcut,qEB x (by omega),hox,qLC h0,hno,qEB y (by omega),qDD hny,qLC hy0,qDD hy1,stp]
       ·obtain ⟨_,h2,h3,h4⟩:=shp' q h
        exact h2 (qKS (by rw[<-h4,hy1,qRN]))
      ·have hno2:=qPm (s:=y) (hny ▸ qBf _) (by omega)
       have hd0:dval y≠0:=fun e=>hy0 (by rw[hny,e,qFD])
       have hd1:dval y≠1:=fun e=>hy1 (by rw[hny,e,qRN])
       have hg:=qHag (dval x) (dval y) (Nat.le_trans (qAI _) (by rw[<-hnx];omega)) (Nat.le_trans (qAI _) (by rw[<-hny];omega))
       refine ⟨(neg,limbs (dval x),limbs (dval y)),decide (Nat.gcd (dval x) (dval y)=1),?_,?_⟩
       ·unfold qOH
        simp (disch:=(first | omega | (simp only[lnn];omega))) only[hcp,hcut,qEB x (by omega),hox,qLC h0,hno,qEB y (by omega),qDD hny,qLC hy0,qLC hy1,hno2,hg,o,stp]
       ·by_cases hg1:Nat.gcd (dval x) (dval y)=1
        ·refine .inl ⟨qZ10 hg1,mkRat (sg neg (dval x)) (dval y),?_,(qBh hd0 hg1 (fun _=>hm0)).symm⟩
         rw[<-qHW neg _ _ hd0 hg1,<-qVo (fun _=>hm0),if_neg hd1,<-hnx,<-hny]
         exact ha
        ·refine .inr ⟨qZ9 hg1,fun q h=>?_⟩
         obtain ⟨_,h2,h3,h4⟩:=shp' q h
         rw[h3,h4,qOF,qOF] at hg1
         exact hg1 q.reduced
    ·refine ⟨(false,[],[]),false,?_,.inr ⟨rfl,fun q h=>?_⟩⟩
     ·unfold qOH
      simp (disch:=(first | omega | (simp only[lnn];omega))) only[hcp,hcut,qEB x (by omega),hox,qLC h0,hno,qEB y (by omega),qLC hny,stp]
     ·obtain ⟨_,h2,h3,h4⟩:=shp' q h
      exact hny (by rw[h4,qOF])
  ·refine ⟨(false,[],[]),false,?_,.inr ⟨rfl,fun q h=>?_⟩⟩
   ·unfold qOH
    simp (disch:=(first | omega | (simp only[lnn];omega))) only[hcp,hcut,qEB x (by omega),qLC hnx,stp]
   ·obtain ⟨_,h2,h3,h4⟩:=shp' q h
    exact hnx (by rw[h3,qOF])
 ·have hcut:=qZan hx (by omega)
  have shp':∀ q,a=txt q->neg=decide (q.num < 0)/\q.den=1/\s=dd q.num.natAbs:=by
   intro q h
   obtain ⟨h1,h2⟩:=shp q h
   by_cases hd:q.den=1
   ·rw[if_pos hd,qY4] at h2
    exact ⟨h1,hd,h2⟩
   ·rw[if_neg hd] at h2
    exact absurd (by rw[h2];simp) hx
  by_cases hnx:s=dd (dval s)
  ·have hox:=qDD hnx
   have hno:=qPm (s:=s) (hnx ▸ qBf _) (by omega)
   have fin:(neg=true->dval s≠0)->a=txt (mkRat (sg neg (dval s)) 1)/\(neg,limbs (dval s),([1]:List Int))=rep (mkRat (sg neg (dval s)) 1):=by
    intro h
    constructor
    ·rw[<-qHW neg _ _ (by decide) (Nat.gcd_one_right _),<-qVo h]
     simp only[if_true,qY4]
     rw[<-hnx];exact ha
    ·rw[qBh (by decide) (Nat.gcd_one_right _) h,qNV]
   by_cases h0:s=[48]
   ·cases hneg:neg with
    |true=>
     subst hneg
     refine ⟨(false,[],[]),false,?_,.inr ⟨rfl,fun q h=>?_⟩⟩
     ·unfold qOH
      simp (disch:=(first | omega | (simp only[lnn];omega))) only[hcp,hcut,qEB s (by omega),hox,qDD h0,stp]
     ·obtain ⟨h1,h2,h3⟩:=shp' q h
      have hq0:q.num.natAbs=0:=qKS (by rw[<-h3,h0,qFD])
      have:=of_decide_eq_true h1.symm
      omega
    |false=>
     subst hneg
     obtain ⟨f1,f2⟩:=fin (fun h=>by cases h)
     refine ⟨_,true,?_,.inl ⟨rfl,_,f1,f2⟩⟩
     unfold qOH
     simp (disch:=(first | omega | (simp only[lnn];omega))) only[hcp,hcut,qEB s (by omega),hox,qDD h0,hno,stp]
   ·have hm0:dval s≠0:=fun e=>h0 (by rw[hnx,e,qFD])
    obtain ⟨f1,f2⟩:=fin (fun _=>hm0)
    refine ⟨_,true,?_,.inl ⟨rfl,_,f1,f2⟩⟩
    unfold qOH
    simp (disch:=(first | omega | (simp only[lnn];omega))) only[hcp,hcut,qEB s (by omega),hox,qLC h0,hno,stp]
  ·refine ⟨(false,[],[]),false,?_,.inr ⟨rfl,fun q h=>?_⟩⟩
   ·unfold qOH
    simp (disch:=(first | omega | (simp only[lnn];omega))) only[hcp,hcut,qEB s (by omega),qLC hnx,stp]
   ·obtain ⟨_,h2,h3⟩:=shp' q h
    exact hnx (by rw[h3,qOF])
theorem qSw (q:Rat) (h:D q<=9000000):qOH (txt q)=some ((rep q,true,()),()):=by
 obtain ⟨r,ok,hr,⟨rfl,p,hp,rfl⟩ | ⟨rfl,hn⟩⟩:=qTa (txt q) (by have:=qXD q;omega)
 ·rw[hr,txt_inj hp]
 ·exact absurd rfl (hn q)
end Go.AM.Num
end
section
set_option linter.unusedSimpArgs false
set_option linter.unusedVariables false
namespace Go.AM.Num
theorem qWp (M:Nat) (hM:1000000000000000000<=M) (s:qBs) (acc:Nat) (hd:qJK s) (h:acc * 10 ^ s.length+dval s < 1000000000000000000):Lib.parseUintM M acc s=.ok (acc * 10 ^ s.length+dval s):=by
 induction s generalizing acc with
 |nil=>simp[Lib.parseUintM,dval]
 |cons c s ih=>
  have hc:=hd c (by simp)
  have hdc:c.toNat - 48=dig c:=rfl
  rw[qKM,qY11,Nat.pow_succ] at h ⊢
  have hp:1<=10 ^ s.length:=Nat.one_le_pow _ _ (by decide)
  have e:acc * (10 ^ s.length * 10)+(dig c * 10 ^ s.length+dval s)=(acc * 10+dig c) * 10 ^ s.length+dval s:=by grind
  rw[e] at h ⊢
  have h1:(acc * 10+dig c) * 1<=(acc * 10+dig c) * 10 ^ s.length:=Nat.mul_le_mul_left _ hp
  unfold Lib.parseUintM
  rw[if_pos ⟨hc.1,hc.2⟩,if_neg (by omega),hdc,if_neg (by omega)]
  exact ih (acc * 10+dig c) (fun x hx=>hd x (by simp[hx])) h
theorem qSX (n:Nat) (h:n < 1000000000):qOE (dd n) 10 64=some (((n:Int),false,()),()):=by
 have hl:(dd n).length<=9:=qDI (by simpa using h) (by decide)
 have hm:=qWp (2 ^ 64 - 1) (by decide) (dd n) 0 (qBf n) (by rw[qOF];omega)
 rw[qOF,Nat.zero_mul,Nat.zero_add] at hm
 unfold qOE
 rw[if_pos ⟨rfl,rfl,by omega⟩]
 have:Lib.parseIntB 64 (dd n)=.ok (n:Int):=by
  cases e:dd n with
  |nil=>exact absurd e (qGh n)
  |cons c r=>
   have hc:=qBf n c (by rw[e];simp)
   unfold Lib.parseIntB
   have h1:¬ (c.toNat=43\/c.toNat=45):=by have:=hc.1;omega
   have h2:¬ c.toNat=45:=by have:=hc.1;omega
   simp only[if_neg h1]
   unfold Lib.parseUintB
   rw[if_neg (by simp),<-e,hm]
   simp[h2]
   omega
 rw[this]
theorem qOk (m n:Nat):qPQ (m:Int) (n:Int)=some ((((Nat.gcd m n:Nat):Int),()),()):=by
 obtain ⟨r,hr,b,rfl⟩:=qTB (step:=qKO) (Q:=fun r=>∃ b,r=(Ex.exit 0,(((Nat.gcd m n:Nat):Int),b,())))
  (fun k x=>∃ a b:Nat,x=((a:Int),(b:Int),())/\k=b/\Nat.gcd a b=Nat.gcd m n) (by
   rintro k x ⟨a,b,rfl,rfl,hg⟩
   by_cases h0:k=0
   ·subst h0
    refine .inl ⟨(Ex.exit 0,((a:Int),0,())),?_,by simp,0,?_⟩
    ·simp (disch:=(first | omega | (simp only[lnn];omega))) only[qKO,stp]
     rfl
    ·rw[<-hg,Nat.gcd_zero_right]
   ·refine .inr ⟨a % k,_,?_,Nat.mod_lt _ (by omega),k,a % k,rfl,rfl,?_⟩
    ·simp (disch:=(first | omega | (simp only[lnn];omega))) only[qKO,stp]
     rw[<-Int.natCast_emod]
    ·rw[Nat.gcd_comm,<-Nat.gcd_rec,Nat.gcd_comm,hg]) n _ ⟨m,n,rfl,rfl,rfl⟩
 unfold qPQ
 rw[hr]
 simp (disch:=(first | omega | (simp only[lnn];omega))) only[stp]
def qJm (a:qBs) (r:Int×Int):Prop:=∃ q,a=txt q/\r=(q.num,(q.den:Int))/\q.num.natAbs < 1000000000/\q.den < 1000000000
theorem qWb {n:Nat} (h:(dd n).length<=9):n < 1000000000:=by
 have:=qFO n
 have h2:10 ^ (dd n).length<=10 ^ 9:=Nat.pow_le_pow_right (by decide) h
 omega
theorem qLc (a:qBs) (hl:a.length<=10000000):∃ r ok,qEC a=some ((r,ok,()),())/\(ok=true->qJm a r):=by
 obtain ⟨neg,s,hcp,ha,hs⟩:=qPn a
 have hsl:s.length<=10000000:=by rw[ha,qZ6] at hl;omega
 have nope:∀ (r:Int×Int),qEC a=some ((r,false,()),())->∃ r ok,qEC a=some ((r,ok,()),())/\(ok=true->qJm a r):=fun r h=>⟨r,false,h,fun h=>by cases h⟩
 rcases qUx 47 s with ⟨x,y,rfl,hx⟩ | hx
 ·have hxl:x.length<=10000000:=by rw[qZ6] at hsl;omega
  have hyl:y.length<=10000000:=by rw[qZ6,qY11] at hsl;omega
  have hcut:=qEad (y:=y) hx (by omega)
  by_cases h9:x.length<=9
  ·by_cases hy9:y.length<=9
   ·by_cases hnx:x=dd (dval x)
    ·have hox:=qDD hnx
     by_cases h0:x=[48]
     ·refine nope (0,0) ?_
      unfold qEC
      simp (disch:=(first | omega | (simp only[lnn];omega))) only[hcp,hcut,qEB x (by omega),hox,qDD h0,stp]
      cases neg<;>rfl
     ·have hm0:dval x≠0:=fun e=>h0 (by rw[hnx,e,qFD])
      have hmB:dval x < 1000000000:=qWb (by rw[<-hnx];exact h9)
      have hp:=qSX (dval x) hmB
      rw[<-hnx] at hp
      by_cases hny:y=dd (dval y)
      ·have hdB:dval y < 1000000000:=qWb (by rw[<-hny];exact hy9)
       have hpy:=qSX (dval y) hdB
       rw[<-hny] at hpy
       by_cases h2:dval y < 2
       ·refine nope (0,0) ?_
        unfold qEC
        simp (disch:=(first | omega | (simp only[lnn];omega))) only[hcp,hcut,qEB x (by omega),hox,qLC h0,hp,qEB y (by omega),qDD hny,hpy,stp]
       ·have hdv:=qOk (dval x) (dval y)
        by_cases hg:Nat.gcd (dval x) (dval y)=1
        ·have hd0:dval y≠0:=by omega
         obtain ⟨e1,e2⟩:=qNc neg (dval x) (dval y) hd0 hg
         have hsm:qJm a (sg neg (dval x),((dval y:Nat):Int)):=by
          refine ⟨mkRat (sg neg (dval x)) (dval y),?_,by rw[e1,e2],by rw[e1,qPG];exact hmB,by rw[e2];exact hdB⟩
          rw[<-qHW neg _ _ hd0 hg,<-qVo (fun _=>hm0),if_neg (by omega),<-hnx,<-hny]
          exact ha
         rw[hg] at hdv
         cases neg with
         |true=>
          refine ⟨_,true,?_,fun _=>hsm⟩
          unfold qEC
          simp (disch:=(first | omega | (simp only[lnn];omega))) only[hcp,hcut,qEB x (by omega),hox,qLC h0,hp,qEB y (by omega),qDD hny,hpy,hdv,stp]
          simp[sg]
         |false=>
          refine ⟨_,true,?_,fun _=>hsm⟩
          unfold qEC
          simp (disch:=(first | omega | (simp only[lnn];omega))) only[hcp,hcut,qEB x (by omega),hox,qLC h0,hp,qEB y (by omega),qDD hny,hpy,hdv,stp]
          simp[sg]
        ·refine nope (0,0) ?_
         unfold qEC
         simp (disch:=(first | omega | (simp only[lnn];omega))) only[hcp,hcut,qEB x (by omega),hox,qLC h0,hp,qEB y (by omega),qDD hny,hpy,hdv,stp]
      ·refine nope (0,0) ?_
       unfold qEC
       simp (disch:=(first | omega | (simp only[lnn];omega))) only[hcp,hcut,qEB x (by omega),hox,qLC h0,hp,qEB y (by omega),qLC hny,stp]
    ·refine nope (0,0) ?_
     unfold qEC
     simp (disch:=(first | omega | (simp only[lnn];omega))) only[hcp,hcut,qEB x (by omega),qLC hnx,stp]
   ·refine nope (0,0) ?_
    unfold qEC
    simp (disch:=(first | omega | (simp only[lnn];omega))) only[hcp,hcut,stp]
  ·refine nope (0,0) ?_
   unfold qEC
   simp (disch:=(first | omega | (simp only[lnn];omega))) only[hcp,hcut,stp]
 ·have hcut:=qZan hx (by omega)
  have hnil:(([]:qBs).length:Int)=0:=rfl
  by_cases h9:s.length<=9
  ·by_cases hnx:s=dd (dval s)
   ·have hox:=qDD hnx
    have hmB:dval s < 1000000000:=qWb (by rw[<-hnx];exact h9)
    have hp:=qSX (dval s) hmB
    rw[<-hnx] at hp
    have fin:(neg=true->dval s≠0)->qJm a (sg neg (dval s),1):=by
     intro h
     obtain ⟨e1,e2⟩:=qNc neg (dval s) 1 (by decide) (Nat.gcd_one_right _)
     refine ⟨mkRat (sg neg (dval s)) 1,?_,by rw[e1,e2];rfl,by rw[e1,qPG];exact hmB,by rw[e2];decide⟩
     rw[<-qHW neg _ _ (by decide) (Nat.gcd_one_right _),<-qVo h]
     simp only[if_true,qY4]
     rw[<-hnx];exact ha
    by_cases h0:s=[48]
    ·cases neg with
     |true=>
      refine nope (0,0) ?_
      unfold qEC
      simp (disch:=(first | omega | (simp only[lnn];omega))) only[hcp,hcut,hnil,qEB s (by omega),hox,qDD h0,stp]
     |false=>
      refine ⟨_,true,?_,fun _=>fin (fun h=>by cases h)⟩
      unfold qEC
      simp (disch:=(first | omega | (simp only[lnn];omega))) only[hcp,hcut,hnil,qEB s (by omega),hox,qDD h0,hp,stp]
      simp[sg]
    ·have hm0:dval s≠0:=fun e=>h0 (by rw[hnx,e,qFD])
     cases neg with
     |true=>
      refine ⟨_,true,?_,fun _=>fin (fun _=>hm0)⟩
      unfold qEC
      simp (disch:=(first | omega | (simp only[lnn];omega))) only[hcp,hcut,hnil,qEB s (by omega),hox,qLC h0,hp,stp]
      simp[sg]
     |false=>
      refine ⟨_,true,?_,fun _=>fin (fun _=>hm0)⟩
      unfold qEC
      simp (disch:=(first | omega | (simp only[lnn];omega))) only[hcp,hcut,hnil,qEB s (by omega),hox,qLC h0,hp,stp]
      simp[sg]
   ·refine nope (0,0) ?_
    unfold qEC
    simp (disch:=(first | omega | (simp only[lnn];omega))) only[hcp,hcut,hnil,qEB s (by omega),qLC hnx,stp]
  ·refine nope (0,0) ?_
   unfold qEC
   simp (disch:=(first | omega | (simp only[lnn];omega))) only[hcp,hcut,stp]
theorem qJaq (neg:Bool) (m:Nat):Lib.itoa (sg neg m)=(if neg=true/\m≠0 then [45] else [])++dd m:=by
 unfold Lib.itoa
 by_cases h:sg neg m < 0
 ·rw[if_pos h,if_pos ((qTP _ _).1 h),qPG];rfl
 ·rw[if_neg h,if_neg (fun e=>h ((qTP _ _).2 e))]
  have:(sg neg m).toNat=m:=by have:=qPG neg m;omega
  rw[this];rfl
theorem qWz {n:Int} (h:n.natAbs < 9000000000000000000):qTt n:=⟨by omega,by omega⟩
theorem qSan (neg:Bool) (m:Nat) (h:m < 9000000000000000000):qVC (sg neg m) 10=some (((if neg=true/\m≠0 then [45] else [])++dd m,()),()):=by
 unfold qVC
 rw[if_pos ⟨qWz (by rw[qPG];exact h),rfl⟩,qJaq]
theorem qVaq (m:Nat) (h:m < 9000000000000000000):qVC (m:Int) 10=some ((dd m,()),()):=by
 have:=qSan false m h
 simpa [sg] using this
theorem qHaq (neg:Bool) (m g:Nat):(sg neg m).tdiv (g:Int)=sg neg (m / g):=by
 cases neg with
 |false=>simp only[sg,Bool.false_eq_true,if_false];rw[Int.tdiv_eq_ediv_of_nonneg (by omega),Int.natCast_ediv]
 |true=>simp only[sg,if_true];rw[Int.neg_tdiv,Int.tdiv_eq_ediv_of_nonneg (by omega),Int.natCast_ediv]
theorem qBaj (n:Int):qJc n (0 - n)=(n.natAbs:Int):=by rw[qUe];split<;>omega
theorem qNx (neg:Bool) (m:Nat):-(m:Int)<=sg neg m/\sg neg m<=m:=by cases neg<;>simp[sg]<;>omega
theorem qDaa (n:Int):n=sg (decide (n < 0)) n.natAbs:=by
 unfold sg
 by_cases h:n < 0
 ·rw[qZ10 h];simp;omega
 ·rw[qZ9 h];simp;omega
theorem qEM:qEP=1152921504606846976:=rfl
theorem qJat (p:Prop) [Decidable p]:(if p then [(45:UInt8)] else []).length<=1:=by split<;>simp
theorem qQw (neg:Bool) (m d:Nat) (hd:d≠0) (hm:m < 9000000000000000000) (hdB:d < 9000000000000000000) :
 qWM (sg neg m) (d:Int)=some ((txt (mkRat (sg neg m) d),()),()):=by
 have hg0:Nat.gcd m d≠0:=fun e=>hd (Nat.gcd_eq_zero_iff.1 e).2
 have hdv:=qOk m d
 obtain ⟨b1,b2⟩:=qNx neg m
 have hmx:qJc (sg neg m) (0 - sg neg m)=(m:Int):=by rw[qBaj,qPG]
 have hn1:=Nat.div_le_self m (Nat.gcd m d)
 have hn2:=Nat.div_le_self d (Nat.gcd m d)
 obtain ⟨c1,c2⟩:=qNx neg (m / Nat.gcd m d)
 have f1:=qSan neg (m / Nat.gcd m d) (by omega)
 have f2:=qVaq (d / Nat.gcd m d) (by omega)
 have hdt:((d:Int)).tdiv ((Nat.gcd m d:Nat):Int)=((d / Nat.gcd m d:Nat):Int):=by rw[Int.tdiv_eq_ediv_of_nonneg (by omega),Int.natCast_ediv]
 have hdt2:(d:Int) / ((Nat.gcd m d:Nat):Int)=((d / Nat.gcd m d:Nat):Int):=(Int.natCast_ediv _ _).symm
 have hl1:(dd (m / Nat.gcd m d)).length<=19:=qDI (by omega) (by decide)
 have hl2:(dd (d / Nat.gcd m d)).length<=19:=qDI (by omega) (by decide)
 rw[<-qRZ neg m d hd]
 unfold tx
 have hnum:=qHaq neg m (Nat.gcd m d)
 obtain ⟨pre,hpre⟩:∃ pre:qBs,pre=(if neg=true/\m / Nat.gcd m d≠0 then [45] else []):=⟨_,rfl⟩
 have hprel:pre.length<=1:=by rw[hpre];exact qJat _
 rw[<-hpre] at f1 ⊢
 unfold qWM
 by_cases h1:d / Nat.gcd m d=1
 ·rw[if_pos h1]
  rw[h1] at hdt hdt2
  simp (disch:=(first | omega | (simp only[lnn];omega))) only[hmx,hdv,hnum,f1,hdt,hdt2,stp]
  simp
 ·have hq0:0 < d / Nat.gcd m d:=Nat.div_pos (Nat.le_of_dvd (by omega) (Nat.gcd_dvd_right m d)) (by omega)
  rw[if_neg h1]
  have g1:([47]:qBs).length+(dd (d / Nat.gcd m d)).length<=qEP:=by rw[qEM];simp;omega
  have g2:(pre++dd (m / Nat.gcd m d)).length+(([47]:qBs)++dd (d / Nat.gcd m d)).length<=qEP:=by rw[qEM];simp;omega
  simp (disch:=(first | omega | (simp only[lnn];omega))) only[hmx,hdv,hnum,f1,hdt,hdt2,f2,qBA g1,qBA g2,stp]
  simp
theorem qRad (n d:Int) (hd:d≠0) (hn:n.natAbs < 9000000000000000000) (hdB:d.natAbs < 9000000000000000000) :
 qWM n d=some ((txt (Rat.divInt n d),()),()):=by
 by_cases h:d < 0
 ·have h1:=qQw (decide (-n < 0)) n.natAbs d.natAbs (by omega) hn hdB
  have e1:sg (decide (-n < 0)) n.natAbs=-n:=by have:=qDaa (-n);rw[Int.natAbs_neg] at this;exact this.symm
  rw[e1] at h1
  have e2:(d.natAbs:Int)=-d:=by omega
  rw[e2] at h1
  have e3:Rat.divInt n d=mkRat (-n) d.natAbs:=by rw[<-Rat.neg_divInt_neg,<-e2,Rat.divInt_ofNat]
  rw[e3,<-h1]
  have w1:qI (0 - n)=0 - n:=w64 (by omega)
  have w2:qI (0 - d)=0 - d:=w64 (by omega)
  unfold qWM
  rw[w1,w2,show (0:Int) - n=-n by omega,show (0:Int) - d=-d by omega,qIA h,qNA (by omega)]
 ·have h1:=qQw (decide (n < 0)) n.natAbs d.natAbs (by omega) hn hdB
  rw[<-qDaa n] at h1
  have e2:(d.natAbs:Int)=d:=by omega
  rw[<-Rat.divInt_ofNat,e2] at h1
  exact h1
end Go.AM.Num
end
section
set_option linter.unusedSimpArgs false
set_option linter.unusedVariables false
namespace Go.AM.Num
theorem qOt (neg:Bool) (m d:Nat) (hm:(dd m).length<=100000000) (hd:(dd d).length<=100000000):qPL (neg,limbs m,limbs d)=some ((tx neg m d,()),()):=by
 have tm':=qIac m (by have:=qAI m;omega)
 have td':=qIac d (by have:=qAI d;omega)
 have o:=qLf d
 have h1:([45]:qBs).length+(dd m).length<=qEP:=by rw[qEM];simp;omega
 have h2:([47]:qBs).length+(dd d).length<=qEP:=by rw[qEM];simp;omega
 have h3:(([45]:qBs)++dd m).length+(([47]:qBs)++dd d).length<=qEP:=by rw[qEM];simp;omega
 have h4:(dd m).length+(([47]:qBs)++dd d).length<=qEP:=by rw[qEM];simp;omega
 have hl0:¬ ((limbs 0).length:Int) > 0:=by rw[limbs_zero];simp
 unfold qPL tx
 cases neg with
 |true=>
  by_cases hm0:m=0
  ·subst hm0
   by_cases h:d=1
   ·subst h
    simp (disch:=(first | omega | (simp only[lnn];omega))) only[tm',td',qLf 1,qNA hl0,decide_true,stp]
    simp
   ·simp (disch:=(first | omega | (simp only[lnn];omega))) only[tm',td',o,qNA hl0,qZ9 h,qBA h2,qBA h4,stp]
    simp[h]
  ·have hl:((limbs m).length:Int) > 0:=by
    have:(limbs m).length≠0:=fun e=>hm0 (limbs_nil.1 (List.eq_nil_of_length_eq_zero e))
    omega
   by_cases h:d=1
   ·subst h
    simp (disch:=(first | omega | (simp only[lnn];omega))) only[tm',td',qLf 1,qIA hl,decide_true,qBA h1,stp]
    simp[hm0]
   ·simp (disch:=(first | omega | (simp only[lnn];omega))) only[tm',td',o,qIA hl,qZ9 h,qBA h1,qBA h2,qBA h3,stp]
    simp[h,hm0]
 |false=>
  by_cases h:d=1
  ·subst h
   simp (disch:=(first | omega | (simp only[lnn];omega))) only[tm',td',qLf 1,decide_true,stp]
   simp
  ·simp (disch:=(first | omega | (simp only[lnn];omega))) only[tm',td',o,qZ9 h,qBA h2,qBA h4,stp]
   simp[h]
def Is (r:Bool×List Int×List Int) (q:Rat):Prop:=∃ neg m d,r=(neg,limbs m,limbs d)/\tx neg m d=txt q/\(dd m).length<=100000000/\(dd d).length<=100000000
theorem Is.text {r:Bool×List Int×List Int} {q:Rat} (h:Is r q):qPL (r.1,r.2.1,r.2.2)=some ((txt q,()),()):=by
 obtain ⟨neg,m,d,rfl,h1,h2,h3⟩:=h
 rw[qOt neg m d h2 h3,h1]
theorem qBb (neg:Bool) (m d:Nat) (hd:d≠0) (hm:(dd m).length<=100000000) (hdl:(dd d).length<=100000000) :
 ∃ r,qKR neg (limbs m) (limbs d)=some ((r,()),())/\Is r (mkRat (sg neg m) d):=
 ⟨_,qUaf neg m d hd (Nat.le_trans (qAI _) hm) (Nat.le_trans (qAI _) hdl),neg,_,_,rfl,qRZ neg m d hd,
  Nat.le_trans (qDB (Nat.div_le_self _ _)) hm,Nat.le_trans (qDB (Nat.div_le_self _ _)) hdl⟩
theorem qGN (q:Rat):(dd q.num.natAbs).length<=D q:=by unfold D;omega
theorem qMO (q:Rat):(dd q.den).length<=D q:=by unfold D;omega
theorem qUv (p q:Rat):p+q=mkRat (sg (decide (p.num < 0)) (p.num.natAbs * q.den)+sg (decide (q.num < 0)) (q.num.natAbs * p.den)) (p.den * q.den):=by
 rw[Rat.add_def']
 congr 1
 have h1:=qMp (decide (p.num < 0)) false p.num.natAbs q.den
 have h2:=qMp (decide (q.num < 0)) false q.num.natAbs p.den
 rw[qJV] at h1 h2
 simp only[Bool.bne_false] at h1 h2
 rw[<-h1,<-h2];rfl
theorem radd (p q:Rat) (h:D p+D q<=10000000):∃ r,qGa (rep p) (rep q)=some ((r,()),())/\Is r (p+q):=by
 have a1:=qGN p
 have a2:=qMO p
 have a3:=qGN q
 have a4:=qMO q
 have b1:=qCC p.num.natAbs q.den
 have b2:=qCC q.num.natAbs p.den
 have b3:=qCC p.den q.den
 have b4:=qLP (p.num.natAbs * q.den) (q.num.natAbs * p.den)
 have b5:=qDB (Nat.sub_le (p.num.natAbs * q.den) (q.num.natAbs * p.den))
 have b6:=qDB (Nat.sub_le (q.num.natAbs * p.den) (p.num.natAbs * q.den))
 have L:=qAI
 have m1:=qSo p.num.natAbs q.den (by have:=L p.num.natAbs;omega) (by have:=L q.den;omega)
 have m2:=qSo q.num.natAbs p.den (by have:=L q.num.natAbs;omega) (by have:=L p.den;omega)
 have m3:=qSo p.den q.den (by have:=L p.den;omega) (by have:=L q.den;omega)
 have hd0:p.den * q.den≠0:=Nat.mul_ne_zero p.den_nz q.den_nz
 obtain ⟨x,hx⟩:∃ x,x=p.num.natAbs * q.den:=⟨_,rfl⟩
 obtain ⟨y,hy⟩:∃ y,y=q.num.natAbs * p.den:=⟨_,rfl⟩
 have hf:=qUv p q
 rw[<-hx] at b1 b4 b5 b6 m1 hf
 rw[<-hy] at b2 b4 b5 b6 m2 hf
 have Lx:=L x
 have Ly:=L y
 rw[hf]
 obtain ⟨n1,hn1⟩:∃ n,n=decide (p.num < 0):=⟨_,rfl⟩
 obtain ⟨n2,hn2⟩:∃ n,n=decide (q.num < 0):=⟨_,rfl⟩
 unfold qGa rep
 rw[<-hn1,<-hn2]
 by_cases hs:n1=n2
 ·subst hs
  have e:sg n1 x+sg n1 y=sg n1 (x+y):=by cases n1<;>simp[sg];omega
  rw[e]
  obtain ⟨r,hr,hi⟩:=qBb n1 (x+y) (p.den * q.den) hd0 (by omega) (by omega)
  refine ⟨r,?_,hi⟩
  simp (disch:=(first | omega | (simp only[lnn];omega))) only[m1,m2,m3,qYam x y (by omega) (by omega),hr,beq_self_eq_true,stp]
 ·have hsb:(n1==n2)=false:=by simpa using hs
  obtain ⟨c,hc,hc1,hc2⟩:=qGan x y (by omega) (by omega)
  by_cases hle:y<=x
  ·have hc0:c>=0:=by
    rcases Int.lt_or_le c 0 with h | h
    ·have:=hc1.1 h;omega
    ·exact h
   have e:sg n1 x+sg n2 y=sg n1 (x - y):=by cases n1<;>cases n2<;>simp_all [sg]<;>omega
   rw[e]
   obtain ⟨r,hr,hi⟩:=qBb n1 (x - y) (p.den * q.den) hd0 (by omega) (by omega)
   refine ⟨r,?_,hi⟩
   simp (disch:=(first | omega | (simp only[lnn];omega))) only[m1,m2,m3,hsb,hc,qMag x y (by omega) hle,hr,stp]
  ·have hc0:¬ c>=0:=by have:=hc1.2 (by omega);omega
   have e:sg n1 x+sg n2 y=sg n2 (y - x):=by cases n1<;>cases n2<;>simp_all [sg]<;>omega
   rw[e]
   obtain ⟨r,hr,hi⟩:=qBb n2 (y - x) (p.den * q.den) hd0 (by omega) (by omega)
   refine ⟨r,?_,hi⟩
   simp (disch:=(first | omega | (simp only[lnn];omega))) only[m1,m2,m3,hsb,hc,qMag y x (by omega) (by omega),hr,stp]
theorem qPav (n1 n2:Bool) (m1 d1 m2 d2:Nat) (h1:d1≠0) (h2:d2≠0) (a1:(dd m1).length<=10000000) (a2:(dd d1).length<=10000000) (a3:(dd m2).length<=10000000) (a4:(dd d2).length<=10000000) :
 ∃ r,qRV (n1,limbs m1,limbs d1) (n2,limbs m2,limbs d2)=some ((r,()),())/\Is r (mkRat (sg n1 m1 * sg n2 m2) (d1 * d2)):=by
 have b1:=qCC m1 m2
 have b2:=qCC d1 d2
 have L:=qAI
 have e1:=qSo m1 m2 (by have:=L m1;omega) (by have:=L m2;omega)
 have e2:=qSo d1 d2 (by have:=L d1;omega) (by have:=L d2;omega)
 obtain ⟨r,hr,hi⟩:=qBb (n1 !=n2) (m1 * m2) (d1 * d2) (Nat.mul_ne_zero h1 h2) (by omega) (by omega)
 rw[<-qMp] at hi
 refine ⟨r,?_,hi⟩
 have e3:(!(n1==n2))=(n1 !=n2):=rfl
 unfold qRV
 simp (disch:=(first | omega | (simp only[lnn];omega))) only[e1,e2,e3,hr,stp]
theorem rmul (p q:Rat) (h:D p+D q<=10000000):∃ r,qRV (rep p) (rep q)=some ((r,()),())/\Is r (p * q):=by
 have:=qPav (decide (p.num < 0)) (decide (q.num < 0)) p.num.natAbs p.den q.num.natAbs q.den p.den_nz q.den_nz (by have:=qGN p;omega) (by have:=qMO p;omega) (by have:=qGN q;omega) (by have:=qMO q;omega)
 rw[qJV,qJV,<-Rat.mul_def'] at this
 exact this
theorem qVai (q:Rat) (h:q≠0):q⁻¹=mkRat (sg (decide (q.num < 0)) q.den) q.num.natAbs:=by
 have hn:q.num≠0:=fun e=>h (Rat.num_eq_zero.1 e)
 rw[Rat.inv_def]
 by_cases hs:q.num < 0
 ·rw[qZ10 hs,<-Rat.neg_divInt_neg]
  have e:-q.num=(q.num.natAbs:Int):=by omega
  rw[e,Rat.divInt_ofNat];rfl
 ·rw[qZ9 hs]
  have e:q.num=(q.num.natAbs:Int):=by omega
  conv=>lhs;rw[e]
  rw[Rat.divInt_ofNat];rfl
end Go.AM.Num
end
section
set_option linter.unusedSimpArgs false
set_option linter.unusedVariables false
namespace Go.AM.Num
noncomputable def bin (f:Rat->Rat->qBs) (a b:qBs):qBs:=
 match rd a,rd b with
 |some p,some q=>f p q
 |_,_=>[]
theorem qBL (f:Rat->Rat->qBs) (p q:Rat):bin f (txt p) (txt q)=f p q:=by unfold bin;rw[qPK,qPK]
theorem qMal {f:Rat->Rat->qBs} {a b:qBs} (h:rd a=none):bin f a b=[]:=by unfold bin;rw[h]
theorem qOy {f:Rat->Rat->qBs} {a b:qBs} (h:rd b=none):bin f a b=[]:=by
 unfold bin;rw[h];cases rd a<;>rfl
theorem qHf {q:Rat} {n:Nat} (h:(txt q).length<=n):D q<=n+1:=by have:=D_le q;omega
theorem qGS {a b:Nat} (ha:a < 1000000000) (hb:b < 1000000000):a * b<=999999998000000001:=by
 have h1:a * b<=999999999 * b:=Nat.mul_le_mul_right _ (by omega)
 omega
section
variable {a b:qBs}
theorem qCaq (p q:Rat) (h1:p.num.natAbs < 1000000000) (h2:p.den < 1000000000) (h3:q.num.natAbs < 1000000000) (h4:q.den < 1000000000) :
 qXf (p.num,(p.den:Int)) (q.num,(q.den:Int))=some ((txt (p+q),()),()):=by
 have e1:=qGS h1 h4
 have e2:=qGS h3 h2
 have e3:=qGS h2 h4
 have f1:(p.num * q.den).natAbs=p.num.natAbs * q.den:=by rw[Int.natAbs_mul,Int.natAbs_natCast]
 have f2:(q.num * p.den).natAbs=q.num.natAbs * p.den:=by rw[Int.natAbs_mul,Int.natAbs_natCast]
 have f3:((p.den:Int) * q.den).natAbs=p.den * q.den:=by rw[Int.natAbs_mul,Int.natAbs_natCast,Int.natAbs_natCast]
 have hd:p.den * q.den≠0:=Nat.mul_ne_zero p.den_nz q.den_nz
 have hfr:=qRad (p.num * q.den+q.num * p.den) ((p.den:Int) * q.den) (by omega) (by omega) (by omega)
 rw[<-Int.natCast_mul,Rat.divInt_ofNat,<-Rat.add_def',Int.natCast_mul] at hfr
 unfold qXf
 simp (disch:=(first | omega | (simp only[lnn];omega))) only[hfr,stp]
theorem qFaq (p q:Rat) (h1:p.num.natAbs < 1000000000) (h2:p.den < 1000000000) (h3:q.num.natAbs < 1000000000) (h4:q.den < 1000000000) :
 qDh (p.num,(p.den:Int)) (q.num,(q.den:Int))=some ((txt (p * q),()),()):=by
 have e1:=qGS h1 h3
 have e3:=qGS h2 h4
 have f1:(p.num * q.num).natAbs=p.num.natAbs * q.num.natAbs:=Int.natAbs_mul _ _
 have f3:((p.den:Int) * q.den).natAbs=p.den * q.den:=by rw[Int.natAbs_mul,Int.natAbs_natCast,Int.natAbs_natCast]
 have hd:p.den * q.den≠0:=Nat.mul_ne_zero p.den_nz q.den_nz
 have hfr:=qRad (p.num * q.num) ((p.den:Int) * q.den) (by omega) (by omega) (by omega)
 rw[<-Int.natCast_mul,Rat.divInt_ofNat,<-Rat.mul_def',Int.natCast_mul] at hfr
 unfold qDh
 simp (disch:=(first | omega | (simp only[lnn];omega))) only[hfr,stp]
theorem qXad {f:Rat->Rat->Rat} {F1:Int×Int->Int×Int->Option ((qBs×Unit)×Unit)} {F2:Bool×List Int×List Int->Bool×List Int×List Int->Option ((qBs×Unit)×Unit)}
 {two:qBs->qBs->Unit->Unit->Option ((qBs×Unit)×Unit)}
 (htwo:∀ a b r1 k1 r2 k2,qEC a=some ((r1,k1,()),())->qEC b=some ((r2,k2,()),())->
  (k1=true->k2=true->∀ t,F1 r1 r2=some ((t,()),())->two a b () ()=some ((t,()),()))/\
  ((k1=false\/k2=false)->∀ s1 o1 s2 o2,qOH a=some ((s1,o1,()),())->qOH b=some ((s2,o2,()),())->
   ((o1=false\/o2=false)->two a b () ()=some (([],()),()))/\(o1=true->o2=true->∀ t,F2 s1 s2=some ((t,()),())->two a b () ()=some ((t,()),()))))
 (ok:Rat->Prop)
 (h1:∀ p q:Rat,ok q->p.num.natAbs < 1000000000->p.den < 1000000000->q.num.natAbs < 1000000000->q.den < 1000000000->F1 (p.num,(p.den:Int)) (q.num,(q.den:Int))=some ((txt (f p q),()),()))
 (h2:∀ p q:Rat,ok q->D p+D q<=10000000->F2 (rep p) (rep q)=some ((txt (f p q),()),()))
 (ha:a.length<=3000000) (hb:b.length<=3000000) (hok:∀ q,b=txt q->ok q):two a b () ()=some ((bin (fun p q=>txt (f p q)) a b,()),()):=by
 obtain ⟨r1,k1,e1,s1⟩:=qLc a (by omega)
 obtain ⟨r2,k2,e2,s2⟩:=qLc b (by omega)
 obtain ⟨t1,t2⟩:=htwo a b r1 k1 r2 k2 e1 e2
 by_cases hk:k1=true/\k2=true
 ·obtain ⟨p,rfl,rfl,b1,b2⟩:=s1 hk.1
  obtain ⟨q,rfl,rfl,b3,b4⟩:=s2 hk.2
  rw[qBL]
  exact t1 hk.1 hk.2 _ (h1 p q (hok q rfl) b1 b2 b3 b4)
 ·obtain ⟨r,o1,e3,q1⟩:=qTa a (by omega)
  obtain ⟨r',o2,e4,q2⟩:=qTa b (by omega)
  have hk':k1=false\/k2=false:=by
   rcases Bool.eq_false_or_eq_true k1 with h | h
   ·rcases Bool.eq_false_or_eq_true k2 with h' | h'
    ·exact absurd ⟨h,h'⟩ hk
    ·exact .inr h'
   ·exact .inl h
  obtain ⟨u1,u2⟩:=t2 hk' r o1 r' o2 e3 e4
  rcases q1 with ⟨rfl,p,rfl,rfl⟩ | ⟨rfl,hn⟩
  ·rcases q2 with ⟨rfl,q,rfl,rfl⟩ | ⟨rfl,hn⟩
   ·rw[qBL]
    exact u2 rfl rfl _ (h2 p q (hok q rfl) (by have:=qHf ha;have:=qHf hb;omega))
   ·rw[qOy (qFg hn)]
    exact u1 (.inr rfl)
  ·rw[qMal (qFg hn)]
   exact u1 (.inl rfl)
theorem qAah (ha:a.length<=3000000) (hb:b.length<=3000000):qAab a b=some ((bin (fun p q=>txt (p+q)) a b,()),()):=by
 have:=qXad (f:=(·+·)) (F1:=qXf) (F2:=qCg) (two:=qUD) (a:=a) (b:=b) (by
  intro a b r1 k1 r2 k2 e1 e2
  constructor
  ·rintro rfl rfl t ht
   unfold qUD
   simp (disch:=(first | omega | (simp only[lnn];omega))) only[e1,e2,ht,stp]
  ·intro hk s1 o1 s2 o2 e3 e4
   constructor
   ·intro ho
    unfold qUD
    cases k1<;>cases k2<;>cases o1<;>cases o2<;>simp_all [cond]
   ·rintro rfl rfl t ht
    unfold qUD
    cases k1<;>cases k2<;>simp_all [cond]) (fun _=>True) (fun p q _=>qCaq p q) (fun p q _ h=>by
  obtain ⟨r,hr,hi⟩:=radd p q h
  unfold qCg
  simp (disch:=(first | omega | (simp only[lnn];omega))) only[hr,hi.text,stp]) ha hb (fun _ _=>trivial)
 unfold qAab
 rw[this];rfl
theorem qSat (ha:a.length<=3000000) (hb:b.length<=3000000):qQai a b=some ((bin (fun p q=>txt (p * q)) a b,()),()):=by
 have:=qXad (f:=(· * ·)) (F1:=qDh) (F2:=qMf) (two:=qQD) (a:=a) (b:=b) (by
  intro a b r1 k1 r2 k2 e1 e2
  constructor
  ·rintro rfl rfl t ht
   unfold qQD
   simp (disch:=(first | omega | (simp only[lnn];omega))) only[e1,e2,ht,stp]
  ·intro hk s1 o1 s2 o2 e3 e4
   constructor
   ·intro ho
    unfold qQD
    cases k1<;>cases k2<;>cases o1<;>cases o2<;>simp_all [cond]
   ·rintro rfl rfl t ht
    unfold qQD
    cases k1<;>cases k2<;>simp_all [cond]) (fun _=>True) (fun p q _=>qFaq p q) (fun p q _ h=>by
  obtain ⟨r,hr,hi⟩:=rmul p q h
  unfold qMf
  simp (disch:=(first | omega | (simp only[lnn];omega))) only[hr,hi.text,stp]) ha hb (fun _ _=>trivial)
 unfold qQai
 rw[this];rfl
theorem txt_zero:txt 0=[48]:=by unfold txt;simp[qFD]
noncomputable def qdiv (p q:Rat):qBs:=if q=0 then [] else txt (p / q)
end
theorem qTn {a:qBs} (ha:a.length<=10000000):qNR a=some (((rd a).isSome,()),()):=by
 obtain ⟨r1,k1,e1,s1⟩:=qLc a ha
 unfold qNR
 cases k1 with
 |true=>
  obtain ⟨p,rfl,rfl,b1,b2⟩:=s1 rfl
  simp (disch:=(first | omega | (simp only[lnn];omega))) only[e1,stp]
  rw[qPK];rfl
 |false=>
  obtain ⟨r,o1,e3,q1⟩:=qTa a ha
  rcases q1 with ⟨rfl,p,rfl,rfl⟩ | ⟨rfl,hn⟩
  ·simp (disch:=(first | omega | (simp only[lnn];omega))) only[e1,e3,stp]
   rw[qPK];rfl
  ·simp (disch:=(first | omega | (simp only[lnn];omega))) only[e1,e3,stp]
   rw[qFg hn];rfl
noncomputable def qJT (a:qBs):Int:=match rd a with | some q=>q.num.sign | none=>0
theorem qDy (q:Rat):(q.num < 0->∃ s,txt q=45::s)/\(0 < q.num->∃ c s,txt q=c::s/\c≠45):=by
 unfold txt
 constructor
 ·intro h;rw[if_pos h];exact ⟨_,rfl⟩
 ·intro h
  rw[if_neg (by omega)]
  obtain ⟨c,s,e,hc,_⟩:=qQt (n:=q.num.natAbs) (by omega)
  refine ⟨c,_,by rw[e];rfl,?_⟩
  rintro rfl
  have:=hc.1;simp at this
theorem qDQ {q:Rat}:txt q=[48] ↔ q=0:=by
 constructor
 ·intro h;rw[<-txt_zero] at h;exact txt_inj h
 ·rintro rfl;exact txt_zero
theorem qCo {a:qBs} (ha:a.length<=10000000):qGb a=some ((qJT a,()),()):=by
 have hv:=qTn ha
 unfold qGb qJT
 cases hr:rd a with
 |none=>rw[hr] at hv;simp (disch:=(first | omega | (simp only[lnn];omega))) only[hv,Option.isSome_none,stp]
 |some q=>
  rw[hr] at hv
  have hq:=qBM hr
  rcases Int.lt_trichotomy q.num 0 with h | h | h
  ·obtain ⟨s,e⟩:=(qDy q).1 h
   have hne:a≠[48]:=by rw[hq,e];simp
   have e2:((a.getD 0 0).toNat:Int)=45:=by rw[hq,e];rfl
   have hal:0 < a.length:=by rw[hq,e];simp
   have h00:((0:Int)).toNat=0:=rfl
   simp (disch:=(first | omega | (simp only[lnn];omega))) only[hv,Option.isSome_some,qLC hne,h00,e2,stp]
   rw[Int.sign_eq_neg_one_of_neg h]
  ·have hz:a=[48]:=by rw[hq];exact qDQ.2 (Rat.num_eq_zero.1 h)
   simp (disch:=(first | omega | (simp only[lnn];omega))) only[hv,Option.isSome_some,qDD hz,stp]
   rw[h];rfl
  ·obtain ⟨c,s,e,hc⟩:=(qDy q).2 h
   have hne:a≠[48]:=fun e0=>by
    rw[hq,qDQ] at e0;rw[e0] at h;simp at h
   have e2:((a.getD 0 0).toNat:Int)≠45:=by
    rw[hq,e]
    show ((c.toNat:Nat):Int)≠45
    intro h45
    exact hc (UInt8.toNat_inj.1 (by show c.toNat=45;omega))
   have hal:0 < a.length:=by rw[hq,e];simp
   have h00:((0:Int)).toNat=0:=rfl
   simp (disch:=(first | omega | (simp only[lnn];omega))) only[hv,Option.isSome_some,qLC hne,h00,qDA e2,stp]
   rw[Int.sign_eq_one_of_pos h]
noncomputable def un (f:Rat->qBs) (a:qBs):qBs:=match rd a with | some q=>f q | none=>[]
theorem qPd (f:Rat->qBs) (q:Rat):un f (txt q)=f q:=by unfold un;rw[qPK]
theorem qLn {f:Rat->qBs} {a:qBs} (h:rd a=none):un f a=[]:=by unfold un;rw[h]
theorem qAX {q:Rat} (h:q.num < 0):txt q=45::txt (-q):=by
 unfold txt
 rw[if_pos h,Rat.neg_num,Rat.neg_den,if_neg (show ¬ (-q.num < 0) by omega),Int.natAbs_neg];rfl
theorem qSx:rd []=none:=qFg fun q h=>by
 unfold txt at h
 have:=qGh q.num.natAbs
 simp at h
 exact this h.2.1
theorem qXan {a:qBs} (ha:a.length<=10000000):qIai a=some ((un (fun q=>txt (-q)) a,()),()):=by
 have hs:=qCo ha
 unfold qIai
 cases hr:rd a with
 |none=>
  have hne:a≠[48]:=fun e=>by rw[e,<-txt_zero,qPK] at hr;cases hr
  have e:qJT a=0:=by unfold qJT;rw[hr]
  rw[e] at hs
  rw[qLn hr]
  simp (disch:=(first | omega | (simp only[lnn];omega))) only[hs,qLC hne,stp]
 |some q=>
  have hq:=qBM hr
  have e:qJT a=q.num.sign:=by unfold qJT;rw[hr]
  rw[e] at hs
  have hu:un (fun q=>txt (-q)) a=txt (-q):=by rw[hq,qPd]
  rw[hu]
  rcases Int.lt_trichotomy q.num 0 with h | h | h
  ·rw[Int.sign_eq_neg_one_of_neg h] at hs
   have ht:=qAX h
   have hal:1<=a.length:=by rw[hq,ht];simp
   have h11:((1:Int)).toNat=1:=rfl
   simp (disch:=(first | omega | (simp only[lnn];omega))) only[hs,h11,stp]
   rw[hq,ht];rfl
  ·have hq0:q=0:=Rat.num_eq_zero.1 h
   have hz:a=[48]:=by rw[hq];exact qDQ.2 hq0
   rw[h,Int.sign_zero] at hs
   simp (disch:=(first | omega | (simp only[lnn];omega))) only[hs,qDD hz,stp]
   rw[hz,hq0,Rat.neg_zero,txt_zero]
  ·rw[Int.sign_eq_one_of_pos h] at hs
   have ht:=qAX (q:=-q) (by rw[Rat.neg_num];omega)
   rw[Rat.neg_neg] at ht
   have g:([45]:qBs).length+a.length<=qEP:=by rw[qEM];simp;omega
   simp (disch:=(first | omega | (simp only[lnn];omega))) only[hs,qBA g,stp]
   rw[ht,hq];rfl
theorem qEau {f:Rat->Rat} {k:Nat} (hf:∀ q,D (f q)<=D q) {a:qBs} (ha:a.length<=k):(un (fun q=>txt (f q)) a).length<=k+3:=by
 unfold un
 cases hr:rd a with
 |none=>simp
 |some q=>
  have hq:=qBM hr
  have h1:=qXD (f q)
  have h2:=hf q
  have h3:=D_le q
  rw[<-hq] at h3
  show (txt (f q)).length<=k+3
  omega
theorem qVs {k:Nat} {a:qBs} (ha:a.length<=k):(un (fun q=>txt (-q)) a).length<=k+3:=qEau (fun q=>by rw[qJap];exact Nat.le_refl _) ha
theorem qEac {f:Rat->Rat->Rat} {k:Nat} (hf:∀ p q,D (f p q)<=2 * (D p+D q)+1) {a b:qBs} (ha:a.length<=k) (hb:b.length<=k):(bin (fun p q=>txt (f p q)) a b).length<=4 * k+8:=by
 unfold bin
 cases hr:rd a with
 |none=>simp
 |some p=>
  cases hr2:rd b with
  |none=>simp
  |some q=>
   have h1:=qXD (f p q)
   have h2:=hf p q
   have h3:=D_le p
   have h4:=D_le q
   rw[<-qBM hr] at h3
   rw[<-qBM hr2] at h4
   show (txt (f p q)).length<=_
   omega
theorem qDt {a b:qBs} (ha:a.length<=2000000) (hb:b.length<=2000000):qYae a b=some ((bin (fun p q=>txt (p - q)) a b,()),()):=by
 unfold qYae
 rw[qXan (by omega),qAA]
 dsimp only
 rw[qAah (by omega) (by have:=qVs hb;omega),qAA]
 congr 3
 unfold un
 cases hr:rd b with
 |none=>rw[qOy qSx,qOy hr]
 |some q=>
  have hq:=qBM hr
  unfold bin
  rw[qPK,hr]
  cases rd a with
  |none=>rfl
  |some p=>simp only[Rat.sub_eq_add_neg]
noncomputable def qFr (a b:qBs):Int:=
 match rd a,rd b with
 |some p,some q=>(p - q).num.sign
 |_,_=>0
theorem qBo {a b:qBs} (ha:a.length<=2000000) (hb:b.length<=2000000):qTW a b=some ((qFr a b,()),()):=by
 unfold qTW
 have hl:=qEac (f:=fun p q=>p - q) (fun p q=>by rw[Rat.sub_eq_add_neg];have:=qWas p (-q);rw[qJap] at this;exact this) ha hb
 rw[qDt ha hb,qAA]
 dsimp only
 rw[qCo (by omega),qAA]
 congr 3
 unfold qJT qFr bin
 cases hr:rd a with
 |none=>simp only[qSx]
 |some p=>
  cases hr2:rd b with
  |none=>simp only[qSx]
  |some q=>simp only[qPK]
end Go.AM.Num
end
section
set_option linter.unusedSimpArgs false
set_option linter.unusedVariables false
namespace Go.AM.Num
theorem qMg (n:Int):txt (n:Rat)=(if n < 0 then [45] else [])++dd n.natAbs:=by
 unfold txt
 rw[Rat.num_intCast,Rat.den_intCast];simp
theorem qPaq (n:Nat):txt ((n:Int):Rat)=dd n:=by rw[qMg,if_neg (by omega)];simp
theorem qVah (neg:Bool) (m:Nat):tx neg m 1=txt ((sg neg m:Int):Rat):=by
 rw[qMg,qPG]
 unfold tx
 simp only[qTP];simp
theorem qMl {q:Rat} (h:q.den=1):q=((q.num:Int):Rat):=Rat.ext (by rw[Rat.num_intCast]) (by rw[Rat.den_intCast,h])
noncomputable def isI (a:qBs):Bool:=match rd a with | some q=>q.den==1 | none=>false
theorem qIar (q:Rat):isI (txt q)=(q.den==1):=by unfold isI;rw[qPK]
theorem qPJ {a:qBs} (h:isI a=true):∃ n:Int,a=txt (n:Rat)/\rd a=some (n:Rat):=by
 unfold isI at h
 cases hr:rd a with
 |none=>rw[hr] at h;cases h
 |some q=>
  rw[hr] at h
  have hd:q.den=1:=by simpa using h
  exact ⟨q.num,by rw[<-qMl hd];exact qBM hr,by rw[<-qMl hd]⟩
theorem qKaf (n:Int):isI (txt (n:Rat))=true:=by rw[qIar,Rat.den_intCast];rfl
theorem qET {a:qBs} (ha:a.length<=10000000):qJI a=some ((isI a,()),()):=by
 obtain ⟨neg,s,hcp,has,hs⟩:=qPn a
 have hsl:s.length<=10000000:=by rw[has,qZ6] at ha;omega
 have hn:=qEB s (by omega)
 unfold qJI
 by_cases hd:s=dd (dval s)
 ·have good:(neg=true->dval s≠0)->isI a=true:=by
   intro h
   have:a=txt ((sg neg (dval s):Int):Rat):=by
    have e:=qVo (neg:=neg) (m:=dval s) (d:=1) h
    rw[if_pos rfl,qY4,<-hd] at e
    rw[has,e,qVah]
   rw[this];exact qKaf _
  by_cases h0:s=[48]
  ·cases neg with
   |true=>
    have hb:isI a=false:=by
     cases hi:isI a with
     |false=>rfl
     |true=>
      obtain ⟨n,hn1,_⟩:=qPJ hi
      obtain ⟨e1,e2⟩:=shape hs (has ▸ hn1)
      rw[Rat.den_intCast,if_pos rfl,qY4,Rat.num_intCast,h0,<-qFD] at e2
      rw[Rat.num_intCast] at e1
      have:=of_decide_eq_true e1.symm
      have:=qKS e2
      omega
    rw[hb]
    simp (disch:=(first | omega | (simp only[lnn];omega))) only[hcp,hn,qDD hd,qDD h0,stp]
   |false=>
    rw[good (fun h=>by cases h)]
    simp (disch:=(first | omega | (simp only[lnn];omega))) only[hcp,hn,qDD hd,stp]
  ·have hm0:dval s≠0:=fun e=>h0 (by rw[hd,e,qFD])
   rw[good (fun _=>hm0)]
   cases neg with
   |true=>simp (disch:=(first | omega | (simp only[lnn];omega))) only[hcp,hn,qDD hd,qLC h0,stp]
   |false=>simp (disch:=(first | omega | (simp only[lnn];omega))) only[hcp,hn,qDD hd,stp]
 ·have hb:isI a=false:=by
   cases hi:isI a with
   |false=>rfl
   |true=>
    obtain ⟨n,hn1,_⟩:=qPJ hi
    obtain ⟨e1,e2⟩:=shape hs (has ▸ hn1)
    rw[Rat.den_intCast,if_pos rfl,qY4] at e2
    exact absurd (by rw[e2,qOF]) hd
  rw[hb]
  simp (disch:=(first | omega | (simp only[lnn];omega))) only[hcp,hn,qLC hd,stp]
theorem qXa {x Y Q R:Int} (hY:0 < Y) (h:R+Y * Q=x) (h0:0<=R) (h1:R < Y):x / Y=Q/\x % Y=R:=(Int.ediv_emod_unique hY).2 ⟨h,h0,h1⟩
theorem qQh (n1 n2:Bool) (X Y:Nat) (hY:Y≠0) :
 (¬ (n1=true/\X % Y≠0)->sg n1 X / sg n2 Y=sg (n1 !=n2) (X / Y)/\sg n1 X % sg n2 Y=((X % Y:Nat):Int))/\
 ((n1=true/\X % Y≠0)->sg n1 X / sg n2 Y=sg (n1 !=n2) (X / Y+1)/\sg n1 X % sg n2 Y=((Y - X % Y:Nat):Int)):=by
 have hY0:(0:Int) < Y:=by omega
 have hdm:=Nat.div_add_mod X Y
 have hml:=Nat.mod_lt X (show 0 < Y by omega)
 obtain ⟨k,hk⟩:∃ k,k=X / Y:=⟨_,rfl⟩
 obtain ⟨r,hr⟩:∃ r,r=X % Y:=⟨_,rfl⟩
 rw[<-hk,<-hr] at hdm ⊢
 rw[<-hr] at hml
 have hX:(X:Int)=Y * k+r:=by rw[<-hdm];simp
 have pos:(¬ (n1=true/\r≠0)->sg n1 X / (Y:Int)=sg n1 k/\sg n1 X % (Y:Int)=((r:Nat):Int))/\
  ((n1=true/\r≠0)->sg n1 X / (Y:Int)=sg n1 (k+1)/\sg n1 X % (Y:Int)=((Y - r:Nat):Int)):=by
  constructor
  ·intro h
   apply qXa hY0 _ (by omega) (by omega)
   cases n1 with
   |false=>simp only[sg,Bool.false_eq_true,if_false];omega
   |true=>
    have:r=0:=by simpa using h
    subst this
    simp only[sg,if_true]
    rw[Int.mul_neg];omega
  ·rintro ⟨rfl,h⟩
   apply qXa hY0 _ (by omega) (by omega)
   simp only[sg,if_true]
   rw[Int.mul_neg,Int.natCast_add,Int.mul_add]
   omega
 cases n2 with
 |false=>
  have e:sg false Y=(Y:Int):=rfl
  rw[e]
  simpa using pos
 |true=>
  have e:sg true Y=-(Y:Int):=rfl
  rw[e,Int.ediv_neg,Int.emod_neg]
  have hns:∀ m,-sg n1 m=sg (n1 !=true) m:=by intro m;cases n1<;>simp[sg]
  constructor
  ·intro h
   obtain ⟨a1,a2⟩:=pos.1 h
   rw[a1,a2,hns];exact ⟨rfl,rfl⟩
  ·intro h
   obtain ⟨a1,a2⟩:=pos.2 h
   rw[a1,a2,hns];exact ⟨rfl,rfl⟩
theorem qYac (x:Int):rep (x:Rat)=(decide (x < 0),limbs x.natAbs,[1]):=by
 unfold rep;rw[Rat.num_intCast,Rat.den_intCast,qNV]
theorem qTw {neg:Bool} {m:Nat} (hm:(dd m).length<=100000000):Is (neg,limbs m,[1]) ((sg neg m:Int):Rat):=⟨neg,m,1,by rw[qNV],qVah neg m,hm,by rw[qRN];decide⟩
theorem rquo (x y:Int) (hy:y≠0) (hx:(dd x.natAbs).length<=10000000) (hyl:(dd y.natAbs).length<=10000000) :
 ∃ r1 r2,qBR (rep (x:Rat)) (rep (y:Rat))=some ((r1,r2,()),())/\Is r1 ((x / y:Int):Rat)/\Is r2 ((x % y:Int):Rat):=by
 obtain ⟨X,hX⟩:∃ X,X=x.natAbs:=⟨_,rfl⟩
 obtain ⟨Y,hY⟩:∃ Y,Y=y.natAbs:=⟨_,rfl⟩
 obtain ⟨n1,h1⟩:∃ n,n=decide (x < 0):=⟨_,rfl⟩
 obtain ⟨n2,h2⟩:∃ n,n=decide (y < 0):=⟨_,rfl⟩
 have ex:x=sg n1 X:=by rw[h1,hX];exact qDaa x
 have ey:y=sg n2 Y:=by rw[h2,hY];exact qDaa y
 rw[qYac,qYac,<-h1,<-h2,<-hX,<-hY]
 rw[<-hX] at hx
 rw[<-hY] at hyl
 have hY0:Y≠0:=by rw[hY];omega
 have L:=qAI
 have hq:=qUa X Y (by have:=L X;omega) (by have:=L Y;omega) hY0
 have b1:=qDB (Nat.div_le_self X Y)
 have b2:=qDB (Nat.le_of_lt (Nat.mod_lt X (show 0 < Y by omega)))
 have b3:=qDB (Nat.sub_le Y (X % Y))
 have b4:=qLP (X / Y) 1
 rw[qRN] at b4
 have b5:([49]:qBs).length=1:=rfl
 obtain ⟨d1,d2⟩:=qQh n1 n2 X Y hY0
 rw[<-ex,<-ey] at d1 d2
 have e3:(!(n1==n2))=(n1 !=n2):=rfl
 unfold qBR
 by_cases hc:n1=true/\X % Y≠0
 ·obtain ⟨q1,q2⟩:=d2 hc
  obtain ⟨rfl,hr⟩:=hc
  have hl:((limbs (X % Y)).length:Int) > 0:=by
   have:(limbs (X % Y)).length≠0:=fun e=>hr (limbs_nil.1 (List.eq_nil_of_length_eq_zero e))
   omega
  have ha:=qYam (X / Y) 1 (by have:=L (X / Y);omega) (by rw[qNV];decide)
  rw[qNV] at ha
  have hs:=qMag Y (X % Y) (by have:=L Y;omega) (Nat.le_of_lt (Nat.mod_lt X (by omega)))
  refine ⟨(true !=n2,limbs (X / Y+1),[1]),(false,limbs (Y - X % Y),[1]),?_,?_,?_⟩
  ·simp (disch:=(first | omega | (simp only[lnn];omega))) only[hq,qIA hl,ha,hs,stp]
   rfl
  ·rw[q1];exact qTw (by omega)
  ·rw[q2];exact qTw (neg:=false) (by omega)
 ·obtain ⟨q1,q2⟩:=d1 hc
  refine ⟨(n1 !=n2,limbs (X / Y),[1]),(false,limbs (X % Y),[1]),?_,?_,?_⟩
  ·cases n1 with
   |false=>simp (disch:=(first | omega | (simp only[lnn];omega))) only[hq,stp];rfl
   |true=>
    have hr:X % Y=0:=by simpa using hc
    have hl:¬ ((limbs (X % Y)).length:Int) > 0:=by rw[hr,limbs_zero];simp
    simp (disch:=(first | omega | (simp only[lnn];omega))) only[hq,qNA hl,stp]
    rfl
  ·rw[q1];exact qTw (by omega)
  ·rw[q2];exact qTw (neg:=false) (by omega)
noncomputable def ibin (f:Int->Int->qBs):qBs->qBs->qBs:=bin fun p q=>if p.den=1/\q.den=1 then f p.num q.num else []
theorem qJN (f:Int->Int->qBs) (x y:Int):ibin f (txt (x:Rat)) (txt (y:Rat))=f x y:=by
 unfold ibin;rw[qBL,if_pos ⟨Rat.den_intCast x,Rat.den_intCast y⟩,Rat.num_intCast,Rat.num_intCast]
theorem qEl {f:Int->Int->qBs} {a b:qBs} (h:isI a=false):ibin f a b=[]:=by
 unfold ibin bin isI at *
 cases hr:rd a with
 |none=>rfl
 |some p=>
  rw[hr] at h
  have:p.den≠1:=by simpa using h
  cases rd b<;>simp[this]
theorem qHl {f:Int->Int->qBs} {a b:qBs} (h:isI b=false):ibin f a b=[]:=by
 unfold ibin bin isI at *
 cases hr:rd b with
 |none=>cases rd a<;>rfl
 |some p=>
  rw[hr] at h
  have:p.den≠1:=by simpa using h
  cases rd a<;>simp[this]
theorem qNi {n:Int} {k:Nat} (h:(txt (n:Rat)).length<=k):D (n:Rat)<=k+1/\(dd n.natAbs).length<=k:=by
 have h1:=qHf h
 have h2:=qXaq n
 omega
theorem qEk {a b:qBs} (ha:a.length<=3000000) (hb:b.length<=3000000) :
 qKZ a b=some ((ibin (fun x y=>if y=0 then [] else txt ((x / y:Int):Rat)) a b,ibin (fun x y=>if y=0 then [] else txt ((x % y:Int):Rat)) a b,()),()):=by
 have h1:=qET (a:=a) (by omega)
 have h2:=qET (a:=b) (by omega)
 unfold qKZ
 cases i1:isI a with
 |false=>rw[i1] at h1;rw[qEl i1,qEl i1];simp (disch:=(first | omega | (simp only[lnn];omega))) only[h1,stp]
 |true=>
  rw[i1] at h1
  cases i2:isI b with
  |false=>rw[i2] at h2;rw[qHl i2,qHl i2];simp (disch:=(first | omega | (simp only[lnn];omega))) only[h1,h2,stp]
  |true=>
   rw[i2] at h2
   obtain ⟨x,rfl,_⟩:=qPJ i1
   obtain ⟨y,rfl,_⟩:=qPJ i2
   rw[qJN,qJN]
   by_cases hy:y=0
   ·subst hy
    have hz:txt ((0:Int):Rat)=[48]:=txt_zero
    rw[if_pos rfl,if_pos rfl]
    simp (disch:=(first | omega | (simp only[lnn];omega))) only[h1,h2,qDD hz,stp]
   ·have hz:txt ((y:Int):Rat)≠[48]:=fun e=>hy (by have:=qDQ.1 e;simpa using congrArg Rat.num this)
    obtain ⟨a1,a2⟩:=qNi ha
    obtain ⟨a3,a4⟩:=qNi hb
    obtain ⟨r1,r2,hr,g1,g2⟩:=rquo x y hy (by omega) (by omega)
    rw[if_neg hy,if_neg hy]
    simp (disch:=(first | omega | (simp only[lnn];omega))) only[h1,h2,qLC hz,qSw (x:Rat) (by omega),qSw (y:Rat) (by omega),hr,g1.text,g2.text,stp]
noncomputable def sQuo:qBs->qBs->qBs:=ibin fun x y=>if y=0 then [] else txt ((x / y:Int):Rat)
noncomputable def sRem:qBs->qBs->qBs:=ibin fun x y=>if y=0 then [] else txt ((x % y:Int):Rat)
theorem qTas {a b:qBs} (ha:a.length<=3000000) (hb:b.length<=3000000):qFai a b=some ((sQuo a b,()),()):=by
 unfold qFai;rw[qEk ha hb];rfl
theorem qCas {a b:qBs} (ha:a.length<=3000000) (hb:b.length<=3000000):qTah a b=some ((sRem a b,()),()):=by
 unfold qTah;rw[qEk ha hb];rfl
theorem qPae (q:Rat):D ((q.floor:Int):Rat)<=D q+1:=by
 rw[qXaq,Rat.floor_def]
 have h1:(q.num / (q.den:Int)).natAbs<=q.num.natAbs:=by
  have hd:=q.den_nz
  rcases Int.lt_or_le q.num 0 with h | h
  ·have h2:q.num<=q.num / (q.den:Int):=by
    apply Int.le_ediv_of_mul_le (by omega)
    have:q.num * q.den<=q.num * 1:=Int.mul_le_mul_of_nonpos_left (by omega) (by omega)
    omega
   have h3:q.num / (q.den:Int)<=0:=by
    have:=Int.ediv_le_ediv (c:=(q.den:Int)) (by omega) (show q.num<=0 by omega)
    rw[Int.zero_ediv] at this
    omega
   omega
  ·have h2:=Int.ediv_le_self (q.den:Int) h
   have h3:=Int.ediv_nonneg h (show (0:Int)<=q.den by omega)
   omega
 have:=qDB h1
 have:=qGN q
 omega
def qabs (q:Rat):Rat:=if q.num < 0 then -q else q
end Go.AM.Num
end
section
set_option linter.unusedSimpArgs false
set_option linter.unusedVariables false
namespace Go.AM.Num
theorem qTb {n:Int}:(txt (n:Rat)).length<=(dd n.natAbs).length+1:=by
 rw[qMg]
 have h1:(if n < 0 then [(45:UInt8)] else []).length<=1:=by split<;>simp
 rw[qZ6];omega
theorem qHam (n:Int):qabs (n:Rat)=((n.natAbs:Int):Rat):=by
 unfold qabs
 rw[Rat.num_intCast]
 split
 ·rw[<-Rat.intCast_neg];congr 1;omega
 ·congr 1;omega
def figs (s:qBs):Prop:=s≠[]/\qJK s
instance (s:qBs):Decidable (qJK s):=by unfold qJK isD;infer_instance
instance (s:qBs):Decidable (figs s):=by unfold figs;infer_instance
inductive DecParts:qBs->Bool->qBs->Option qBs->Prop
 |mk {a s:qBs} {neg:Bool} (h:a=sgn neg++s) (hs:neg=false->∀ r,s≠45::r) {x:qBs} {y:Option qBs}
  (hxy:(y=none/\s=x/\(46:UInt8)∉s)\/(∃ z,y=some z/\s=x++46::z/\(46:UInt8)∉x)):DecParts a neg x y
end Go.AM.Num
end
section
set_option linter.unusedSimpArgs false
set_option linter.unusedVariables false
namespace Go.AM.Num
theorem qQS {s:qBs} (hl:s.length<=1000000000):qTM s=some ((decide (figs s),()),()):=by
 obtain ⟨r,hr,hq⟩:=qTB (step:=qHL) (Q:=fun r=>(qJK s/\r=(Ex.exit 0,(s,false,(s.length:Int),())))\/(¬ qJK s/\∃ i,r=(Ex.ret,(s,false,i,()))))
  (fun m x=>∃ k:Nat,m+k=s.length/\x=(s,false,(k:Int),())/\qJK (s.take k)) (by
   rintro m x ⟨k,hm,rfl,hd⟩
   by_cases hk:k < s.length
   ·have hg:s.getD k 0=s[k]:=by rw[qZ4,qZ5 hk];rfl
    have e:(k:Int).toNat=k:=by omega
    have hmem:s[k]∈s:=List.getElem_mem hk
    by_cases h1:s[k].toNat < 48
    ·refine .inl ⟨_,?_,?_,.inr ⟨fun h=>?_,(k:Int),rfl⟩⟩
     ·simp (disch:=(first | omega | (simp only[lnn];omega))) only[qHL,e,hg,stp]
     ·simp
     ·have:=(h _ hmem).1;omega
    ·by_cases h2:s[k].toNat > 57
     ·refine .inl ⟨_,?_,?_,.inr ⟨fun h=>?_,(k:Int),rfl⟩⟩
      ·simp (disch:=(first | omega | (simp only[lnn];omega))) only[qHL,e,hg,stp]
      ·simp
      ·have:=(h _ hmem).2;omega
     ·refine .inr ⟨m - 1,_,?_,by omega,k+1,by omega,rfl,?_⟩
      ·simp (disch:=(first | omega | (simp only[lnn];omega))) only[qHL,e,hg,stp]
       rfl
      ·rw[List.take_succ_eq_append_getElem hk]
       refine hd.app fun c hc=>?_
       rw[List.mem_singleton.1 hc]
       exact ⟨by omega,by omega⟩
   ·have hks:k=s.length:=by omega
    subst hks
    refine .inl ⟨_,?_,?_,.inl ⟨by simpa using hd,rfl⟩⟩
    ·simp (disch:=(first | omega | (simp only[lnn];omega))) only[qHL,stp]
    ·simp) s.length (s,false,0,()) ⟨0,by omega,rfl,by simp[qJK]⟩
 unfold qTM
 rw[hr]
 rcases hq with ⟨hd,rfl⟩ | ⟨hd,i,rfl⟩
 ·simp (disch:=(first | omega | (simp only[lnn];omega))) only[stp]
  by_cases h0:s=[]
  ·subst h0
   have:decide (figs [])=false:=qZ9 (fun h=>h.1 rfl)
   rw[this];rfl
  ·rw[qLC h0,qZ10 (show figs s from ⟨h0,hd⟩)];rfl
 ·simp (disch:=(first | omega | (simp only[lnn];omega))) only[stp]
  rw[qZ9 (fun h=>hd h.2)]
theorem qVM {s:qBs} (hd:qJK s) (hne:s≠[]) (hl:s.length<=1000000000):qXO s=some ((dd (dval s),()),()):=by
 obtain ⟨r,hr,rfl⟩:=qTB (step:=qIS) (Q:=fun r=>r=(Ex.exit 0,(dd (dval s),())))
  (fun m x=>∃ t:qBs,x=(t,())/\m=t.length/\qJK t/\t≠[]/\dval t=dval s/\t.length<=1000000000) (by
   rintro m x ⟨t,rfl,hm,h1,h2,h3,h4⟩
   cases t with
   |nil=>exact absurd rfl h2
   |cons c t=>
    have h00:((0:Int)).toNat=0:=rfl
    have h11:((1:Int)).toNat=1:=rfl
    have hg:(c::t:qBs).getD 0 0=c:=rfl
    have hlen:(c::t).length=t.length+1:=rfl
    by_cases ht:t=[]
    ·subst ht
     refine .inl ⟨(Ex.exit 0,([c],())),?_,by simp,?_⟩
     ·simp only[qIS]
      rw[qNA (by simp)]
     ·rw[<-h3,<-qDak h1 h2 (by
       by_cases hc:c=48
       ·left;rw[hc]
       ·right;simpa using hc)]
    ·have hpos:0 < t.length:=List.length_pos_iff.2 ht
     by_cases hc:c=48
     ·subst hc
      refine .inr ⟨t.length,(t,()),?_,by omega,t,rfl,rfl,fun x hx=>h1 x (by simp[hx]),ht,?_,by omega⟩
      ·have h48:(((48:UInt8).toNat:Nat):Int)=48:=rfl
       simp only[qIS]
       rw[qIA (by omega),qEA,qBA (by omega),qBA (by omega),h00,hg,h48]
       rw[qFA rfl,qEA,qBA (by omega),qBA (by omega),h11];rfl
      ·rw[<-h3,qKM];simp[dig]
     ·refine .inl ⟨(Ex.exit 0,(c::t,())),?_,by simp,?_⟩
      ·have hne':((c.toNat:Nat):Int)≠48:=fun e=>hc (UInt8.toNat_inj.1 (by show c.toNat=48;omega))
       simp only[qIS]
       rw[qIA (by omega),qEA,qBA (by omega),qBA (by omega),h00,hg,qDA hne']
      ·rw[<-h3,<-qDak h1 h2 (.inr (by simpa using hc))]) s.length (s,()) ⟨s,rfl,rfl,hd,hne,rfl,hl⟩
 unfold qXO
 rw[hr]
 simp (disch:=(first | omega | (simp only[lnn];omega))) only[stp]
theorem qSj {a b:qBs} (ha:qJK a) (hb:qJK b) (hl:a.length=b.length):qGt a b=decide (dval a < dval b):=by
 unfold qGt
 induction a generalizing b with
 |nil=>
  cases b with
  |nil=>simp[Op.bytesLess,dval]
  |cons c b=>simp at hl
 |cons x a ih=>
  cases b with
  |nil=>simp at hl
  |cons y b=>
   have hx:=ha x (by simp)
   have hy:=hb y (by simp)
   have hA:qJK a:=fun c hc=>ha c (by simp[hc])
   have hB:qJK b:=fun c hc=>hb c (by simp[hc])
   have hl':a.length=b.length:=by simpa using hl
   have la:=qSR hA
   have lb:=qSR hB
   rw[qKM,qKM,hl']
   rw[hl'] at la
   have ih':=ih hA hB hl'
   have hdx:dig x=x.toNat - 48:=rfl
   have hdy:dig y=y.toNat - 48:=rfl
   have:=hx.1
   have:=hy.1
   rcases Nat.lt_trichotomy x.toNat y.toNat with h | h | h
   ·have h1:(dig x+1) * 10 ^ b.length<=dig y * 10 ^ b.length:=Nat.mul_le_mul_right _ (by omega)
    rw[Nat.add_mul] at h1
    rw[qZ10 (by omega)]
    unfold Op.bytesLess
    have:x < y:=UInt8.lt_iff_toNat_lt.2 h
    simp[this]
   ·have hxy:x=y:=UInt8.toNat_inj.1 h
    subst hxy
    unfold Op.bytesLess
    have h1:¬ x < x:=fun e=>Nat.lt_irrefl _ (UInt8.lt_iff_toNat_lt.1 e)
    simp only[h1,if_false]
    rw[ih']
    simp
   ·have h1:(dig y+1) * 10 ^ b.length<=dig x * 10 ^ b.length:=Nat.mul_le_mul_right _ (by omega)
    rw[Nat.add_mul] at h1
    rw[qZ9 (by omega)]
    unfold Op.bytesLess
    have h2:¬ x < y:=fun e=>by have:=UInt8.lt_iff_toNat_lt.1 e;omega
    have h3:x≠y:=fun e=>by rw[e] at h;omega
    simp[h2,h3]
theorem qWv (m n:Nat):∃ c,qMZ (dd m) (dd n)=some ((c,()),())/\(c < 0 ↔ m < n)/\(c=0 ↔ m=n):=by
 unfold qMZ
 rcases Nat.lt_trichotomy (dd m).length (dd n).length with h | h | h
 ·have hlt:m < n:=by
   rcases Nat.lt_or_ge m n with h' | h'
   ·exact h'
   ·have:=qDB h';omega
  refine ⟨-1,?_,by omega,by omega⟩
  simp (disch:=(first | omega | (simp only[lnn];omega))) only[stp]
 ·have hs:=qSj (qBf m) (qBf n) h
  rw[qOF,qOF] at hs
  rcases Nat.lt_trichotomy m n with h' | h' | h'
  ·refine ⟨-1,?_,by omega,by omega⟩
   simp (disch:=(first | omega | (simp only[lnn];omega))) only[hs,qZ10 h',stp]
  ·subst h'
   refine ⟨0,?_,by omega,by omega⟩
   simp (disch:=(first | omega | (simp only[lnn];omega))) only[hs,qZ9 (Nat.lt_irrefl m),qDD rfl,stp]
  ·refine ⟨1,?_,by omega,by omega⟩
   have hne:dd m≠dd n:=fun e=>by have:=qKS e;omega
   simp (disch:=(first | omega | (simp only[lnn];omega))) only[hs,qZ9 (show ¬ m < n by omega),qLC hne,stp]
 ·have hlt:n < m:=by
   rcases Nat.lt_or_ge n m with h' | h'
   ·exact h'
   ·have:=qDB h';omega
  have hne:dd m≠dd n:=fun e=>by have:=qKS e;omega
  refine ⟨1,?_,by omega,by omega⟩
  simp (disch:=(first | omega | (simp only[lnn];omega))) only[qLC hne,stp]
def sfx (a:qBs) (i:Nat):Nat:=dval (a.drop (a.length - i))
theorem qPe (a:qBs):sfx a 0=0:=by unfold sfx;rw[Nat.sub_zero,List.drop_length];rfl
theorem qVO {a:qBs} {i:Nat} (h:a.length<=i):sfx a i=dval a:=by unfold sfx;rw[Nat.sub_eq_zero_of_le h,List.drop_zero]
theorem qIZ {a:qBs} {i:Nat} (h:i < a.length):sfx a (i+1)=dig (a[a.length - 1 - i]'(by omega)) * 10 ^ i+sfx a i:=by
 unfold sfx
 rw[show a.length - (i+1)=a.length - 1 - i by omega,qY6 (by omega),qKM,List.length_drop,show a.length - 1 - i+1=a.length - i by omega,show a.length - (a.length - i)=i by omega]
theorem qOn {α:Type} {l:List α} {i:Nat} (h:i < l.length) (c:α):(l.set i c).drop i=c::l.drop (i+1):=by
 rw[qY6 (by simpa using h),List.getElem_set_self,List.drop_set_of_lt (by omega)]
def qXQ (s:qBs):List Int:=s.map fun b=>(b.toNat:Int)
theorem qVV (s:qBs):(qXQ s).map (fun n=>UInt8.ofNat n.toNat)=s:=by
 unfold qXQ
 rw[List.map_map]
 conv=>rhs;rw[<-List.map_id s]
 apply List.map_congr_left
 intro b _
 simp
theorem qAm {k:Int} (h:0<=k/\k < 10):∃ c:UInt8,(c.toNat:Int)=48+k/\isD c/\(dig c:Int)=k:=by
 obtain ⟨n,rfl⟩:∃ n:Nat,k=n:=⟨k.toNat,by omega⟩
 obtain ⟨h1,h2⟩:=dig_of (k:=n) (by omega)
 refine ⟨UInt8.ofNat (48+n),?_,h2,by rw[h1]⟩
 have h3:=h2.1
 have h4:dig (UInt8.ofNat (48+n))=(UInt8.ofNat (48+n)).toNat - 48:=rfl
 omega
theorem qJK.cons {c:UInt8} {s:qBs} (h:isD c) (hs:qJK s):qJK (c::s):=fun x hx=>(List.mem_cons.1 hx).elim (fun e=>e ▸ h) (hs x)
theorem qHV {s:qBs} {k:Nat} (h:k < s.length):s.getD k 0=s[k]:=by rw[qZ4,qZ5 h];rfl
set_option maxHeartbeats 2000000 in
theorem qPv (m n:Nat) (hm:(dd m).length<=100000000) (hn:(dd n).length<=100000000):qPY (dd m) (dd n)=some ((dd (m+n),()),()):=by
 obtain ⟨a,ha⟩:∃ a,a=dd m:=⟨_,rfl⟩
 obtain ⟨b,hb⟩:∃ b,b=dd n:=⟨_,rfl⟩
 have hda:qJK a:=ha ▸ qBf m
 have hdb:qJK b:=hb ▸ qBf n
 rw[<-ha,<-hb]
 rw[<-ha] at hm
 rw[<-hb] at hn
 obtain ⟨N,hN⟩:∃ N,N=max a.length b.length+1:=⟨_,rfl⟩
 have hmx:=qSv a.length b.length
 have hw:qI (qJc (a.length:Int) (b.length:Int)+1)=(N:Int):=by rw[hmx,w64 (by omega)];omega
 obtain ⟨r,hr,s,rfl,h1,h2,h3⟩:=qTB (step:=qVG) (Q:=fun r=>∃ s:qBs,r=(Ex.exit 0,(a,b,(N:Int),qXQ s,0,(N:Int),()))/\qJK s/\s.length=N/\dval s=dval a+dval b)
  (fun k x=>∃ (i:Nat) (out:List Int) (c:Int) (s:qBs),x=(a,b,(N:Int),out,c,(i:Int),())/\k+i=N/\out.length=N/\(0<=c/\c<=1)/\out.drop (N - i)=qXQ s/\qJK s/\s.length=i/\(dval s:Int)+c * 10 ^ i=(sfx a i:Int)+sfx b i) (by
   rintro k x ⟨i,out,c,s,rfl,hk,hol,hc,hds,hs,hsl,hv⟩
   by_cases hi:i < N
   ·have hix:((N:Int) - 1 - i).toNat=N - 1 - i:=by omega
    have hax:((a.length:Int) - 1 - i).toNat=a.length - 1 - i:=by omega
    have hbx:((b.length:Int) - 1 - i).toNat=b.length - 1 - i:=by omega
    have go:∀ v:Int,(0<=v/\v < 20)->(v * 10 ^ i+((sfx a i:Int)+sfx b i)=c * 10 ^ i+((sfx a (i+1):Int)+sfx b (i+1)))->
     qVG (a,b,(N:Int),out,c,(i:Int),())=some (Ex.normal,(a,b,(N:Int),out.set (N - 1 - i) (48+v % 10),v / 10,(i:Int)+1,()))->
     ∃ m y,qVG (a,b,(N:Int),out,c,(i:Int),())=some (Ex.normal,y)/\m < k/\∃ (i:Nat) (out:List Int) (c:Int) (s:qBs),y=(a,b,(N:Int),out,c,(i:Int),())/\m+i=N/\out.length=N/\(0<=c/\c<=1)/\out.drop (N - i)=qXQ s/\qJK s/\s.length=i/\(dval s:Int)+c * 10 ^ i=(sfx a i:Int)+sfx b i:=by
     intro v hv1 hv2 hst
     obtain ⟨d,hd1,hd2,hd3⟩:=qAm (k:=v % 10) (by omega)
     refine ⟨k - 1,_,hst,by omega,i+1,_,_,d::s,rfl,by omega,by simpa using hol,by omega,?_,hs.cons hd2,by simp[hsl],?_⟩
     ·rw[show N - (i+1)=N - 1 - i by omega,qOn (by omega),show N - 1 - i+1=N - i by omega,hds,<-hd1];rfl
     ·rw[qKM,hsl,Int.natCast_add,Int.natCast_mul,hd3,Int.pow_succ]
      have:=Int.emod_add_mul_ediv v 10
      push_cast
      grind
    by_cases hia:i < a.length
    ·have hga:=qHV (s:=a) (k:=a.length - 1 - i) (by omega)
     have hdA:=hda (a[a.length - 1 - i]'(by omega)) (List.getElem_mem _)
     have hsa:=qIZ hia
     obtain ⟨A,hA⟩:∃ A,A=a[a.length - 1 - i]'(by omega):=⟨_,rfl⟩
     rw[<-hA] at hga hdA hsa
     have hA1:=hdA.1
     have hA2:=hdA.2
     have hAd:(dig A:Int)=(A.toNat:Int) - 48:=by unfold dig;omega
     by_cases hib:i < b.length
     ·have hgb:=qHV (s:=b) (k:=b.length - 1 - i) (by omega)
      have hdB:=hdb (b[b.length - 1 - i]'(by omega)) (List.getElem_mem _)
      have hsb:=qIZ hib
      obtain ⟨B,hB⟩:∃ B,B=b[b.length - 1 - i]'(by omega):=⟨_,rfl⟩
      rw[<-hB] at hgb hdB hsb
      have hB1:=hdB.1
      have hB2:=hdB.2
      have hBd:(dig B:Int)=(B.toNat:Int) - 48:=by unfold dig;omega
      refine .inr (go (c+((A.toNat:Int) - 48)+((B.toNat:Int) - 48)) (by omega) (by rw[hsa,hsb];push_cast;rw[hAd,hBd];grind) ?_)
      simp (disch:=(first | omega | (simp only[lnn];omega))) only[qVG,hix,hax,hbx,hga,hgb,stp]
     ·have hsb:sfx b (i+1)=sfx b i:=by rw[qVO (by omega),qVO (by omega)]
      refine .inr (go (c+((A.toNat:Int) - 48)) (by omega) (by rw[hsa,hsb];push_cast;rw[hAd];grind) ?_)
      simp (disch:=(first | omega | (simp only[lnn];omega))) only[qVG,hix,hax,hga,stp]
    ·have hsa:sfx a (i+1)=sfx a i:=by rw[qVO (by omega),qVO (by omega)]
     by_cases hib:i < b.length
     ·have hgb:=qHV (s:=b) (k:=b.length - 1 - i) (by omega)
      have hdB:=hdb (b[b.length - 1 - i]'(by omega)) (List.getElem_mem _)
      have hsb:=qIZ hib
      obtain ⟨B,hB⟩:∃ B,B=b[b.length - 1 - i]'(by omega):=⟨_,rfl⟩
      rw[<-hB] at hgb hdB hsb
      have hB1:=hdB.1
      have hB2:=hdB.2
      have hBd:(dig B:Int)=(B.toNat:Int) - 48:=by unfold dig;omega
      refine .inr (go (c+((B.toNat:Int) - 48)) (by omega) (by rw[hsa,hsb];push_cast;rw[hBd];grind) ?_)
      simp (disch:=(first | omega | (simp only[lnn];omega))) only[qVG,hix,hbx,hgb,stp]
     ·have hsb:sfx b (i+1)=sfx b i:=by rw[qVO (by omega),qVO (by omega)]
      refine .inr (go c (by omega) (by rw[hsa,hsb]) ?_)
      simp (disch:=(first | omega | (simp only[lnn];omega))) only[qVG,hix,stp]
   ·have hiN:i=N:=by omega
    subst hiN
    rw[Nat.sub_self,List.drop_zero] at hds
    rw[qVO (by omega),qVO (by omega)] at hv
    have hla:=qSR hda
    have hlb:=qSR hdb
    have hp1:10 ^ a.length<=10 ^ (max a.length b.length):=Nat.pow_le_pow_right (by decide) (by omega)
    have hp2:10 ^ b.length<=10 ^ (max a.length b.length):=Nat.pow_le_pow_right (by decide) (by omega)
    have hpN:10 ^ i=10 * 10 ^ (max a.length b.length):=by rw[hN,Nat.pow_succ,Nat.mul_comm]
    have hc0:c=0:=by
     rcases (show c=0\/c=1 by omega) with h | h
     ·exact h
     ·exfalso
      rw[h,show ((10:Int) ^ i)=((10 ^ i:Nat):Int) by push_cast;rfl] at hv
      omega
    subst hc0
    refine .inl ⟨(Ex.exit 0,(a,b,(i:Int),qXQ s,0,(i:Int),())),?_,by simp,s,rfl,hs,hsl,by omega⟩
    rw[<-hds]
    simp (disch:=(first | omega | (simp only[lnn];omega))) only[qVG,stp]) N (a,b,(N:Int),List.replicate ((N:Int)).toNat 0,0,0,()) ⟨0,_,0,[],rfl,by omega,by simp,by omega,by simp[qXQ],by simp[qJK],rfl,by rw[qPe,qPe];simp[dval]⟩
 have ht:=qVM h1 (fun e=>by rw[e] at h2;simp at h2;omega) (by omega)
 rw[h3] at ht
 have hva:dval a=m:=by rw[ha,qOF]
 have hvb:dval b=n:=by rw[hb,qOF]
 rw[hva,hvb] at ht
 unfold qPY
 simp only[hw]
 rw[hr]
 simp (disch:=(first | omega | (simp only[lnn];omega))) only[qVV,ht,stp]
end Go.AM.Num
end
section
set_option linter.unusedSimpArgs false
set_option linter.unusedVariables false
namespace Go.AM.Num
set_option maxHeartbeats 2000000 in
theorem qWn (m n:Nat) (hm:(dd m).length<=100000000) (hle:n<=m):qUV (dd m) (dd n)=some ((dd (m - n),()),()):=by
 obtain ⟨a,ha⟩:∃ a,a=dd m:=⟨_,rfl⟩
 obtain ⟨b,hb⟩:∃ b,b=dd n:=⟨_,rfl⟩
 have hda:qJK a:=ha ▸ qBf m
 have hdb:qJK b:=hb ▸ qBf n
 have hbl:b.length<=a.length:=by rw[ha,hb];exact qDB hle
 have hane:a≠[]:=ha ▸ qGh m
 rw[<-ha,<-hb]
 rw[<-ha] at hm
 have hva:dval a=m:=by rw[ha,qOF]
 have hvb:dval b=n:=by rw[hb,qOF]
 obtain ⟨N,hN⟩:∃ N,N=a.length:=⟨_,rfl⟩
 obtain ⟨r,hr,s,rfl,h1,h2,h3⟩:=qTB (step:=qUG) (Q:=fun r=>∃ s:qBs,r=(Ex.exit 0,(a,b,qXQ s,0,(N:Int),()))/\qJK s/\s.length=N/\dval s=m - n)
  (fun k x=>∃ (i:Nat) (out:List Int) (c:Int) (s:qBs),x=(a,b,out,c,(i:Int),())/\k+i=N/\out.length=N/\(0<=c/\c<=1)/\out.drop (N - i)=qXQ s/\qJK s/\s.length=i/\(dval s:Int)+sfx b i=(sfx a i:Int)+c * 10 ^ i) (by
   rintro k x ⟨i,out,c,s,rfl,hk,hol,hc,hds,hs,hsl,hv⟩
   by_cases hi:i < N
   ·have hax:((a.length:Int) - 1 - i).toNat=a.length - 1 - i:=by omega
    have hbx:((b.length:Int) - 1 - i).toNat=b.length - 1 - i:=by omega
    have go:∀ v c':Int,(0<=v/\v < 10)->(0<=c'/\c'<=1)->((sfx a (i+1):Int)+c' * (10 ^ i * 10) - sfx b (i+1)=v * 10 ^ i+((sfx a i:Int)+c * 10 ^ i - sfx b i))->
     qUG (a,b,out,c,(i:Int),())=some (Ex.normal,(a,b,out.set (a.length - 1 - i) (48+v),c',(i:Int)+1,()))->
     ∃ m y,qUG (a,b,out,c,(i:Int),())=some (Ex.normal,y)/\m < k/\∃ (i:Nat) (out:List Int) (c:Int) (s:qBs),y=(a,b,out,c,(i:Int),())/\m+i=N/\out.length=N/\(0<=c/\c<=1)/\out.drop (N - i)=qXQ s/\qJK s/\s.length=i/\(dval s:Int)+sfx b i=(sfx a i:Int)+c * 10 ^ i:=by
     intro v c' hv1 hc' hv2 hst
     obtain ⟨d,hd1,hd2,hd3⟩:=qAm (k:=v) (by omega)
     refine ⟨k - 1,_,hst,by omega,i+1,_,_,d::s,rfl,by omega,by simpa using hol,by omega,?_,hs.cons hd2,by simp[hsl],?_⟩
     ·rw[show N - (i+1)=a.length - 1 - i by omega,qOn (by omega),show a.length - 1 - i+1=N - i by omega,hds,<-hd1];rfl
     ·rw[qKM,hsl,Int.natCast_add,Int.natCast_mul,hd3,Int.pow_succ]
      push_cast
      grind
    have hia:i < a.length:=by omega
    have hga:=qHV (s:=a) (k:=a.length - 1 - i) (by omega)
    have hdA:=hda (a[a.length - 1 - i]'(by omega)) (List.getElem_mem _)
    have hsa:=qIZ hia
    obtain ⟨A,hA⟩:∃ A,A=a[a.length - 1 - i]'(by omega):=⟨_,rfl⟩
    rw[<-hA] at hga hdA hsa
    have hA1:=hdA.1
    have hA2:=hdA.2
    have hAd:(dig A:Int)=(A.toNat:Int) - 48:=by unfold dig;omega
    by_cases hib:i < b.length
    ·have hgb:=qHV (s:=b) (k:=b.length - 1 - i) (by omega)
     have hdB:=hdb (b[b.length - 1 - i]'(by omega)) (List.getElem_mem _)
     have hsb:=qIZ hib
     obtain ⟨B,hB⟩:∃ B,B=b[b.length - 1 - i]'(by omega):=⟨_,rfl⟩
     rw[<-hB] at hgb hdB hsb
     have hB1:=hdB.1
     have hB2:=hdB.2
     have hBd:(dig B:Int)=(B.toNat:Int) - 48:=by unfold dig;omega
     by_cases hneg:(A.toNat:Int) - 48 - c - ((B.toNat:Int) - 48) < 0
     ·refine .inr (go ((A.toNat:Int) - 48 - c - ((B.toNat:Int) - 48)+10) 1 (by omega) (by omega) (by rw[hsa,hsb];push_cast;rw[hAd,hBd];grind) ?_)
      simp (disch:=(first | omega | (simp only[lnn];omega))) only[qUG,hax,hbx,hga,hgb,stp]
     ·refine .inr (go ((A.toNat:Int) - 48 - c - ((B.toNat:Int) - 48)) 0 (by omega) (by omega) (by rw[hsa,hsb];push_cast;rw[hAd,hBd];grind) ?_)
      simp (disch:=(first | omega | (simp only[lnn];omega))) only[qUG,hax,hbx,hga,hgb,stp]
    ·have hsb:sfx b (i+1)=sfx b i:=by rw[qVO (by omega),qVO (by omega)]
     by_cases hneg:(A.toNat:Int) - 48 - c < 0
     ·refine .inr (go ((A.toNat:Int) - 48 - c+10) 1 (by omega) (by omega) (by rw[hsa,hsb];push_cast;rw[hAd];grind) ?_)
      simp (disch:=(first | omega | (simp only[lnn];omega))) only[qUG,hax,hga,stp]
     ·refine .inr (go ((A.toNat:Int) - 48 - c) 0 (by omega) (by omega) (by rw[hsa,hsb];push_cast;rw[hAd];grind) ?_)
      simp (disch:=(first | omega | (simp only[lnn];omega))) only[qUG,hax,hga,stp]
   ·have hiN:i=N:=by omega
    subst hiN
    rw[Nat.sub_self,List.drop_zero] at hds
    rw[qVO (by omega),qVO (by omega),hva,hvb] at hv
    have hls:=qSR hs
    rw[hsl] at hls
    have hc0:c=0:=by
     rcases (show c=0\/c=1 by omega) with h | h
     ·exact h
     ·exfalso
      rw[h,show ((10:Int) ^ i)=((10 ^ i:Nat):Int) by push_cast;rfl] at hv
      omega
    subst hc0
    refine .inl ⟨(Ex.exit 0,(a,b,qXQ s,0,(i:Int),())),?_,by simp,s,rfl,hs,hsl,by omega⟩
    rw[<-hds]
    simp (disch:=(first | omega | (simp only[lnn];omega))) only[qUG,stp]) N (a,b,List.replicate ((a.length:Int)).toNat 0,0,0,()) ⟨0,_,0,[],rfl,by omega,by simp;omega,by omega,by simp[qXQ];omega,by simp[qJK],rfl,by rw[qPe,qPe];simp[dval]⟩
 have hapos:0 < a.length:=List.length_pos_iff.2 hane
 have ht:=qVM h1 (fun e=>by rw[e] at h2;simp at h2;omega) (by omega)
 rw[h3] at ht
 unfold qUV
 rw[hr]
 simp (disch:=(first | omega | (simp only[lnn];omega))) only[qVV,ht,stp]
def iv (l:List Int):Int:=l.foldl (fun v x=>10 * v+x) 0
theorem qOal (l:List Int) (v:Int):l.foldl (fun v x=>10 * v+x) v=v * 10 ^ l.length+iv l:=by
 induction l generalizing v with
 |nil=>simp[iv]
 |cons c s ih=>
  simp only[List.foldl_cons,iv,qY11,Int.pow_succ]
  rw[ih (10 * v+c),ih (10 * 0+c)]
  grind
theorem qRn (x:Int) (l:List Int):iv (x::l)=x * 10 ^ l.length+iv l:=by
 show (x::l).foldl (fun v x=>10 * v+x) 0=_
 rw[List.foldl_cons,qOal];simp
theorem qDat {l:List Int} {k:Nat} (h:k < l.length) (x:Int):iv (l.set k x)=iv l+(x - l.getD k 0) * 10 ^ (l.length - 1 - k):=by
 induction l generalizing k with
 |nil=>simp at h
 |cons y l ih=>
  cases k with
  |zero=>
   simp only[List.set_cons_zero,qRn,qZ3,qY11]
   rw[show l.length+1 - 1 - 0=l.length by omega]
   grind
  |succ k=>
   simp only[List.set_cons_succ,qRn,qZ2,qY11,List.length_set]
   rw[ih (by simpa using h),show l.length+1 - 1 - (k+1)=l.length - 1 - k by omega]
   omega
theorem iv_zeros (n:Nat):iv (List.replicate n 0)=0:=by
 induction n with
 |zero=>rfl
 |succ n ih=>rw[List.replicate_succ,qRn,ih];simp
def pfx (a:qBs) (i:Nat):Nat:=dval (a.take i)
theorem qIm {a:qBs} {i:Nat} (h:i < a.length):pfx a (i+1)=10 * pfx a i+dig a[i]:=by
 unfold pfx
 rw[List.take_succ_eq_append_getElem h,qPM]
def Bd (l:List Int) (B:Int):Prop:=∀ x∈l,0<=x/\x<=B
theorem Bd.at {l:List Int} {B:Int} (h:Bd l B) (hB:0<=B) (k:Nat):0<=l.getD k 0/\l.getD k 0<=B:=by
 by_cases hk:k < l.length
 ·rw[qAc hk];exact h _ (List.getElem_mem hk)
 ·rw[qXm (by omega)];omega
theorem Bd.set {l:List Int} {B B':Int} (h:Bd l B) (hB:B<=B') {k:Nat} {x:Int} (hx:0<=x/\x<=B'):Bd (l.set k x) B':=by
 intro y hy
 rcases List.mem_or_eq_of_mem_set hy with hy | rfl
 ·have:=h y hy;omega
 ·exact hx
theorem qRs {a b:qBs} {out0:List Int} {i:Nat} {B:Int} (hda:qJK a) (hdb:qJK b) (hi:i < a.length) (hol:out0.length=a.length+b.length) (hbl:b.length<=100000000) (hal:a.length<=100000000)
 (hB:0<=B/\B<=1000000000000000000) (hb0:Bd out0 B) :
 ∃ out,qPA qEN (a,b,out0,(i:Int),0,())=some (Ex.exit 2,(a,b,out,(i:Int),(b.length:Int),()))/\out.length=out0.length/\Bd out (B+81 * b.length)/\
  iv out=iv out0+(dig a[i]:Int) * 10 ^ (a.length - 1 - i) * dval b:=by
 have hA:=hda a[i] (List.getElem_mem hi)
 obtain ⟨A,hAe⟩:∃ A,A=a[i]:=⟨_,rfl⟩
 rw[<-hAe] at hA ⊢
 have hga:a.getD i 0=A:=by rw[qHV hi,hAe]
 have hA1:=hA.1
 have hA2:=hA.2
 have hAd:(dig A:Int)=(A.toNat:Int) - 48:=by unfold dig;omega
 obtain ⟨r,hr,out,rfl,h1,h2,h3⟩:=qTB (step:=qEN) (Q:=fun r=>∃ out,r=(Ex.exit 2,(a,b,out,(i:Int),(b.length:Int),()))/\out.length=out0.length/\Bd out (B+81 * b.length)/\
  iv out=iv out0+(dig A:Int) * 10 ^ (a.length - 1 - i) * dval b)
  (fun k x=>∃ (j:Nat) (out:List Int),k+j=b.length/\x=(a,b,out,(i:Int),(j:Int),())/\out.length=out0.length/\Bd out (B+81 * j)/\
   iv out=iv out0+(dig A:Int) * 10 ^ (a.length - 1 - i) * ((pfx b j:Int) * 10 ^ (b.length - j))) (by
   rintro k x ⟨j,out,hk,rfl,h1,h2,h3⟩
   by_cases hj:j < b.length
   ·have hgb:=qHV hj
    have hBd:=hdb b[j] (List.getElem_mem hj)
    have hp:=qIm hj
    obtain ⟨C,hC⟩:∃ C,C=b[j]:=⟨_,rfl⟩
    rw[<-hC] at hgb hBd hp
    have hC1:=hBd.1
    have hC2:=hBd.2
    have hCd:(dig C:Int)=(C.toNat:Int) - 48:=by unfold dig;omega
    have e1:(i:Int).toNat=i:=by omega
    have e2:(j:Int).toNat=j:=by omega
    have e3:((i:Int)+j+1).toNat=i+j+1:=by omega
    have hz:=h2.at (by omega) (i+j+1)
    obtain ⟨P,hP⟩:∃ P,P=((A.toNat:Int) - 48) * ((C.toNat:Int) - 48):=⟨_,rfl⟩
    have hP0:0<=P:=by rw[hP];exact Int.mul_nonneg (by omega) (by omega)
    have hP1:P<=81:=by
     rw[hP]
     have:((A.toNat:Int) - 48) * ((C.toNat:Int) - 48)<=9 * ((C.toNat:Int) - 48):=Int.mul_le_mul_of_nonneg_right (by omega) (by omega)
     omega
    refine .inr ⟨k - 1,(a,b,out.set (i+j+1) (out.getD (i+j+1) 0+P),(i:Int),((j+1:Nat):Int),()),?_,by omega,j+1,_,by omega,rfl,by simpa using h1,h2.set (by omega) (by omega),?_⟩
    ·rw[hP]
     rw[hP] at hP0 hP1
     simp (disch:=(first | omega | (simp only[lnn];omega))) only[qEN,e1,e2,e3,hga,hgb,stp]
     rfl
    ·rw[qDat (by omega),h3,hp]
     have ex:out.length - 1 - (i+j+1)=(a.length - 1 - i)+(b.length - (j+1)):=by omega
     have ey:b.length - j=(b.length - (j+1))+1:=by omega
     rw[ex,ey,Int.pow_add,Int.pow_succ,hP,<-hAd,<-hCd]
     push_cast
     grind
   ·have hjb:j=b.length:=by omega
    subst hjb
    refine .inl ⟨(Ex.exit 2,(a,b,out,(i:Int),(b.length:Int),())),?_,by simp,out,rfl,h1,h2,?_⟩
    ·simp (disch:=(first | omega | (simp only[lnn];omega))) only[qEN,stp]
    ·rw[h3];unfold pfx;rw[List.take_length,Nat.sub_self];simp) b.length _ ⟨0,out0,by omega,rfl,rfl,by simpa using hb0,by unfold pfx;simp[dval]⟩
 exact ⟨out,hr,h1,h2,h3⟩
set_option maxHeartbeats 1000000 in
theorem qPS (m n:Nat) (hm:(dd m).length<=10000000) (hn:(dd n).length<=10000000):qIN (dd m) (dd n)=some ((dd (m * n),()),()):=by
 obtain ⟨a,ha⟩:∃ a,a=dd m:=⟨_,rfl⟩
 obtain ⟨b,hb⟩:∃ b,b=dd n:=⟨_,rfl⟩
 have hda:qJK a:=ha ▸ qBf m
 have hdb:qJK b:=hb ▸ qBf n
 have hapos:0 < a.length:=by rw[ha];exact qUP m
 rw[<-ha,<-hb]
 rw[<-ha] at hm
 rw[<-hb] at hn
 have hva:dval a=m:=by rw[ha,qOF]
 have hvb:dval b=n:=by rw[hb,qOF]
 obtain ⟨r,hr,out,rfl,h1,h2,h3⟩:=qTB (step:=qUQ) (Q:=fun r=>∃ out,r=(Ex.exit 0,(a,b,out,(a.length:Int),()))/\out.length=a.length+b.length/\Bd out (81 * 100000000000000)/\iv out=(dval a:Int) * dval b)
  (fun k x=>∃ (i:Nat) (out:List Int),k+i=a.length/\x=(a,b,out,(i:Int),())/\out.length=a.length+b.length/\Bd out (81 * ((i * b.length:Nat):Int))/\iv out=(pfx a i:Int) * 10 ^ (a.length - i) * dval b) (by
   rintro k x ⟨i,out,hk,rfl,h1,h2,h3⟩
   have hib:i * b.length<=a.length * b.length:=Nat.mul_le_mul_right _ (by omega)
   have hab:a.length * b.length<=10000000 * b.length:=Nat.mul_le_mul_right _ hm
   by_cases hi:i < a.length
   ·obtain ⟨o2,hin,g1,g2,g3⟩:=qRs (B:=81 * ((i * b.length:Nat):Int)) hda hdb hi h1 (by omega) (by omega) (by omega) h2
    have hp:=qIm hi
    refine .inr ⟨k - 1,(a,b,o2,((i+1:Nat):Int),()),?_,by omega,i+1,o2,by omega,rfl,by omega,?_,?_⟩
    ·simp (disch:=(first | omega | (simp only[lnn];omega))) only[qUQ,hin,stp]
     rfl
    ·intro y hy
     have:=g2 y hy
     rw[Nat.add_mul]
     omega
    ·rw[g3,h3,hp,show a.length - i=(a.length - 1 - i)+1 by omega,show a.length - (i+1)=a.length - 1 - i by omega,Int.pow_succ]
     push_cast
     grind
   ·have hia:i=a.length:=by omega
    subst hia
    refine .inl ⟨(Ex.exit 0,(a,b,out,(a.length:Int),())),?_,by simp,out,rfl,h1,?_,?_⟩
    ·simp (disch:=(first | omega | (simp only[lnn];omega))) only[qUQ,stp]
    ·intro y hy;have:=h2 y hy;omega
    ·rw[h3];unfold pfx;rw[List.take_length,Nat.sub_self];simp) a.length (a,b,List.replicate ((((a.length:Int)+b.length)).toNat) 0,0,()) ⟨0,_,by omega,rfl,by simp;omega,by intro y hy;rw[List.eq_of_mem_replicate hy];simp,by rw[iv_zeros];unfold pfx;simp[dval]⟩
 obtain ⟨N,hN⟩:∃ N,N=out.length:=⟨_,rfl⟩
 obtain ⟨r2,hr2,s,rfl,g1,g2,g3⟩:=qTB (step:=qMN) (Q:=fun r=>∃ s:qBs,r=(Ex.exit 4,(out,qXQ s,0,-1,()))/\qJK s/\s.length=N/\dval s=m * n)
  (fun k x=>∃ (o:List Int) (c:Int) (s:qBs),x=(out,o,c,(k:Int) - 1,())/\k<=N/\o.length=N/\(0<=c/\c<=81 * 100000000000000)/\o.drop k=qXQ s/\qJK s/\s.length=N - k/\(dval s:Int)+c * 10 ^ (N - k)=iv (out.drop k)) (by
   rintro k x ⟨o,c,s,rfl,hk,hol,hc,hds,hs,hsl,hv⟩
   by_cases h0:k=0
   ·subst h0
    rw[List.drop_zero] at hds hv
    rw[Nat.sub_zero] at hv hsl
    rw[h3] at hv
    have hla:=qSR hda
    have hlb:=qSR hdb
    have hprod:dval a * dval b < 10 ^ N:=by
     rw[hN,h1,Nat.pow_add]
     exact Nat.mul_lt_mul'' hla hlb
    have hc0:c=0:=by
     rcases Int.lt_or_eq_of_le hc.1 with h | h
     ·exfalso
      have e1:1 * (10:Int) ^ N<=c * 10 ^ N:=Int.mul_le_mul_of_nonneg_right (by omega) (by have:(0:Int) < 10 ^ N:=Int.pow_pos (by decide);omega)
      rw[show ((10:Int) ^ N)=((10 ^ N:Nat):Int) by push_cast;rfl] at e1 hv
      rw[<-Int.natCast_mul] at hv
      omega
     ·exact h.symm
    subst hc0
    refine .inl ⟨(Ex.exit 4,(out,qXQ s,0,-1,())),?_,by simp,s,rfl,hs,hsl,?_⟩
    ·rw[<-hds]
     simp (disch:=(first | omega | (simp only[lnn];omega))) only[qMN,stp]
     rfl
    ·rw[Int.zero_mul,Int.add_zero,<-Int.natCast_mul,hva,hvb] at hv;omega
   ·have e:((k:Int) - 1).toNat=k - 1:=by omega
    have hz:=h2.at (by omega) (k - 1)
    obtain ⟨v,hvv⟩:∃ v,v=out.getD (k - 1) 0+c:=⟨_,rfl⟩
    obtain ⟨d,hd1,hd2,hd3⟩:=qAm (k:=v % 10) (by omega)
    refine .inr ⟨k - 1,(out,o.set (k - 1) (48+v % 10),v / 10,(k:Int) - 1 - 1,()),?_,by omega,o.set (k - 1) (48+v % 10),v / 10,d::s,?_,by omega,by simpa using hol,by omega,?_,hs.cons hd2,by simp[hsl];omega,?_⟩
    ·rw[hvv]
     simp (disch:=(first | omega | (simp only[lnn];omega))) only[qMN,e,stp]
    ·rw[show (k:Int) - 1 - 1=((k - 1:Nat):Int) - 1 by omega]
    ·rw[qOn (by omega),show k - 1+1=k by omega,hds,<-hd1];rfl
    ·rw[qKM,hsl,Int.natCast_add,Int.natCast_mul,hd3,qY6 (show k - 1 < out.length by omega),qRn,<-qAc (by omega),show k - 1+1=k by omega,<-hv,List.length_drop,show N - (k - 1)=(N - k)+1 by omega,<-hN,Int.pow_succ]
     have:=Int.emod_add_mul_ediv v 10
     push_cast
     grind) N (out,List.replicate ((out.length:Int)).toNat 0,0,(out.length:Int) - 1,()) ⟨_,0,[],by rw[hN],Nat.le_refl _,by simp;omega,by omega,by rw[List.drop_of_length_le (by simp;omega)];rfl,by simp[qJK],by simp,by rw[List.drop_of_length_le (by omega)];simp[dval,iv]⟩
 have ht:=qVM g1 (fun e=>by rw[e] at g2;simp at g2;omega) (by omega)
 rw[g3] at ht
 have hlen:out.length=a.length+b.length:=h1
 have hw:qI ((out.length:Int) - 1)=(out.length:Int) - 1:=w64 (by omega)
 have hw2:qI ((a.length:Int)+b.length)=(a.length:Int)+b.length:=w64 (by omega)
 unfold qIN
 simp only[hw2]
 rw[hr]
 simp only[qAA,qJB,qOA,hw]
 rw[hr2]
 simp (disch:=(first | omega | (simp only[lnn];omega))) only[qVV,ht,stp]
end Go.AM.Num
end
section
set_option linter.unusedSimpArgs false
set_option linter.unusedVariables false
namespace Go.AM.Num
theorem qKs (a:qBs) (q:List Int) (i:Int) (R B:Nat) (hB:B≠0) (hR:(dd R).length<=100000000) (hlt:R < 10 * B) :
 qPA qFN (a,dd B,q,dd R,i,48,())=some (Ex.exit 2,(a,dd B,q,dd (R % B),i,48+((R / B:Nat):Int),())):=by
 obtain ⟨r,hr,rfl⟩:=qTB (step:=qFN) (Q:=fun r=>r=(Ex.exit 2,(a,dd B,q,dd (R % B),i,48+((R / B:Nat):Int),())))
  (fun k x=>∃ S d:Nat,x=(a,dd B,q,dd S,i,48+(d:Int),())/\k=S/\S+d * B=R) (by
   rintro k x ⟨S,d,rfl,rfl,h⟩
   obtain ⟨c,hc,hc1,hc2⟩:=qWv k B
   by_cases hlt':k < B
   ·have hneg:=hc1.2 hlt'
    have hq:R / B=d:=by rw[<-h,Nat.add_mul_div_right _ _ (by omega),Nat.div_eq_of_lt hlt'];omega
    have hm:R % B=k:=by rw[<-h,Nat.add_mul_mod_self_right,Nat.mod_eq_of_lt hlt']
    refine .inl ⟨(Ex.exit 2,(a,dd B,q,dd k,i,48+(d:Int),())),?_,by simp,by rw[hq,hm]⟩
    simp (disch:=(first | omega | (simp only[lnn];omega))) only[qFN,hc,stp]
   ·have hge:c>=0:=by
     rcases Int.lt_or_le c 0 with h' | h'
     ·exact absurd (hc1.1 h') hlt'
     ·exact h'
    have hkl:(dd k).length<=100000000:=Nat.le_trans (qDB (by rw[<-h];omega)) hR
    have hs:=qWn k B hkl (by omega)
    have hd9:d < 9:=by
     have:(d+1) * B<=R:=by rw[Nat.add_mul];omega
     have h2:(d+1) * B < 10 * B:=by omega
     have:=Nat.lt_of_mul_lt_mul_right h2
     omega
    refine .inr ⟨k - B,(a,dd B,q,dd (k - B),i,48+((d+1:Nat):Int),()),?_,by omega,k - B,d+1,rfl,rfl,by rw[Nat.add_mul];omega⟩
    simp (disch:=(first | omega | (simp only[lnn];omega))) only[qFN,hc,hs,stp]
    congr 7) R (a,dd B,q,dd R,i,48,()) ⟨R,0,by simp,rfl,by omega⟩
 exact hr
theorem qUai {α:Type} {l:List α} {i:Nat} (h:i < l.length) (c:α):(l.set i c).take (i+1)=l.take i++[c]:=by
 rw[List.take_succ_eq_append_getElem (by simpa using h),List.getElem_set_self,List.take_set_of_le (by omega)]
theorem qBab (s:qBs) (d:UInt8):qXQ (s++[d])=qXQ s++[(d.toNat:Int)]:=by simp[qXQ]
set_option maxHeartbeats 1000000 in
theorem qGW (m n:Nat) (hm:(dd m).length<=10000000) (hn:(dd n).length<=10000000) (h0:n≠0):qHT (dd m) (dd n)=some ((dd (m / n),dd (m % n),()),()):=by
 obtain ⟨a,ha⟩:∃ a,a=dd m:=⟨_,rfl⟩
 have hda:qJK a:=ha ▸ qBf m
 have hva:dval a=m:=by rw[ha,qOF]
 have hapos:0 < a.length:=by rw[ha];exact qUP m
 rw[<-ha]
 rw[<-ha] at hm
 obtain ⟨r,hr,s,rfl,h1,h2,h3⟩:=qTB (step:=qSQ) (Q:=fun r=>∃ s:qBs,r=(Ex.exit 0,(a,dd n,qXQ s,dd (m % n),(a.length:Int),()))/\qJK s/\s.length=a.length/\dval s=m / n)
  (fun k x=>∃ (i:Nat) (q:List Int) (R:Nat) (s:qBs),x=(a,dd n,q,dd R,(i:Int),())/\k+i=a.length/\q.length=a.length/\q.take i=qXQ s/\qJK s/\s.length=i/\R < n/\pfx a i=dval s * n+R) (by
   rintro k x ⟨i,q,R,s,rfl,hk,hql,hqt,hs,hsl,hR,hv⟩
   by_cases hi:i < a.length
   ·have hp:=qIm hi
    have hA:=hda a[i] (List.getElem_mem hi)
    have hcut:(a.take (i+1)).drop i=[a[i]]:=by
     rw[List.take_succ_eq_append_getElem hi]
     have hl:(a.take i).length=i:=by rw[List.length_take];omega
     conv=>lhs;arg 1;rw[<-hl]
     exact List.drop_left
    obtain ⟨A,hAe⟩:∃ A,A=a[i]:=⟨_,rfl⟩
    rw[<-hAe] at hp hA hcut
    have hAl:=qWag hA
    have hRl:(dd R).length<=(dd n).length:=qDB (by omega)
    have htr:=qVM (s:=dd R++[A]) ((qBf R).app (fun c hc=>by rw[List.mem_singleton.1 hc];exact hA)) (by simp) (by simp;omega)
    rw[qPM,qOF] at htr
    obtain ⟨S,hS⟩:∃ S,S=10 * R+dig A:=⟨_,rfl⟩
    rw[<-hS] at htr
    have hSl:(dd S).length<=100000000:=by
     have:S < 10 ^ ((dd n).length+1):=by
      have h1:=qFO n
      rw[Nat.pow_succ];omega
     have:=qDI this (by omega)
     omega
    have hin:=qKs a q (i:Int) S n h0 hSl (by omega)
    have hd9:S / n<=9:=by
     have:S / n < 10:=Nat.div_lt_of_lt_mul (by omega)
     omega
    obtain ⟨d,hd1,hd2,hd3⟩:=qAm (k:=((S / n:Nat):Int)) ⟨Int.natCast_nonneg _,by exact_mod_cast Nat.lt_succ_of_le hd9⟩
    have e1:((i:Int)+1).toNat=i+1:=by omega
    have e2:((i:Int)).toNat=i:=by omega
    have g:(dd R).length+([A]:qBs).length<=qEP:=by rw[qEM];simp;omega
    refine .inr ⟨k - 1,(a,dd n,q.set i (48+((S / n:Nat):Int)),dd (S % n),((i+1:Nat):Int),()),?_,by omega,i+1,_,S % n,s++[d],rfl,by omega,by simpa using hql,?_,?_,by simp[hsl],Nat.mod_lt _ (by omega),?_⟩
    ·simp (disch:=(first | omega | (simp only[lnn];omega))) only[qSQ,e1,e2,hcut,qBA g,htr,hin,stp]
     rfl
    ·rw[qUai (by omega),hqt,qBab,hd1]
    ·exact hs.app (fun c hc=>by rw[List.mem_singleton.1 hc];exact hd2)
    ·rw[qPM,hp,hv]
     have h5:dig d=S / n:=by exact_mod_cast hd3
     have h6:=Nat.div_add_mod S n
     rw[h5]
     grind
   ·have hia:i=a.length:=by omega
    subst hia
    rw[List.take_of_length_le (by omega)] at hqt
    have hv':m=dval s * n+R:=by rw[<-hva,<-hv];unfold pfx;rw[List.take_length]
    have hq':m / n=dval s:=by rw[hv',Nat.mul_comm,Nat.mul_add_div (by omega),Nat.div_eq_of_lt hR];omega
    have hm':m % n=R:=by rw[hv',Nat.mul_comm,Nat.mul_add_mod,Nat.mod_eq_of_lt hR]
    refine .inl ⟨(Ex.exit 0,(a,dd n,qXQ s,dd (m % n),(a.length:Int),())),?_,by simp,s,rfl,hs,hsl,hq'.symm⟩
    rw[<-hqt,hm']
    simp (disch:=(first | omega | (simp only[lnn];omega))) only[qSQ,stp]) a.length (a,dd n,List.replicate ((a.length:Int)).toNat 0,[48],0,()) ⟨0,_,0,[],by rw[qFD];rfl,by omega,by simp,by simp[qXQ],by simp[qJK],rfl,by omega,by unfold pfx;simp[dval]⟩
 have ht:=qVM h1 (fun e=>by rw[e] at h2;simp at h2;omega) (by omega)
 rw[h3] at ht
 unfold qHT
 rw[hr]
 simp (disch:=(first | omega | (simp only[lnn];omega))) only[qVV,ht,stp]
theorem qRx (m n:Nat) (hm:(dd m).length<=10000000) (hn:(dd n).length<=10000000):qOe (dd m) (dd n)=some ((dd (Nat.gcd m n),()),()):=by
 obtain ⟨r,hr,b,rfl⟩:=qTB (step:=qGQ) (Q:=fun r=>∃ b,r=(Ex.exit 0,(dd (Nat.gcd m n),b,())))
  (fun k x=>∃ a b:Nat,x=(dd a,dd b,())/\k=b/\Nat.gcd a b=Nat.gcd m n/\(dd a).length<=10000000/\(dd b).length<=10000000) (by
   rintro k x ⟨a,b,rfl,rfl,hg,ha,hb⟩
   by_cases h0:k=0
   ·subst h0
    refine .inl ⟨(Ex.exit 0,(dd a,dd 0,())),?_,by simp,dd 0,by rw[<-hg,Nat.gcd_zero_right]⟩
    simp (disch:=(first | omega | (simp only[lnn];omega))) only[qGQ,qDD qFD,stp]
   ·have hne:dd k≠[48]:=fun e=>h0 (by rw[<-qFD] at e;exact qKS e)
    refine .inr ⟨a % k,_,?_,Nat.mod_lt _ (by omega),k,a % k,rfl,rfl,?_,hb,?_⟩
    ·simp (disch:=(first | omega | (simp only[lnn];omega))) only[qGQ,qLC hne,qGW a k ha hb h0,stp]
    ·rw[Nat.gcd_comm,<-Nat.gcd_rec,Nat.gcd_comm,hg]
    ·exact Nat.le_trans (qDB (Nat.le_of_lt (Nat.mod_lt _ (by omega)))) hb) n _ ⟨m,n,rfl,rfl,rfl,hm,hn⟩
 unfold qOe
 rw[hr]
 simp (disch:=(first | omega | (simp only[lnn];omega))) only[stp]
end Go.AM.Num
end
section
set_option linter.unusedSimpArgs false
set_option linter.unusedVariables false
namespace Go.AM.Num
theorem qAG (m:Nat):(dd m==[48])=decide (m=0):=by
 by_cases h:m=0
 ·subst h;rw[qZ10 rfl];exact qDD qFD
 ·rw[qZ9 h];exact qLC (fun e=>h (by rw[<-qFD] at e;exact qKS e))
theorem qMk (m:Nat):(dd m==[49])=decide (m=1):=by
 by_cases h:m=1
 ·subst h;rw[qZ10 rfl];exact qDD qRN
 ·rw[qZ9 h];exact qLC (fun e=>h (by rw[<-qRN] at e;exact qKS e))
def rr (neg:Bool) (m d:Nat):Bool×qBs×qBs:=(neg&&decide (m≠0),dd m,dd d)
theorem qGi (neg:Bool) (m d:Nat) (hm:(dd m).length<=100000000) (hd:(dd d).length<=100000000):qCB ((rr neg m d).1,(rr neg m d).2.1,(rr neg m d).2.2)=some ((tx neg m d,()),()):=by
 have h1:([45]:qBs).length+(dd m).length<=qEP:=by rw[qEM];simp;omega
 have h2:([47]:qBs).length+(dd d).length<=qEP:=by rw[qEM];simp;omega
 have h3:(([45]:qBs)++dd m).length+(([47]:qBs)++dd d).length<=qEP:=by rw[qEM];simp;omega
 have h4:(dd m).length+(([47]:qBs)++dd d).length<=qEP:=by rw[qEM];simp;omega
 have h5:=qMk d
 unfold qCB tx rr
 dsimp only
 by_cases hn:neg=true/\m≠0
 ·have e:(neg&&decide (m≠0))=true:=by rw[hn.1,qZ10 hn.2];rfl
  rw[e,if_pos hn]
  by_cases h:d=1
  ·rw[qZ10 h] at h5
   simp (disch:=(first | omega | (simp only[lnn];omega))) only[h5,qBA h1,stp]
   rw[if_pos h];simp
  ·rw[qZ9 h] at h5
   simp (disch:=(first | omega | (simp only[lnn];omega))) only[h5,qBA h1,qBA h2,qBA h3,stp]
   rw[if_neg h];rfl
 ·have e:(neg&&decide (m≠0))=false:=by
   cases neg with
   |false=>rfl
   |true=>
    have:m=0:=by simpa using hn
    subst this;rfl
  rw[e,if_neg hn]
  by_cases h:d=1
  ·rw[qZ10 h] at h5
   simp (disch:=(first | omega | (simp only[lnn];omega))) only[h5,stp]
   rw[if_pos h];simp
  ·rw[qZ9 h] at h5
   simp (disch:=(first | omega | (simp only[lnn];omega))) only[h5,qBA h2,qBA h4,stp]
   rw[if_neg h];rfl
theorem qMr (neg:Bool) (m d:Nat) (hd:d≠0) (hm:(dd m).length<=10000000) (hdl:(dd d).length<=10000000) :
 qLI neg (dd m) (dd d)=some ((rr neg (m / Nat.gcd m d) (d / Nat.gcd m d),()),()):=by
 have hg0:Nat.gcd m d≠0:=fun e=>hd (Nat.gcd_eq_zero_iff.1 e).2
 have hgl:(dd (Nat.gcd m d)).length<=10000000:=Nat.le_trans (qDB (Nat.le_of_dvd (by omega) (Nat.gcd_dvd_right m d))) hdl
 have hz:=qAG (m / Nat.gcd m d)
 unfold qLI rr
 cases neg with
 |false=>
  simp (disch:=(first | omega | (simp only[lnn];omega))) only[qRx m d hm hdl,qGW m _ hm hgl hg0,qGW d _ hdl hgl hg0,stp]
  rfl
 |true=>
  simp (disch:=(first | omega | (simp only[lnn];omega))) only[qRx m d hm hdl,qGW m _ hm hgl hg0,qGW d _ hdl hgl hg0,hz,stp]
  simp only[Bool.true_and,ne_eq,decide_not]
theorem qIaq (neg:Bool) (m d:Nat) (hd:d≠0) (hm:(dd m).length<=10000000) (hdl:(dd d).length<=10000000) :
 ∃ r,qLI neg (dd m) (dd d)=some ((r,()),())/\qCB (r.1,r.2.1,r.2.2)=some ((txt (mkRat (sg neg m) d),()),()):=by
 refine ⟨_,qMr neg m d hd hm hdl,?_⟩
 rw[qGi neg _ _ (Nat.le_trans (qDB (Nat.div_le_self _ _)) (by omega)) (Nat.le_trans (qDB (Nat.div_le_self _ _)) (by omega)),qRZ neg m d hd]
def bad:Bool×qBs×qBs:=(false,[],[])
noncomputable def qFz (a:qBs) (neg:Bool) (num den:qBs):Option (((Bool×qBs×qBs)×Bool×Unit)×Unit):=
 (qTM num).bind fun r2=>
 cond (!r2.1.1)
 (some (((false,([]:qBs),([]:qBs)),false,()),()))
 ((qTM den).bind fun r3=>
 cond (!r3.1.1)
 (some (((false,([]:qBs),([]:qBs)),false,()),()))
 (cond (den==([48]:qBs))
 (some (((false,([]:qBs),([]:qBs)),false,()),()))
 ((qXO num).bind fun r4=>
 cond (!(r4.1.1==num))
 (some (((false,([]:qBs),([]:qBs)),false,()),()))
 ((qXO den).bind fun r5=>
 cond (!(r5.1.1==den))
 (some (((false,([]:qBs),([]:qBs)),false,()),()))
 ((qLI neg num den).bind fun r6=>
 (qCB (r6.1.1.1,r6.1.1.2.1,r6.1.1.2.2)).bind fun r7=>
 cond (!(r7.1.1==a))
 (some (((false,([]:qBs),([]:qBs)),false,()),()))
 (some (((neg,num,den),true,()),())))))))
theorem qPac (m:Nat):figs (dd m):=⟨qGh m,qBf m⟩
theorem qCaa {a:qBs} {neg:Bool} {m d:Nat} (hd:d≠0) (hm:(dd m).length<=10000000) (hdl:(dd d).length<=10000000) (ha:a=txt (mkRat (sg neg m) d)) :
 qFz a neg (dd m) (dd d)=some (((neg,dd m,dd d),true,()),()):=by
 obtain ⟨r,h1,h2⟩:=qIaq neg m d hd hm hdl
 have t1:=qVM (qBf m) (qGh m) (by omega)
 have t2:=qVM (qBf d) (qGh d) (by omega)
 rw[qOF] at t1 t2
 have z:=qAG d
 rw[qZ9 hd] at z
 unfold qFz
 simp (disch:=(first | omega | (simp only[lnn];omega))) only[qQS (s:=dd m) (by omega),qQS (s:=dd d) (by omega),qZ10 (qPac m),qZ10 (qPac d),z,t1,t2,qDD (rfl:dd m=dd m),qDD (rfl:dd d=dd d),h1,h2,qDD ha.symm,stp]
theorem qRaa {a num den:qBs} {neg:Bool} (hn:num.length<=1000000) (hdl:den.length<=1000000) :
 (∃ m d,num=dd m/\den=dd d/\d≠0/\a=txt (mkRat (sg neg m) d)/\qFz a neg num den=some (((neg,num,den),true,()),()))\/
 (qFz a neg num den=some ((bad,false,()),())/\¬ ∃ m d,num=dd m/\den=dd d/\d≠0/\a=txt (mkRat (sg neg m) d)):=by
 by_cases hex:∃ m d,num=dd m/\den=dd d/\d≠0/\a=txt (mkRat (sg neg m) d)
 ·obtain ⟨m,d,rfl,rfl,hd,ha⟩:=hex
  exact .inl ⟨m,d,rfl,rfl,hd,ha,qCaa hd (by omega) (by omega) ha⟩
 ·refine .inr ⟨?_,hex⟩
  have d1:=qQS (s:=num) (by omega)
  have d2:=qQS (s:=den) (by omega)
  unfold qFz bad
  by_cases f1:figs num
  ·by_cases f2:figs den
   ·have t1:=qVM f1.2 f1.1 (by omega)
    have t2:=qVM f2.2 f2.1 (by omega)
    by_cases z:den=[48]
    ·simp (disch:=(first | omega | (simp only[lnn];omega))) only[d1,d2,qZ10 f1,qZ10 f2,qDD z,stp]
    ·by_cases e1:dd (dval num)=num
     ·by_cases e2:dd (dval den)=den
      ·have hd:dval den≠0:=fun e=>z (by rw[<-e2,e,qFD])
       obtain ⟨r,g1,g2⟩:=qIaq neg (dval num) (dval den) hd (by rw[e1];omega) (by rw[e2];omega)
       rw[e1,e2] at g1
       have hna:txt (mkRat (sg neg (dval num)) (dval den))≠a:=fun e=>hex ⟨_,_,e1.symm,e2.symm,hd,e.symm⟩
       simp (disch:=(first | omega | (simp only[lnn];omega))) only[d1,d2,qZ10 f1,qZ10 f2,qLC z,t1,t2,qDD e1,qDD e2,g1,g2,qLC hna,stp]
      ·simp (disch:=(first | omega | (simp only[lnn];omega))) only[d1,d2,qZ10 f1,qZ10 f2,qLC z,t1,t2,qDD e1,qLC e2,stp]
     ·simp (disch:=(first | omega | (simp only[lnn];omega))) only[d1,d2,qZ10 f1,qZ10 f2,qLC z,t1,qLC e1,stp]
   ·simp (disch:=(first | omega | (simp only[lnn];omega))) only[d1,d2,qZ10 f1,qZ9 f2,stp]
  ·simp (disch:=(first | omega | (simp only[lnn];omega))) only[d1,qZ9 f1,stp]
theorem qTap (a s:qBs) (t2:Bool×qBs×qBs) (neg:Bool) (hl:s.length<=1000000000) :
 ∃ num den i,qPA qTJ (a,t2,(neg,[],[49]),s,0,())=some (Ex.exit 0,(a,t2,(neg,[],den),num,i,()))/\
  ((s=num/\den=[49]/\(47:UInt8)∉s)\/(s=num++47::den/\(47:UInt8)∉num)):=by
 obtain ⟨r,hr,num,den,i,rfl,hq⟩:=qTB (step:=qTJ) (Q:=fun r=>∃ num den i,r=(Ex.exit 0,(a,t2,(neg,[],den),num,i,()))/\((s=num/\den=[49]/\(47:UInt8)∉s)\/(s=num++47::den/\(47:UInt8)∉num)))
  (fun m x=>∃ k:Nat,m+k=s.length/\x=(a,t2,(neg,[],[49]),s,(k:Int),())/\(47:UInt8)∉s.take k) (by
   rintro m x ⟨k,hm,rfl,hk⟩
   by_cases h:k < s.length
   ·have hg:=qHV h
    have e:(k:Int).toNat=k:=by omega
    have e1:((k:Int)+1).toNat=k+1:=by omega
    by_cases h47:s[k]=47
    ·have hc:((s[k].toNat:Nat):Int)=47:=by rw[h47];rfl
     refine .inl ⟨(Ex.exit 0,(a,t2,(neg,[],s.drop (k+1)),s.take k,(k:Int),())),?_,by simp,s.take k,s.drop (k+1),(k:Int),rfl,.inr ⟨?_,hk⟩⟩
     ·simp (disch:=(first | omega | (simp only[lnn];omega))) only[qTJ,e,e1,hg,hc,stp]
     ·conv=>lhs;rw[<-List.take_append_drop k s,qY6 h,h47]
    ·have hc:((s[k].toNat:Nat):Int)≠47:=fun e=>h47 (UInt8.toNat_inj.1 (by show s[k].toNat=47;omega))
     refine .inr ⟨m - 1,(a,t2,(neg,[],[49]),s,((k+1:Nat):Int),()),?_,by omega,k+1,by omega,rfl,?_⟩
     ·simp (disch:=(first | omega | (simp only[lnn];omega))) only[qTJ,e,hg,qDA hc,stp]
      rfl
     ·rw[List.take_succ_eq_append_getElem h]
      intro hm'
      rcases List.mem_append.1 hm' with hm' | hm'
      ·exact hk hm'
      ·exact h47 (List.mem_singleton.1 hm').symm
   ·have hks:k=s.length:=by omega
    subst hks
    refine .inl ⟨(Ex.exit 0,(a,t2,(neg,[],[49]),s,(s.length:Int),())),?_,by simp,s,[49],_,rfl,.inl ⟨rfl,rfl,by simpa using hk⟩⟩
    simp (disch:=(first | omega | (simp only[lnn];omega))) only[qTJ,stp]) s.length _ ⟨0,by omega,rfl,by simp⟩
 exact ⟨num,den,i,hr,hq⟩
theorem qIv (a:qBs) (hl:a.length<=1000000000):∃ neg s num den,a=sgn neg++s/\(neg=false->∀ r,s≠45::r)/\((s=num/\den=[49]/\(47:UInt8)∉s)\/(s=num++47::den/\(47:UInt8)∉num))/\qFH a=qFz a neg num den:=by
 have h00:((0:Int)).toNat=0:=rfl
 have h11:((1:Int)).toNat=1:=rfl
 by_cases h0:a=[]
 ·subst h0
  obtain ⟨num,den,i,hs,hq⟩:=qTap [] [] (false,[],[]) false (by simp)
  refine ⟨false,[],num,den,rfl,fun _ r=>by simp,hq,?_⟩
  unfold qFH
  simp (disch:=(first | omega | (simp only[lnn];omega))) only[hs,stp]
  rfl
 ·cases a with
  |nil=>exact absurd rfl h0
  |cons c s=>
   have hne:=qLC h0
   have hg:(c::s:qBs).getD 0 0=c:=rfl
   have hlen:(c::s).length=s.length+1:=rfl
   by_cases hc:c=45
   ·subst hc
    obtain ⟨num,den,i,hs,hq⟩:=qTap (45::s) s (false,[],[]) true (by omega)
    have h45:(((45:UInt8).toNat:Nat):Int)=45:=rfl
    refine ⟨true,s,num,den,rfl,(fun h=>by cases h),hq,?_⟩
    have hdrop:(45::s:qBs).drop 1=s:=rfl
    unfold qFH
    simp (disch:=(first | omega | (simp only[lnn];omega))) only[hne,h00,hg,h45,h11,hdrop,hs,stp]
    rfl
   ·have hcn:((c.toNat:Nat):Int)≠45:=fun e=>hc (UInt8.toNat_inj.1 (by show c.toNat=45;omega))
    obtain ⟨num,den,i,hs,hq⟩:=qTap (c::s) (c::s) (false,[],[]) false (by omega)
    refine ⟨false,c::s,num,den,rfl,fun _ r h=>hc (by simpa using (List.cons.inj h).1),hq,?_⟩
    unfold qFH
    simp (disch:=(first | omega | (simp only[lnn];omega))) only[hne,h00,hg,qDA hcn,hs,stp]
    rfl
theorem qJq (a:qBs) (hl:a.length<=1000000) :
 (∃ q,a=txt q/\qFH a=some (((decide (q.num < 0),dd q.num.natAbs,dd q.den),true,()),()))\/(qFH a=some ((bad,false,()),())/\rd a=none):=by
 obtain ⟨neg,s,num,den,ha,hs,hq,hp⟩:=qIv a (by omega)
 have hsl:s.length<=1000000:=by rw[ha,qZ6] at hl;omega
 have hnl:num.length<=1000000/\den.length<=1000000:=by
  rcases hq with ⟨rfl,rfl,_⟩ | ⟨rfl,_⟩
  ·exact ⟨hsl,by simp⟩
  ·rw[qZ6,qY11] at hsl;exact ⟨by omega,by omega⟩
 have shp:∀ q,a=txt q->neg=decide (q.num < 0)/\num=dd q.num.natAbs/\den=dd q.den:=by
  intro q h
  obtain ⟨e1,e2⟩:=shape hs (ha ▸ h)
  refine ⟨e1,?_⟩
  rcases hq with ⟨rfl,rfl,hx⟩ | ⟨rfl,hx⟩
  ·by_cases hd:q.den=1
   ·rw[if_pos hd,qY4] at e2
    exact ⟨e2,by rw[hd,qRN]⟩
   ·rw[if_neg hd] at e2
    exact absurd (by rw[e2];simp) hx
  ·by_cases hd:q.den=1
   ·rw[if_pos hd,qY4] at e2
    exact absurd (show (47:UInt8)∈dd q.num.natAbs by rw[<-e2];simp) qHd
   ·rw[if_neg hd] at e2
    exact qPi hx qHd e2
 rw[hp]
 rcases qRaa (a:=a) (neg:=neg) hnl.1 hnl.2 with ⟨m,d,rfl,rfl,hd,hat,hg⟩ | ⟨hg,hno⟩
 ·obtain ⟨e1,e2,e3⟩:=shp _ hat
  refine .inl ⟨_,hat,?_⟩
  rw[hg,<-e1,<-e2,<-e3]
 ·refine .inr ⟨hg,qFg fun q h=>hno ?_⟩
  obtain ⟨e1,e2,e3⟩:=shp q h
  refine ⟨q.num.natAbs,q.den,e2,e3,q.den_nz,?_⟩
  rw[e1,qJV,Rat.mkRat_self];exact h
end Go.AM.Num
end
section
set_option linter.unusedSimpArgs false
set_option linter.unusedVariables false
namespace Go.AM.Num
theorem rp (a:qBs) (hl:a.length<=1000000) :
 (∃ q,a=txt q/\rd a=some q/\D q<=1000001/\qFH a=some (((decide (q.num < 0),dd q.num.natAbs,dd q.den),true,()),()))\/(rd a=none/\qFH a=some ((bad,false,()),())):=by
 rcases qJq a hl with ⟨q,rfl,h⟩ | ⟨h1,h2⟩
 ·exact .inl ⟨q,rfl,qPK q,qHf hl,h⟩
 ·exact .inr ⟨h2,h1⟩
theorem qTR {a:qBs} (ha:a.length<=1000000):qAN a=some (((rd a).isSome,()),()):=by
 unfold qAN
 rcases rp a ha with ⟨q,e,hr,_,hp⟩ | ⟨hr,hp⟩
 ·rw[hr];simp (disch:=(first | omega | (simp only[lnn];omega))) only[hp,stp];rfl
 ·rw[hr];simp (disch:=(first | omega | (simp only[lnn];omega))) only[hp,stp];rfl
theorem qWJ {a:qBs} (ha:a.length<=1000000):qPF a=some ((isI a,()),()):=by
 unfold qPF isI
 rcases rp a ha with ⟨q,e,hr,_,hp⟩ | ⟨hr,hp⟩
 ·rw[hr]
  simp (disch:=(first | omega | (simp only[lnn];omega))) only[hp,qMk,stp]
  rfl
 ·rw[hr];simp (disch:=(first | omega | (simp only[lnn];omega))) only[hp,stp]
theorem qSa {a:qBs} (ha:a.length<=1000000):qSd a=some ((qJT a,()),()):=by
 unfold qSd qJT
 rcases rp a ha with ⟨q,e,hr,_,hp⟩ | ⟨hr,hp⟩
 ·rw[hr]
  rcases Int.lt_trichotomy q.num 0 with h | h | h
  ·simp (disch:=(first | omega | (simp only[lnn];omega))) only[hp,qAG,qZ9 (show ¬ q.num.natAbs=0 by omega),qZ10 h,stp]
   rw[Int.sign_eq_neg_one_of_neg h]
  ·simp (disch:=(first | omega | (simp only[lnn];omega))) only[hp,qAG,qZ10 (show q.num.natAbs=0 by omega),stp]
   rw[h];rfl
  ·simp (disch:=(first | omega | (simp only[lnn];omega))) only[hp,qAG,qZ9 (show ¬ q.num.natAbs=0 by omega),qZ9 (show ¬ q.num < 0 by omega),stp]
   rw[Int.sign_eq_one_of_pos h]
 ·rw[hr];simp (disch:=(first | omega | (simp only[lnn];omega))) only[hp,stp]
theorem qVx (neg:Bool) (q:Rat) (h:D q<=1000001):qCB (neg&&decide (q.num.natAbs≠0),dd q.num.natAbs,dd q.den)=some ((tx neg q.num.natAbs q.den,()),()):=
 qGi neg _ _ (by have:=qGN q;omega) (by have:=qMO q;omega)
theorem qZam (q:Rat):tx (!decide (q.num < 0)) q.num.natAbs q.den=txt (-q):=by
 unfold tx txt
 rw[Rat.neg_num,Rat.neg_den,Int.natAbs_neg]
 have:((!decide (q.num < 0))=true/\q.num.natAbs≠0) ↔ -q.num < 0:=by
  constructor
  ·rintro ⟨h1,h2⟩
   have:¬ q.num < 0:=by simpa using h1
   omega
  ·intro h;exact ⟨by rw[qZ9 (by omega)];rfl,by omega⟩
 simp only[this]
theorem qBm {a:qBs} (ha:a.length<=1000000):qLab a=some ((un (fun q=>txt (-q)) a,()),()):=by
 unfold qLab
 rcases rp a ha with ⟨q,e,hr,hD,hp⟩ | ⟨hr,hp⟩
 ·rw[e] at hp ⊢
  rw[qPd]
  by_cases h:q.num < 0
  ·have ht:=qVx false q hD
   have e1:=qZam q
   rw[qZ10 h] at e1
   simp only[qY2] at e1
   rw[e1] at ht
   simp (disch:=(first | omega | (simp only[lnn];omega))) only[hp,qZ10 h,stp]
   simp only[Bool.false_and] at ht
   rw[ht];rfl
  ·have ht:=qVx true q hD
   have e1:=qZam q
   rw[qZ9 h] at e1
   simp only[qY1] at e1
   rw[e1] at ht
   have e2:(!(dd q.num.natAbs==[48]))=(true&&decide (q.num.natAbs≠0)):=by rw[qAG];simp
   rw[<-e2] at ht
   simp (disch:=(first | omega | (simp only[lnn];omega))) only[hp,qZ9 h,stp]
   rw[ht];rfl
 ·rw[qLn hr];simp (disch:=(first | omega | (simp only[lnn];omega))) only[hp,stp]
theorem qVad (neg:Bool) (m d:Nat) (hd:d≠0) (hm:(dd m).length<=10000000) (hdl:(dd d).length<=10000000) {ρ:Type} (K:qBs->Option ρ) :
 (qLI neg (dd m) (dd d)).bind (fun r5=>(qCB (r5.1.1.1,r5.1.1.2.1,r5.1.1.2.2)).bind fun r6=>K r6.1.1)=K (txt (mkRat (sg neg m) d)):=by
 obtain ⟨r,h1,h2⟩:=qIaq neg m d hd hm hdl
 rw[h1,qAA]
 show (qCB (r.1,r.2.1,r.2.2)).bind _=_
 rw[h2];rfl
theorem qOo {a b:qBs} (ha:a.length<=900000) (hb:b.length<=900000):qTz a b=some ((bin (fun p q=>txt (p+q)) a b,()),()):=by
 unfold qTz
 rcases rp a (by omega) with ⟨p,rfl,hr1,hD1,hp1⟩ | ⟨hr1,hp1⟩
 ·rcases rp b (by omega) with ⟨q,rfl,hr2,hD2,hp2⟩ | ⟨hr2,hp2⟩
  ·rw[qBL,qUv]
   have a1:=qGN p
   have a2:=qMO p
   have a3:=qGN q
   have a4:=qMO q
   have b1:=qCC p.num.natAbs q.den
   have b2:=qCC q.num.natAbs p.den
   have b3:=qCC p.den q.den
   have b4:=qLP (p.num.natAbs * q.den) (q.num.natAbs * p.den)
   have b5:=qDB (Nat.sub_le (p.num.natAbs * q.den) (q.num.natAbs * p.den))
   have b6:=qDB (Nat.sub_le (q.num.natAbs * p.den) (p.num.natAbs * q.den))
   have m1:=qPS p.num.natAbs q.den (by omega) (by omega)
   have m2:=qPS q.num.natAbs p.den (by omega) (by omega)
   have m3:=qPS p.den q.den (by omega) (by omega)
   have hd0:p.den * q.den≠0:=Nat.mul_ne_zero p.den_nz q.den_nz
   obtain ⟨x,hx⟩:∃ x,x=p.num.natAbs * q.den:=⟨_,rfl⟩
   obtain ⟨y,hy⟩:∃ y,y=q.num.natAbs * p.den:=⟨_,rfl⟩
   rw[<-hx] at b1 b4 b5 b6 m1 ⊢
   rw[<-hy] at b2 b4 b5 b6 m2 ⊢
   obtain ⟨n1,hn1⟩:∃ n,n=decide (p.num < 0):=⟨_,rfl⟩
   obtain ⟨n2,hn2⟩:∃ n,n=decide (q.num < 0):=⟨_,rfl⟩
   rw[<-hn1] at hp1 ⊢
   rw[<-hn2] at hp2 ⊢
   by_cases hs:n1=n2
   ·subst hs
    have e:sg n1 x+sg n1 y=sg n1 (x+y):=by cases n1<;>simp[sg];omega
    rw[e]
    simp (disch:=(first | omega | (simp only[lnn];omega))) only[hp1,hp2,m1,m2,m3,beq_self_eq_true,qPv x y (by omega) (by omega),stp]
    exact qVad n1 (x+y) (p.den * q.den) hd0 (by omega) (by omega) (fun t=>some ((t,()),()))
   ·have hsb:(n1==n2)=false:=by simpa using hs
    obtain ⟨c,hc,hc1,hc2⟩:=qWv x y
    by_cases hle:y<=x
    ·have hc0:c>=0:=by
      rcases Int.lt_or_le c 0 with h | h
      ·have:=hc1.1 h;omega
      ·exact h
     have e:sg n1 x+sg n2 y=sg n1 (x - y):=by cases n1<;>cases n2<;>simp_all [sg]<;>omega
     rw[e]
     simp (disch:=(first | omega | (simp only[lnn];omega))) only[hp1,hp2,m1,m2,m3,hsb,hc,qWn x y (by omega) hle,stp]
     exact qVad n1 (x - y) (p.den * q.den) hd0 (by omega) (by omega) (fun t=>some ((t,()),()))
    ·have hc0:¬ c>=0:=by have:=hc1.2 (by omega);omega
     have e:sg n1 x+sg n2 y=sg n2 (y - x):=by cases n1<;>cases n2<;>simp_all [sg]<;>omega
     rw[e]
     simp (disch:=(first | omega | (simp only[lnn];omega))) only[hp1,hp2,m1,m2,m3,hsb,hc,qWn y x (by omega) (by omega),stp]
     exact qVad n2 (y - x) (p.den * q.den) hd0 (by omega) (by omega) (fun t=>some ((t,()),()))
  ·rw[qOy hr2];simp (disch:=(first | omega | (simp only[lnn];omega))) only[hp1,hp2,stp]
 ·rcases rp b (by omega) with ⟨q,rfl,hr2,hD2,hp2⟩ | ⟨hr2,hp2⟩<;>(rw[qMal hr1];simp (disch:=(first | omega | (simp only[lnn];omega))) only[hp1,hp2,stp])
theorem qEi {a b:qBs} (ha:a.length<=900000) (hb:b.length<=900000):qKt a b=some ((bin (fun p q=>txt (p * q)) a b,()),()):=by
 unfold qKt
 rcases rp a (by omega) with ⟨p,rfl,hr1,hD1,hp1⟩ | ⟨hr1,hp1⟩
 ·rcases rp b (by omega) with ⟨q,rfl,hr2,hD2,hp2⟩ | ⟨hr2,hp2⟩
  ·rw[qBL,Rat.mul_def']
   have a1:=qGN p
   have a2:=qMO p
   have a3:=qGN q
   have a4:=qMO q
   have b1:=qCC p.num.natAbs q.num.natAbs
   have b3:=qCC p.den q.den
   have m1:=qPS p.num.natAbs q.num.natAbs (by omega) (by omega)
   have m3:=qPS p.den q.den (by omega) (by omega)
   have e:p.num * q.num=sg (decide (p.num < 0) !=decide (q.num < 0)) (p.num.natAbs * q.num.natAbs):=by rw[<-qMp,qJV,qJV]
   rw[e]
   simp (disch:=(first | omega | (simp only[lnn];omega))) only[hp1,hp2,m1,m3,stp]
   exact qVad _ (p.num.natAbs * q.num.natAbs) (p.den * q.den) (Nat.mul_ne_zero p.den_nz q.den_nz) (by omega) (by omega) (fun t=>some ((t,()),()))
  ·rw[qOy hr2];simp (disch:=(first | omega | (simp only[lnn];omega))) only[hp1,hp2,stp]
 ·rcases rp b (by omega) with ⟨q,rfl,hr2,hD2,hp2⟩ | ⟨hr2,hp2⟩<;>(rw[qMal hr1];simp (disch:=(first | omega | (simp only[lnn];omega))) only[hp1,hp2,stp])
theorem qQo {a b:qBs} (ha:a.length<=900000) (hb:b.length<=900000):qFaf a b=some ((bin qdiv a b,()),()):=by
 unfold qFaf
 rcases rp a (by omega) with ⟨p,rfl,hr1,hD1,hp1⟩ | ⟨hr1,hp1⟩
 ·rcases rp b (by omega) with ⟨q,rfl,hr2,hD2,hp2⟩ | ⟨hr2,hp2⟩
  ·rw[qBL]
   unfold qdiv
   by_cases hq:q=0
   ·have hn:q.num.natAbs=0:=by rw[hq];rfl
    rw[if_pos hq]
    simp (disch:=(first | omega | (simp only[lnn];omega))) only[hp1,hp2,qAG,qZ10 hn,stp]
   ·have hn:q.num.natAbs≠0:=fun e=>hq (Rat.num_eq_zero.1 (by omega))
    rw[if_neg hq,Rat.div_def,qVai q hq]
    have a1:=qGN p
    have a2:=qMO p
    have a3:=qGN q
    have a4:=qMO q
    have b1:=qCC p.num.natAbs q.den
    have b3:=qCC p.den q.num.natAbs
    have m1:=qPS p.num.natAbs q.den (by omega) (by omega)
    have m3:=qPS p.den q.num.natAbs (by omega) (by omega)
    have e:p * mkRat (sg (decide (q.num < 0)) q.den) q.num.natAbs=mkRat (sg (decide (p.num < 0) !=decide (q.num < 0)) (p.num.natAbs * q.den)) (p.den * q.num.natAbs):=by
     rw[<-qMp,<-Rat.mkRat_mul_mkRat,qJV,Rat.mkRat_self]
    rw[e]
    simp (disch:=(first | omega | (simp only[lnn];omega))) only[hp1,hp2,qAG,qZ9 hn,m1,m3,stp]
    exact qVad _ (p.num.natAbs * q.den) (p.den * q.num.natAbs) (Nat.mul_ne_zero p.den_nz hn) (by omega) (by omega) (fun t=>some ((t,()),()))
  ·rw[qOy hr2];simp (disch:=(first | omega | (simp only[lnn];omega))) only[hp1,hp2,stp]
 ·rcases rp b (by omega) with ⟨q,rfl,hr2,hD2,hp2⟩ | ⟨hr2,hp2⟩<;>(rw[qMal hr1];simp (disch:=(first | omega | (simp only[lnn];omega))) only[hp1,hp2,stp])
theorem qWq {a b:qBs} (ha:a.length<=200000) (hb:b.length<=200000):qJaf a b=some ((bin (fun p q=>txt (p - q)) a b,()),()):=by
 have h1:=qDt (a:=a) (b:=b) (by omega) (by omega)
 unfold qYae at h1
 rw[qXan (by omega),qAA] at h1
 dsimp only at h1
 rw[qAah (by omega) (by have:=qVs hb;omega),qAA] at h1
 unfold qJaf
 rw[qBm (by omega),qAA]
 dsimp only
 rw[qOo (by omega) (by have:=qVs hb;omega),qAA]
 exact h1
theorem qDg {a b:qBs} (ha:a.length<=200000) (hb:b.length<=200000):qVc a b=some ((qFr a b,()),()):=by
 have h1:=qBo (a:=a) (b:=b) (by omega) (by omega)
 have hl:=qEac (f:=fun p q=>p - q) (fun p q=>by rw[Rat.sub_eq_add_neg];have:=qWas p (-q);rw[qJap] at this;exact this) ha hb
 unfold qTW at h1
 rw[qDt (by omega) (by omega),qAA] at h1
 dsimp only at h1
 rw[qCo (by omega),qAA] at h1
 unfold qVc
 have v1:=qTR (a:=a) (by omega)
 have v2:=qTR (a:=b) (by omega)
 cases hr1:rd a with
 |none=>
  have e:qFr a b=0:=by unfold qFr;rw[hr1]
  rw[hr1] at v1
  rw[e];simp (disch:=(first | omega | (simp only[lnn];omega))) only[v1,Option.isSome_none,stp]
 |some p=>
  rw[hr1] at v1
  cases hr2:rd b with
  |none=>
   have e:qFr a b=0:=by unfold qFr;rw[hr1,hr2]
   rw[hr2] at v2
   rw[e];simp (disch:=(first | omega | (simp only[lnn];omega))) only[v1,v2,Option.isSome_some,Option.isSome_none,stp]
  |some q=>
   rw[hr2] at v2
   simp (disch:=(first | omega | (simp only[lnn];omega))) only[v1,v2,Option.isSome_some,qWq (a:=a) (b:=b) (by omega) (by omega),stp]
   rw[qSa (by omega),qAA]
   exact h1
theorem qPal {a:qBs} (ha:a.length<=1000000):qOam a=some ((un (fun q=>txt (qabs q)) a,()),()):=by
 have hs:=qSa ha
 have hv:=qTR ha
 unfold qOam qMaf
 cases hr:rd a with
 |none=>
  have e:qJT a=0:=by unfold qJT;rw[hr]
  rw[e] at hs
  rw[hr] at hv
  rw[qLn hr]
  simp (disch:=(first | omega | (simp only[lnn];omega))) only[hs,hv,Option.isSome_none,stp]
 |some q=>
  have e:qJT a=q.num.sign:=by unfold qJT;rw[hr]
  rw[e] at hs
  rw[hr] at hv
  have hu:un (fun q=>txt (qabs q)) a=txt (qabs q):=by rw[qBM hr,qPd]
  rw[hu]
  by_cases h:q.num < 0
  ·rw[Int.sign_eq_neg_one_of_neg h] at hs
   have hn:=qBm ha
   have hu2:un (fun q=>txt (-q)) a=txt (-q):=by rw[qBM hr,qPd]
   rw[hu2] at hn
   simp (disch:=(first | omega | (simp only[lnn];omega))) only[hs,hn,stp]
   unfold qabs;rw[if_pos h]
  ·have hsn:¬ q.num.sign < 0:=by rw[Int.sign_neg_iff];exact h
   simp (disch:=(first | omega | (simp only[lnn];omega))) only[hs,hv,Option.isSome_some,stp]
   unfold qabs;rw[if_neg h];rw[<-qBM hr]
theorem qRc (neg:Bool) (m:Nat) (hm:(dd m).length<=100000000):qCB (neg&&decide (m≠0),dd m,[49])=some ((txt ((sg neg m:Int):Rat),()),()):=by
 have:=qGi neg m 1 hm (by rw[qRN];decide)
 unfold rr at this
 rw[qRN] at this
 rw[<-qVah];exact this
theorem qHaa {a:qBs} (ha:a.length<=1000000):qVl a=some ((un (fun q=>txt ((q.floor:Int):Rat)) a,()),()):=by
 unfold qVl
 rcases rp a ha with ⟨q,rfl,hr,hD,hp⟩ | ⟨hr,hp⟩
 ·rw[qPd,Rat.floor_def]
  have a1:=qGN q
  have a2:=qMO q
  have hdv:=qGW q.num.natAbs q.den (by omega) (by omega) q.den_nz
  have b1:=qDB (Nat.div_le_self q.num.natAbs q.den)
  have b4:=qLP (q.num.natAbs / q.den) 1
  rw[qRN] at b4
  have b5:([49]:qBs).length=1:=rfl
  obtain ⟨d1,d2⟩:=qQh (decide (q.num < 0)) false q.num.natAbs q.den q.den_nz
  rw[qJV] at d1 d2
  have e0:sg false q.den=(q.den:Int):=rfl
  rw[e0,Bool.bne_false] at d1 d2
  obtain ⟨k,hk⟩:∃ k,k=q.num.natAbs / q.den:=⟨_,rfl⟩
  obtain ⟨r,hr'⟩:∃ r,r=q.num.natAbs % q.den:=⟨_,rfl⟩
  rw[<-hk] at hdv b1 b4 d1 d2
  rw[<-hr'] at hdv d1 d2
  have z1:∀ m,(!(dd m==[48]))=(true&&decide (m≠0)):=fun m=>by rw[qAG];simp
  by_cases hneg:q.num < 0
  ·rw[qZ10 hneg] at hp d1 d2
   by_cases hr0:r=0
   ·rw[(d1 (by simp[hr0])).1]
    have zr:=qAG r
    rw[qZ10 hr0] at zr
    have ht:=qRc true k (by omega)
    rw[<-z1] at ht
    simp (disch:=(first | omega | (simp only[lnn];omega))) only[hp,hdv,zr,ht,stp]
   ·rw[(d2 ⟨rfl,hr0⟩).1]
    have zr:=qAG r
    rw[qZ9 hr0] at zr
    have ht:=qRc true (k+1) (by omega)
    rw[<-z1] at ht
    have hadd:=qPv k 1 (by omega) (by rw[qRN];decide)
    rw[qRN] at hadd
    simp (disch:=(first | omega | (simp only[lnn];omega))) only[hp,hdv,zr,hadd,ht,stp]
  ·rw[qZ9 hneg] at hp d1
   rw[(d1 (by simp)).1]
   have ht:=qRc false k (by omega)
   rw[Bool.false_and] at ht
   simp (disch:=(first | omega | (simp only[lnn];omega))) only[hp,hdv,ht,stp]
 ·rw[qLn hr];simp (disch:=(first | omega | (simp only[lnn];omega))) only[hp,stp]
theorem qWw (x:Int) (n:Nat) (hn:n≠0):(mkRat x n).floor=x / (n:Int):=by
 rw[Rat.floor_def,Rat.num_mkRat,Rat.den_mkRat,if_neg hn,if_neg hn]
 have hg:n.gcd x.natAbs≠0:=fun e=>hn (Nat.gcd_eq_zero_iff.1 e).1
 obtain ⟨k,hk⟩:((n.gcd x.natAbs:Nat):Int) ∣ x:=Int.ofNat_dvd_left.2 (Nat.gcd_dvd_right _ _)
 obtain ⟨l,hl⟩:=Nat.gcd_dvd_left n x.natAbs
 obtain ⟨g,hge⟩:∃ g,g=n.gcd x.natAbs:=⟨_,rfl⟩
 rw[<-hge] at hg hk hl ⊢
 rw[hk,hl,Int.mul_ediv_cancel_left _ (by omega),Nat.mul_div_cancel_left _ (by omega),Int.natCast_mul,Int.mul_ediv_mul_of_pos _ _ (by omega)]
theorem qRab (x:Int) (n:Nat):((x:Rat) / (((n:Int):Int):Rat))=mkRat x n:=by
 rw[Rat.mkRat_eq_div];rfl
theorem qIw {a b:qBs} (ha:a.length<=100000) (hb:b.length<=100000):qKu a b=some ((sQuo a b,()),()):=by
 have h1:=qWJ (a:=a) (by omega)
 have h2:=qWJ (a:=b) (by omega)
 unfold qKu sQuo
 cases i1:isI a with
 |false=>rw[i1] at h1;rw[qEl i1];simp (disch:=(first | omega | (simp only[lnn];omega))) only[h1,stp]
 |true=>
  rw[i1] at h1
  cases i2:isI b with
  |false=>rw[i2] at h2;rw[qHl i2];simp (disch:=(first | omega | (simp only[lnn];omega))) only[h1,h2,stp]
  |true=>
   rw[i2] at h2
   obtain ⟨x,rfl,_⟩:=qPJ i1
   obtain ⟨y,rfl,_⟩:=qPJ i2
   rw[qJN]
   by_cases hy:y=0
   ·subst hy
    have hz:txt ((0:Int):Rat)=[48]:=txt_zero
    rw[if_pos rfl]
    simp (disch:=(first | omega | (simp only[lnn];omega))) only[h1,h2,qDD hz,stp]
   ·have hz:txt ((y:Int):Rat)≠[48]:=fun e=>hy (by have:=qDQ.1 e;simpa using congrArg Rat.num this)
    rw[if_neg hy]
    obtain ⟨a1,a2⟩:=qNi ha
    obtain ⟨a3,a4⟩:=qNi hb
    have hab:=qPal (a:=txt (y:Rat)) (by omega)
    rw[qPd,qHam] at hab
    have hyl:(txt ((y.natAbs:Int):Rat)).length<=100000:=by rw[qPaq];omega
    have hdv:=qQo (a:=txt (x:Rat)) (b:=txt ((y.natAbs:Int):Rat)) (by omega) (by omega)
    have hny:(((y.natAbs:Int):Int):Rat)≠0:=fun e=>hy (by have:=congrArg Rat.num e;simp at this;omega)
    rw[qBL,qdiv,if_neg hny,qRab] at hdv
    have hD:=D_mk x y.natAbs (by omega)
    have hl:=qXD (mkRat x y.natAbs)
    have hfl:=qHaa (a:=txt (mkRat x y.natAbs)) (by omega)
    rw[qPd,qWw _ _ (by omega)] at hfl
    have hsg:=qSa (a:=txt (y:Rat)) (by omega)
    have hse:qJT (txt (y:Rat))=y.sign:=by
     unfold qJT;rw[qPK];show ((y:Rat)).num.sign=_;rw[Rat.num_intCast]
    rw[hse] at hsg
    by_cases hneg:y < 0
    ·rw[Int.sign_eq_neg_one_of_neg hneg] at hsg
     have hfl2:=qPae (mkRat x y.natAbs)
     rw[qWw _ _ (by omega)] at hfl2
     have hfl3:=qXD ((x / (y.natAbs:Int):Int):Rat)
     have hng:=qBm (a:=txt ((x / (y.natAbs:Int):Int):Rat)) (by omega)
     rw[qPd] at hng
     simp (disch:=(first | omega | (simp only[lnn];omega))) only[h1,h2,qLC hz,hab,hdv,hfl,hsg,hng,stp]
     have e:x / y=-(x / (y.natAbs:Int)):=by
      rw[show (y.natAbs:Int)=-y by omega,Int.ediv_neg,Int.neg_neg]
     rw[e,Rat.intCast_neg]
    ·have hsn:¬ y.sign < 0:=by rw[Int.sign_neg_iff];exact hneg
     simp (disch:=(first | omega | (simp only[lnn];omega))) only[h1,h2,qLC hz,hab,hdv,hfl,hsg,stp]
     rw[show (y.natAbs:Int)=y by omega]
theorem qDao {k:Nat} {a b:qBs} (ha:a.length<=k) (hb:b.length<=k):(sQuo a b).length<=k+3:=by
 unfold sQuo
 cases i1:isI a with
 |false=>rw[qEl i1];simp
 |true=>
  cases i2:isI b with
  |false=>rw[qHl i2];simp
  |true=>
   obtain ⟨x,rfl,_⟩:=qPJ i1
   obtain ⟨y,rfl,_⟩:=qPJ i2
   rw[qJN]
   by_cases hy:y=0
   ·rw[if_pos hy];simp
   ·rw[if_neg hy]
    have hf:=qPae (mkRat x y.natAbs)
    obtain ⟨a1,a2⟩:=qNi ha
    have h1:(x / y).natAbs<=x.natAbs:=by
     have hdm:=qQh (decide (x < 0)) (decide (y < 0)) x.natAbs y.natAbs (by omega)
     rw[<-qDaa x,<-qDaa y] at hdm
     by_cases hc:decide (x < 0)=true/\x.natAbs % y.natAbs≠0
     ·rw[(hdm.2 hc).1,qPG]
      have h2:x.natAbs / y.natAbs < x.natAbs:=by
       have hy1:y.natAbs≠1:=fun e=>hc.2 (by rw[e,Nat.mod_one])
       have hx0:0 < x.natAbs:=by have:=of_decide_eq_true hc.1;omega
       exact Nat.div_lt_self hx0 (by omega)
      omega
     ·rw[(hdm.1 hc).1,qPG]
      exact Nat.div_le_self _ _
    have h2:=qDB h1
    have h3:=qTb (n:=x / y)
    omega
theorem qGaj {a b:qBs} (ha:a.length<=30000) (hb:b.length<=30000):qZad a b=some ((sRem a b,()),()):=by
 have hq:=qIw (a:=a) (b:=b) (by omega) (by omega)
 have hql:=qDao (k:=30000) ha hb
 unfold qZad
 cases i1:isI a with
 |false=>
  have e1:sQuo a b=[]:=qEl i1
  have e2:sRem a b=[]:=qEl i1
  rw[e1] at hq
  rw[e2]
  simp (disch:=(first | omega | (simp only[lnn];omega))) only[hq,stp];rfl
 |true=>
  cases i2:isI b with
  |false=>
   have e1:sQuo a b=[]:=qHl i2
   have e2:sRem a b=[]:=qHl i2
   rw[e1] at hq
   rw[e2]
   simp (disch:=(first | omega | (simp only[lnn];omega))) only[hq,stp];rfl
  |true=>
   obtain ⟨x,rfl,_⟩:=qPJ i1
   obtain ⟨y,rfl,_⟩:=qPJ i2
   have e1:sQuo (txt (x:Rat)) (txt (y:Rat))=if y=0 then [] else txt ((x / y:Int):Rat):=qJN _ _ _
   have e2:sRem (txt (x:Rat)) (txt (y:Rat))=if y=0 then [] else txt ((x % y:Int):Rat):=qJN _ _ _
   rw[e1] at hq hql
   rw[e2]
   by_cases hy:y=0
   ·rw[if_pos hy] at hq ⊢
    simp (disch:=(first | omega | (simp only[lnn];omega))) only[hq,stp];rfl
   ·rw[if_neg hy] at hq hql ⊢
    have hne:txt ((x / y:Int):Rat)≠[]:=fun e=>by have:=qPK ((x / y:Int):Rat);rw[e,qSx] at this;cases this
    have hm:=qEi (a:=txt (y:Rat)) (b:=txt ((x / y:Int):Rat)) (by omega) (by omega)
    rw[qBL,<-Rat.intCast_mul] at hm
    have l1:=qTb (n:=y * (x / y))
    have l2:=qCC y.natAbs (x / y).natAbs
    rw[<-Int.natAbs_mul] at l2
    obtain ⟨a1,a2⟩:=qNi hb
    obtain ⟨a3,a4⟩:=qNi hql
    have hs:=qWq (a:=txt (x:Rat)) (b:=txt ((y * (x / y):Int):Rat)) (by omega) (by omega)
    rw[qBL,<-Rat.intCast_sub] at hs
    simp (disch:=(first | omega | (simp only[lnn];omega))) only[hq,qLC hne,hm,hs,stp]
    rw[Int.emod_def]
end Go.AM.Num
end
section
set_option linter.unusedSimpArgs false
set_option linter.unusedVariables false
namespace Go.AM.Num
theorem qHad (x:Int):0<=qU x/\qU x<=18446744073709551615:=by
 show 0<=IntKind.wrap .u64 x/\IntKind.wrap .u64 x<=18446744073709551615
 simp[IntKind.wrap,IntKind.bits,IntKind.signed];omega
theorem tdm (v:Int):(v.tmod 10=if v < 0 then -((v.natAbs % 10:Nat):Int) else ((v.natAbs % 10:Nat):Int))/\(v.tdiv 10=if v < 0 then -((v.natAbs / 10:Nat):Int) else ((v.natAbs / 10:Nat):Int)):=by
 by_cases h:v < 0
 ·obtain ⟨u,hu⟩:∃ u:Nat,v=-(u:Int):=⟨v.natAbs,by omega⟩
  rw[if_pos h,if_pos h,hu,Int.neg_tmod,Int.neg_tdiv,tm (by omega),td (by omega)]
  constructor<;>omega
 ·rw[if_neg h,if_neg h,tm (by omega),td (by omega)]
  constructor<;>omega
theorem qXap (n v:Int) (s:qBs) (hv:-9223372036854775808<=v/\v<=9223372036854775807) (hs:s.length<=1000) (h:v≠0\/s=[]) :
 qRL (n,s,v,())=some (.normal,(n,UInt8.ofNat (48+v.natAbs % 10)::s,v.tdiv 10,())):=by
 obtain ⟨h1,h2⟩:=tdm v
 have e3:qI (v.tdiv 10)=v.tdiv 10:=w64 (by rw[h2];split<;>omega)
 have e1:v.tmod 10 < 0->IntKind.u8.wrap (qI ((48:Int)+qI (0 - v.tmod 10)))=((48+v.natAbs % 10:Nat):Int):=by
  intro hn
  rw[h1] at hn ⊢
  split at hn
  ·rename_i hv0
   rw[if_pos hv0,show (0:Int) - -((v.natAbs % 10:Nat):Int)=((v.natAbs % 10:Nat):Int) by omega,w64 (x:=((v.natAbs % 10:Nat):Int)) (by omega),w64 (by omega),wu8 (by omega)];omega
  ·omega
 have e2:¬ v.tmod 10 < 0->IntKind.u8.wrap (qI ((48:Int)+v.tmod 10))=((48+v.natAbs % 10:Nat):Int):=by
  intro hn
  rw[h1] at hn ⊢
  split at hn
  ·rename_i hv0
   rw[if_pos hv0,w64 (by omega),wu8 (by omega)];omega
  ·rename_i hv0
   rw[if_neg hv0,w64 (by omega),wu8 (by omega)];omega
 have e4:([((48+v.natAbs % 10:Nat):Int)]:List Int).map (fun n=>UInt8.ofNat n.toNat)=[UInt8.ofNat (48+v.natAbs % 10)]:=rfl
 have e5:([UInt8.ofNat (48+v.natAbs % 10)]:qBs).length+s.length<=qEP:=by rw[qEM];simp;omega
 simp only[qRL]
 by_cases h0:v=0
 ·rcases h with h | h
  ·exact absurd h0 h
  ·rw[qMD h0,qDD h,qOA,qDX (by decide)]
   by_cases hn:v.tmod 10 < 0
   ·rw[qIA hn,e1 hn,e4,qBA e5,qDX (by decide),e3];rfl
   ·rw[qNA hn,e2 hn,e4,qBA e5,qDX (by decide),e3];rfl
 ·rw[qFE h0,qDX (by decide)]
  by_cases hn:v.tmod 10 < 0
  ·rw[qIA hn,e1 hn,e4,qBA e5,qDX (by decide),e3];rfl
  ·rw[qNA hn,e2 hn,e4,qBA e5,qDX (by decide),e3];rfl
theorem qUas (v:Nat) (s:qBs) (h:v / 10≠0):dd (v / 10)++UInt8.ofNat (48+v % 10)::s=dd v++s:=by
 rw[qSg (n:=v) (by omega)];simp
theorem qBJ {n:Int} (h:qTt n):qNG n=some ((txt (n:Rat),()),()):=by
 have hn:-9223372036854775808<=n/\n<=9223372036854775807:=h
 have hl:(dd n.natAbs).length<=20:=qDI (by have h9:n.natAbs<=9223372036854775808:=(by omega);omega) (by decide)
 obtain ⟨r,hr,v,rfl⟩:=qTB (step:=qRL) (Q:=fun r=>∃ v,r=(Ex.exit 0,(n,dd n.natAbs,v,())))
  (fun k x=>∃ v s,x=(n,s,v,())/\(-9223372036854775808<=v/\v<=9223372036854775807)/\((s=[]/\v=n/\k=n.natAbs+1)\/(s≠[]/\k=v.natAbs/\(if v=0 then s else dd v.natAbs++s)=dd n.natAbs))) (by
   rintro k x ⟨v,s,rfl,hv,hI⟩
   obtain ⟨h1,h2⟩:=tdm v
   by_cases hgo:v≠0\/s=[]
   ·have hs:s.length<=1000:=by
     rcases hI with ⟨rfl,_⟩ | ⟨_,_,hc⟩
     ·simp
     ·have:=congrArg List.length hc
      split at this<;>(try rw[qZ6] at this)<;>omega
    refine .inr ⟨v.natAbs / 10,_,qXap n v s hv hs hgo,?_,v.tdiv 10,_,rfl,?_,.inr ⟨by simp,?_,?_⟩⟩
    ·rcases hI with ⟨_,e,rfl⟩ | ⟨hne,rfl,_⟩
     ·rw[e];omega
     ·rcases hgo with hgo | hgo
      ·omega
      ·exact absurd hgo hne
    ·rw[h2];split<;>omega
    ·rw[h2];split<;>omega
    ·have hz:(v.tdiv 10=0) ↔ v.natAbs / 10=0:=by rw[h2];split<;>omega
     have ha:(v.tdiv 10).natAbs=v.natAbs / 10:=by rw[h2];split<;>omega
     have key:(if v.tdiv 10=0 then UInt8.ofNat (48+v.natAbs % 10)::s else dd (v.tdiv 10).natAbs++UInt8.ofNat (48+v.natAbs % 10)::s)=dd v.natAbs++s:=by
      by_cases hq:v.natAbs / 10=0
      ·rw[if_pos (hz.2 hq),qFP (n:=v.natAbs) (by omega),show v.natAbs % 10=v.natAbs by omega];rfl
      ·rw[if_neg (fun e=>hq (hz.1 e)),ha,qUas _ _ hq]
     rw[key]
     rcases hI with ⟨rfl,rfl,_⟩ | ⟨hne,_,hc⟩
     ·simp
     ·rcases hgo with hgo | hgo
      ·rw[if_neg hgo] at hc;exact hc
      ·exact absurd hgo hne
   ·have hv0:v=0:=Classical.byContradiction fun e=>hgo (.inl e)
    have hs0:s≠[]:=fun e=>hgo (.inr e)
    rcases hI with ⟨e,_⟩ | ⟨_,_,hc⟩
    ·exact absurd e hs0
    ·rw[if_pos hv0] at hc
     subst hv0
     refine .inl ⟨_,?_,?_,0,rfl⟩
     ·simp only[qRL]
      rw[qMD rfl,qLC hs0,qWA,hc]
     ·simp) _ (n,[],n,()) ⟨n,[],rfl,hn,.inl ⟨rfl,rfl,rfl⟩⟩
 unfold qNG
 rw[hr,qAA]
 simp only
 rw[qJB,qOA,qMg]
 by_cases h0:n < 0
 ·rw[qIA h0,if_pos h0,qBA (by rw[qEM];simp;omega)]
 ·rw[qNA h0,if_neg h0];rfl
theorem qDn (v:Int) {n:Int} (h:0 < n/\n<=9223372036854775807):∃ r,qTu v n=some ((r,()),())/\0<=r/\r < n:=by
 have hu:=qHad v
 unfold qTu
 rw[wu64 (x:=n) (by omega),qDX (by omega),tm hu.1]
 have h1:=Int.emod_nonneg (qU v) (show n≠0 by omega)
 have h2:=Int.emod_lt_of_pos (qU v) h.1
 exact ⟨_,by rw[w64 (by omega)],h1,h2⟩
def CI (c:List Int×Int):Prop:=0<=c.2/\c.2<=c.1.length/\c.1.length<=400
theorem qWm (l:List Int):∃ c,qFaa l=some ((c,()),())/\CI c:=by
 unfold qFaa
 have h:minA (l.length:Int) 400=((min l.length 400:Nat):Int):=by rw[qUak];split<;>omega
 rw[h,qEA,qBA (by omega),qBA (by omega)]
 exact ⟨_,rfl,by refine ⟨by simp,by simp,?_⟩;simp;omega⟩
theorem qAC {c:List Int×Int} (hc:CI c) {n:Int} (h:0 < n/\n<=9223372036854775807):∃ r c',qGA c n=some ((r,()),(c',()))/\CI c'/\0<=r/\r < n:=by
 obtain ⟨h1,h2,h3⟩:=hc
 unfold qGA
 by_cases hd:c.2>=(c.1.length:Int)
 ·rw[qIA hd];exact ⟨_,_,rfl,⟨h1,h2,h3⟩,by omega,by omega⟩
 ·have hw:qI (c.2+1)=c.2+1:=w64 (by omega)
  have hw2:qI (c.2+1 - 1)=c.2:=by rw[w64 (by omega)];omega
  rw[qNA hd,hw,hw2,qEA,qBA h1,qBA (by omega)]
  obtain ⟨r,hr,r1,r2⟩:=qDn (c.1.getD c.2.toNat 0) h
  rw[hr,qAA]
  exact ⟨r,(c.1,c.2+1),rfl,⟨by simp only;omega,by simp only;omega,h3⟩,r1,r2⟩
theorem qLX {n:Int} (h:n.natAbs < 100000000000000000000):D (n:Rat)<=21:=by
 rw[qXaq];have:=qDI (n:=n.natAbs) (k:=20) (by omega) (by decide);omega
theorem qVd {c:List Int×Int} (hc:CI c):∃ (z:Int) (c':List Int×Int),qJC c=some ((txt (z:Rat),()),(c',()))/\CI c'/\D (z:Rat)<=50:=by
 unfold qJC
 obtain ⟨r1,c1,e1,hc1,a1,b1⟩:=qAC hc (n:=8) (by omega)
 have e1':qGA (c.1,c.2) 8=some ((r1,()),(c1,())):=e1
 rw[e1',qAA]
 simp only
 by_cases h6:r1=6
 ·rw[qFA h6]
  obtain ⟨r2,c2,e2,hc2,a2,b2⟩:=qAC hc1 (n:=2001) (by omega)
  have e2':qGA (c1.1,c1.2) 2001=some ((r2,()),(c2,())):=e2
  rw[e2',qAA]
  simp only
  rw[w64 (by omega),qBJ (show qTt _ from ⟨by omega,by omega⟩),qAA]
  exact ⟨_,_,rfl,hc2,Nat.le_trans (qLX (by omega)) (by omega)⟩
 ·rw[qDA h6]
  by_cases h7:r1=7
  ·rw[qFA h7]
   obtain ⟨r2,c2,e2,hc2,a2,b2⟩:=qAC hc1 (n:=1099511627776) (by omega)
   have e2':qGA (c1.1,c1.2) 1099511627776=some ((r2,()),(c2,())):=e2
   rw[e2',qAA]
   simp only
   rw[w64 (by omega),qBJ (show qTt _ from ⟨by omega,by omega⟩),qAA]
   obtain ⟨r3,c3,e3,hc3,a3,b3⟩:=qAC hc2 (n:=1099511627776) (by omega)
   have e3':qGA (c2.1,c2.2) 1099511627776=some ((r3,()),(c3,())):=e3
   rw[e3',qAA]
   simp only
   rw[qBJ (show qTt _ from ⟨by omega,by omega⟩),qAA]
   simp only
   have d1:=qLX (n:=r2 - 549755813888) (by omega)
   have d2:=qLX (n:=r3) (by omega)
   have l1:=qXD ((r2 - 549755813888:Int):Rat)
   have l2:=qXD ((r3:Int):Rat)
   rw[qEi (by omega) (by omega),qBL,qAA]
   have d3:=qLas ((r2 - 549755813888:Int):Rat) ((r3:Int):Rat)
   rw[<-Rat.intCast_mul] at d3 ⊢
   exact ⟨_,_,rfl,hc3,by omega⟩
  ·rw[qDA h7]
   obtain ⟨r2,c2,e2,hc2,a2,b2⟩:=qAC hc1 (n:=9) (by omega)
   have e2':qGA (c1.1,c1.2) 9=some ((r2,()),(c2,())):=e2
   rw[e2',qAA]
   simp only
   rw[w64 (by omega),qBJ (show qTt _ from ⟨by omega,by omega⟩),qAA]
   exact ⟨_,_,rfl,hc2,Nat.le_trans (qLX (by omega)) (by omega)⟩
theorem qDaw (p q:Rat):D (p / q)<=D p+D q:=by
 rw[Rat.div_def];have:=qLas p q⁻¹;have:=qEaw q;omega
theorem qTi {c:List Int×Int} (hc:CI c):∃ (q:Rat) (c':List Int×Int),qTK c=some ((txt q,()),(c',()))/\CI c'/\D q<=71:=by
 unfold qTK
 obtain ⟨z,c1,e1,hc1,d1⟩:=qVd hc
 have e1':qJC (c.1,c.2)=some ((txt (z:Rat),()),(c1,())):=e1
 rw[e1',qAA]
 simp only
 obtain ⟨r2,c2,e2,hc2,a2,b2⟩:=qAC hc1 (n:=4) (by omega)
 have e2':qGA (c1.1,c1.2) 4=some ((r2,()),(c2,())):=e2
 rw[e2',qAA]
 simp only
 rw[w64 (by omega),qBJ (show qTt _ from ⟨by omega,by omega⟩),qAA]
 simp only
 have d2:=qLX (n:=1+r2) (by omega)
 have l1:=qXD (z:Rat)
 have l2:=qXD ((1+r2:Int):Rat)
 rw[qQo (by omega) (by omega),qBL,qAA]
 have hne:((1+r2:Int):Rat)≠0:=fun e=>by have:=congrArg Rat.num e;rw[Rat.num_intCast] at this;simp at this;omega
 rw[qdiv,if_neg hne]
 exact ⟨_,_,rfl,hc2,Nat.le_trans (qDaw _ _) (by omega)⟩
end Go.AM.Num
end
section
set_option linter.unusedSimpArgs false
set_option linter.unusedVariables false
namespace Go.AM.Num
theorem qFaw {p q:Rat} (hp:D p<=1000000) (hq:D q<=1000000):qAab (txt p) (txt q)=some ((txt (p+q),()),()):=by
 have:=qXD p;have:=qXD q;rw[qAah (by omega) (by omega),qBL]
theorem qMav {p q:Rat} (hp:D p<=1000000) (hq:D q<=1000000):qQai (txt p) (txt q)=some ((txt (p * q),()),()):=by
 have:=qXD p;have:=qXD q;rw[qSat (by omega) (by omega),qBL]
theorem qAau {p q:Rat} (hp:D p<=1000000) (hq:D q<=1000000):qTW (txt p) (txt q)=some (((p - q).num.sign,()),()):=by
 have:=qXD p;have:=qXD q;rw[qBo (by omega) (by omega),qFr,qPK,qPK]
theorem qVav {x y:Int} (hz:y≠0) (hp:D (x:Rat)<=900000) (hq:D (y:Rat)<=900000):qFai (txt (x:Rat)) (txt (y:Rat))=some ((txt ((x / y:Int):Rat),()),()):=by
 have:=qXD (x:Rat);have:=qXD (y:Rat);rw[qTas (by omega) (by omega),sQuo,qJN,if_neg hz]
theorem qMaw {x y:Int} (hz:y≠0) (hp:D (x:Rat)<=900000) (hq:D (y:Rat)<=900000):qTah (txt (x:Rat)) (txt (y:Rat))=some ((txt ((x % y:Int):Rat),()),()):=by
 have:=qXD (x:Rat);have:=qXD (y:Rat);rw[qCas (by omega) (by omega),sRem,qJN,if_neg hz]
theorem t0:([48]:qBs)=txt ((0:Int):Rat):=txt_zero.symm
theorem t1:([49]:qBs)=txt ((1:Int):Rat):=by rw[qMg];simp[qRN]
end Go.AM.Num
end
section
namespace Go.AM.Num
theorem qNai {α:Type} {step:α->Option (Ex×α)} (St:Nat->α) (n:Nat) {E:Ex} (hE:E≠.normal) (stop:Nat->Option (Ex×α)) (hs:∀ k r,stop k=some r->r.1≠.normal)
 (h:∀ k,k < n->step (St k)=some ((stop k).getD (.normal,St (k+1)))) (he:step (St n)=some (E,St n)):∀ j k,k+j=n->qPA step (St k)=some (((List.range' k j).findSome? stop).getD (E,St n)):=by
 intro j
 induction j with
 |zero=>
  intro k hk;obtain rfl:k=n:=by omega
  exact qTA he hE
 |succ j ih=>
  intro k hk
  have h1:=h k (by omega)
  rw[List.range'_succ,List.findSome?_cons]
  cases hst:stop k with
  |none=>
   rw[hst] at h1
   rw[qAB h1,ih (k+1) (by omega)]
  |some r=>
   rw[hst] at h1
   exact qTA h1 (hs k r hst)
theorem qKI {α:Type} {step:α->Option (Ex×α)} (St bad:Nat->α) (n:Nat) {E B:Ex} (hE:E≠.normal) (hB:B≠.normal) (ok:Nat->Bool)
 (h:∀ k,k < n->step (St k)=some (if ok k then (.normal,St (k+1)) else (B,bad k))) (he:step (St n)=some (E,St n)) :
 ((List.range n).all ok=true/\qPA step (St 0)=some (E,St n))\/((List.range n).all ok=false/\∃ k,qPA step (St 0)=some (B,bad k)):=by
 have:=qNai St n hE (fun k=>if ok k then none else some (B,bad k)) (fun k r hr=>by
  split at hr
  ·cases hr
  ·cases hr;exact hB) (fun k hk=>by rw[h k hk];split<;>rfl) he n 0 (by omega)
 rw[<-List.range_eq_range'] at this
 cases hf:(List.range n).findSome? (fun k=>if ok k then none else some (B,bad k)) with
 |none=>
  rw[hf] at this
  refine .inl ⟨?_,this⟩
  rw[List.findSome?_eq_none_iff] at hf
  rw[qY3]
  intro k hk
  have:=hf k hk
  split at this
  ·assumption
  ·cases this
 |some r=>
  rw[hf] at this
  obtain ⟨k,hk,hr⟩:=List.exists_of_findSome?_eq_some hf
  split at hr
  ·cases hr
  ·rename_i hn
   cases hr
   refine .inr ⟨?_,k,this⟩
   rw[List.all_eq_false]
   exact ⟨k,hk,hn⟩
structure Short (N:Nat) (v:Val):Prop where
 num:v.2.2.1.length<=N
 keys:∀ s∈v.2.2.2.1,s.length<=N
 vals:∀ s∈v.2.2.2.2,s.length<=N
 few:v.2.2.2.1.length<=1000000000/\v.2.2.2.2.length<=1000000000
theorem qGR {l:List qBs} {k N:Nat} (h:∀ s∈l,s.length<=N):(l.getD k []).length<=N:=by
 rw[qZ4]
 cases hk:l[k]? with
 |none=>simp
 |some s=>exact h s (qY14 hk)
noncomputable def okAt (num:qBs) (ks vs:List qBs) (i:Nat):Bool:=isI (ks.getD i [])&&isI (vs.getD i [])&&!(vs.getD i []==num)&&(decide (i=0)||decide (qFr (ks.getD (i - 1) []) (ks.getD i []) < 0))
noncomputable def qTd (num:qBs) (ks vs:List qBs):Bool:=(List.range ks.length).all (okAt num ks vs)
def qOQ (v:Val):Bool:=decide (v.2.2.2.1.length=0)&&decide (v.2.2.2.2.length=0)
noncomputable def qMF (v:Val):Bool:=
 if v.1=1 then v.2.2.1==[]&&qOQ v
 else if v.1=2 then !v.2.1&&isI v.2.2.1&&qOQ v
 else if v.1=3 then !v.2.1&&(rd v.2.2.1).isSome&&qOQ v
 else if v.1=4 then !v.2.1&&isI v.2.2.1&&decide (v.2.2.2.1.length=v.2.2.2.2.length)&&qTd v.2.2.1 v.2.2.2.1 v.2.2.2.2
 else false
theorem qPs (v:Val):qBW v=some ((qOQ v,()),()):=by
 unfold qBW qOQ
 by_cases h:v.2.2.2.1.length=0
 ·rw[qFA (by omega),qZ10 h,Bool.true_and]
  congr 3
  by_cases h2:v.2.2.2.2.length=0<;>simp[h2]
 ·rw[qDA (by omega),qZ9 h,Bool.false_and]
theorem qEm {N:Nat} (hN:N<=100000) {v:Val} (hv:Short N v):qCW v=some ((decide (v.2.2.2.1.length=v.2.2.2.2.length)&&qTd v.2.2.1 v.2.2.2.1 v.2.2.2.2,()),()):=by
 obtain ⟨s,b,num,ks,vs⟩:=v
 have hk:=hv.keys;have hw:=hv.vals;have hf:=hv.few
 simp only at hk hw hf ⊢
 unfold qCW
 simp only
 by_cases hl:ks.length=vs.length
 ·rw[qMD (by omega),qZ10 hl,Bool.true_and]
  have hik:∀ k,qJI (ks.getD k [])=some ((isI (ks.getD k []),()),()):=fun k=>qET (by have:=qGR (k:=k) hk;omega)
  have hiv:∀ k,qJI (vs.getD k [])=some ((isI (vs.getD k []),()),()):=fun k=>qET (by have:=qGR (k:=k) hw;omega)
  have hc:∀ k j,qTW (ks.getD k []) (ks.getD j [])=some ((qFr (ks.getD k []) (ks.getD j []),()),()):=fun k j=>qBo (by have:=qGR (k:=k) hk;omega) (by have:=qGR (k:=j) hk;omega)
  have:=qKI (step:=qLM) (fun k=>((s,b,num,ks,vs),false,ks,(ks.length:Int),(k:Int),())) (fun k=>((s,b,num,ks,vs),false,ks,(ks.length:Int),(k:Int),())) ks.length (E:=.exit 0) (B:=.ret) (by simp) (by simp) (okAt num ks vs) (fun k hk'=>by
   unfold qLM
   simp only
   rw[qIA (by omega),qEA,qBA (by omega),qBA (by omega),qZ0,hik,qAA,qEA,qBA (by omega),qBA (by omega),hiv,qAA,qEA,qBA (by omega),qBA (by omega)]
   unfold okAt
   cases isI (ks.getD k []) with
   |false=>rfl
   |true=>
    cases isI (vs.getD k []) with
    |false=>rfl
    |true=>
     cases (vs.getD k []==num) with
     |true=>rfl
     |false=>
      simp only[qY2,qY1,qWA,Bool.true_and]
      rw[w64 (x:=(k:Int)+1) (by omega)]
      by_cases h0:k=0
      ·subst h0
       rw[qNA (by omega)]
       rfl
      ·rw[qIA (by omega),w64 (by omega),qEA,qBA (by omega),qBA (by omega)]
       have e:((k:Int) - 1).toNat=k - 1:=by omega
       rw[e,hc,qAA,qZ9 h0,Bool.false_or]
       by_cases hs:qFr (ks.getD (k - 1) []) (ks.getD k []) < 0
       ·rw[qNA (by simp only;omega),if_pos (qZ10 hs)]
        rfl
       ·rw[qIA (by simp only;omega),if_neg (by rw[qZ9 hs];exact Bool.false_ne_true)]) (by
   unfold qLM
   simp only
   rw[qNA (by omega)])
  rcases this with ⟨h1,h2⟩ | ⟨h1,k,h2⟩
  ·rw[show ((0:Nat):Int)=0 from rfl] at h2
   rw[h2]
   simp only[qAA,qJB,qOA,qTd,h1]
  ·rw[show ((0:Nat):Int)=0 from rfl] at h2
   rw[h2]
   simp only[qAA,qLD,qID,qOA,qWA,qTd,h1]
 ·rw[qFE (by omega),qZ9 hl,Bool.false_and]
theorem qDz {N:Nat} (hN:N<=100000) {v:Val} (hv:Short N v):qUU v=some ((qMF v,()),()):=by
 have h1:qJI v.2.2.1=some ((isI v.2.2.1,()),()):=qET (by have:=hv.num;omega)
 have h2:qNR v.2.2.1=some (((rd v.2.2.1).isSome,()),()):=qTn (by have:=hv.num;omega)
 unfold qUU qMF
 rw[qPs,qEm hN hv,h1,h2]
 simp only[qAA]
 by_cases e1:v.1=1
 ·rw[qFA e1,if_pos e1];cases (v.2.2.1==([]:qBs))<;>rfl
 ·rw[qDA e1,if_neg e1]
  by_cases e2:v.1=2
  ·rw[qFA e2,if_pos e2];cases v.2.1<;>cases isI v.2.2.1<;>rfl
  ·rw[qDA e2,if_neg e2]
   by_cases e3:v.1=3
   ·rw[qFA e3,if_pos e3];cases v.2.1<;>cases (rd v.2.2.1).isSome<;>rfl
   ·rw[qDA e3,if_neg e3]
    by_cases e4:v.1=4
    ·rw[qFA e4,if_pos e4];cases v.2.1<;>cases isI v.2.2.1<;>simp[qOA,qWA]
    ·rw[qDA e4,if_neg e4]
theorem qJaa {N:Nat} (hN:N<=100000) {v:Val} (hv:Short N v) (hl:v.2.2.2.1.length=v.2.2.2.2.length) :
 (qTd v.2.2.1 v.2.2.2.1 v.2.2.2.2=true/\qPA qTC (v,false,0,())=some (.exit 1,v,false,(v.2.2.2.1.length:Int),()))\/(qTd v.2.2.1 v.2.2.2.1 v.2.2.2.2=false/\∃ k:Nat,qPA qTC (v,false,0,())=some (.ret,v,false,(k:Int),())):=by
 obtain ⟨s,b,num,ks,vs⟩:=v
 have hk:=hv.keys;have hw:=hv.vals;have hf:=hv.few
 simp only at hk hw hf hl ⊢
 have hik:∀ k,qPF (ks.getD k [])=some ((isI (ks.getD k []),()),()):=fun k=>qWJ (by have:=qGR (k:=k) hk;omega)
 have hiv:∀ k,qPF (vs.getD k [])=some ((isI (vs.getD k []),()),()):=fun k=>qWJ (by have:=qGR (k:=k) hw;omega)
 have hc:∀ k j,qVc (ks.getD k []) (ks.getD j [])=some ((qFr (ks.getD k []) (ks.getD j []),()),()):=fun k j=>qDg (by have:=qGR (k:=k) hk;omega) (by have:=qGR (k:=j) hk;omega)
 exact qKI (step:=qTC) (fun k=>((s,b,num,ks,vs),false,(k:Int),())) (fun k=>((s,b,num,ks,vs),false,(k:Int),())) ks.length (E:=.exit 1) (B:=.ret) (by simp) (by simp) (okAt num ks vs) (fun k hk'=>by
  unfold qTC
  simp only
  rw[qIA (by omega),qEA,qBA (by omega),qBA (by omega),qZ0,hik,qAA,qEA,qBA (by omega),qBA (by omega),hiv,qAA,qEA,qBA (by omega),qBA (by omega)]
  unfold okAt
  cases isI (ks.getD k []) with
  |false=>rfl
  |true=>
   cases isI (vs.getD k []) with
   |false=>rfl
   |true=>
    cases (vs.getD k []==num) with
    |true=>rfl
    |false=>
     simp only[qY2,qY1,qWA,Bool.true_and]
     rw[w64 (x:=(k:Int)+1) (by omega)]
     by_cases h0:k=0
     ·subst h0
      rw[qNA (by omega)]
      rfl
     ·rw[qIA (by omega),w64 (by omega),qEA,qBA (by omega),qBA (by omega),qEA,qBA (by omega),qBA (by omega)]
      have e:((k:Int) - 1).toNat=k - 1:=by omega
      rw[e,hc,qAA,qZ9 h0,Bool.false_or]
      by_cases hs:qFr (ks.getD (k - 1) []) (ks.getD k []) < 0
      ·rw[qNA (by simp only;omega),if_pos (qZ10 hs)]
       rfl
      ·rw[qIA (by simp only;omega),if_neg (by rw[qZ9 hs];exact Bool.false_ne_true)]) (by
  unfold qTC
  simp only
  rw[qNA (by omega)])
end Go.AM.Num
end
section
namespace Go.AM.Num
theorem qAz:qQs=some ((true,()),()):=by kernel_rfl
end Go.AM.Num
end
section
namespace Go.AM.Num
def ti (z:Int):qBs:=txt (z:Rat)
theorem qVk {a b:Int} (h:ti a=ti b):a=b:=by
 have:=txt_inj h
 exact_mod_cast this
abbrev KV:=List (Int×Int)
def lo (i:Int) (P:KV):KV:=P.filter fun p=>decide (p.1 < i)
def hi (i:Int) (P:KV):KV:=P.filter fun p=>decide (i < p.1)
def Incr (P:KV):Prop:=P.Pairwise fun a b=>a.1 < b.1
structure Canon (d:Int) (P:KV):Prop where
 incr:Incr P
 vals:∀ p∈P,p.2≠d
def atP (d:Int) (P:KV) (i:Int):Int:=((P.find? fun p=>decide (p.1=i)).map (·.2)).getD d
def stP (d:Int) (P:KV) (i n:Int):KV:=lo i P++(if n=d then [] else [(i,n)])++hi i P
theorem qXj {i:Int} {P:KV} {p:Int×Int}:p∈lo i P ↔ p∈P/\p.1 < i:=by simp[lo]
theorem qQp {i:Int} {P:KV} {p:Int×Int}:p∈hi i P ↔ p∈P/\i < p.1:=by simp[hi]
theorem qUan (i:Int):∀ {P:KV},Incr P->∃ m,P=lo i P++m++hi i P/\(m=[]\/∃ w,m=[(i,w)]):=by
 intro P
 induction P with
 |nil=>intro _;exact ⟨[],rfl,.inl rfl⟩
 |cons p P ih=>
  intro h
  obtain ⟨hp,hP⟩:=List.pairwise_cons.1 h
  obtain ⟨m,e,hm⟩:=ih hP
  by_cases h1:p.1 < i
  ·refine ⟨m,?_,hm⟩
   have a1:lo i (p::P)=p::lo i P:=by simp[lo,h1]
   have a2:hi i (p::P)=hi i P:=by simp[hi,show ¬ i < p.1 by omega]
   rw[a1,a2,qY5,qY5,<-e]
  ·have e1:lo i P=[]:=List.filter_eq_nil_iff.2 fun q hq=>by have:=hp q hq;simp;omega
   have e2:hi i P=P:=List.filter_eq_self.2 fun q hq=>by have:=hp q hq;simp;omega
   have a1:lo i (p::P)=[]:=by simp[lo,h1];intro a b hab;have:=hp _ hab;simp at this;omega
   by_cases h2:p.1=i
   ·refine ⟨[p],?_,.inr ⟨p.2,by rw[<-h2]⟩⟩
    have a2:hi i (p::P)=P:=by rw[<-e2];simp[hi,show ¬ i < p.1 by omega]
    rw[a1,a2];rfl
   ·refine ⟨[],?_,.inl rfl⟩
    have a2:hi i (p::P)=p::P:=by
     have:hi i (p::P)=p::hi i P:=by simp[hi,show i < p.1 by omega]
     rw[this,e2]
    rw[a1,a2];rfl
theorem qSaf {d i:Int} {P:KV} (h:∀ p∈P,p.1≠i):atP d P i=d:=by
 unfold atP
 rw[List.find?_eq_none.2 (fun p hp=>by simp[h p hp])]
 rfl
theorem qGag {d i:Int} {P Q:KV} (h:∀ p∈P,p.1≠i):atP d (P++Q) i=atP d Q i:=by
 unfold atP
 rw[List.find?_append,List.find?_eq_none.2 (fun p hp=>by simp[h p hp])]
 rfl
theorem qFad {d i w:Int} {Q:KV}:atP d ((i,w)::Q) i=w:=by simp[atP]
theorem qEah {d i:Int} {L m H:KV} (hL:∀ p∈L,p.1 < i) (hH:∀ p∈H,i < p.1) (hm:m=[]\/∃ w,m=[(i,w)]):atP d (L++m++H) i=(m.head?.map (·.2)).getD d:=by
 rw[qZ1,qGag (fun p hp=>by have:=hL p hp;omega)]
 rcases hm with rfl | ⟨w,rfl⟩
 ·exact qSaf fun p hp=>by have:=hH p hp;omega
 ·exact qFad
theorem qBg {d:Int} {P:KV} (h:Canon d P) (i n:Int):Canon d (stP d P i n):=by
 refine ⟨?_,?_⟩
 ·unfold Incr stP
  rw[List.pairwise_append,List.pairwise_append]
  refine ⟨⟨List.Pairwise.filter _ h.incr,by split<;>simp,fun a ha b hb=>?_⟩,List.Pairwise.filter _ h.incr,fun a ha b hb=>?_⟩
  ·have:=(qXj.1 ha).2
   split at hb
   ·simp at hb
   ·simp at hb;subst hb;exact this
  ·have hb':=(qQp.1 hb).2
   rcases List.mem_append.1 ha with ha | ha
   ·have:=(qXj.1 ha).2;omega
   ·split at ha
    ·simp at ha
    ·simp at ha;subst ha;exact hb'
 ·intro p hp
  unfold stP at hp
  rcases List.mem_append.1 hp with hp | hp
  ·rcases List.mem_append.1 hp with hp | hp
   ·exact h.vals p (qXj.1 hp).1
   ·split at hp
    ·simp at hp
    ·simp at hp;subst hp;assumption
  ·exact h.vals p (qQp.1 hp).1
end Go.AM.Num
end
section
namespace Go.AM.Num
def ks (P:KV):List qBs:=P.map fun p=>ti p.1
def vs (P:KV):List qBs:=P.map fun p=>ti p.2
abbrev qJH (d:Int) (P:KV):Val:=(4,false,ti d,ks P,vs P)
theorem qEE (P:KV):(ks P).length=P.length:=by simp[ks]
theorem qRI (P:KV):(vs P).length=P.length:=by simp[vs]
theorem qTT {P:KV} {k:Nat} (h:k < P.length):(ks P).getD k []=ti P[k].1:=by simp[ks,qZ4,h]
theorem qXY {P:KV} {k:Nat} (h:k < P.length):(vs P).getD k []=ti P[k].2:=by simp[vs,qZ4,h]
theorem qMm (a b:Int):qFr (ti a) (ti b)=(a - b).sign:=by
 unfold qFr ti
 rw[qPK,qPK]
 simp only
 rw[<-Rat.intCast_sub,Rat.num_intCast]
theorem qSu {x:Int}:x.sign < 0 ↔ x < 0:=by
 rcases Int.lt_trichotomy x 0 with h | h | h
 ·rw[Int.sign_eq_neg_one_of_neg h];omega
 ·subst h;simp
 ·rw[Int.sign_eq_one_of_pos h];omega
theorem qSau {x:Int}:(x.sign==0)=decide (x=0):=by
 rcases Int.lt_trichotomy x 0 with h | h | h
 ·rw[Int.sign_eq_neg_one_of_neg h,qZ9 (by omega)];rfl
 ·subst h;rfl
 ·rw[Int.sign_eq_one_of_pos h,qZ9 (by omega)];rfl
theorem qDZ (a:Int):isI (ti a)=true:=qKaf a
theorem qLag {s:qBs} (h:isI s=true):∃ z,s=ti z:=by
 obtain ⟨z,h1,_⟩:=qPJ h
 exact ⟨z,h1⟩
theorem qIan:∀ {l:List qBs},(∀ s∈l,isI s=true)->∃ zs:List Int,l=zs.map ti:=by
 intro l
 induction l with
 |nil=>intro _;exact ⟨[],rfl⟩
 |cons s l ih=>
  intro h
  obtain ⟨z,hz⟩:=qLag (h s (by simp))
  obtain ⟨zs,hzs⟩:=ih fun x hx=>h x (qY13 _ hx)
  exact ⟨z::zs,by rw[hz,hzs];rfl⟩
theorem qDaq {P:KV} (h:∀ i (hi:i < P.length),i=0\/(P[i - 1]'(by omega)).1 < P[i].1):Incr P:=by
 unfold Incr
 rw[List.pairwise_iff_getElem]
 intro i j hi hj hij
 induction j with
 |zero=>omega
 |succ j ih=>
  have h1:P[j].1 < P[j+1].1:=by
   rcases h (j+1) hj with h | h
   ·omega
   ·exact h
  by_cases e:i=j
  ·subst e;exact h1
  ·have:=ih (by omega) (by omega);omega
theorem qNad {v:Val} (h:qMF v=true) (h4:v.1=4):∃ d P,v=qJH d P/\Canon d P:=by
 obtain ⟨s,b,num,k,w⟩:=v
 simp only at h4
 subst h4
 unfold qMF at h
 simp only[show ¬ (4:Int)=1 by omega,show ¬ (4:Int)=2 by omega,show ¬ (4:Int)=3 by omega,if_false,if_true,qY0,Bool.not_eq_true',decide_eq_true_eq,qTd,qY3,List.mem_range,okAt,Bool.or_eq_true,beq_eq_false_iff_ne] at h
 obtain ⟨⟨⟨hb,hn⟩,hl⟩,he⟩:=h
 subst hb
 obtain ⟨d,rfl⟩:=qLag hn
 have hg:∀ (l:List qBs),(∀ i,i < l.length->isI (l.getD i [])=true)->∀ s∈l,isI s=true:=by
  intro l hl s hs
  obtain ⟨i,hi,rfl⟩:=List.getElem_of_mem hs
  have:=hl i hi
  simpa [qZ4,hi] using this
 obtain ⟨zs,rfl⟩:=qIan (hg k fun i hi=>(he i hi).1.1.1)
 obtain ⟨ws,rfl⟩:=qIan (hg w fun i hi=>(he i (by omega)).1.1.2)
 simp only[List.length_map] at hl he
 have e1:ks (zs.zip ws)=zs.map ti:=by
  have:(zs.zip ws).map (·.1)=zs:=List.map_fst_zip (by omega)
  conv=>rhs;rw[<-this,List.map_map]
  rfl
 have e2:vs (zs.zip ws)=ws.map ti:=by
  have:(zs.zip ws).map (·.2)=ws:=List.map_snd_zip (by omega)
  conv=>rhs;rw[<-this,List.map_map]
  rfl
 refine ⟨d,zs.zip ws,by unfold qJH;rw[e1,e2],qDaq fun i hi=>?_,fun p hp=>?_⟩
 ·have hi':i < zs.length:=by simp at hi;omega
  rcases (he i hi').2 with h0 | h1
  ·exact .inl h0
  ·by_cases h0:i=0
   ·exact .inl h0
   ·refine .inr ?_
    rw[<-e1,qTT (by simp;omega),qTT hi,qMm] at h1
    have:=qSu.1 h1
    omega
 ·obtain ⟨i,hi,rfl⟩:=List.getElem_of_mem hp
  have hi':i < zs.length:=by simp at hi;omega
  have h1:=(he i hi').1.2
  rw[<-e2,qXY hi] at h1
  exact fun e=>h1 (congrArg ti e)
theorem qRg {d:Int} {P:KV} (h:Canon d P):qMF (qJH d P)=true:=by
 unfold qMF qJH
 simp only[show ¬ (4:Int)=1 by omega,show ¬ (4:Int)=2 by omega,show ¬ (4:Int)=3 by omega,if_false,if_true,qY0,Bool.not_eq_true',decide_eq_true_eq,qTd,qY3,List.mem_range,okAt,Bool.or_eq_true,beq_eq_false_iff_ne,qEE,qRI,qDZ,true_and]
 intro i hi
 rw[qTT hi,qXY hi]
 refine ⟨⟨⟨qDZ _,qDZ _⟩,fun e=>h.vals _ (List.getElem_mem hi) (qVk e)⟩,?_⟩
 by_cases h0:i=0
 ·exact .inl h0
 ·refine .inr ?_
  rw[qTT (by omega),qMm]
  have:=List.pairwise_iff_getElem.1 h.incr (i - 1) i (by omega) hi (by omega)
  rw[Int.sign_eq_neg_one_of_neg (by omega)]
  omega
theorem qTaq {K:List qBs} {t:qBs} {c:Nat} (hl:K.length<=1000000000) (hc:∀ k,k < K.length->∃ s:Int,qTW (K.getD k []) t=some ((s,()),())/\(s < 0 ↔ k < c)) :
 ∀ n lo hi:Nat,hi - lo<=n->lo<=c->c<=hi->hi<=K.length->qPA qMA (K,t,(),(K.length:Int),(lo:Int),(hi:Int),())=some (.exit 0,(K,t,(),(K.length:Int),(c:Int),(c:Int),())):=by
 have done:∀ lo hi:Nat,lo<=c->c<=hi->¬ lo < hi->qPA qMA (K,t,(),(K.length:Int),(lo:Int),(hi:Int),())=some (.exit 0,(K,t,(),(K.length:Int),(c:Int),(c:Int),())):=by
  intro lo hi h1 h2 h3
  obtain rfl:lo=c:=by omega
  obtain rfl:hi=lo:=by omega
  refine qTA ?_ (by simp)
  unfold qMA
  simp only
  rw[qNA (by omega)]
 intro n
 induction n with
 |zero=>intro lo hi h1 h2 h3 h4;exact done lo hi h2 h3 (by omega)
 |succ n ih=>
  intro lo hi h1 h2 h3 h4
  by_cases hlt:lo < hi
  ·have hE:qI ((qU (qI ((lo:Int)+(hi:Int)))).fdiv (2 ^ min (1:Int).toNat IntKind.u64.bits))=(((lo+hi) / 2:Nat):Int):=by
    have e2:(2:Int) ^ min (1:Int).toNat IntKind.u64.bits=2:=by decide
    rw[e2,w64 (x:=(lo:Int)+hi) (by omega),wu64 (by omega),Int.fdiv_eq_ediv_of_nonneg _ (by omega),w64 (by omega)]
    omega
   obtain ⟨s,hs,hsc⟩:=hc ((lo+hi) / 2) (by omega)
   have step:qMA (K,t,(),(K.length:Int),(lo:Int),(hi:Int),())=if (lo+hi) / 2 < c then some (.normal,(K,t,(),(K.length:Int),(((lo+hi) / 2+1:Nat):Int),(hi:Int),())) else some (.normal,(K,t,(),(K.length:Int),(lo:Int),(((lo+hi) / 2:Nat):Int),())):=by
    unfold qMA
    simp only
    rw[qIA (by omega),qBA (by omega),hE,qEA,qBA (by omega),qBA (by omega),qZ0,hs,qAA]
    simp only
    by_cases hm:(lo+hi) / 2 < c
    ·rw[qIA (hsc.2 hm),if_pos hm,w64 (by omega)];rfl
    ·rw[qNA (fun h=>hm (hsc.1 h)),if_neg hm]
   by_cases hm:(lo+hi) / 2 < c
   ·rw[if_pos hm] at step
    rw[qAB step]
    exact ih _ _ (by omega) (by omega) h3 h4
   ·rw[if_neg hm] at step
    rw[qAB step]
    exact ih _ _ (by omega) h2 (by omega) (by omega)
  ·exact done lo hi h2 h3 hlt
theorem qKaw {K:List qBs} {t:qBs} {c:Nat} {f:Bool} (hl:K.length<=1000000000) (hcl:c<=K.length) (hc:∀ k,k < K.length->∃ s:Int,qTW (K.getD k []) t=some ((s,()),())/\(s < 0 ↔ k < c))
 (hf:c < K.length->∃ s:Int,qTW (K.getD c []) t=some ((s,()),())/\(s==0)=f) (hn:¬ c < K.length->f=false) :
 qSA K t ()=some (((c:Int),f,()),()):=by
 unfold qSA
 have:=qTaq hl hc K.length 0 K.length (by omega) (by omega) hcl (Nat.le_refl _)
 rw[show ((0:Nat):Int)=0 from rfl] at this
 rw[this,qAA]
 simp only[qJB,qOA]
 by_cases h:c < K.length
 ·obtain ⟨s,h1,h2⟩:=hf h
  rw[qIA (by omega),qEA,qBA (by omega),qBA (by omega),qZ0,h1,qAA,h2]
 ·rw[qNA (by omega),hn h]
end Go.AM.Num
end
section
namespace Go.AM.Num
structure Sm (N:Nat) (d:Int) (P:KV):Prop where
 num:(ti d).length<=N
 els:∀ p∈P,(ti p.1).length<=N/\(ti p.2).length<=N
 few:P.length<=1000000000
theorem Sm.short {N:Nat} {d:Int} {P:KV} (h:Sm N d P):Short N (qJH d P):=
 ⟨h.num,fun s hs=>by obtain ⟨p,hp,rfl⟩:=List.mem_map.1 hs;exact (h.els p hp).1,fun s hs=>by obtain ⟨p,hp,rfl⟩:=List.mem_map.1 hs;exact (h.els p hp).2,by simp only[qJH];rw[qEE,qRI];exact ⟨h.few,h.few⟩⟩
theorem qHaw {N:Nat} {d:Int} {P:KV} (h:Short N (qJH d P)):Sm N d P:=by
 refine ⟨h.num,fun p hp=>⟨h.keys _ (List.mem_map_of_mem hp),h.vals _ (List.mem_map_of_mem hp)⟩,?_⟩
 have:=h.few.1
 simp only[qJH] at this
 rwa [qEE] at this
theorem qYas {a b:Int} (ha:(ti a).length<=2000000) (hb:(ti b).length<=2000000):qTW (ti a) (ti b)=some (((a - b).sign,()),()):=by rw[qBo ha hb,qMm]
theorem qCt {a b:Int} (ha:(ti a).length<=200000) (hb:(ti b).length<=200000):qVc (ti a) (ti b)=some (((a - b).sign,()),()):=by rw[qDg ha hb,qMm]
theorem qIX (a b:Int):(ti a==ti b)=decide (a=b):=by
 by_cases h:a=b
 ·subst h;simp
 ·rw[qZ9 h,beq_eq_false_iff_ne];exact fun e=>h (qVk e)
structure Parts (i:Int) (L m H:KV):Prop where
 lo:∀ p∈L,p.1 < i
 mid:m=[]\/∃ w,m=[(i,w)]
 hi:∀ p∈H,i < p.1
theorem qJn {P:KV} (h:Incr P) (i:Int):∃ m,P=lo i P++m++hi i P/\Parts i (lo i P) m (hi i P):=by
 obtain ⟨m,e,hm⟩:=qUan i h
 exact ⟨m,e,fun p hp=>(qXj.1 hp).2,hm,fun p hp=>(qQp.1 hp).2⟩
theorem Parts.lt {i:Int} {L m H:KV} (h:Parts i L m H) {k:Nat} (hk:k < (L++m++H).length):(L++m++H)[k].1 < i ↔ k < L.length:=by
 have e:L++m++H=L++(m++H):=qZ1 ..
 simp only[e] at hk ⊢
 by_cases hl:k < L.length
 ·rw[List.getElem_append_left hl]
  exact ⟨fun _=>hl,fun _=>h.lo _ (List.getElem_mem hl)⟩
 ·rw[List.getElem_append_right (by omega)]
  refine ⟨fun hlt=>?_,fun h=>absurd h hl⟩
  have hm:=List.getElem_mem (l:=m++H) (n:=k - L.length) (by simp at hk ⊢;omega)
  rcases List.mem_append.1 hm with hm | hm
  ·rcases h.mid with rfl | ⟨w,rfl⟩
   ·cases hm
   ·have:=congrArg Prod.fst (List.mem_singleton.1 hm);simp only at this;omega
  ·have:=h.hi _ hm;omega
theorem Parts.eq {i:Int} {L m H:KV} (h:Parts i L m H) (hk:L.length < (L++m++H).length):(L++m++H)[L.length].1=i ↔ m≠[]:=by
 have e:L++m++H=L++(m++H):=qZ1 ..
 simp only[e] at hk ⊢
 rw[List.getElem_append_right (by omega)]
 simp only[Nat.sub_self]
 rcases h.mid with rfl | ⟨w,rfl⟩
 ·simp only[qY15,ne_eq,not_true_eq_false,iff_false]
  have:=h.hi _ (List.getElem_mem (l:=H) (n:=0) (by simp at hk;omega))
  omega
 ·simp
theorem qKx {N:Nat} (hN:N<=100000) {d i:Int} {L m H:KV} (h:Parts i L m H) (hs:Sm N d (L++m++H)) (hi:(ti i).length<=N):qGc (qJH d (L++m++H)) (ti i)=some (((L.length:Int),decide (m≠[]),()),()):=by
 have hc:∀ k (hk:k < (L++m++H).length),qTW ((ks (L++m++H)).getD k []) (ti i)=some ((((L++m++H)[k].1 - i).sign,()),()):=fun k hk=>by
  rw[qTT hk]
  exact qYas (by have:=(hs.els _ (List.getElem_mem hk)).1;omega) (by omega)
 have:=qKaw (K:=ks (L++m++H)) (t:=ti i) (c:=L.length) (f:=decide (m≠[])) (by rw[qEE];exact hs.few) (by rw[qEE];simp)
  (fun k hk=>by
   rw[qEE] at hk
   refine ⟨_,hc k hk,?_⟩
   rw[qSu,<-h.lt hk]
   omega)
  (fun hk=>by
   rw[qEE] at hk
   refine ⟨_,hc _ hk,?_⟩
   rw[qSau]
   have:=h.eq hk
   by_cases hm:m=[]
   ·rw[qZ9 (fun e=>(this.1 (by omega)) hm),qZ9 (fun e=>e hm)]
   ·rw[qZ10 (by have:=this.2 hm;omega),qZ10 hm])
  (fun hk=>by
   rw[qEE] at hk
   refine qZ9 fun hm=>hk ?_
   have:=List.length_pos_iff.2 hm
   simp;omega)
 unfold qGc
 show ((qSA (ks (L++m++H)) (ti i) ()).bind _)=_
 rw[this,qAA]
theorem qQq (P Q:KV):ks (P++Q)=ks P++ks Q:=by simp[ks]
theorem qRY (P Q:KV):vs (P++Q)=vs P++vs Q:=by simp[vs]
theorem qVau (L H:KV) (i w:Int):(vs (L++[(i,w)]++H)).getD L.length []=ti w:=by
 rw[qXY (by simp)]
 simp
theorem qHat {N:Nat} (hN:N<=100000) {d i:Int} {P:KV} (hP:Incr P) (hs:Sm N d P) (hi:(ti i).length<=N):v_at (qJH d P) (ti i)=some ((ti (atP d P i),()),()):=by
 obtain ⟨m,e,hp⟩:=qJn hP i
 have hpl:qGc (qJH d P) (ti i)=some ((((lo i P).length:Int),decide (m≠[]),()),()):=by
  have:=qKx hN hp (e ▸ hs) hi
  rwa [<-e] at this
 have ha:atP d P i=(m.head?.map (·.2)).getD d:=by
  have:=qEah (d:=d) hp.lo hp.hi hp.mid
  rwa [<-e] at this
 unfold v_at
 rw[hpl,qAA,ha]
 rcases hp.mid with rfl | ⟨w,rfl⟩
 ·rfl
 ·have hlt:(lo i P).length < P.length:=by
   have:=congrArg List.length e
   simp at this;omega
  have hg:(vs P).getD (lo i P).length []=ti w:=(congrArg (fun Q=>(vs Q).getD (lo i P).length []) e).trans (qVau ..)
  simp only
  rw[qIA (by simp),qEA,qBA (by omega),qBA (by rw[qRI];exact_mod_cast hlt),qZ0,hg]
  rfl
end Go.AM.Num
end
section
namespace Go.AM.Num
theorem qMa {v:Val} (h1:v.2.2.2.1.length<=1000000000) (h2:v.2.2.2.2.length<=1000000000):qMc v=some ((v,()),()):=by
 unfold qMc qRE
 rw[qBA (by rw[qEH];omega),qAA,qBA (by rw[qEH];omega),qAA]
theorem qHac {K:List qBs} {A B:List qBs} {x:qBs} (hK:K=A++x::B) (hl:K.length<=1000000000) :
 qQC K (A.length:Int) (qI ((A.length:Int)+1))=some (((A++B).length,()),(A++B++[[]],())):=by
 have hw:qI ((A.length:Int)+1)=((A.length+1:Nat):Int):=by
  have:A.length<=K.length:=by rw[hK];simp
  rw[w64 (by omega)];rfl
 have hlen:K.length=A.length+B.length+1:=by rw[hK];simp;omega
 unfold qQC
 rw[hw,qEA,qEA,qBA (by omega),qBA (by omega),qBA (by omega),qZ0,qZ0]
 have e1:K.take A.length=A:=by rw[hK];exact List.take_left
 have e2:K.drop (A.length+1)=B:=by rw[hK];simp
 rw[e1,e2,show A.length+1 - A.length=1 by omega,show K.length - 1=(A++B).length by simp;omega]
 rfl
theorem qHah {K A B:List qBs} {x:qBs} (hK:K=A++B) (hl:K.length<=1000000000) :
 qPB K (A.length:Int) ([x]:List qBs)=some ((A++[x]++B,()),()):=by
 have hlen:K.length=A.length+B.length:=by rw[hK];simp
 unfold qPB
 rw[qEA,qEA,qEA,qBA (by omega),qBA (by omega),qBA (by rw[qEH];simp;omega),qBA (by simp),qZ0]
 have e1:K.take A.length=A:=by rw[hK];exact List.take_left
 have e2:K.drop A.length=B:=by rw[hK];exact List.drop_left
 rw[e1,e2]
theorem qNr {N:Nat} (hN:N<=100000) {d i n:Int} {L m H:KV} (h:Parts i L m H) (hs:Sm N d (L++m++H)) (hi:(ti i).length<=N) :
 qVb (qJH d (L++m++H)) (ti i) (ti n)=some ((qJH d (L++(if n=d then [] else [(i,n)])++H),()),()):=by
 have hf:=hs.few
 have hp:=qKx hN h hs hi
 have hcl:=qMa (v:=qJH d (L++m++H)) (by simp only;rw[qEE];exact hf) (by simp only;rw[qRI];exact hf)
 have hkl:=qEE L;have hvl:=qRI L
 unfold qVb
 rw[hcl,qAA,hp,qAA]
 simp only[qIX]
 rcases h.mid with rfl | ⟨w,rfl⟩
 ·rw[qNA (by simp),qNA (by simp)]
  by_cases hn:n=d
  ·rw[qZ10 hn,if_pos hn];rfl
  ·rw[qZ9 hn,if_neg hn]
   have i1:=qHah (K:=ks (L++[]++H)) (A:=ks L) (B:=ks H) (x:=ti i) (by rw[<-qQq];simp) (by rw[qEE];exact hf)
   have i2:=qHah (K:=vs (L++[]++H)) (A:=vs L) (B:=vs H) (x:=ti n) (by rw[<-qRY];simp) (by rw[qRI];exact hf)
   rw[hkl] at i1;rw[hvl] at i2
   simp only[qY1,qOA]
   rw[i1,qAA,i2,qAA]
   simp only[qJH,qQq,qRY]
   rfl
 ·rw[qIA (by simp)]
  by_cases hn:n=d
  ·have d1:=qHac (K:=ks (L++[(i,w)]++H)) (A:=ks L) (B:=ks H) (x:=ti i) (by rw[qQq,qQq];simp[ks]) (by rw[qEE];exact hf)
   have d2:=qHac (K:=vs (L++[(i,w)]++H)) (A:=vs L) (B:=vs H) (x:=ti w) (by rw[qRY,qRY];simp[vs]) (by rw[qRI];exact hf)
   rw[hkl] at d1;rw[hvl] at d2
   rw[qIA hn,d1,qAA,d2,qAA,if_pos hn]
   simp only[List.take_left]
   rw[<-qQq,<-qRY,qY4]
  ·rw[qNA hn,qIA (by simp),if_neg hn]
   have hl:((L.length:Nat):Int) < ((vs (L++[(i,w)]++H)).length:Nat):=by rw[qRI];simp;omega
   rw[qEA,qBA (by omega),qBA hl,qBA (by rw[qZ0];omega),qZ0]
   have e1:ks (L++[(i,w)]++H)=ks (L++[(i,n)]++H):=by simp[ks]
   have e2:(vs (L++[(i,w)]++H)).set L.length (ti n)=vs (L++[(i,n)]++H):=by
    rw[qRY,qRY,qRY,qRY,qZ1,<-hvl,List.set_append_right _ _ (Nat.le_refl _),Nat.sub_self,qZ1]
    rfl
   rw[e1,e2]
theorem qGak {N:Nat} (hN:N<=100000) {d i n:Int} {P:KV} (hP:Incr P) (hs:Sm N d P) (hi:(ti i).length<=N):qVb (qJH d P) (ti i) (ti n)=some ((qJH d (stP d P i n),()),()):=by
 obtain ⟨m,e,hp⟩:=qJn hP i
 have:=qNr (n:=n) hN hp (e ▸ hs) hi
 rw[<-e] at this
 exact this
end Go.AM.Num
end
section
namespace Go.AM.Num
theorem qSS {N:Nat} (hN:N<=100000) {v:Val} (hv:Short N v):qTF v=some ((qMF v,()),()):=by
 have h1:qPF v.2.2.1=some ((isI v.2.2.1,()),()):=qWJ (by have:=hv.num;omega)
 have h2:qAN v.2.2.1=some (((rd v.2.2.1).isSome,()),()):=qTR (by have:=hv.num;omega)
 unfold qTF qMF qOQ
 rw[h1,h2]
 simp only[qAA]
 by_cases e4:v.1=4
 ·rw[qMD e4,if_neg (by omega),if_neg (by omega),if_neg (by omega),if_pos e4,qFE (by omega)]
  cases hb:v.2.1 with
  |true=>rfl
  |false=>
   simp only[qWA,qY1,Bool.true_and]
   rw[qDA (by omega),qDA (by omega),qDA (by omega),qFA e4]
   cases hi:isI v.2.2.1 with
   |false=>rfl
   |true=>
    simp only[qY2,qWA,Bool.true_and]
    by_cases hl:v.2.2.2.1.length=v.2.2.2.2.length
    ·rw[qMD (by omega),qZ10 hl,Bool.true_and]
     rcases qJaa hN hv hl with ⟨a1,a2⟩ | ⟨a1,k,a2⟩
     ·rw[a1,a2];simp only[qAA,qJB,qOA]
     ·rw[a1,a2];simp only[qAA,qLD,qID,qOA,qWA]
    ·rw[qFE (by omega),qZ9 hl,Bool.false_and]
 ·rw[qFE e4]
  by_cases k1:v.2.2.2.1.length=0
  ·rw[qNA (by omega),qZ10 k1,Bool.true_and]
   by_cases k2:v.2.2.2.2.length=0
   ·rw[qNA (by omega),qZ10 k2]
    simp only[Bool.and_true]
    by_cases e1:v.1=1
    ·rw[qMD e1,if_pos e1,qFA e1]
    ·rw[qFE e1,if_neg e1]
     by_cases e2:v.1=2
     ·rw[if_pos e2,qDA e1,qFA e2];cases v.2.1<;>rfl
     ·rw[if_neg e2]
      by_cases e3:v.1=3
      ·rw[if_pos e3,qDA e1,qDA e2,qFA e3];cases v.2.1<;>rfl
      ·rw[if_neg e3,if_neg e4,qDA e1,qDA e2,qDA e3,qDA e4];cases v.2.1<;>rfl
   ·rw[qIA (by omega),qZ9 k2]
    simp only[Bool.and_false,if_neg e4,ite_self]
  ·rw[qIA (by omega),qZ9 k1,Bool.false_and]
   simp only[Bool.and_false,if_neg e4,ite_self]
theorem qTak {d i:Int} {P:KV} (hf:P.length<=1000000000) (ret:qBs):∀ n k,k+n=P.length->(∀ j (hj:j < P.length),j < k->P[j].1≠i)->
 ∃ e x,qPA qDY (ti i,qJH d P,ret,(k:Int),())=some (e,x)/\((e=.exit 0/\x.2.1=qJH d P/\atP d P i=d)\/(e=.ret/\x.2.2.1=ti (atP d P i))):=by
 intro n
 induction n with
 |zero=>
  intro k hk hno
  refine ⟨_,_,qTA (e:=.exit 0) (by unfold qDY;simp only;rw[qNA (by rw[qEE];omega)]) (by simp),.inl ⟨rfl,rfl,qSaf fun p hp=>?_⟩⟩
  obtain ⟨j,hj,rfl⟩:=List.getElem_of_mem hp
  exact hno j hj (by omega)
 |succ n ih=>
  intro k hk hno
  have hkl:k < P.length:=by omega
  by_cases he:P[k].1=i
  ·refine ⟨.ret,_,qTA (by
    unfold qDY
    simp only
    rw[qIA (by rw[qEE];omega),qEA,qBA (by omega),qBA (by rw[qEE];omega),qZ0,qTT hkl,qIX,qZ10 he,qOA,qEA,qBA (by omega),qBA (by rw[qRI];omega)]) (by simp),.inr ⟨rfl,?_⟩⟩
   simp only
   rw[qXY hkl]
   congr 1
   have e:P=P.take k++P[k]::P.drop (k+1):=by rw[<-qY6 hkl,List.take_append_drop]
   have h2:atP d (P.take k++P[k]::P.drop (k+1)) i=P[k].2:=by
    rw[qGag (fun p hp=>by
     obtain ⟨j,hj,rfl⟩:=List.getElem_of_mem hp
     rw[List.getElem_take]
     exact hno j _ (by simp at hj;omega))]
    have:P[k]=(i,P[k].2):=Prod.ext he rfl
    rw[this];exact qFad
   rw[<-e] at h2
   exact h2.symm
  ·have step:qDY (ti i,qJH d P,ret,(k:Int),())=some (.normal,(ti i,qJH d P,ret,((k+1:Nat):Int),())):=by
    unfold qDY
    simp only
    rw[qIA (by rw[qEE];omega),qEA,qBA (by omega),qBA (by rw[qEE];omega),qZ0,qTT hkl,qIX,qZ9 he,qWA,w64 (by omega)]
    rfl
   rw[qAB step]
   exact ih (k+1) (by omega) fun j hj hlt=>by
    by_cases e:j=k
    ·subst e;exact he
    ·exact hno j hj (by omega)
end Go.AM.Num
end
section
namespace Go.AM.Num
section
variable {d i n:Int} {P:KV} {t6:Val}
theorem qFY (Q:KV) (p:Int×Int):ks Q++[ti p.1]=ks (Q++[p]):=by simp[ks]
theorem qVX (Q:KV) (p:Int×Int):vs Q++[ti p.2]=vs (Q++[p]):=by simp[vs]
theorem qMaq {Q:KV} {k:Nat} (hf:P.length<=1000000000) (hQ:Q.length<=2000000000) (hk:k < P.length) (hne:P[k].1≠i) :
 qMC (ti i,ti n,qJH d P,t6,qJH d Q,true,(k:Int),())=some (.normal,(ti i,ti n,qJH d P,t6,qJH d (Q++[P[k]]),true,((k+1:Nat):Int),())):=by
 have a1:=qEE P;have a2:=qRI P;have a3:=qEE Q;have a4:=qRI Q
 unfold qMC
 simp only
 rw[qIA (by omega)]
 simp only[qY2,qWA]
 rw[qIA (by omega),qEA,qBA (by omega),qBA (by omega),qZ0,qTT hk,qXY hk,qIX,qZ9 hne]
 simp only[qY1,qOA]
 rw[qEA,qBA (by omega),qBA (by omega),qBA (by rw[qEH];simp only[qY11,List.length_nil];omega),qEA,qBA (by omega),qBA (by omega),qBA (by rw[qEH];simp only[qY11,List.length_nil];omega),w64 (by omega),qFY,qVX]
 rfl
theorem qPan {Q:KV} {b:Bool}:qMC (ti i,ti n,qJH d P,t6,qJH d Q,b,((P.length+1:Nat):Int),())=some (.exit 0,(ti i,ti n,qJH d P,t6,qJH d Q,b,((P.length+1:Nat):Int),())):=by
 have a1:=qEE P
 unfold qMC
 simp only
 rw[qNA (by omega)]
theorem qLap {Q:KV} (hf:P.length<=1000000000) :
 qMC (ti i,ti n,qJH d P,t6,qJH d Q,true,(P.length:Int),())=some (.normal,(ti i,ti n,qJH d P,t6,qJH d Q,true,((P.length+1:Nat):Int),())):=by
 have a1:=qEE P
 unfold qMC
 simp only
 rw[qIA (by omega)]
 simp only[qY2,qWA]
 rw[qNA (by omega),w64 (by omega)]
 rfl
theorem qNac (hf:P.length<=1000000000):∀ (R pre Q:KV),P=pre++R->(∀ p∈R,p.1≠i)->Q.length+R.length<=2000000000->
 qPA qMC (ti i,ti n,qJH d P,t6,qJH d Q,true,(pre.length:Int),())=some (.exit 0,(ti i,ti n,qJH d P,t6,qJH d (Q++R),true,((P.length+1:Nat):Int),())):=by
 intro R
 induction R with
 |nil=>
  intro pre Q e _ _
  have:pre.length=P.length:=by rw[e];simp
  rw[this,qAB (qLap hf),qTA qPan (by simp),qY4]
 |cons p R ih=>
  intro pre Q e hne hQ
  have hk:pre.length < P.length:=by rw[e];simp
  have hp:P[pre.length]=p:=by simp[e]
  simp only[qY11] at hQ
  rw[qAB (qMaq hf (by omega) hk (by rw[hp];exact hne p (by simp))),hp]
  have:=ih (pre++[p]) (Q++[p]) (by rw[e];simp) (fun q hq=>hne q (qY13 _ hq)) (by simp;omega)
  rw[qZ1] at this
  simp only[qZ6,qY11,List.length_nil,qY5,qY15] at this
  exact this
theorem qOat {N:Nat} (hN:N<=100000) {Q:KV} {k:Nat} (hs:Sm N d P) (hi:(ti i).length<=N) (hQ:Q.length<=2000000000) (hk:k < P.length) (hlt:P[k].1 < i) :
 qMC (ti i,ti n,qJH d P,t6,qJH d Q,false,(k:Int),())=some (.normal,(ti i,ti n,qJH d P,t6,qJH d (Q++[P[k]]),false,((k+1:Nat):Int),())):=by
 have a1:=qEE P;have a2:=qRI P;have a3:=qEE Q;have a4:=qRI Q;have hf:=hs.few
 have hc:qVc (ti P[k].1) (ti i)=some (((P[k].1 - i).sign,()),()):=qCt (by have:=(hs.els _ (List.getElem_mem hk)).1;omega) (by omega)
 have hsg:(P[k].1 - i).sign=-1:=Int.sign_eq_neg_one_of_neg (by omega)
 unfold qMC
 simp only
 rw[qIA (by omega)]
 simp only[qY1,qOA]
 rw[qDA (by omega),qEA,qBA (by omega),qBA (by omega),qZ0,qTT hk,qXY hk,hc,qAA,hsg]
 rw[qNA (by simp only;omega),qIA (by omega),qEA,qBA (by omega),qBA (by omega),qIX,qZ9 (by omega)]
 simp only[qY1,qOA]
 rw[qEA,qBA (by omega),qBA (by omega),qBA (by rw[qEH];simp only[qY11,List.length_nil];omega),qEA,qBA (by omega),qBA (by omega),qBA (by rw[qEH];simp only[qY11,List.length_nil];omega),w64 (by omega),qFY,qVX]
 rfl
theorem qNar {N:Nat} (hN:N<=100000) (hs:Sm N d P) (hi:(ti i).length<=N):∀ (R pre Z:KV),P=pre++R++Z->(∀ p∈R,p.1 < i)->
 qPA qMC (ti i,ti n,qJH d P,t6,qJH d pre,false,(pre.length:Int),())=qPA qMC (ti i,ti n,qJH d P,t6,qJH d (pre++R),false,((pre++R).length:Int),()):=by
 intro R
 induction R with
 |nil=>intro pre Z _ _;rw[qY4]
 |cons p R ih=>
  intro pre Z e hlt
  have hk:pre.length < P.length:=by rw[e];simp
  have hp:P[pre.length]=p:=by simp[e]
  have hf:=hs.few
  rw[qAB (qOat hN hs hi (by omega) hk (by rw[hp];exact hlt p (by simp))),hp]
  have:=ih (pre++[p]) Z (by rw[e];simp) (fun q hq=>hlt q (qY13 _ hq))
  rw[qZ1] at this
  simp only[qZ6,qY11,List.length_nil,qY5,qY15] at this ⊢
  exact this
end
end Go.AM.Num
end
section
namespace Go.AM.Num
def ins (d i n:Int):KV:=if n=d then [] else [(i,n)]
section
variable {d i n:Int} {P:KV} {t6:Val}
theorem qXaa {L:KV} (hf:P.length<=1000000000) (hL:L.length=P.length) :
 qMC (ti i,ti n,qJH d P,t6,qJH d L,false,(P.length:Int),())=some (.normal,(ti i,ti n,qJH d P,t6,qJH d (L++ins d i n),true,((P.length+1:Nat):Int),())):=by
 have a1:=qEE P;have a3:=qEE L;have a4:=qRI L
 unfold qMC
 simp only
 rw[qIA (by omega)]
 simp only[qY1,qOA]
 rw[qFA (by omega),qIX]
 unfold ins
 by_cases hn:n=d
 ·rw[qZ10 hn,if_pos hn]
  simp only[qY2,qWA]
  rw[qNA (by omega),w64 (by omega),qY4]
  rfl
 ·rw[qZ9 hn,if_neg hn]
  simp only[qY1,qOA]
  rw[qBA (by rw[qEH];simp only[qY11,List.length_nil];omega),qBA (by rw[qEH];simp only[qY11,List.length_nil];omega),qNA (by omega),w64 (by omega),qFY L (i,n),qVX L (i,n)]
  rfl
theorem qAaa {N:Nat} (hN:N<=100000) (hs:Sm N d P) (hi:(ti i).length<=N) {L:KV} (hk:L.length < P.length) (hgt:i < P[L.length].1) :
 qMC (ti i,ti n,qJH d P,t6,qJH d L,false,(L.length:Int),())=some (.normal,(ti i,ti n,qJH d P,t6,qJH d (L++ins d i n++[P[L.length]]),true,((L.length+1:Nat):Int),())):=by
 have a1:=qEE P;have a2:=qRI P;have a3:=qEE L;have a4:=qRI L;have hf:=hs.few
 have hc:qVc (ti P[L.length].1) (ti i)=some (((P[L.length].1 - i).sign,()),()):=qCt (by have:=(hs.els _ (List.getElem_mem hk)).1;omega) (by omega)
 have hsg:(P[L.length].1 - i).sign=1:=Int.sign_eq_one_of_pos (by omega)
 unfold qMC
 simp only
 rw[qIA (by omega)]
 simp only[qY1,qOA]
 rw[qDA (by omega),qEA,qBA (by omega),qBA (by omega),qZ0,qTT hk,qXY hk,hc,qAA,hsg]
 rw[qIA (by simp only;omega),qIX,qIX]
 unfold ins
 by_cases hn:n=d
 ·rw[qZ10 hn,if_pos hn,qY4]
  simp only[qY2,qWA]
  rw[qIA (by omega),qEA,qBA (by omega),qBA (by omega),qZ9 (by omega)]
  simp only[qY1,qOA]
  rw[qEA,qBA (by omega),qBA (by omega),qBA (by rw[qEH];simp only[qY11,List.length_nil];omega),qEA,qBA (by omega),qBA (by omega),qBA (by rw[qEH];simp only[qY11,List.length_nil];omega),w64 (by omega),qFY,qVX]
  rfl
 ·rw[qZ9 hn,if_neg hn]
  simp only[qY1,qOA]
  rw[qBA (by rw[qEH];simp only[qY11,List.length_nil];omega),qBA (by rw[qEH];simp only[qY11,List.length_nil];omega),qIA (by omega),qEA,qBA (by omega),qBA (by omega),qZ9 (by omega)]
  simp only[qY1,qOA]
  rw[qEA,qBA (by omega),qBA (by omega),qBA (by rw[qEH];simp only[qZ6,qY11,List.length_nil];omega),qEA,qBA (by omega),qBA (by omega),qBA (by rw[qEH];simp only[qZ6,qY11,List.length_nil];omega),w64 (by omega),qFY L (i,n),qVX L (i,n),qFY,qVX]
  rfl
theorem qJz {N:Nat} (hN:N<=100000) (hs:Sm N d P) (hi:(ti i).length<=N) {L:KV} (hk:L.length < P.length) (heq:P[L.length].1=i) :
 qMC (ti i,ti n,qJH d P,t6,qJH d L,false,(L.length:Int),())=some (.normal,(ti i,ti n,qJH d P,t6,qJH d (L++ins d i n),true,((L.length+1:Nat):Int),())):=by
 have a1:=qEE P;have a2:=qRI P;have a3:=qEE L;have a4:=qRI L;have hf:=hs.few
 have hc:qVc (ti P[L.length].1) (ti i)=some (((P[L.length].1 - i).sign,()),()):=qCt (by have:=(hs.els _ (List.getElem_mem hk)).1;omega) (by omega)
 have hsg:(P[L.length].1 - i).sign=0:=by rw[show P[L.length].1 - i=0 by omega];rfl
 unfold qMC
 simp only
 rw[qIA (by omega)]
 simp only[qY1,qOA]
 rw[qDA (by omega),qEA,qBA (by omega),qBA (by omega),qZ0,qTT hk,qXY hk,hc,qAA,hsg]
 rw[qIA (by simp only;omega),qIX,qIX]
 unfold ins
 by_cases hn:n=d
 ·rw[qZ10 hn,if_pos hn,qY4]
  simp only[qY2,qWA]
  rw[qIA (by omega),qEA,qBA (by omega),qBA (by omega),qZ10 heq]
  simp only[qY2,qWA]
  rw[w64 (by omega)]
  rfl
 ·rw[qZ9 hn,if_neg hn]
  simp only[qY1,qOA]
  rw[qBA (by rw[qEH];simp only[qY11,List.length_nil];omega),qBA (by rw[qEH];simp only[qY11,List.length_nil];omega),qIA (by omega),qEA,qBA (by omega),qBA (by omega),qZ10 heq]
  simp only[qY2,qWA]
  rw[w64 (by omega),qFY L (i,n),qVX L (i,n)]
  rfl
theorem qPar {N:Nat} (hN:N<=100000) (hP:Incr P) (hs:Sm N d P) (hi:(ti i).length<=N) :
 qPA qMC (ti i,ti n,qJH d P,t6,qJH d [],false,0,())=some (.exit 0,(ti i,ti n,qJH d P,t6,qJH d (stP d P i n),true,((P.length+1:Nat):Int),())):=by
 obtain ⟨m,e,hp⟩:=qJn hP i
 have hf:=hs.few
 have hd:=qNar (n:=n) (t6:=t6) hN hs hi (lo i P) [] (m++Num.hi i P) (by rw[qY15,<-qZ1];exact e) hp.lo
 simp only[qY15,List.length_nil] at hd
 rw[show ((0:Nat):Int)=0 from rfl] at hd
 rw[hd]
 have hst:stP d P i n=lo i P++ins d i n++Num.hi i P:=rfl
 have hil:(ins d i n).length<=1:=by unfold ins;split<;>simp
 have hlen:=congrArg List.length e
 simp only[qZ6] at hlen
 rcases hp.mid with rfl | ⟨w,rfl⟩
 ·cases hH:Num.hi i P with
  |nil=>
   have hL:(lo i P).length=P.length:=by rw[hH] at hlen;simp at hlen;omega
   rw[hL,qAB (qXaa hf hL),qTA qPan (by simp),hst,hH,qY4]
  |cons p H'=>
   have hk:(lo i P).length < P.length:=by rw[hH] at hlen;simp at hlen;omega
   have hp0:P[(lo i P).length]=p:=by
    have:P=lo i P++p::H':=by rw[hH,qY4] at e;exact e
    have h2:P[(lo i P).length]?=some p:=(congrArg (fun Q:KV=>Q[(lo i P).length]?) this).trans (by simp)
    rw[qZ5 hk] at h2
    exact Option.some.inj h2
   have hmem:∀ q∈p::H',i < q.1:=fun q hq=>hp.hi q (by show q∈Num.hi i P;rw[hH];exact hq)
   have h1:=qAaa (n:=n) (t6:=t6) hN hs hi hk (by rw[hp0];exact hmem p (by simp))
   rw[hp0] at h1
   have h2:=qNac (i:=i) (n:=n) (d:=d) (t6:=t6) hf H' (lo i P++[p]) (lo i P++ins d i n++[p]) (by rw[hH] at e;simpa using e) (fun q hq=>by have:=hmem q (qY13 _ hq);omega)
    (by rw[hH] at hlen;simp at hlen ⊢;omega)
   rw[qAB h1,hst,hH]
   simp only[qZ6,qY11,List.length_nil,qZ1,qY5,qY15] at h2 ⊢
   exact h2
 ·have hk:(lo i P).length < P.length:=by simp at hlen;omega
  have hp0:P[(lo i P).length].1=i:=by
   have h2:P[(lo i P).length]?=some (i,w):=(congrArg (fun Q:KV=>Q[(lo i P).length]?) e).trans (by simp)
   rw[qZ5 hk] at h2
   rw[Option.some.inj h2]
  have h1:=qJz (n:=n) (t6:=t6) hN hs hi hk hp0
  have h2:=qNac (i:=i) (n:=n) (d:=d) (t6:=t6) hf (Num.hi i P) (lo i P++[(i,w)]) (lo i P++ins d i n) e (fun q hq=>by have:=hp.hi q hq;omega)
   (by simp at hlen ⊢;omega)
  rw[qAB h1,hst]
  simp only[qZ6,qY11,List.length_nil] at h2 ⊢
  exact h2
end
end Go.AM.Num
end
section
namespace Go.AM.Num
theorem qKg {N:Nat} (hN:N<=100000) {d i n:Int} {P:KV} (hP:Canon d P) (hs:Sm N d P) (hi:(ti i).length<=N) (hn:(ti n).length<=N) :
 qXb (qJH d P) (ti i) (ti n)=some ((qJH d (stP d P i n),0,()),()):=by
 unfold qXb
 simp only
 rw[qMD (by omega),qSS hN hs.short,qAA,qRg hP,qWJ (by omega),qWJ (by omega),qDZ,qDZ]
 simp only[qY2,qWA,qAA]
 have:=qPar (n:=n) (t6:=((0:Int),false,([]:qBs),([]:List qBs),([]:List qBs))) hN hP.incr hs hi
 have e:(qJH d []:Val)=(4,false,ti d,([]:List qBs),([]:List qBs)):=rfl
 rw[e] at this
 rw[this,qAA]
 simp only[qJB,qOA]
theorem qYat {N:Nat} (hN:N<=100000) {d i:Int} {P:KV} (hP:Canon d P) (hs:Sm N d P) (hi:(ti i).length<=N) :
 r_At (qJH d P) (ti i)=some ((ti (atP d P i),()),()):=by
 unfold r_At
 simp only
 rw[qMD (by omega),qSS hN hs.short,qAA,qRg hP,qWJ (by omega),qDZ]
 simp only[qY2,qWA,qAA]
 obtain ⟨e,x,h1,h2⟩:=qTak (i:=i) (d:=d) hs.few ([]:qBs) P.length 0 (by omega) (fun j hj h=>by omega)
 rw[show ((0:Nat):Int)=0 from rfl] at h1
 rw[h1,qAA]
 rcases h2 with ⟨rfl,h3,h4⟩ | ⟨rfl,h3⟩
 ·simp only[qJB,qOA]
  rw[h3,h4]
 ·simp only[qLD,qID,qOA,qWA]
  rw[h3]
theorem qKk {a b:List qBs} (ha:a.length<=2000000000):qTN a b=some ((decide (a=b),()),()):=by
 unfold qTN
 by_cases hl:a.length=b.length
 ·rw[qMD (by omega)]
  have:=qKI (step:=qJJ) (fun k=>(a,b,false,(k:Int),())) (fun k=>(a,b,false,(k:Int),())) a.length (E:=.exit 0) (B:=.ret) (by simp) (by simp) (fun k=>a.getD k []==b.getD k []) (fun k hk=>by
   unfold qJJ
   simp only
   rw[qIA (by omega),qEA,qBA (by omega),qBA (by omega),qEA,qBA (by omega),qBA (by omega),qZ0,w64 (by omega)]
   cases (a.getD k []==b.getD k [])<;>rfl) (by
   unfold qJJ
   simp only
   rw[qNA (by omega)])
  rw[show ((0:Nat):Int)=0 from rfl] at this
  have heq:(List.range a.length).all (fun k=>a.getD k []==b.getD k [])=decide (a=b):=by
   rw[Bool.eq_iff_iff,qY3,decide_eq_true_eq]
   constructor
   ·intro h
    refine List.ext_getElem hl fun k h1 h2=>?_
    have:=h k (List.mem_range.2 h1)
    simpa [qZ4,h1,h2] using this
   ·rintro rfl k _;simp
  rcases this with ⟨h1,h2⟩ | ⟨h1,k,h2⟩
  ·rw[h2,<-heq,h1];simp only[qAA,qJB,qOA]
  ·rw[h2,<-heq,h1];simp only[qAA,qLD,qID,qOA,qWA]
 ·rw[qFE (by omega),qZ9 (fun e=>hl (by rw[e]))]
theorem qDS {a b:Val} (ha:a.2.2.2.1.length<=2000000000) (hb:a.2.2.2.2.length<=2000000000):qIJ a b=some ((decide (a=b),()),()):=by
 obtain ⟨s,t,u,k,w⟩:=a
 obtain ⟨s',t',u',k',w'⟩:=b
 unfold qIJ
 simp only at ha hb ⊢
 rw[qKk ha,qKk hb]
 simp only[qAA,Prod.mk.injEq]
 by_cases h1:s=s'
 ·rw[qFA h1]
  by_cases h2:t=t'
  ·rw[h2];simp only[beq_self_eq_true,qOA]
   by_cases h3:u=u'
   ·rw[h3];simp only[beq_self_eq_true,qOA]
    by_cases h4:k=k'
    ·rw[qZ10 h4];simp only[qOA];simp[h1,h4]
    ·rw[qZ9 h4];simp only[qWA];simp[h4]
   ·rw[show (u==u')=false from beq_eq_false_iff_ne.2 h3];simp[h3]
  ·rw[show (t==t')=false from beq_eq_false_iff_ne.2 h2];simp[h2]
 ·rw[qDA h1];simp[h1]
end Go.AM.Num
end
section
namespace Go.AM.Num
theorem qHu {d i n:Int} {P:KV} (h:Incr P):(stP d P i n).length<=P.length+1:=by
 obtain ⟨m,e,_⟩:=qUan i h
 have:=congrArg List.length e
 unfold stP
 simp only[qZ6] at this ⊢
 split<;>simp<;>omega
theorem qJan {N:Nat} {d i n:Int} {P:KV} (hP:Incr P) (h:Sm N d P) (hi:(ti i).length<=N) (hn:(ti n).length<=N) (hl:P.length < 1000000000):Sm N d (stP d P i n):=by
 refine ⟨h.num,fun p hp=>?_,by have:=qHu (d:=d) (i:=i) (n:=n) hP;omega⟩
 unfold stP at hp
 rcases List.mem_append.1 hp with hp | hp
 ·rcases List.mem_append.1 hp with hp | hp
  ·exact h.els p (qXj.1 hp).1
  ·split at hp
   ·cases hp
   ·rw[List.mem_singleton.1 hp];exact ⟨hi,hn⟩
 ·exact h.els p (qQp.1 hp).1
theorem qJb {c:List Int×Int} (hc:CI c):∃ (z:Int) (c':List Int×Int),qJC c=some ((ti z,()),(c',()))/\CI c'/\(ti z).length<=52:=by
 obtain ⟨z,c',h1,h2,h3⟩:=qVd hc
 exact ⟨z,c',h1,h2,by have:=qXD (z:Rat);unfold ti;omega⟩
theorem qMap {t4:Val}:∀ (n:Nat) {c:List Int×Int} {d:Int} {P:KV},CI c->Canon d P->Sm 52 d P->P.length+n<=60->
 ∃ c' P',qPA qQG (c,t4,qJH d P,(n:Int),())=some (.exit 1,(c',t4,qJH d P',0,()))/\CI c'/\Canon d P'/\Sm 52 d P'/\P'.length<=60:=by
 intro n
 induction n with
 |zero=>
  intro c d P hc hP hs hl
  exact ⟨c,P,qTA (by unfold qQG;simp only;rw[qNA (by omega)];rfl) (by simp),hc,hP,hs,by omega⟩
 |succ n ih=>
  intro c d P hc hP hs hl
  obtain ⟨i,c1,h1,hc1,hi⟩:=qJb hc
  obtain ⟨m,c2,h2,hc2,hm⟩:=qJb hc1
  have h3:=qKg (N:=52) (by omega) hP hs hi hm
  have hlen:=qHu (d:=d) (i:=i) (n:=m) hP.incr
  obtain ⟨c',P',g1,g2,g3,g4,g5⟩:=ih hc2 (qBg hP i m) (qJan hP.incr hs hi hm (by omega)) (by omega)
  refine ⟨c',P',?_,g2,g3,g4,g5⟩
  rw[qAB (y:=(c2,t4,qJH d (stP d P i m),(n:Int),())) (by
   unfold qQG
   simp only
   rw[qIA (by omega),h1,qAA,h2,qAA,h3,qAA,w64 (by omega)]
   have e:((n+1:Nat):Int) - 1=(n:Int):=by omega
   rw[e])]
  exact g1
theorem qMb (d:Int):Canon d []:=⟨List.Pairwise.nil,fun _ hp=>absurd hp qY16⟩
theorem qJai {N:Nat} {d:Int} (h:(ti d).length<=N):Sm N d []:=⟨h,fun _ hp=>absurd hp qY16,Nat.zero_le _⟩
theorem qOab {c:List Int×Int} (hc:CI c):∃ d P c',qXF c 4=some ((qJH d P,()),(c',()))/\CI c'/\Canon d P/\Sm 52 d P/\P.length<=60:=by
 obtain ⟨d,c1,h1,hc1,hd⟩:=qJb hc
 obtain ⟨r,c2,h2,hc2,r0,r4⟩:=qAC hc1 (n:=4) (by omega)
 obtain ⟨k,rfl⟩:∃ k:Nat,r=k:=⟨r.toNat,by omega⟩
 obtain ⟨c3,P,h3,hc3,hP,hs,hl⟩:=qMap (t4:=((0:Int),false,([]:qBs),([]:List qBs),([]:List qBs))) k hc2 (qMb d) (qJai hd) (by simp;omega)
 refine ⟨d,P,c3,?_,hc3,hP,hs,hl⟩
 have e:(qJH d []:Val)=(4,false,ti d,([]:List qBs),([]:List qBs)):=rfl
 rw[e] at h3
 unfold qXF
 rw[qDA (by omega),qFA rfl,h1,qAA,h2,qAA,h3,qAA]
 simp only[qJB,qOA]
end Go.AM.Num
end
section
namespace Go.AM.Num
theorem qBk {a b:List qBs} (ha:a.length<=2000000000):qXC a b=some ((decide (a=b),()),()):=by
 unfold qXC
 by_cases hl:a.length=b.length
 ·rw[qMD (by omega)]
  have:=qKI (step:=qHC) (fun k=>(a,b,false,(a.length:Int),(k:Int),())) (fun k=>(a,b,false,(a.length:Int),(k:Int),())) a.length (E:=.exit 0) (B:=.ret) (by simp) (by simp) (fun k=>a.getD k []==b.getD k []) (fun k hk=>by
   unfold qHC
   simp only
   rw[qIA (by omega),qEA,qBA (by omega),qBA (by omega),qEA,qBA (by omega),qBA (by omega),qZ0,w64 (by omega)]
   cases (a.getD k []==b.getD k [])<;>rfl) (by
   unfold qHC
   simp only
   rw[qNA (by omega)])
  rw[show ((0:Nat):Int)=0 from rfl] at this
  have heq:(List.range a.length).all (fun k=>a.getD k []==b.getD k [])=decide (a=b):=by
   rw[Bool.eq_iff_iff,qY3,decide_eq_true_eq]
   constructor
   ·intro h
    refine List.ext_getElem hl fun k h1 h2=>?_
    have:=h k (List.mem_range.2 h1)
    simpa [qZ4,h1,h2] using this
   ·rintro rfl k _;simp
  rcases this with ⟨h1,h2⟩ | ⟨h1,k,h2⟩
  ·rw[h2,<-heq,h1];simp only[qAA,qJB,qOA]
  ·rw[h2,<-heq,h1];simp only[qAA,qLD,qID,qOA,qWA]
 ·rw[qFE (by omega),qZ9 (fun e=>hl (by rw[e]))]
theorem qAW {a b:Val} (ha:a.2.2.2.1.length<=2000000000) (hb:a.2.2.2.2.length<=2000000000):qXX a b=some ((decide (a=b),()),()):=by
 obtain ⟨s,t,u,k,w⟩:=a
 obtain ⟨s',t',u',k',w'⟩:=b
 unfold qXX
 simp only at ha hb ⊢
 rw[qBk ha,qBk hb]
 simp only[qAA,Prod.mk.injEq]
 by_cases h1:s=s'
 ·rw[qFA h1]
  by_cases h2:t=t'
  ·rw[h2];simp only[beq_self_eq_true,qOA]
   by_cases h3:u=u'
   ·rw[h3];simp only[beq_self_eq_true,qOA]
    by_cases h4:k=k'
    ·rw[qZ10 h4];simp only[qOA];simp[h1,h4]
    ·rw[qZ9 h4];simp only[qWA];simp[h4]
   ·rw[show (u==u')=false from beq_eq_false_iff_ne.2 h3];simp[h3]
  ·rw[show (t==t')=false from beq_eq_false_iff_ne.2 h2];simp[h2]
 ·rw[qDA h1];simp[h1]
end Go.AM.Num
end
