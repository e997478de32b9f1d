/- Law TermRebuild: a part of its proof. No conditions. -/
import Derived.Test.YtppjkoefhkcjfaaGreatDoorTermRebuild5
import Derived.Lib.SlTrimSet
set_option linter.unusedSimpArgs false
set_option linter.unusedVariables false
section
namespace Go.AM.Num
theorem MX (n:Int):Ay (n:Rat)=(if n < 0 then [45] else [])++dd n.natAbs:=by
 unfold Ay
 rw[Rat.num_intCast,Rat.den_intCast];simp
theorem ADr (neg:Bool) (m:Nat):tx neg m 1=Ay ((sg neg m:Int):Rat):=by
 rw[MX,Fz]
 unfold tx
 simp only[KI];simp
theorem SY {q:Rat} (h:q.den=1):q=((q.num:Int):Rat):=Rat.ext (by rw[Rat.num_intCast]) (by rw[Rat.den_intCast,h])
noncomputable def Bc (a:qBs):Bool:=match rd a with | some q=>q.den==1 | none=>false
theorem ADH (q:Rat):Bc (Ay q)=(q.den==1):=by unfold Bc;rw[Df]
theorem K2 {a:qBs} (h:Bc a=true):∃ n:Int,a=Ay (n:Rat)/\rd a=some (n:Rat):=by
 unfold Bc at h
 cases hr:rd a with
 |none=>rw[hr] at h;cases h
 |some q=>
  rw[hr] at h
  have hd:q.den=1:=by simpa using h
  exact ⟨q.num,by rw[<-SY hd];exact Eu hr,by rw[<-SY hd]⟩
theorem PB (n:Int):Bc (Ay (n:Rat))=true:=by rw[ADH,Rat.den_intCast];rfl
theorem Ty {a:qBs} (ha:a.length<=10000000):GS a=some ((Bc a,()),()):=by
 obtain ⟨neg,s,hcp,has,hs⟩:=MU a
 have hsl:s.length<=10000000:=by rw[has,qZ6] at ha;omega
 have hn:=Bm s (by omega)
 unfold GS
 by_cases hd:s=dd (dval s)
 ·have good:(neg=true->dval s≠0)->Bc a=true:=by
   intro h
   have:a=Ay ((sg neg (dval s):Int):Rat):=by
    have e:=IN (neg:=neg) (m:=dval s) (d:=1) h
    rw[if_pos rfl,qY4,<-hd] at e
    rw[has,e,ADr]
   rw[this];exact PB _
  by_cases h0:s=[48]
  ·cases neg with
   |true=>
    have hb:Bc a=false:=by
     cases hi:Bc a with
     |false=>rfl
     |true=>
      obtain ⟨n,hn1,_⟩:=K2 hi
      obtain ⟨e1,e2⟩:=Ku hs (has ▸ hn1)
      rw[Rat.den_intCast,if_pos rfl,qY4,Rat.num_intCast,h0,<-Bt] at e2
      rw[Rat.num_intCast] at e1
      have:=of_decide_eq_true e1.symm
      have:=Do e2
      omega
    rw[hb]
    simp (disch:=(first | omega | (simp only[Ai];omega))) only[hcp,hn,Bb hd,Bb h0,Ah]
   |false=>
    rw[good (fun h=>by cases h)]
    simp (disch:=(first | omega | (simp only[Ai];omega))) only[hcp,hn,Bb hd,Ah]
  ·have hm0:dval s≠0:=fun e=>h0 (by rw[hd,e,Bt])
   rw[good (fun _=>hm0)]
   cases neg with
   |true=>simp (disch:=(first | omega | (simp only[Ai];omega))) only[hcp,hn,Bb hd,A7 h0,Ah]
   |false=>simp (disch:=(first | omega | (simp only[Ai];omega))) only[hcp,hn,Bb hd,Ah]
 ·have hb:Bc a=false:=by
   cases hi:Bc a with
   |false=>rfl
   |true=>
    obtain ⟨n,hn1,_⟩:=K2 hi
    obtain ⟨e1,e2⟩:=Ku hs (has ▸ hn1)
    rw[Rat.den_intCast,if_pos rfl,qY4] at e2
    exact absurd (by rw[e2,B4]) hd
  rw[hb]
  simp (disch:=(first | omega | (simp only[Ai];omega))) only[hcp,hn,A7 hd,Ah]
end Go.AM.Num
end
section
namespace Go.AM.Num
def FM (s:qBs):Prop:=s≠[]/\AN s
instance (s:qBs):Decidable (AN s):=by unfold AN EM;infer_instance
instance (s:qBs):Decidable (FM s):=by unfold FM;infer_instance
inductive DecParts:qBs->Bool->qBs->Option qBs->Prop
 |mk {a s:qBs} {neg:Bool} (h:a=GG neg++s) (hs:neg=false->∀ r,s≠45::r) {x:qBs} {y:Option qBs}
  (hxy:(y=none/\s=x/\(46:UInt8)∉s)\/(∃ z,y=some z/\s=x++46::z/\(46:UInt8)∉x)):DecParts a neg x y
end Go.AM.Num
end
section
namespace Go.AM.Num
theorem K9 {s:qBs} (hl:s.length<=1000000000):DU s=some ((decide (FM s),()),()):=by
 obtain ⟨r,hr,hq⟩:=BD (step:=Gq) (Q:=fun r=>(AN s/\r=(Ex.exit 0,(s,false,(s.length:Int),())))\/(¬ AN s/\∃ i,r=(Ex.ret,(s,false,i,()))))
  (fun m x=>∃ k:Nat,m+k=s.length/\x=(s,false,(k:Int),())/\AN (s.take k)) (by
   rintro m x ⟨k,hm,rfl,hd⟩
   by_cases hk:k < s.length
   ·have hg:s.getD k 0=s[k]:=by rw[qZ4,qZ5 hk];rfl
    have e:(k:Int).toNat=k:=by omega
    have hmem:s[k]∈s:=List.getElem_mem hk
    by_cases h1:s[k].toNat < 48
    ·refine .inl ⟨_,?_,?_,.inr ⟨fun h=>?_,(k:Int),rfl⟩⟩
     ·simp (disch:=(first | omega | (simp only[Ai];omega))) only[Gq,e,hg,Ah]
     ·simp
     ·have:=(h _ hmem).1;omega
    ·by_cases h2:s[k].toNat > 57
     ·refine .inl ⟨_,?_,?_,.inr ⟨fun h=>?_,(k:Int),rfl⟩⟩
      ·simp (disch:=(first | omega | (simp only[Ai];omega))) only[Gq,e,hg,Ah]
      ·simp
      ·have:=(h _ hmem).2;omega
     ·refine .inr ⟨m - 1,_,?_,by omega,k+1,by omega,rfl,?_⟩
      ·simp (disch:=(first | omega | (simp only[Ai];omega))) only[Gq,e,hg,Ah]
       rfl
      ·rw[List.take_succ_eq_append_getElem hk]
       refine hd.app fun c hc=>?_
       rw[List.mem_singleton.1 hc]
       exact ⟨by omega,by omega⟩
   ·have hks:k=s.length:=by omega
    subst hks
    refine .inl ⟨_,?_,?_,.inl ⟨by simpa using hd,rfl⟩⟩
    ·simp (disch:=(first | omega | (simp only[Ai];omega))) only[Gq,Ah]
    ·simp) s.length (s,false,0,()) ⟨0,by omega,rfl,by simp[AN]⟩
 unfold DU
 rw[hr]
 rcases hq with ⟨hd,rfl⟩ | ⟨hd,i,rfl⟩
 ·simp (disch:=(first | omega | (simp only[Ai];omega))) only[Ah]
  by_cases h0:s=[]
  ·subst h0
   have:decide (FM [])=false:=qZ9 (fun h=>h.1 rfl)
   rw[this];rfl
  ·rw[A7 h0,qZ10 (show FM s from ⟨h0,hd⟩)];rfl
 ·simp (disch:=(first | omega | (simp only[Ai];omega))) only[Ah]
  rw[qZ9 (fun h=>hd h.2)]
theorem EO {s:qBs} (hd:AN s) (hne:s≠[]) (hl:s.length<=1000000000):CX s=some ((dd (dval s),()),()):=by
 obtain ⟨r,hr,rfl⟩:=BD (step:=H7) (Q:=fun r=>r=(Ex.exit 0,(dd (dval s),())))
  (fun m x=>∃ t:qBs,x=(t,())/\m=t.length/\AN t/\t≠[]/\dval t=dval s/\t.length<=1000000000) (by
   rintro m x ⟨t,rfl,hm,h1,h2,h3,h4⟩
   cases t with
   |nil=>exact absurd rfl h2
   |cons c t=>
    have h00:((0:Int)).toNat=0:=rfl
    have h11:((1:Int)).toNat=1:=rfl
    have hg:(c::t:qBs).getD 0 0=c:=rfl
    have hlen:(c::t).length=t.length+1:=rfl
    by_cases ht:t=[]
    ·subst ht
     refine .inl ⟨(Ex.exit 0,([c],())),?_,by simp,?_⟩
     ·simp only[H7]
      rw[AC (by simp)]
     ·rw[<-h3,<-MY h1 h2 (by
       by_cases hc:c=48
       ·left;rw[hc]
       ·right;simpa using hc)]
    ·have hpos:0 < t.length:=List.length_pos_iff.2 ht
     by_cases hc:c=48
     ·subst hc
      refine .inr ⟨t.length,(t,()),?_,by omega,t,rfl,rfl,fun x hx=>h1 x (by simp[hx]),ht,?_,by omega⟩
      ·have h48:(((48:UInt8).toNat:Nat):Int)=48:=rfl
       simp only[H7]
       rw[Aw,Ap,Ad,Ad,h00,hg,h48]
       rw[Av rfl,Ap,Ad,Ad,h11];rfl
      ·rw[<-h3,EF];simp[dig]
     ·refine .inl ⟨(Ex.exit 0,(c::t,())),?_,by simp,?_⟩
      ·have hne':((c.toNat:Nat):Int)≠48:=fun e=>hc (UInt8.toNat_inj.1 (by show c.toNat=48;omega))
       simp only[H7]
       rw[Aw,Ap,Ad,Ad,h00,hg,Aj hne']
      ·rw[<-h3,<-MY h1 h2 (.inr (by simpa using hc))]) s.length (s,()) ⟨s,rfl,rfl,hd,hne,rfl,hl⟩
 unfold CX
 rw[hr]
 simp (disch:=(first | omega | (simp only[Ai];omega))) only[Ah]
theorem WC {a b:qBs} (ha:AN a) (hb:AN b) (hl:a.length=b.length):CZ a b=decide (dval a < dval b):=by
 unfold CZ
 induction a generalizing b with
 |nil=>
  cases b with
  |nil=>simp[Op.bytesLess,dval]
  |cons c b=>simp at hl
 |cons x a ih=>
  cases b with
  |nil=>simp at hl
  |cons y b=>
   have hx:=ha x (by simp)
   have hy:=hb y (by simp)
   have hA:AN a:=fun c hc=>ha c (by simp[hc])
   have hB:AN b:=fun c hc=>hb c (by simp[hc])
   have hl':a.length=b.length:=by simpa using hl
   have la:=Ej hA
   have lb:=Ej hB
   rw[EF,EF,hl']
   rw[hl'] at la
   have ih':=ih hA hB hl'
   have hdx:dig x=x.toNat - 48:=rfl
   have hdy:dig y=y.toNat - 48:=rfl
   have:=hx.1
   have:=hy.1
   rcases Nat.lt_trichotomy x.toNat y.toNat with h | h | h
   ·have h1:(dig x+1) * 10 ^ b.length<=dig y * 10 ^ b.length:=Nat.mul_le_mul_right _ (by omega)
    rw[Nat.add_mul] at h1
    rw[qZ10 (by omega)]
    unfold Op.bytesLess
    have:x < y:=UInt8.lt_iff_toNat_lt.2 h
    simp[this]
   ·have hxy:x=y:=UInt8.toNat_inj.1 h
    subst hxy
    unfold Op.bytesLess
    have h1:¬ x < x:=fun e=>Nat.lt_irrefl _ (UInt8.lt_iff_toNat_lt.1 e)
    simp only[h1,if_false]
    rw[ih']
    simp
   ·have h1:(dig y+1) * 10 ^ b.length<=dig x * 10 ^ b.length:=Nat.mul_le_mul_right _ (by omega)
    rw[Nat.add_mul] at h1
    rw[qZ9 (by omega)]
    unfold Op.bytesLess
    have h2:¬ x < y:=fun e=>by have:=UInt8.lt_iff_toNat_lt.1 e;omega
    have h3:x≠y:=fun e=>by rw[e] at h;omega
    simp[h2,h3]
theorem Qd (m n:Nat):∃ c,Jq (dd m) (dd n)=some ((c,()),())/\(c < 0 ↔ m < n)/\(c=0 ↔ m=n):=by
 unfold Jq
 rcases Nat.lt_trichotomy (dd m).length (dd n).length with h | h | h
 ·have hlt:m < n:=by
   rcases Nat.lt_or_ge m n with h' | h'
   ·exact h'
   ·have:=Cs h';omega
  refine ⟨-1,?_,by omega,by omega⟩
  simp (disch:=(first | omega | (simp only[Ai];omega))) only[Ah]
 ·have hs:=WC (BZ m) (BZ n) h
  rw[B4,B4] at hs
  rcases Nat.lt_trichotomy m n with h' | h' | h'
  ·refine ⟨-1,?_,by omega,by omega⟩
   simp (disch:=(first | omega | (simp only[Ai];omega))) only[hs,qZ10 h',Ah]
  ·subst h'
   refine ⟨0,?_,by omega,by omega⟩
   simp (disch:=(first | omega | (simp only[Ai];omega))) only[hs,qZ9 (Nat.lt_irrefl m),Bb rfl,Ah]
  ·refine ⟨1,?_,by omega,by omega⟩
   have hne:dd m≠dd n:=fun e=>by have:=Do e;omega
   simp (disch:=(first | omega | (simp only[Ai];omega))) only[hs,qZ9 (show ¬ m < n by omega),A7 hne,Ah]
 ·have hlt:n < m:=by
   rcases Nat.lt_or_ge n m with h' | h'
   ·exact h'
   ·have:=Cs h';omega
  have hne:dd m≠dd n:=fun e=>by have:=Do e;omega
  refine ⟨1,?_,by omega,by omega⟩
  simp (disch:=(first | omega | (simp only[Ai];omega))) only[A7 hne,Ah]
def sfx (a:qBs) (i:Nat):Nat:=dval (a.drop (a.length - i))
theorem Kd (a:qBs):sfx a 0=0:=by unfold sfx;rw[Nat.sub_zero,List.drop_length];rfl
theorem DK {a:qBs} {i:Nat} (h:a.length<=i):sfx a i=dval a:=by unfold sfx;rw[Nat.sub_eq_zero_of_le h,List.drop_zero]
theorem JW {a:qBs} {i:Nat} (h:i < a.length):sfx a (i+1)=dig (a[a.length - 1 - i]'(by omega)) * 10 ^ i+sfx a i:=by
 unfold sfx
 rw[show a.length - (i+1)=a.length - 1 - i by omega,qY6 (by omega),EF,List.length_drop,show a.length - 1 - i+1=a.length - i by omega,show a.length - (a.length - i)=i by omega]
theorem MQ {α:Type} {l:List α} {i:Nat} (h:i < l.length) (c:α):(l.set i c).drop i=c::l.drop (i+1):=by
 rw[qY6 (by simpa using h),List.getElem_set_self,List.drop_set_of_lt (by omega)]
def B2 (s:qBs):List Int:=s.map fun b=>(b.toNat:Int)
theorem Kb (s:qBs):(B2 s).map (fun n=>UInt8.ofNat n.toNat)=s:=by
 unfold B2
 rw[List.map_map]
 conv=>rhs;rw[<-List.map_id s]
 apply List.map_congr_left
 intro b _
 simp
theorem L5 {k:Int} (h:0<=k/\k < 10):∃ c:UInt8,(c.toNat:Int)=48+k/\EM c/\(dig c:Int)=k:=by
 obtain ⟨n,rfl⟩:∃ n:Nat,k=n:=⟨k.toNat,by omega⟩
 obtain ⟨h1,h2⟩:=dig_of (k:=n) (by omega)
 refine ⟨UInt8.ofNat (48+n),?_,h2,by rw[h1]⟩
 have h3:=h2.1
 have h4:dig (UInt8.ofNat (48+n))=(UInt8.ofNat (48+n)).toNat - 48:=rfl
 omega
theorem AN.cons {c:UInt8} {s:qBs} (h:EM c) (hs:AN s):AN (c::s):=fun x hx=>(List.mem_cons.1 hx).elim (fun e=>e ▸ h) (hs x)
theorem Fu {s:qBs} {k:Nat} (h:k < s.length):s.getD k 0=s[k]:=by rw[qZ4,qZ5 h];rfl
set_option maxHeartbeats 2000000 in
theorem Wl (m n:Nat) (hm:(dd m).length<=100000000) (hn:(dd n).length<=100000000):K5 (dd m) (dd n)=some ((dd (m+n),()),()):=by
 obtain ⟨a,ha⟩:∃ a,a=dd m:=⟨_,rfl⟩
 obtain ⟨b,hb⟩:∃ b,b=dd n:=⟨_,rfl⟩
 have hda:AN a:=ha ▸ BZ m
 have hdb:AN b:=hb ▸ BZ n
 rw[<-ha,<-hb]
 rw[<-ha] at hm
 rw[<-hb] at hn
 obtain ⟨N,hN⟩:∃ N,N=max a.length b.length+1:=⟨_,rfl⟩
 have hmx:=AEZ a.length b.length
 have hw:qI (BN (a.length:Int) (b.length:Int)+1)=(N:Int):=by rw[hmx,AB];omega
 obtain ⟨r,hr,s,rfl,h1,h2,h3⟩:=BD (step:=Ev) (Q:=fun r=>∃ s:qBs,r=(Ex.exit 0,(a,b,(N:Int),B2 s,0,(N:Int),()))/\AN s/\s.length=N/\dval s=dval a+dval b)
  (fun k x=>∃ (i:Nat) (out:List Int) (c:Int) (s:qBs),x=(a,b,(N:Int),out,c,(i:Int),())/\k+i=N/\out.length=N/\(0<=c/\c<=1)/\out.drop (N - i)=B2 s/\AN s/\s.length=i/\(dval s:Int)+c * 10 ^ i=(sfx a i:Int)+sfx b i) (by
   rintro k x ⟨i,out,c,s,rfl,hk,hol,hc,hds,hs,hsl,hv⟩
   by_cases hi:i < N
   ·have hix:((N:Int) - 1 - i).toNat=N - 1 - i:=by omega
    have hax:((a.length:Int) - 1 - i).toNat=a.length - 1 - i:=by omega
    have hbx:((b.length:Int) - 1 - i).toNat=b.length - 1 - i:=by omega
    have go:∀ v:Int,(0<=v/\v < 20)->(v * 10 ^ i+((sfx a i:Int)+sfx b i)=c * 10 ^ i+((sfx a (i+1):Int)+sfx b (i+1)))->
     Ev (a,b,(N:Int),out,c,(i:Int),())=some (Ex.normal,(a,b,(N:Int),out.set (N - 1 - i) (48+v % 10),v / 10,(i:Int)+1,()))->
     ∃ m y,Ev (a,b,(N:Int),out,c,(i:Int),())=some (Ex.normal,y)/\m < k/\∃ (i:Nat) (out:List Int) (c:Int) (s:qBs),y=(a,b,(N:Int),out,c,(i:Int),())/\m+i=N/\out.length=N/\(0<=c/\c<=1)/\out.drop (N - i)=B2 s/\AN s/\s.length=i/\(dval s:Int)+c * 10 ^ i=(sfx a i:Int)+sfx b i:=by
     intro v hv1 hv2 hst
     obtain ⟨d,hd1,hd2,hd3⟩:=L5 (k:=v % 10) (by omega)
     refine ⟨k - 1,_,hst,by omega,i+1,_,_,d::s,rfl,by omega,by simpa using hol,by omega,?_,hs.cons hd2,by simp[hsl],?_⟩
     ·rw[show N - (i+1)=N - 1 - i by omega,MQ (by omega),show N - 1 - i+1=N - i by omega,hds,<-hd1];rfl
     ·rw[EF,hsl,Int.natCast_add,Int.natCast_mul,hd3,Int.pow_succ]
      have:=Int.emod_add_mul_ediv v 10
      push_cast
      grind
    by_cases hia:i < a.length
    ·have hga:=Fu (s:=a) (k:=a.length - 1 - i) (by omega)
     have hdA:=hda (a[a.length - 1 - i]'(by omega)) (List.getElem_mem _)
     have hsa:=JW hia
     obtain ⟨A,hA⟩:∃ A,A=a[a.length - 1 - i]'(by omega):=⟨_,rfl⟩
     rw[<-hA] at hga hdA hsa
     have hA1:=hdA.1
     have hA2:=hdA.2
     have hAd:(dig A:Int)=(A.toNat:Int) - 48:=by unfold dig;omega
     by_cases hib:i < b.length
     ·have hgb:=Fu (s:=b) (k:=b.length - 1 - i) (by omega)
      have hdB:=hdb (b[b.length - 1 - i]'(by omega)) (List.getElem_mem _)
      have hsb:=JW hib
      obtain ⟨B,hB⟩:∃ B,B=b[b.length - 1 - i]'(by omega):=⟨_,rfl⟩
      rw[<-hB] at hgb hdB hsb
      have hB1:=hdB.1
      have hB2:=hdB.2
      have hBd:(dig B:Int)=(B.toNat:Int) - 48:=by unfold dig;omega
      refine .inr (go (c+((A.toNat:Int) - 48)+((B.toNat:Int) - 48)) (by omega) (by rw[hsa,hsb];push_cast;rw[hAd,hBd];grind) ?_)
      simp (disch:=(first | omega | (simp only[Ai];omega))) only[Ev,hix,hax,hbx,hga,hgb,Ah]
     ·have hsb:sfx b (i+1)=sfx b i:=by rw[DK (by omega),DK (by omega)]
      refine .inr (go (c+((A.toNat:Int) - 48)) (by omega) (by rw[hsa,hsb];push_cast;rw[hAd];grind) ?_)
      simp (disch:=(first | omega | (simp only[Ai];omega))) only[Ev,hix,hax,hga,Ah]
    ·have hsa:sfx a (i+1)=sfx a i:=by rw[DK (by omega),DK (by omega)]
     by_cases hib:i < b.length
     ·have hgb:=Fu (s:=b) (k:=b.length - 1 - i) (by omega)
      have hdB:=hdb (b[b.length - 1 - i]'(by omega)) (List.getElem_mem _)
      have hsb:=JW hib
      obtain ⟨B,hB⟩:∃ B,B=b[b.length - 1 - i]'(by omega):=⟨_,rfl⟩
      rw[<-hB] at hgb hdB hsb
      have hB1:=hdB.1
      have hB2:=hdB.2
      have hBd:(dig B:Int)=(B.toNat:Int) - 48:=by unfold dig;omega
      refine .inr (go (c+((B.toNat:Int) - 48)) (by omega) (by rw[hsa,hsb];push_cast;rw[hBd];grind) ?_)
      simp (disch:=(first | omega | (simp only[Ai];omega))) only[Ev,hix,hbx,hgb,Ah]
     ·have hsb:sfx b (i+1)=sfx b i:=by rw[DK (by omega),DK (by omega)]
      refine .inr (go c (by omega) (by rw[hsa,hsb]) ?_)
      simp (disch:=(first | omega | (simp only[Ai];omega))) only[Ev,hix,Ah]
   ·have hiN:i=N:=by omega
    subst hiN
    rw[Nat.sub_self,List.drop_zero] at hds
    rw[DK (by omega),DK (by omega)] at hv
    have hla:=Ej hda
    have hlb:=Ej hdb
    have hp1:10 ^ a.length<=10 ^ (max a.length b.length):=Nat.pow_le_pow_right (by decide) (by omega)
    have hp2:10 ^ b.length<=10 ^ (max a.length b.length):=Nat.pow_le_pow_right (by decide) (by omega)
    have hpN:10 ^ i=10 * 10 ^ (max a.length b.length):=by rw[hN,Nat.pow_succ,Nat.mul_comm]
    have hc0:c=0:=by
     rcases (show c=0\/c=1 by omega) with h | h
     ·exact h
     ·exfalso
      rw[h,show ((10:Int) ^ i)=((10 ^ i:Nat):Int) by push_cast;rfl] at hv
      omega
    subst hc0
    refine .inl ⟨(Ex.exit 0,(a,b,(i:Int),B2 s,0,(i:Int),())),?_,by simp,s,rfl,hs,hsl,by omega⟩
    rw[<-hds]
    simp (disch:=(first | omega | (simp only[Ai];omega))) only[Ev,Ah]) N (a,b,(N:Int),List.replicate ((N:Int)).toNat 0,0,0,()) ⟨0,_,0,[],rfl,by omega,by simp,by omega,by simp[B2],by simp[AN],rfl,by rw[Kd,Kd];simp[dval]⟩
 have ht:=EO h1 (fun e=>by rw[e] at h2;simp at h2;omega) (by omega)
 rw[h3] at ht
 have hva:dval a=m:=by rw[ha,B4]
 have hvb:dval b=n:=by rw[hb,B4]
 rw[hva,hvb] at ht
 unfold K5
 simp only[hw]
 rw[hr]
 simp (disch:=(first | omega | (simp only[Ai];omega))) only[Kb,ht,Ah]
end Go.AM.Num
end
section
namespace Go.AM.Num
set_option maxHeartbeats 2000000 in
theorem Mp (m n:Nat) (hm:(dd m).length<=100000000) (hle:n<=m):H3 (dd m) (dd n)=some ((dd (m - n),()),()):=by
 obtain ⟨a,ha⟩:∃ a,a=dd m:=⟨_,rfl⟩
 obtain ⟨b,hb⟩:∃ b,b=dd n:=⟨_,rfl⟩
 have hda:AN a:=ha ▸ BZ m
 have hdb:AN b:=hb ▸ BZ n
 have hbl:b.length<=a.length:=by rw[ha,hb];exact Cs hle
 have hane:a≠[]:=ha ▸ Fe m
 rw[<-ha,<-hb]
 rw[<-ha] at hm
 have hva:dval a=m:=by rw[ha,B4]
 have hvb:dval b=n:=by rw[hb,B4]
 obtain ⟨N,hN⟩:∃ N,N=a.length:=⟨_,rfl⟩
 obtain ⟨r,hr,s,rfl,h1,h2,h3⟩:=BD (step:=EE) (Q:=fun r=>∃ s:qBs,r=(Ex.exit 0,(a,b,B2 s,0,(N:Int),()))/\AN s/\s.length=N/\dval s=m - n)
  (fun k x=>∃ (i:Nat) (out:List Int) (c:Int) (s:qBs),x=(a,b,out,c,(i:Int),())/\k+i=N/\out.length=N/\(0<=c/\c<=1)/\out.drop (N - i)=B2 s/\AN s/\s.length=i/\(dval s:Int)+sfx b i=(sfx a i:Int)+c * 10 ^ i) (by
   rintro k x ⟨i,out,c,s,rfl,hk,hol,hc,hds,hs,hsl,hv⟩
   by_cases hi:i < N
   ·have hax:((a.length:Int) - 1 - i).toNat=a.length - 1 - i:=by omega
    have hbx:((b.length:Int) - 1 - i).toNat=b.length - 1 - i:=by omega
    have go:∀ v c':Int,(0<=v/\v < 10)->(0<=c'/\c'<=1)->((sfx a (i+1):Int)+c' * (10 ^ i * 10) - sfx b (i+1)=v * 10 ^ i+((sfx a i:Int)+c * 10 ^ i - sfx b i))->
     EE (a,b,out,c,(i:Int),())=some (Ex.normal,(a,b,out.set (a.length - 1 - i) (48+v),c',(i:Int)+1,()))->
     ∃ m y,EE (a,b,out,c,(i:Int),())=some (Ex.normal,y)/\m < k/\∃ (i:Nat) (out:List Int) (c:Int) (s:qBs),y=(a,b,out,c,(i:Int),())/\m+i=N/\out.length=N/\(0<=c/\c<=1)/\out.drop (N - i)=B2 s/\AN s/\s.length=i/\(dval s:Int)+sfx b i=(sfx a i:Int)+c * 10 ^ i:=by
     intro v c' hv1 hc' hv2 hst
     obtain ⟨d,hd1,hd2,hd3⟩:=L5 (k:=v) (by omega)
     refine ⟨k - 1,_,hst,by omega,i+1,_,_,d::s,rfl,by omega,by simpa using hol,by omega,?_,hs.cons hd2,by simp[hsl],?_⟩
     ·rw[show N - (i+1)=a.length - 1 - i by omega,MQ (by omega),show a.length - 1 - i+1=N - i by omega,hds,<-hd1];rfl
     ·rw[EF,hsl,Int.natCast_add,Int.natCast_mul,hd3,Int.pow_succ]
      push_cast
      grind
    have hia:i < a.length:=by omega
    have hga:=Fu (s:=a) (k:=a.length - 1 - i) (by omega)
    have hdA:=hda (a[a.length - 1 - i]'(by omega)) (List.getElem_mem _)
    have hsa:=JW hia
    obtain ⟨A,hA⟩:∃ A,A=a[a.length - 1 - i]'(by omega):=⟨_,rfl⟩
    rw[<-hA] at hga hdA hsa
    have hA1:=hdA.1
    have hA2:=hdA.2
    have hAd:(dig A:Int)=(A.toNat:Int) - 48:=by unfold dig;omega
    by_cases hib:i < b.length
    ·have hgb:=Fu (s:=b) (k:=b.length - 1 - i) (by omega)
     have hdB:=hdb (b[b.length - 1 - i]'(by omega)) (List.getElem_mem _)
     have hsb:=JW hib
     obtain ⟨B,hB⟩:∃ B,B=b[b.length - 1 - i]'(by omega):=⟨_,rfl⟩
     rw[<-hB] at hgb hdB hsb
     have hB1:=hdB.1
     have hB2:=hdB.2
     have hBd:(dig B:Int)=(B.toNat:Int) - 48:=by unfold dig;omega
     by_cases hneg:(A.toNat:Int) - 48 - c - ((B.toNat:Int) - 48) < 0
     ·refine .inr (go ((A.toNat:Int) - 48 - c - ((B.toNat:Int) - 48)+10) 1 (by omega) (by omega) (by rw[hsa,hsb];push_cast;rw[hAd,hBd];grind) ?_)
      simp (disch:=(first | omega | (simp only[Ai];omega))) only[EE,hax,hbx,hga,hgb,Ah]
     ·refine .inr (go ((A.toNat:Int) - 48 - c - ((B.toNat:Int) - 48)) 0 (by omega) (by omega) (by rw[hsa,hsb];push_cast;rw[hAd,hBd];grind) ?_)
      simp (disch:=(first | omega | (simp only[Ai];omega))) only[EE,hax,hbx,hga,hgb,Ah]
    ·have hsb:sfx b (i+1)=sfx b i:=by rw[DK (by omega),DK (by omega)]
     by_cases hneg:(A.toNat:Int) - 48 - c < 0
     ·refine .inr (go ((A.toNat:Int) - 48 - c+10) 1 (by omega) (by omega) (by rw[hsa,hsb];push_cast;rw[hAd];grind) ?_)
      simp (disch:=(first | omega | (simp only[Ai];omega))) only[EE,hax,hga,Ah]
     ·refine .inr (go ((A.toNat:Int) - 48 - c) 0 (by omega) (by omega) (by rw[hsa,hsb];push_cast;rw[hAd];grind) ?_)
      simp (disch:=(first | omega | (simp only[Ai];omega))) only[EE,hax,hga,Ah]
   ·have hiN:i=N:=by omega
    subst hiN
    rw[Nat.sub_self,List.drop_zero] at hds
    rw[DK (by omega),DK (by omega),hva,hvb] at hv
    have hls:=Ej hs
    rw[hsl] at hls
    have hc0:c=0:=by
     rcases (show c=0\/c=1 by omega) with h | h
     ·exact h
     ·exfalso
      rw[h,show ((10:Int) ^ i)=((10 ^ i:Nat):Int) by push_cast;rfl] at hv
      omega
    subst hc0
    refine .inl ⟨(Ex.exit 0,(a,b,B2 s,0,(i:Int),())),?_,by simp,s,rfl,hs,hsl,by omega⟩
    rw[<-hds]
    simp (disch:=(first | omega | (simp only[Ai];omega))) only[EE,Ah]) N (a,b,List.replicate ((a.length:Int)).toNat 0,0,0,()) ⟨0,_,0,[],rfl,by omega,by simp;omega,by omega,by simp[B2];omega,by simp[AN],rfl,by rw[Kd,Kd];simp[dval]⟩
 have hapos:0 < a.length:=List.length_pos_iff.2 hane
 have ht:=EO h1 (fun e=>by rw[e] at h2;simp at h2;omega) (by omega)
 rw[h3] at ht
 unfold H3
 rw[hr]
 simp (disch:=(first | omega | (simp only[Ai];omega))) only[Kb,ht,Ah]
def iv (l:List Int):Int:=l.foldl (fun v x=>10 * v+x) 0
theorem ZN (l:List Int) (v:Int):l.foldl (fun v x=>10 * v+x) v=v * 10 ^ l.length+iv l:=by
 induction l generalizing v with
 |nil=>simp[iv]
 |cons c s ih=>
  simp only[List.foldl_cons,iv,qY11,Int.pow_succ]
  rw[ih (10 * v+c),ih (10 * 0+c)]
  grind
theorem Lt (x:Int) (l:List Int):iv (x::l)=x * 10 ^ l.length+iv l:=by
 show (x::l).foldl (fun v x=>10 * v+x) 0=_
 rw[List.foldl_cons,ZN];simp
theorem Zq {l:List Int} {k:Nat} (h:k < l.length) (x:Int):iv (l.set k x)=iv l+(x - l.getD k 0) * 10 ^ (l.length - 1 - k):=by
 induction l generalizing k with
 |nil=>simp at h
 |cons y l ih=>
  cases k with
  |zero=>
   simp only[List.set_cons_zero,Lt,qZ3,qY11]
   rw[show l.length+1 - 1 - 0=l.length by omega]
   grind
  |succ k=>
   simp only[List.set_cons_succ,Lt,qZ2,qY11,List.length_set]
   rw[ih (by simpa using h),show l.length+1 - 1 - (k+1)=l.length - 1 - k by omega]
   omega
theorem iv_zeros (n:Nat):iv (List.replicate n 0)=0:=by
 induction n with
 |zero=>rfl
 |succ n ih=>rw[List.replicate_succ,Lt,ih];simp
def pfx (a:qBs) (i:Nat):Nat:=dval (a.take i)
theorem Ow {a:qBs} {i:Nat} (h:i < a.length):pfx a (i+1)=10 * pfx a i+dig a[i]:=by
 unfold pfx
 rw[List.take_succ_eq_append_getElem h,FI]
def Bd (l:List Int) (B:Int):Prop:=∀ x∈l,0<=x/\x<=B
theorem Bd.at {l:List Int} {B:Int} (h:Bd l B) (hB:0<=B) (k:Nat):0<=l.getD k 0/\l.getD k 0<=B:=by
 by_cases hk:k < l.length
 ·rw[Ie hk];exact h _ (List.getElem_mem hk)
 ·rw[LZ (by omega)];omega
theorem Bd.set {l:List Int} {B B':Int} (h:Bd l B) (hB:B<=B') {k:Nat} {x:Int} (hx:0<=x/\x<=B'):Bd (l.set k x) B':=by
 intro y hy
 rcases List.mem_or_eq_of_mem_set hy with hy | rfl
 ·have:=h y hy;omega
 ·exact hx
theorem AG7 {a b:qBs} {out0:List Int} {i:Nat} {B:Int} (hda:AN a) (hdb:AN b) (hi:i < a.length) (hol:out0.length=a.length+b.length) (hbl:b.length<=100000000) (hal:a.length<=100000000)
 (hB:0<=B/\B<=1000000000000000000) (hb0:Bd out0 B) :
 ∃ out,Am HN (a,b,out0,(i:Int),0,())=some (Ex.exit 2,(a,b,out,(i:Int),(b.length:Int),()))/\out.length=out0.length/\Bd out (B+81 * b.length)/\
  iv out=iv out0+(dig a[i]:Int) * 10 ^ (a.length - 1 - i) * dval b:=by
 have hA:=hda a[i] (List.getElem_mem hi)
 obtain ⟨A,hAe⟩:∃ A,A=a[i]:=⟨_,rfl⟩
 rw[<-hAe] at hA ⊢
 have hga:a.getD i 0=A:=by rw[Fu hi,hAe]
 have hA1:=hA.1
 have hA2:=hA.2
 have hAd:(dig A:Int)=(A.toNat:Int) - 48:=by unfold dig;omega
 obtain ⟨r,hr,out,rfl,h1,h2,h3⟩:=BD (step:=HN) (Q:=fun r=>∃ out,r=(Ex.exit 2,(a,b,out,(i:Int),(b.length:Int),()))/\out.length=out0.length/\Bd out (B+81 * b.length)/\
  iv out=iv out0+(dig A:Int) * 10 ^ (a.length - 1 - i) * dval b)
  (fun k x=>∃ (j:Nat) (out:List Int),k+j=b.length/\x=(a,b,out,(i:Int),(j:Int),())/\out.length=out0.length/\Bd out (B+81 * j)/\
   iv out=iv out0+(dig A:Int) * 10 ^ (a.length - 1 - i) * ((pfx b j:Int) * 10 ^ (b.length - j))) (by
   rintro k x ⟨j,out,hk,rfl,h1,h2,h3⟩
   by_cases hj:j < b.length
   ·have hgb:=Fu hj
    have hBd:=hdb b[j] (List.getElem_mem hj)
    have hp:=Ow hj
    obtain ⟨C,hC⟩:∃ C,C=b[j]:=⟨_,rfl⟩
    rw[<-hC] at hgb hBd hp
    have hC1:=hBd.1
    have hC2:=hBd.2
    have hCd:(dig C:Int)=(C.toNat:Int) - 48:=by unfold dig;omega
    have e1:(i:Int).toNat=i:=by omega
    have e2:(j:Int).toNat=j:=by omega
    have e3:((i:Int)+j+1).toNat=i+j+1:=by omega
    have hz:=h2.at (by omega) (i+j+1)
    obtain ⟨P,hP⟩:∃ P,P=((A.toNat:Int) - 48) * ((C.toNat:Int) - 48):=⟨_,rfl⟩
    have hP0:0<=P:=by rw[hP];exact Int.mul_nonneg (by omega) (by omega)
    have hP1:P<=81:=by
     rw[hP]
     have:((A.toNat:Int) - 48) * ((C.toNat:Int) - 48)<=9 * ((C.toNat:Int) - 48):=Int.mul_le_mul_of_nonneg_right (by omega) (by omega)
     omega
    refine .inr ⟨k - 1,(a,b,out.set (i+j+1) (out.getD (i+j+1) 0+P),(i:Int),((j+1:Nat):Int),()),?_,by omega,j+1,_,by omega,rfl,by simpa using h1,h2.set (by omega) (by omega),?_⟩
    ·rw[hP]
     rw[hP] at hP0 hP1
     simp (disch:=(first | omega | (simp only[Ai];omega))) only[HN,e1,e2,e3,hga,hgb,Ah]
     rfl
    ·rw[Zq (by omega),h3,hp]
     have ex:out.length - 1 - (i+j+1)=(a.length - 1 - i)+(b.length - (j+1)):=by omega
     have ey:b.length - j=(b.length - (j+1))+1:=by omega
     rw[ex,ey,Int.pow_add,Int.pow_succ,hP,<-hAd,<-hCd]
     push_cast
     grind
   ·have hjb:j=b.length:=by omega
    subst hjb
    refine .inl ⟨(Ex.exit 2,(a,b,out,(i:Int),(b.length:Int),())),?_,by simp,out,rfl,h1,h2,?_⟩
    ·simp (disch:=(first | omega | (simp only[Ai];omega))) only[HN,Ah]
    ·rw[h3];unfold pfx;rw[List.take_length,Nat.sub_self];simp) b.length _ ⟨0,out0,by omega,rfl,rfl,by simpa using hb0,by unfold pfx;simp[dval]⟩
 exact ⟨out,hr,h1,h2,h3⟩
set_option maxHeartbeats 1000000 in
theorem Gp (m n:Nat) (hm:(dd m).length<=10000000) (hn:(dd n).length<=10000000):Eb (dd m) (dd n)=some ((dd (m * n),()),()):=by
 obtain ⟨a,ha⟩:∃ a,a=dd m:=⟨_,rfl⟩
 obtain ⟨b,hb⟩:∃ b,b=dd n:=⟨_,rfl⟩
 have hda:AN a:=ha ▸ BZ m
 have hdb:AN b:=hb ▸ BZ n
 have hapos:0 < a.length:=by rw[ha];exact HR m
 rw[<-ha,<-hb]
 rw[<-ha] at hm
 rw[<-hb] at hn
 have hva:dval a=m:=by rw[ha,B4]
 have hvb:dval b=n:=by rw[hb,B4]
 obtain ⟨r,hr,out,rfl,h1,h2,h3⟩:=BD (step:=Jo) (Q:=fun r=>∃ out,r=(Ex.exit 0,(a,b,out,(a.length:Int),()))/\out.length=a.length+b.length/\Bd out (81 * 100000000000000)/\iv out=(dval a:Int) * dval b)
  (fun k x=>∃ (i:Nat) (out:List Int),k+i=a.length/\x=(a,b,out,(i:Int),())/\out.length=a.length+b.length/\Bd out (81 * ((i * b.length:Nat):Int))/\iv out=(pfx a i:Int) * 10 ^ (a.length - i) * dval b) (by
   rintro k x ⟨i,out,hk,rfl,h1,h2,h3⟩
   have hib:i * b.length<=a.length * b.length:=Nat.mul_le_mul_right _ (by omega)
   have hab:a.length * b.length<=10000000 * b.length:=Nat.mul_le_mul_right _ hm
   by_cases hi:i < a.length
   ·obtain ⟨o2,hin,g1,g2,g3⟩:=AG7 (B:=81 * ((i * b.length:Nat):Int)) hda hdb hi h1 (by omega) (by omega) (by omega) h2
    have hp:=Ow hi
    refine .inr ⟨k - 1,(a,b,o2,((i+1:Nat):Int),()),?_,by omega,i+1,o2,by omega,rfl,by omega,?_,?_⟩
    ·simp (disch:=(first | omega | (simp only[Ai];omega))) only[Jo,hin,Ah]
     rfl
    ·intro y hy
     have:=g2 y hy
     rw[Nat.add_mul]
     omega
    ·rw[g3,h3,hp,show a.length - i=(a.length - 1 - i)+1 by omega,show a.length - (i+1)=a.length - 1 - i by omega,Int.pow_succ]
     push_cast
     grind
   ·have hia:i=a.length:=by omega
    subst hia
    refine .inl ⟨(Ex.exit 0,(a,b,out,(a.length:Int),())),?_,by simp,out,rfl,h1,?_,?_⟩
    ·simp (disch:=(first | omega | (simp only[Ai];omega))) only[Jo,Ah]
    ·intro y hy;have:=h2 y hy;omega
    ·rw[h3];unfold pfx;rw[List.take_length,Nat.sub_self];simp) a.length (a,b,List.replicate ((((a.length:Int)+b.length)).toNat) 0,0,()) ⟨0,_,by omega,rfl,by simp;omega,by intro y hy;rw[List.eq_of_mem_replicate hy];simp,by rw[iv_zeros];unfold pfx;simp[dval]⟩
 obtain ⟨N,hN⟩:∃ N,N=out.length:=⟨_,rfl⟩
 obtain ⟨r2,hr2,s,rfl,g1,g2,g3⟩:=BD (step:=Je) (Q:=fun r=>∃ s:qBs,r=(Ex.exit 4,(out,B2 s,0,-1,()))/\AN s/\s.length=N/\dval s=m * n)
  (fun k x=>∃ (o:List Int) (c:Int) (s:qBs),x=(out,o,c,(k:Int) - 1,())/\k<=N/\o.length=N/\(0<=c/\c<=81 * 100000000000000)/\o.drop k=B2 s/\AN s/\s.length=N - k/\(dval s:Int)+c * 10 ^ (N - k)=iv (out.drop k)) (by
   rintro k x ⟨o,c,s,rfl,hk,hol,hc,hds,hs,hsl,hv⟩
   by_cases h0:k=0
   ·subst h0
    rw[List.drop_zero] at hds hv
    rw[Nat.sub_zero] at hv hsl
    rw[h3] at hv
    have hla:=Ej hda
    have hlb:=Ej hdb
    have hprod:dval a * dval b < 10 ^ N:=by
     rw[hN,h1,Nat.pow_add]
     exact Nat.mul_lt_mul'' hla hlb
    have hc0:c=0:=by
     rcases Int.lt_or_eq_of_le hc.1 with h | h
     ·exfalso
      have e1:1 * (10:Int) ^ N<=c * 10 ^ N:=Int.mul_le_mul_of_nonneg_right (by omega) (by have:(0:Int) < 10 ^ N:=Int.pow_pos (by decide);omega)
      rw[show ((10:Int) ^ N)=((10 ^ N:Nat):Int) by push_cast;rfl] at e1 hv
      rw[<-Int.natCast_mul] at hv
      omega
     ·exact h.symm
    subst hc0
    refine .inl ⟨(Ex.exit 4,(out,B2 s,0,-1,())),?_,by simp,s,rfl,hs,hsl,?_⟩
    ·rw[<-hds]
     simp (disch:=(first | omega | (simp only[Ai];omega))) only[Je,Ah]
     rfl
    ·rw[Int.zero_mul,Int.add_zero,<-Int.natCast_mul,hva,hvb] at hv;omega
   ·have e:((k:Int) - 1).toNat=k - 1:=by omega
    have hz:=h2.at (by omega) (k - 1)
    obtain ⟨v,hvv⟩:∃ v,v=out.getD (k - 1) 0+c:=⟨_,rfl⟩
    obtain ⟨d,hd1,hd2,hd3⟩:=L5 (k:=v % 10) (by omega)
    refine .inr ⟨k - 1,(out,o.set (k - 1) (48+v % 10),v / 10,(k:Int) - 1 - 1,()),?_,by omega,o.set (k - 1) (48+v % 10),v / 10,d::s,?_,by omega,by simpa using hol,by omega,?_,hs.cons hd2,by simp[hsl];omega,?_⟩
    ·rw[hvv]
     simp (disch:=(first | omega | (simp only[Ai];omega))) only[Je,e,Ah]
    ·rw[show (k:Int) - 1 - 1=((k - 1:Nat):Int) - 1 by omega]
    ·rw[MQ (by omega),show k - 1+1=k by omega,hds,<-hd1];rfl
    ·rw[EF,hsl,Int.natCast_add,Int.natCast_mul,hd3,qY6 (show k - 1 < out.length by omega),Lt,<-Ie (by omega),show k - 1+1=k by omega,<-hv,List.length_drop,show N - (k - 1)=(N - k)+1 by omega,<-hN,Int.pow_succ]
     have:=Int.emod_add_mul_ediv v 10
     push_cast
     grind) N (out,List.replicate ((out.length:Int)).toNat 0,0,(out.length:Int) - 1,()) ⟨_,0,[],by rw[hN],Nat.le_refl _,by simp;omega,by omega,by rw[List.drop_of_length_le (by simp;omega)];rfl,by simp[AN],by simp,by rw[List.drop_of_length_le (by omega)];simp[dval,iv]⟩
 have ht:=EO g1 (fun e=>by rw[e] at g2;simp at g2;omega) (by omega)
 rw[g3] at ht
 have hlen:out.length=a.length+b.length:=h1
 have hw:qI ((out.length:Int) - 1)=(out.length:Int) - 1:=AB
 have hw2:qI ((a.length:Int)+b.length)=(a.length:Int)+b.length:=AB
 unfold Eb
 simp only[hw2]
 rw[hr]
 simp only[Ae,Bh,Az,hw]
 rw[hr2]
 simp (disch:=(first | omega | (simp only[Ai];omega))) only[Kb,ht,Ah]
end Go.AM.Num
end
section
namespace Go.AM.Num
theorem AC2 (a:qBs) (q:List Int) (i:Int) (R B:Nat) (hB:B≠0) (hR:(dd R).length<=100000000) (hlt:R < 10 * B) :
 Am HU (a,dd B,q,dd R,i,48,())=some (Ex.exit 2,(a,dd B,q,dd (R % B),i,48+((R / B:Nat):Int),())):=by
 obtain ⟨r,hr,rfl⟩:=BD (step:=HU) (Q:=fun r=>r=(Ex.exit 2,(a,dd B,q,dd (R % B),i,48+((R / B:Nat):Int),())))
  (fun k x=>∃ S d:Nat,x=(a,dd B,q,dd S,i,48+(d:Int),())/\k=S/\S+d * B=R) (by
   rintro k x ⟨S,d,rfl,rfl,h⟩
   obtain ⟨c,hc,hc1,hc2⟩:=Qd k B
   by_cases hlt':k < B
   ·have hneg:=hc1.2 hlt'
    have hq:R / B=d:=by rw[<-h,Nat.add_mul_div_right _ _ (by omega),Nat.div_eq_of_lt hlt'];omega
    have hm:R % B=k:=by rw[<-h,Nat.add_mul_mod_self_right,Nat.mod_eq_of_lt hlt']
    refine .inl ⟨(Ex.exit 2,(a,dd B,q,dd k,i,48+(d:Int),())),?_,by simp,by rw[hq,hm]⟩
    simp (disch:=(first | omega | (simp only[Ai];omega))) only[HU,hc,Ah]
   ·have hge:c>=0:=by
     rcases Int.lt_or_le c 0 with h' | h'
     ·exact absurd (hc1.1 h') hlt'
     ·exact h'
    have hkl:(dd k).length<=100000000:=Nat.le_trans (Cs (by rw[<-h];omega)) hR
    have hs:=Mp k B hkl (by omega)
    have hd9:d < 9:=by
     have:(d+1) * B<=R:=by rw[Nat.add_mul];omega
     have h2:(d+1) * B < 10 * B:=by omega
     have:=Nat.lt_of_mul_lt_mul_right h2
     omega
    refine .inr ⟨k - B,(a,dd B,q,dd (k - B),i,48+((d+1:Nat):Int),()),?_,by omega,k - B,d+1,rfl,rfl,by rw[Nat.add_mul];omega⟩
    simp (disch:=(first | omega | (simp only[Ai];omega))) only[HU,hc,hs,Ah]
    congr 7) R (a,dd B,q,dd R,i,48,()) ⟨R,0,by simp,rfl,by omega⟩
 exact hr
theorem AF6 {α:Type} {l:List α} {i:Nat} (h:i < l.length) (c:α):(l.set i c).take (i+1)=l.take i++[c]:=by
 rw[List.take_succ_eq_append_getElem (by simpa using h),List.getElem_set_self,List.take_set_of_le (by omega)]
theorem ABN (s:qBs) (d:UInt8):B2 (s++[d])=B2 s++[(d.toNat:Int)]:=by simp[B2]
set_option maxHeartbeats 1000000 in
theorem JA (m n:Nat) (hm:(dd m).length<=10000000) (hn:(dd n).length<=10000000) (h0:n≠0):Ij (dd m) (dd n)=some ((dd (m / n),dd (m % n),()),()):=by
 obtain ⟨a,ha⟩:∃ a,a=dd m:=⟨_,rfl⟩
 have hda:AN a:=ha ▸ BZ m
 have hva:dval a=m:=by rw[ha,B4]
 have hapos:0 < a.length:=by rw[ha];exact HR m
 rw[<-ha]
 rw[<-ha] at hm
 obtain ⟨r,hr,s,rfl,h1,h2,h3⟩:=BD (step:=Jk) (Q:=fun r=>∃ s:qBs,r=(Ex.exit 0,(a,dd n,B2 s,dd (m % n),(a.length:Int),()))/\AN s/\s.length=a.length/\dval s=m / n)
  (fun k x=>∃ (i:Nat) (q:List Int) (R:Nat) (s:qBs),x=(a,dd n,q,dd R,(i:Int),())/\k+i=a.length/\q.length=a.length/\q.take i=B2 s/\AN s/\s.length=i/\R < n/\pfx a i=dval s * n+R) (by
   rintro k x ⟨i,q,R,s,rfl,hk,hql,hqt,hs,hsl,hR,hv⟩
   by_cases hi:i < a.length
   ·have hp:=Ow hi
    have hA:=hda a[i] (List.getElem_mem hi)
    have hcut:(a.take (i+1)).drop i=[a[i]]:=by
     rw[List.take_succ_eq_append_getElem hi]
     have hl:(a.take i).length=i:=by rw[List.length_take];omega
     conv=>lhs;arg 1;rw[<-hl]
     exact List.drop_left
    obtain ⟨A,hAe⟩:∃ A,A=a[i]:=⟨_,rfl⟩
    rw[<-hAe] at hp hA hcut
    have hAl:=N6 hA
    have hRl:(dd R).length<=(dd n).length:=Cs (by omega)
    have htr:=EO (s:=dd R++[A]) ((BZ R).app (fun c hc=>by rw[List.mem_singleton.1 hc];exact hA)) (by simp) (by simp;omega)
    rw[FI,B4] at htr
    obtain ⟨S,hS⟩:∃ S,S=10 * R+dig A:=⟨_,rfl⟩
    rw[<-hS] at htr
    have hSl:(dd S).length<=100000000:=by
     have:S < 10 ^ ((dd n).length+1):=by
      have h1:=Fn n
      rw[Nat.pow_succ];omega
     have:=Gn this (by omega)
     omega
    have hin:=AC2 a q (i:Int) S n h0 hSl (by omega)
    have hd9:S / n<=9:=by
     have:S / n < 10:=Nat.div_lt_of_lt_mul (by omega)
     omega
    obtain ⟨d,hd1,hd2,hd3⟩:=L5 (k:=((S / n:Nat):Int)) ⟨Int.natCast_nonneg _,by exact_mod_cast Nat.lt_succ_of_le hd9⟩
    have e1:((i:Int)+1).toNat=i+1:=by omega
    have e2:((i:Int)).toNat=i:=by omega
    have g:(dd R).length+([A]:qBs).length<=A3:=by rw[GK];simp;omega
    refine .inr ⟨k - 1,(a,dd n,q.set i (48+((S / n:Nat):Int)),dd (S % n),((i+1:Nat):Int),()),?_,by omega,i+1,_,S % n,s++[d],rfl,by omega,by simpa using hql,?_,?_,by simp[hsl],Nat.mod_lt _ (by omega),?_⟩
    ·simp (disch:=(first | omega | (simp only[Ai];omega))) only[Jk,e1,e2,hcut,Ad g,htr,hin,Ah]
     rfl
    ·rw[AF6 (by omega),hqt,ABN,hd1]
    ·exact hs.app (fun c hc=>by rw[List.mem_singleton.1 hc];exact hd2)
    ·rw[FI,hp,hv]
     have h5:dig d=S / n:=by exact_mod_cast hd3
     have h6:=Nat.div_add_mod S n
     rw[h5]
     grind
   ·have hia:i=a.length:=by omega
    subst hia
    rw[List.take_of_length_le (by omega)] at hqt
    have hv':m=dval s * n+R:=by rw[<-hva,<-hv];unfold pfx;rw[List.take_length]
    have hq':m / n=dval s:=by rw[hv',Nat.mul_comm,Nat.mul_add_div (by omega),Nat.div_eq_of_lt hR];omega
    have hm':m % n=R:=by rw[hv',Nat.mul_comm,Nat.mul_add_mod,Nat.mod_eq_of_lt hR]
    refine .inl ⟨(Ex.exit 0,(a,dd n,B2 s,dd (m % n),(a.length:Int),())),?_,by simp,s,rfl,hs,hsl,hq'.symm⟩
    rw[<-hqt,hm']
    simp (disch:=(first | omega | (simp only[Ai];omega))) only[Jk,Ah]) a.length (a,dd n,List.replicate ((a.length:Int)).toNat 0,[48],0,()) ⟨0,_,0,[],by rw[Bt];rfl,by omega,by simp,by simp[B2],by simp[AN],rfl,by omega,by unfold pfx;simp[dval]⟩
 have ht:=EO h1 (fun e=>by rw[e] at h2;simp at h2;omega) (by omega)
 rw[h3] at ht
 unfold Ij
 rw[hr]
 simp (disch:=(first | omega | (simp only[Ai];omega))) only[Kb,ht,Ah]
theorem O1 (m n:Nat) (hm:(dd m).length<=10000000) (hn:(dd n).length<=10000000):Ky (dd m) (dd n)=some ((dd (Nat.gcd m n),()),()):=by
 obtain ⟨r,hr,b,rfl⟩:=BD (step:=Iw) (Q:=fun r=>∃ b,r=(Ex.exit 0,(dd (Nat.gcd m n),b,())))
  (fun k x=>∃ a b:Nat,x=(dd a,dd b,())/\k=b/\Nat.gcd a b=Nat.gcd m n/\(dd a).length<=10000000/\(dd b).length<=10000000) (by
   rintro k x ⟨a,b,rfl,rfl,hg,ha,hb⟩
   by_cases h0:k=0
   ·subst h0
    refine .inl ⟨(Ex.exit 0,(dd a,dd 0,())),?_,by simp,dd 0,by rw[<-hg,Nat.gcd_zero_right]⟩
    simp (disch:=(first | omega | (simp only[Ai];omega))) only[Iw,Bb Bt,Ah]
   ·have hne:dd k≠[48]:=fun e=>h0 (by rw[<-Bt] at e;exact Do e)
    refine .inr ⟨a % k,_,?_,Nat.mod_lt _ (by omega),k,a % k,rfl,rfl,?_,hb,?_⟩
    ·simp (disch:=(first | omega | (simp only[Ai];omega))) only[Iw,A7 hne,JA a k ha hb h0,Ah]
    ·rw[Nat.gcd_comm,<-Nat.gcd_rec,Nat.gcd_comm,hg]
    ·exact Nat.le_trans (Cs (Nat.le_of_lt (Nat.mod_lt _ (by omega)))) hb) n _ ⟨m,n,rfl,rfl,rfl,hm,hn⟩
 unfold Ky
 rw[hr]
 simp (disch:=(first | omega | (simp only[Ai];omega))) only[Ah]
end Go.AM.Num
end
section
namespace Go.AM.Num
theorem Fr (m:Nat):(dd m==[48])=decide (m=0):=by
 by_cases h:m=0
 ·subst h;rw[qZ10 rfl];exact Bb Bt
 ·rw[qZ9 h];exact A7 (fun e=>h (by rw[<-Bt] at e;exact Do e))
theorem Qz (m:Nat):(dd m==[49])=decide (m=1):=by
 by_cases h:m=1
 ·subst h;rw[qZ10 rfl];exact Bb Ee
 ·rw[qZ9 h];exact A7 (fun e=>h (by rw[<-Ee] at e;exact Do e))
def rr (neg:Bool) (m d:Nat):Bool×qBs×qBs:=(neg&&decide (m≠0),dd m,dd d)
theorem Sv (neg:Bool) (m d:Nat) (hm:(dd m).length<=100000000) (hd:(dd d).length<=100000000):Cw ((rr neg m d).1,(rr neg m d).2.1,(rr neg m d).2.2)=some ((tx neg m d,()),()):=by
 have h1:([45]:qBs).length+(dd m).length<=A3:=by rw[GK];simp;omega
 have h2:([47]:qBs).length+(dd d).length<=A3:=by rw[GK];simp;omega
 have h3:(([45]:qBs)++dd m).length+(([47]:qBs)++dd d).length<=A3:=by rw[GK];simp;omega
 have h4:(dd m).length+(([47]:qBs)++dd d).length<=A3:=by rw[GK];simp;omega
 have h5:=Qz d
 unfold Cw tx rr
 dsimp only
 by_cases hn:neg=true/\m≠0
 ·have e:(neg&&decide (m≠0))=true:=by rw[hn.1,qZ10 hn.2];rfl
  rw[e,if_pos hn]
  by_cases h:d=1
  ·rw[qZ10 h] at h5
   simp (disch:=(first | omega | (simp only[Ai];omega))) only[h5,Ad h1,Ah]
   rw[if_pos h];simp
  ·rw[qZ9 h] at h5
   simp (disch:=(first | omega | (simp only[Ai];omega))) only[h5,Ad h1,Ad h2,Ad h3,Ah]
   rw[if_neg h];rfl
 ·have e:(neg&&decide (m≠0))=false:=by
   cases neg with
   |false=>rfl
   |true=>
    have:m=0:=by simpa using hn
    subst this;rfl
  rw[e,if_neg hn]
  by_cases h:d=1
  ·rw[qZ10 h] at h5
   simp (disch:=(first | omega | (simp only[Ai];omega))) only[h5,Ah]
   rw[if_pos h];simp
  ·rw[qZ9 h] at h5
   simp (disch:=(first | omega | (simp only[Ai];omega))) only[h5,Ad h2,Ad h4,Ah]
   rw[if_neg h];rfl
theorem AG8 (neg:Bool) (m d:Nat) (hd:d≠0) (hm:(dd m).length<=10000000) (hdl:(dd d).length<=10000000) :
 C_ neg (dd m) (dd d)=some ((rr neg (m / Nat.gcd m d) (d / Nat.gcd m d),()),()):=by
 have hg0:Nat.gcd m d≠0:=fun e=>hd (Nat.gcd_eq_zero_iff.1 e).2
 have hgl:(dd (Nat.gcd m d)).length<=10000000:=Nat.le_trans (Cs (Nat.le_of_dvd (by omega) (Nat.gcd_dvd_right m d))) hdl
 have hz:=Fr (m / Nat.gcd m d)
 unfold C_ rr
 cases neg with
 |false=>
  simp (disch:=(first | omega | (simp only[Ai];omega))) only[O1 m d hm hdl,JA m _ hm hgl hg0,JA d _ hdl hgl hg0,Ah]
  rfl
 |true=>
  simp (disch:=(first | omega | (simp only[Ai];omega))) only[O1 m d hm hdl,JA m _ hm hgl hg0,JA d _ hdl hgl hg0,hz,Ah]
  simp only[Bool.true_and,ne_eq,decide_not]
theorem Nz (neg:Bool) (m d:Nat) (hd:d≠0) (hm:(dd m).length<=10000000) (hdl:(dd d).length<=10000000) :
 ∃ r,C_ neg (dd m) (dd d)=some ((r,()),())/\Cw (r.1,r.2.1,r.2.2)=some ((Ay (mkRat (sg neg m) d),()),()):=by
 refine ⟨_,AG8 neg m d hd hm hdl,?_⟩
 rw[Sv neg _ _ (Nat.le_trans (Cs (Nat.div_le_self _ _)) (by omega)) (Nat.le_trans (Cs (Nat.div_le_self _ _)) (by omega)),TB neg m d hd]
def bad:Bool×qBs×qBs:=(false,[],[])
noncomputable def Hz (a:qBs) (neg:Bool) (num den:qBs):Option (((Bool×qBs×qBs)×Bool×Unit)×Unit):=
 (DU num).bind fun r2=>
 cond (!r2.1.1)
 (some (((false,([]:qBs),([]:qBs)),false,()),()))
 ((DU den).bind fun r3=>
 cond (!r3.1.1)
 (some (((false,([]:qBs),([]:qBs)),false,()),()))
 (cond (den==([48]:qBs))
 (some (((false,([]:qBs),([]:qBs)),false,()),()))
 ((CX num).bind fun r4=>
 cond (!(r4.1.1==num))
 (some (((false,([]:qBs),([]:qBs)),false,()),()))
 ((CX den).bind fun r5=>
 cond (!(r5.1.1==den))
 (some (((false,([]:qBs),([]:qBs)),false,()),()))
 ((C_ neg num den).bind fun r6=>
 (Cw (r6.1.1.1,r6.1.1.2.1,r6.1.1.2.2)).bind fun r7=>
 cond (!(r7.1.1==a))
 (some (((false,([]:qBs),([]:qBs)),false,()),()))
 (some (((neg,num,den),true,()),())))))))
theorem TH (m:Nat):FM (dd m):=⟨Fe m,BZ m⟩
theorem Zx {a:qBs} {neg:Bool} {m d:Nat} (hd:d≠0) (hm:(dd m).length<=10000000) (hdl:(dd d).length<=10000000) (ha:a=Ay (mkRat (sg neg m) d)) :
 Hz a neg (dd m) (dd d)=some (((neg,dd m,dd d),true,()),()):=by
 obtain ⟨r,h1,h2⟩:=Nz neg m d hd hm hdl
 have t1:=EO (BZ m) (Fe m) (by omega)
 have t2:=EO (BZ d) (Fe d) (by omega)
 rw[B4] at t1 t2
 have z:=Fr d
 rw[qZ9 hd] at z
 unfold Hz
 simp (disch:=(first | omega | (simp only[Ai];omega))) only[K9 (s:=dd m) (by omega),K9 (s:=dd d) (by omega),qZ10 (TH m),qZ10 (TH d),z,t1,t2,Bb (rfl:dd m=dd m),Bb (rfl:dd d=dd d),h1,h2,Bb ha.symm,Ah]
theorem AE1 {a num den:qBs} {neg:Bool} (hn:num.length<=1000000) (hdl:den.length<=1000000) :
 (∃ m d,num=dd m/\den=dd d/\d≠0/\a=Ay (mkRat (sg neg m) d)/\Hz a neg num den=some (((neg,num,den),true,()),()))\/
 (Hz a neg num den=some ((bad,false,()),())/\¬ ∃ m d,num=dd m/\den=dd d/\d≠0/\a=Ay (mkRat (sg neg m) d)):=by
 by_cases hex:∃ m d,num=dd m/\den=dd d/\d≠0/\a=Ay (mkRat (sg neg m) d)
 ·obtain ⟨m,d,rfl,rfl,hd,ha⟩:=hex
  exact .inl ⟨m,d,rfl,rfl,hd,ha,Zx hd (by omega) (by omega) ha⟩
 ·refine .inr ⟨?_,hex⟩
  have d1:=K9 (s:=num) (by omega)
  have d2:=K9 (s:=den) (by omega)
  unfold Hz bad
  by_cases f1:FM num
  ·by_cases f2:FM den
   ·have t1:=EO f1.2 f1.1 (by omega)
    have t2:=EO f2.2 f2.1 (by omega)
    by_cases z:den=[48]
    ·simp (disch:=(first | omega | (simp only[Ai];omega))) only[d1,d2,qZ10 f1,qZ10 f2,Bb z,Ah]
    ·by_cases e1:dd (dval num)=num
     ·by_cases e2:dd (dval den)=den
      ·have hd:dval den≠0:=fun e=>z (by rw[<-e2,e,Bt])
       obtain ⟨r,g1,g2⟩:=Nz neg (dval num) (dval den) hd (by rw[e1];omega) (by rw[e2];omega)
       rw[e1,e2] at g1
       have hna:Ay (mkRat (sg neg (dval num)) (dval den))≠a:=fun e=>hex ⟨_,_,e1.symm,e2.symm,hd,e.symm⟩
       simp (disch:=(first | omega | (simp only[Ai];omega))) only[d1,d2,qZ10 f1,qZ10 f2,A7 z,t1,t2,Bb e1,Bb e2,g1,g2,A7 hna,Ah]
      ·simp (disch:=(first | omega | (simp only[Ai];omega))) only[d1,d2,qZ10 f1,qZ10 f2,A7 z,t1,t2,Bb e1,A7 e2,Ah]
     ·simp (disch:=(first | omega | (simp only[Ai];omega))) only[d1,d2,qZ10 f1,qZ10 f2,A7 z,t1,A7 e1,Ah]
   ·simp (disch:=(first | omega | (simp only[Ai];omega))) only[d1,d2,qZ10 f1,qZ9 f2,Ah]
  ·simp (disch:=(first | omega | (simp only[Ai];omega))) only[d1,qZ9 f1,Ah]
theorem Ns (a s:qBs) (t2:Bool×qBs×qBs) (neg:Bool) (hl:s.length<=1000000000) :
 ∃ num den i,Am ES (a,t2,(neg,[],[49]),s,0,())=some (Ex.exit 0,(a,t2,(neg,[],den),num,i,()))/\
  ((s=num/\den=[49]/\(47:UInt8)∉s)\/(s=num++47::den/\(47:UInt8)∉num)):=by
 obtain ⟨r,hr,num,den,i,rfl,hq⟩:=BD (step:=ES) (Q:=fun r=>∃ num den i,r=(Ex.exit 0,(a,t2,(neg,[],den),num,i,()))/\((s=num/\den=[49]/\(47:UInt8)∉s)\/(s=num++47::den/\(47:UInt8)∉num)))
  (fun m x=>∃ k:Nat,m+k=s.length/\x=(a,t2,(neg,[],[49]),s,(k:Int),())/\(47:UInt8)∉s.take k) (by
   rintro m x ⟨k,hm,rfl,hk⟩
   by_cases h:k < s.length
   ·have hg:=Fu h
    have e:(k:Int).toNat=k:=by omega
    have e1:((k:Int)+1).toNat=k+1:=by omega
    by_cases h47:s[k]=47
    ·have hc:((s[k].toNat:Nat):Int)=47:=by rw[h47];rfl
     refine .inl ⟨(Ex.exit 0,(a,t2,(neg,[],s.drop (k+1)),s.take k,(k:Int),())),?_,by simp,s.take k,s.drop (k+1),(k:Int),rfl,.inr ⟨?_,hk⟩⟩
     ·simp (disch:=(first | omega | (simp only[Ai];omega))) only[ES,e,e1,hg,hc,Ah]
     ·conv=>lhs;rw[<-List.take_append_drop k s,qY6 h,h47]
    ·have hc:((s[k].toNat:Nat):Int)≠47:=fun e=>h47 (UInt8.toNat_inj.1 (by show s[k].toNat=47;omega))
     refine .inr ⟨m - 1,(a,t2,(neg,[],[49]),s,((k+1:Nat):Int),()),?_,by omega,k+1,by omega,rfl,?_⟩
     ·simp (disch:=(first | omega | (simp only[Ai];omega))) only[ES,e,hg,Aj hc,Ah]
      rfl
     ·rw[List.take_succ_eq_append_getElem h]
      intro hm'
      rcases List.mem_append.1 hm' with hm' | hm'
      ·exact hk hm'
      ·exact h47 (List.mem_singleton.1 hm').symm
   ·have hks:k=s.length:=by omega
    subst hks
    refine .inl ⟨(Ex.exit 0,(a,t2,(neg,[],[49]),s,(s.length:Int),())),?_,by simp,s,[49],_,rfl,.inl ⟨rfl,rfl,by simpa using hk⟩⟩
    simp (disch:=(first | omega | (simp only[Ai];omega))) only[ES,Ah]) s.length _ ⟨0,by omega,rfl,by simp⟩
 exact ⟨num,den,i,hr,hq⟩
theorem WA (a:qBs) (hl:a.length<=1000000000):∃ neg s num den,a=GG neg++s/\(neg=false->∀ r,s≠45::r)/\((s=num/\den=[49]/\(47:UInt8)∉s)\/(s=num++47::den/\(47:UInt8)∉num))/\Co a=Hz a neg num den:=by
 have h00:((0:Int)).toNat=0:=rfl
 have h11:((1:Int)).toNat=1:=rfl
 by_cases h0:a=[]
 ·subst h0
  obtain ⟨num,den,i,hs,hq⟩:=Ns [] [] (false,[],[]) false (by simp)
  refine ⟨false,[],num,den,rfl,fun _ r=>by simp,hq,?_⟩
  unfold Co
  simp (disch:=(first | omega | (simp only[Ai];omega))) only[hs,Ah]
  rfl
 ·cases a with
  |nil=>exact absurd rfl h0
  |cons c s=>
   have hne:=A7 h0
   have hg:(c::s:qBs).getD 0 0=c:=rfl
   have hlen:(c::s).length=s.length+1:=rfl
   by_cases hc:c=45
   ·subst hc
    obtain ⟨num,den,i,hs,hq⟩:=Ns (45::s) s (false,[],[]) true (by omega)
    have h45:(((45:UInt8).toNat:Nat):Int)=45:=rfl
    refine ⟨true,s,num,den,rfl,(fun h=>by cases h),hq,?_⟩
    have hdrop:(45::s:qBs).drop 1=s:=rfl
    unfold Co
    simp (disch:=(first | omega | (simp only[Ai];omega))) only[hne,h00,hg,h45,h11,hdrop,hs,Ah]
    rfl
   ·have hcn:((c.toNat:Nat):Int)≠45:=fun e=>hc (UInt8.toNat_inj.1 (by show c.toNat=45;omega))
    obtain ⟨num,den,i,hs,hq⟩:=Ns (c::s) (c::s) (false,[],[]) false (by omega)
    refine ⟨false,c::s,num,den,rfl,fun _ r h=>hc (by simpa using (List.cons.inj h).1),hq,?_⟩
    unfold Co
    simp (disch:=(first | omega | (simp only[Ai];omega))) only[hne,h00,hg,Aj hcn,hs,Ah]
    rfl
theorem AAa (a:qBs) (hl:a.length<=1000000) :
 (∃ q,a=Ay q/\Co a=some (((decide (q.num < 0),dd q.num.natAbs,dd q.den),true,()),()))\/(Co a=some ((bad,false,()),())/\rd a=none):=by
 obtain ⟨neg,s,num,den,ha,hs,hq,hp⟩:=WA a (by omega)
 have hsl:s.length<=1000000:=by rw[ha,qZ6] at hl;omega
 have hnl:num.length<=1000000/\den.length<=1000000:=by
  rcases hq with ⟨rfl,rfl,_⟩ | ⟨rfl,_⟩
  ·exact ⟨hsl,by simp⟩
  ·rw[qZ6,qY11] at hsl;exact ⟨by omega,by omega⟩
 have shp:∀ q,a=Ay q->neg=decide (q.num < 0)/\num=dd q.num.natAbs/\den=dd q.den:=by
  intro q h
  obtain ⟨e1,e2⟩:=Ku hs (ha ▸ h)
  refine ⟨e1,?_⟩
  rcases hq with ⟨rfl,rfl,hx⟩ | ⟨rfl,hx⟩
  ·by_cases hd:q.den=1
   ·rw[if_pos hd,qY4] at e2
    exact ⟨e2,by rw[hd,Ee]⟩
   ·rw[if_neg hd] at e2
    exact absurd (by rw[e2];simp) hx
  ·by_cases hd:q.den=1
   ·rw[if_pos hd,qY4] at e2
    exact absurd (show (47:UInt8)∈dd q.num.natAbs by rw[<-e2];simp) Fl
   ·rw[if_neg hd] at e2
    exact Nt hx Fl e2
 rw[hp]
 rcases AE1 (a:=a) (neg:=neg) hnl.1 hnl.2 with ⟨m,d,rfl,rfl,hd,hat,hg⟩ | ⟨hg,hno⟩
 ·obtain ⟨e1,e2,e3⟩:=shp _ hat
  refine .inl ⟨_,hat,?_⟩
  rw[hg,<-e1,<-e2,<-e3]
 ·refine .inr ⟨hg,Oj fun q h=>hno ?_⟩
  obtain ⟨e1,e2,e3⟩:=shp q h
  refine ⟨q.num.natAbs,q.den,e2,e3,q.den_nz,?_⟩
  rw[e1,I0,Rat.mkRat_self];exact h
end Go.AM.Num
end
section
namespace Go.AM.Num
theorem rp (a:qBs) (hl:a.length<=1000000) :
 (∃ q,a=Ay q/\rd a=some q/\D q<=1000001/\Co a=some (((decide (q.num < 0),dd q.num.natAbs,dd q.den),true,()),()))\/(rd a=none/\Co a=some ((bad,false,()),())):=by
 rcases AAa a hl with ⟨q,rfl,h⟩ | ⟨h1,h2⟩
 ·exact .inl ⟨q,rfl,Df q,ACm hl,h⟩
 ·exact .inr ⟨h2,h1⟩
theorem KF {a:qBs} (ha:a.length<=1000000):DD a=some (((rd a).isSome,()),()):=by
 unfold DD
 rcases rp a ha with ⟨q,e,hr,_,hp⟩ | ⟨hr,hp⟩
 ·rw[hr];simp (disch:=(first | omega | (simp only[Ai];omega))) only[hp,Ah];rfl
 ·rw[hr];simp (disch:=(first | omega | (simp only[Ai];omega))) only[hp,Ah];rfl
theorem HI {a:qBs} (ha:a.length<=1000000):B_ a=some ((Bc a,()),()):=by
 unfold B_ Bc
 rcases rp a ha with ⟨q,e,hr,_,hp⟩ | ⟨hr,hp⟩
 ·rw[hr]
  simp (disch:=(first | omega | (simp only[Ai];omega))) only[hp,Qz,Ah]
  rfl
 ·rw[hr];simp (disch:=(first | omega | (simp only[Ai];omega))) only[hp,Ah]
theorem Te {a:qBs} (ha:a.length<=1000000):Hr a=some ((E0 a,()),()):=by
 unfold Hr E0
 rcases rp a ha with ⟨q,e,hr,_,hp⟩ | ⟨hr,hp⟩
 ·rw[hr]
  rcases Int.lt_trichotomy q.num 0 with h | h | h
  ·simp (disch:=(first | omega | (simp only[Ai];omega))) only[hp,Fr,qZ9 (show ¬ q.num.natAbs=0 by omega),qZ10 h,Ah]
   rw[Int.sign_eq_neg_one_of_neg h]
  ·simp (disch:=(first | omega | (simp only[Ai];omega))) only[hp,Fr,qZ10 (show q.num.natAbs=0 by omega),Ah]
   rw[h];rfl
  ·simp (disch:=(first | omega | (simp only[Ai];omega))) only[hp,Fr,qZ9 (show ¬ q.num.natAbs=0 by omega),qZ9 (show ¬ q.num < 0 by omega),Ah]
   rw[Int.sign_eq_one_of_pos h]
 ·rw[hr];simp (disch:=(first | omega | (simp only[Ai];omega))) only[hp,Ah]
theorem Qh (neg:Bool) (q:Rat) (h:D q<=1000001):Cw (neg&&decide (q.num.natAbs≠0),dd q.num.natAbs,dd q.den)=some ((tx neg q.num.natAbs q.den,()),()):=
 Sv neg _ _ (by have:=Gv q;omega) (by have:=GU q;omega)
theorem SN (q:Rat):tx (!decide (q.num < 0)) q.num.natAbs q.den=Ay (-q):=by
 unfold tx Ay
 rw[Rat.neg_num,Rat.neg_den,Int.natAbs_neg]
 have:((!decide (q.num < 0))=true/\q.num.natAbs≠0) ↔ -q.num < 0:=by
  constructor
  ·rintro ⟨h1,h2⟩
   have:¬ q.num < 0:=by simpa using h1
   omega
  ·intro h;exact ⟨by rw[qZ9 (by omega)];rfl,by omega⟩
 simp only[this]
theorem ADV {a:qBs} (ha:a.length<=1000000):K8 a=some ((un (fun q=>Ay (-q)) a,()),()):=by
 unfold K8
 rcases rp a ha with ⟨q,e,hr,hD,hp⟩ | ⟨hr,hp⟩
 ·rw[e] at hp ⊢
  rw[WX]
  by_cases h:q.num < 0
  ·have ht:=Qh false q hD
   have e1:=SN q
   rw[qZ10 h] at e1
   simp only[qY2] at e1
   rw[e1] at ht
   simp (disch:=(first | omega | (simp only[Ai];omega))) only[hp,qZ10 h,Ah]
   simp only[Bool.false_and] at ht
   rw[ht];rfl
  ·have ht:=Qh true q hD
   have e1:=SN q
   rw[qZ9 h] at e1
   simp only[qY1] at e1
   rw[e1] at ht
   have e2:(!(dd q.num.natAbs==[48]))=(true&&decide (q.num.natAbs≠0)):=by rw[Fr];simp
   rw[<-e2] at ht
   simp (disch:=(first | omega | (simp only[Ai];omega))) only[hp,qZ9 h,Ah]
   rw[ht];rfl
 ·rw[ACj hr];simp (disch:=(first | omega | (simp only[Ai];omega))) only[hp,Ah]
theorem Jh (neg:Bool) (m d:Nat) (hd:d≠0) (hm:(dd m).length<=10000000) (hdl:(dd d).length<=10000000) {ρ:Type} (K:qBs->Option ρ) :
 (C_ neg (dd m) (dd d)).bind (fun r5=>(Cw (r5.1.1.1,r5.1.1.2.1,r5.1.1.2.2)).bind fun r6=>K r6.1.1)=K (Ay (mkRat (sg neg m) d)):=by
 obtain ⟨r,h1,h2⟩:=Nz neg m d hd hm hdl
 rw[h1,Ae]
 show (Cw (r.1,r.2.1,r.2.2)).bind _=_
 rw[h2];rfl
theorem ZM {a b:qBs} (ha:a.length<=900000) (hb:b.length<=900000):LJ a b=some ((CA (fun p q=>Ay (p+q)) a b,()),()):=by
 unfold LJ
 rcases rp a (by omega) with ⟨p,rfl,hr1,hD1,hp1⟩ | ⟨hr1,hp1⟩
 ·rcases rp b (by omega) with ⟨q,rfl,hr2,hD2,hp2⟩ | ⟨hr2,hp2⟩
  ·rw[Jd,WO]
   have a1:=Gv p
   have a2:=GU p
   have a3:=Gv q
   have a4:=GU q
   have b1:=CF p.num.natAbs q.den
   have b2:=CF q.num.natAbs p.den
   have b3:=CF p.den q.den
   have b4:=My (p.num.natAbs * q.den) (q.num.natAbs * p.den)
   have b5:=Cs (Nat.sub_le (p.num.natAbs * q.den) (q.num.natAbs * p.den))
   have b6:=Cs (Nat.sub_le (q.num.natAbs * p.den) (p.num.natAbs * q.den))
   have m1:=Gp p.num.natAbs q.den (by omega) (by omega)
   have m2:=Gp q.num.natAbs p.den (by omega) (by omega)
   have m3:=Gp p.den q.den (by omega) (by omega)
   have hd0:p.den * q.den≠0:=Nat.mul_ne_zero p.den_nz q.den_nz
   obtain ⟨x,hx⟩:∃ x,x=p.num.natAbs * q.den:=⟨_,rfl⟩
   obtain ⟨y,hy⟩:∃ y,y=q.num.natAbs * p.den:=⟨_,rfl⟩
   rw[<-hx] at b1 b4 b5 b6 m1 ⊢
   rw[<-hy] at b2 b4 b5 b6 m2 ⊢
   obtain ⟨n1,hn1⟩:∃ n,n=decide (p.num < 0):=⟨_,rfl⟩
   obtain ⟨n2,hn2⟩:∃ n,n=decide (q.num < 0):=⟨_,rfl⟩
   rw[<-hn1] at hp1 ⊢
   rw[<-hn2] at hp2 ⊢
   by_cases hs:n1=n2
   ·subst hs
    have e:sg n1 x+sg n1 y=sg n1 (x+y):=by cases n1<;>simp[sg];omega
    rw[e]
    simp (disch:=(first | omega | (simp only[Ai];omega))) only[hp1,hp2,m1,m2,m3,beq_self_eq_true,Wl x y (by omega) (by omega),Ah]
    exact Jh n1 (x+y) (p.den * q.den) hd0 (by omega) (by omega) (fun t=>some ((t,()),()))
   ·have hsb:(n1==n2)=false:=by simpa using hs
    obtain ⟨c,hc,hc1,hc2⟩:=Qd x y
    by_cases hle:y<=x
    ·have hc0:c>=0:=by
      rcases Int.lt_or_le c 0 with h | h
      ·have:=hc1.1 h;omega
      ·exact h
     have e:sg n1 x+sg n2 y=sg n1 (x - y):=by cases n1<;>cases n2<;>simp_all [sg]<;>omega
     rw[e]
     simp (disch:=(first | omega | (simp only[Ai];omega))) only[hp1,hp2,m1,m2,m3,hsb,hc,Mp x y (by omega) hle,Ah]
     exact Jh n1 (x - y) (p.den * q.den) hd0 (by omega) (by omega) (fun t=>some ((t,()),()))
    ·have hc0:¬ c>=0:=by have:=hc1.2 (by omega);omega
     have e:sg n1 x+sg n2 y=sg n2 (y - x):=by cases n1<;>cases n2<;>simp_all [sg]<;>omega
     rw[e]
     simp (disch:=(first | omega | (simp only[Ai];omega))) only[hp1,hp2,m1,m2,m3,hsb,hc,Mp y x (by omega) (by omega),Ah]
     exact Jh n2 (y - x) (p.den * q.den) hd0 (by omega) (by omega) (fun t=>some ((t,()),()))
  ·rw[Iy hr2];simp (disch:=(first | omega | (simp only[Ai];omega))) only[hp1,hp2,Ah]
 ·rcases rp b (by omega) with ⟨q,rfl,hr2,hD2,hp2⟩ | ⟨hr2,hp2⟩<;>(rw[OL hr1];simp (disch:=(first | omega | (simp only[Ai];omega))) only[hp1,hp2,Ah])
theorem AG0 {a b:qBs} (ha:a.length<=900000) (hb:b.length<=900000):KG a b=some ((CA (fun p q=>Ay (p * q)) a b,()),()):=by
 unfold KG
 rcases rp a (by omega) with ⟨p,rfl,hr1,hD1,hp1⟩ | ⟨hr1,hp1⟩
 ·rcases rp b (by omega) with ⟨q,rfl,hr2,hD2,hp2⟩ | ⟨hr2,hp2⟩
  ·rw[Jd,Rat.mul_def']
   have a1:=Gv p
   have a2:=GU p
   have a3:=Gv q
   have a4:=GU q
   have b1:=CF p.num.natAbs q.num.natAbs
   have b3:=CF p.den q.den
   have m1:=Gp p.num.natAbs q.num.natAbs (by omega) (by omega)
   have m3:=Gp p.den q.den (by omega) (by omega)
   have e:p.num * q.num=sg (decide (p.num < 0) !=decide (q.num < 0)) (p.num.natAbs * q.num.natAbs):=by rw[<-Lj,I0,I0]
   rw[e]
   simp (disch:=(first | omega | (simp only[Ai];omega))) only[hp1,hp2,m1,m3,Ah]
   exact Jh _ (p.num.natAbs * q.num.natAbs) (p.den * q.den) (Nat.mul_ne_zero p.den_nz q.den_nz) (by omega) (by omega) (fun t=>some ((t,()),()))
  ·rw[Iy hr2];simp (disch:=(first | omega | (simp only[Ai];omega))) only[hp1,hp2,Ah]
 ·rcases rp b (by omega) with ⟨q,rfl,hr2,hD2,hp2⟩ | ⟨hr2,hp2⟩<;>(rw[OL hr1];simp (disch:=(first | omega | (simp only[Ai];omega))) only[hp1,hp2,Ah])
theorem AGZ {a b:qBs} (ha:a.length<=900000) (hb:b.length<=900000):Kc a b=some ((CA Ob a b,()),()):=by
 unfold Kc
 rcases rp a (by omega) with ⟨p,rfl,hr1,hD1,hp1⟩ | ⟨hr1,hp1⟩
 ·rcases rp b (by omega) with ⟨q,rfl,hr2,hD2,hp2⟩ | ⟨hr2,hp2⟩
  ·rw[Jd]
   unfold Ob
   by_cases hq:q=0
   ·have hn:q.num.natAbs=0:=by rw[hq];rfl
    rw[if_pos hq]
    simp (disch:=(first | omega | (simp only[Ai];omega))) only[hp1,hp2,Fr,qZ10 hn,Ah]
   ·have hn:q.num.natAbs≠0:=fun e=>hq (Rat.num_eq_zero.1 (by omega))
    rw[if_neg hq,Rat.div_def,Xg q hq]
    have a1:=Gv p
    have a2:=GU p
    have a3:=Gv q
    have a4:=GU q
    have b1:=CF p.num.natAbs q.den
    have b3:=CF p.den q.num.natAbs
    have m1:=Gp p.num.natAbs q.den (by omega) (by omega)
    have m3:=Gp p.den q.num.natAbs (by omega) (by omega)
    have e:p * mkRat (sg (decide (q.num < 0)) q.den) q.num.natAbs=mkRat (sg (decide (p.num < 0) !=decide (q.num < 0)) (p.num.natAbs * q.den)) (p.den * q.num.natAbs):=by
     rw[<-Lj,<-Rat.mkRat_mul_mkRat,I0,Rat.mkRat_self]
    rw[e]
    simp (disch:=(first | omega | (simp only[Ai];omega))) only[hp1,hp2,Fr,qZ9 hn,m1,m3,Ah]
    exact Jh _ (p.num.natAbs * q.den) (p.den * q.num.natAbs) (Nat.mul_ne_zero p.den_nz hn) (by omega) (by omega) (fun t=>some ((t,()),()))
  ·rw[Iy hr2];simp (disch:=(first | omega | (simp only[Ai];omega))) only[hp1,hp2,Ah]
 ·rcases rp b (by omega) with ⟨q,rfl,hr2,hD2,hp2⟩ | ⟨hr2,hp2⟩<;>(rw[OL hr1];simp (disch:=(first | omega | (simp only[Ai];omega))) only[hp1,hp2,Ah])
theorem X6 {a b:qBs} (ha:a.length<=200000) (hb:b.length<=200000):KC a b=some ((CA (fun p q=>Ay (p - q)) a b,()),()):=by
 unfold KC
 rw[ADV (by omega),Ae]
 dsimp only
 rw[ZM (by omega) (by have:=X5 hb;omega),Ae,AGN]
theorem Qs {a b:qBs} (ha:a.length<=200000) (hb:b.length<=200000):Ew a b=some ((Dt a b,()),()):=by
 have hl:=ZY (f:=fun p q=>p - q) (fun p q=>by rw[Rat.sub_eq_add_neg];have:=ACD p (-q);rw[PA] at this;exact this) ha hb
 unfold Ew
 have v1:=KF (a:=a) (by omega)
 have v2:=KF (a:=b) (by omega)
 cases hr1:rd a with
 |none=>
  have e:Dt a b=0:=by unfold Dt;rw[hr1]
  rw[hr1] at v1
  rw[e];simp (disch:=(first | omega | (simp only[Ai];omega))) only[v1,Option.isSome_none,Ah]
 |some p=>
  rw[hr1] at v1
  cases hr2:rd b with
  |none=>
   have e:Dt a b=0:=by unfold Dt;rw[hr1,hr2]
   rw[hr2] at v2
   rw[e];simp (disch:=(first | omega | (simp only[Ai];omega))) only[v1,v2,Option.isSome_some,Option.isSome_none,Ah]
  |some q=>
   rw[hr2] at v2
   simp (disch:=(first | omega | (simp only[Ai];omega))) only[v1,v2,Option.isSome_some,X6 (a:=a) (b:=b) (by omega) (by omega),Ah]
   rw[Te (by omega),Ae,Yz]
end Go.AM.Num
end
section
namespace Go.AM.Num
theorem ACE (x:Int):0<=qU x/\qU x<=18446744073709551615:=by
 show 0<=IntKind.wrap .u64 x/\IntKind.wrap .u64 x<=18446744073709551615
 simp[IntKind.wrap,IntKind.bits,IntKind.signed];omega
theorem PJ (v:Int):(v.tmod 10=if v < 0 then -((v.natAbs % 10:Nat):Int) else ((v.natAbs % 10:Nat):Int))/\(v.tdiv 10=if v < 0 then -((v.natAbs / 10:Nat):Int) else ((v.natAbs / 10:Nat):Int)):=by
 by_cases h:v < 0
 ·obtain ⟨u,hu⟩:∃ u:Nat,v=-(u:Int):=⟨v.natAbs,by omega⟩
  rw[if_pos h,if_pos h,hu,Int.neg_tmod,Int.neg_tdiv,tm (by omega),td (by omega)]
  constructor<;>omega
 ·rw[if_neg h,if_neg h,tm (by omega),td (by omega)]
  constructor<;>omega
theorem ABq (n v:Int) (s:qBs) (hv:-9223372036854775808<=v/\v<=9223372036854775807) (hs:s.length<=1000) (h:v≠0\/s=[]) :
 Hg (n,s,v,())=some (.normal,(n,UInt8.ofNat (48+v.natAbs % 10)::s,v.tdiv 10,())):=by
 obtain ⟨h1,h2⟩:=PJ v
 have e3:qI (v.tdiv 10)=v.tdiv 10:=AB (by rw[h2];split<;>omega)
 have e1:v.tmod 10 < 0->IntKind.u8.wrap (qI ((48:Int)+qI (0 - v.tmod 10)))=((48+v.natAbs % 10:Nat):Int):=by
  intro hn
  rw[h1] at hn ⊢
  split at hn
  ·rename_i hv0
   rw[if_pos hv0,show (0:Int) - -((v.natAbs % 10:Nat):Int)=((v.natAbs % 10:Nat):Int) by omega,AB (x:=((v.natAbs % 10:Nat):Int)) (by omega),AB,I5 (by omega)];omega
  ·omega
 have e2:¬ v.tmod 10 < 0->IntKind.u8.wrap (qI ((48:Int)+v.tmod 10))=((48+v.natAbs % 10:Nat):Int):=by
  intro hn
  rw[h1] at hn ⊢
  split at hn
  ·rename_i hv0
   rw[if_pos hv0,AB,I5 (by omega)];omega
  ·rename_i hv0
   rw[if_neg hv0,AB,I5 (by omega)];omega
 have e4:([((48+v.natAbs % 10:Nat):Int)]:List Int).map (fun n=>UInt8.ofNat n.toNat)=[UInt8.ofNat (48+v.natAbs % 10)]:=rfl
 have e5:([UInt8.ofNat (48+v.natAbs % 10)]:qBs).length+s.length<=A3:=by rw[GK];simp;omega
 simp only[Hg]
 by_cases h0:v=0
 ·rcases h with h | h
  ·exact absurd h0 h
  ·rw[BX h0,Bb h,Az,Eg (by decide)]
   by_cases hn:v.tmod 10 < 0
   ·rw[Aw hn,e1 hn,e4,Ad e5,Eg (by decide),e3];rfl
   ·rw[AC hn,e2 hn,e4,Ad e5,Eg (by decide),e3];rfl
 ·rw[B5 h0,Eg (by decide)]
  by_cases hn:v.tmod 10 < 0
  ·rw[Aw hn,e1 hn,e4,Ad e5,Eg (by decide),e3];rfl
  ·rw[AC hn,e2 hn,e4,Ad e5,Eg (by decide),e3];rfl
theorem AGX (v:Nat) (s:qBs) (h:v / 10≠0):dd (v / 10)++UInt8.ofNat (48+v % 10)::s=dd v++s:=by
 rw[Gr (n:=v) (by omega)];simp
theorem Gl {n:Int} (h:Du n):Da n=some ((Ay (n:Rat),()),()):=by
 have hn:-9223372036854775808<=n/\n<=9223372036854775807:=h
 have hl:(dd n.natAbs).length<=20:=Gn (by have h9:n.natAbs<=9223372036854775808:=(by omega);omega) (by decide)
 obtain ⟨r,hr,v,rfl⟩:=BD (step:=Hg) (Q:=fun r=>∃ v,r=(Ex.exit 0,(n,dd n.natAbs,v,())))
  (fun k x=>∃ v s,x=(n,s,v,())/\(-9223372036854775808<=v/\v<=9223372036854775807)/\((s=[]/\v=n/\k=n.natAbs+1)\/(s≠[]/\k=v.natAbs/\(if v=0 then s else dd v.natAbs++s)=dd n.natAbs))) (by
   rintro k x ⟨v,s,rfl,hv,hI⟩
   obtain ⟨h1,h2⟩:=PJ v
   by_cases hgo:v≠0\/s=[]
   ·have hs:s.length<=1000:=by
     rcases hI with ⟨rfl,_⟩ | ⟨_,_,hc⟩
     ·simp
     ·have:=congrArg List.length hc
      split at this<;>(try rw[qZ6] at this)<;>omega
    refine .inr ⟨v.natAbs / 10,_,ABq n v s hv hs hgo,?_,v.tdiv 10,_,rfl,?_,.inr ⟨by simp,?_,?_⟩⟩
    ·rcases hI with ⟨_,e,rfl⟩ | ⟨hne,rfl,_⟩
     ·rw[e];omega
     ·rcases hgo with hgo | hgo
      ·omega
      ·exact absurd hgo hne
    ·rw[h2];split<;>omega
    ·rw[h2];split<;>omega
    ·have hz:(v.tdiv 10=0) ↔ v.natAbs / 10=0:=by rw[h2];split<;>omega
     have ha:(v.tdiv 10).natAbs=v.natAbs / 10:=by rw[h2];split<;>omega
     have key:(if v.tdiv 10=0 then UInt8.ofNat (48+v.natAbs % 10)::s else dd (v.tdiv 10).natAbs++UInt8.ofNat (48+v.natAbs % 10)::s)=dd v.natAbs++s:=by
      by_cases hq:v.natAbs / 10=0
      ·rw[if_pos (hz.2 hq),EJ (n:=v.natAbs) (by omega),show v.natAbs % 10=v.natAbs by omega];rfl
      ·rw[if_neg (fun e=>hq (hz.1 e)),ha,AGX _ _ hq]
     rw[key]
     rcases hI with ⟨rfl,rfl,_⟩ | ⟨hne,_,hc⟩
     ·simp
     ·rcases hgo with hgo | hgo
      ·rw[if_neg hgo] at hc;exact hc
      ·exact absurd hgo hne
   ·have hv0:v=0:=Classical.byContradiction fun e=>hgo (.inl e)
    have hs0:s≠[]:=fun e=>hgo (.inr e)
    rcases hI with ⟨e,_⟩ | ⟨_,_,hc⟩
    ·exact absurd e hs0
    ·rw[if_pos hv0] at hc
     subst hv0
     refine .inl ⟨_,?_,?_,0,rfl⟩
     ·simp only[Hg]
      rw[BX rfl,A7 hs0,AE,hc]
     ·simp) _ (n,[],n,()) ⟨n,[],rfl,hn,.inl ⟨rfl,rfl,rfl⟩⟩
 unfold Da
 rw[hr,Ae]
 simp only
 rw[Bh,Az,MX]
 by_cases h0:n < 0
 ·rw[Aw h0,if_pos h0,Ad (by rw[GK];simp;omega)]
 ·rw[AC h0,if_neg h0];rfl
theorem AEx (v:Int) {n:Int} (h:0 < n/\n<=9223372036854775807):∃ r,KE v n=some ((r,()),())/\0<=r/\r < n:=by
 have hu:=ACE v
 unfold KE
 rw[KO (x:=n) (by omega),Eg (by omega),tm hu.1]
 have h1:=Int.emod_nonneg (qU v) (show n≠0 by omega)
 have h2:=Int.emod_lt_of_pos (qU v) h.1
 exact ⟨_,by rw[AB],h1,h2⟩
def CI (c:List Int×Int):Prop:=0<=c.2/\c.2<=c.1.length/\c.1.length<=400
theorem XM (l:List Int):∃ c,L' l=some ((c,()),())/\CI c:=by
 unfold L'
 have h:EH (l.length:Int) 400=((min l.length 400:Nat):Int):=by rw[AES];split<;>omega
 rw[h,Ap,Ad,Ad]
 exact ⟨_,rfl,by refine ⟨by simp,by simp,?_⟩;simp;omega⟩
theorem BE {c:List Int×Int} (hc:CI c) {n:Int} (h:0 < n/\n<=9223372036854775807):∃ r c',A2 c n=some ((r,()),(c',()))/\CI c'/\0<=r/\r < n:=by
 obtain ⟨h1,h2,h3⟩:=hc
 unfold A2
 by_cases hd:c.2>=(c.1.length:Int)
 ·rw[Aw hd];exact ⟨_,_,rfl,⟨h1,h2,h3⟩,by omega,by omega⟩
 ·have hw:qI (c.2+1)=c.2+1:=AB
  have hw2:qI (c.2+1 - 1)=c.2:=by rw[AB];omega
  rw[AC hd,hw,hw2,Ap,Ad h1,Ad]
  obtain ⟨r,hr,r1,r2⟩:=AEx (c.1.getD c.2.toNat 0) h
  rw[hr,Ae]
  exact ⟨r,(c.1,c.2+1),rfl,⟨by simp only;omega,by simp only;omega,h3⟩,r1,r2⟩
theorem G0 {n:Int} (h:n.natAbs < 100000000000000000000):D (n:Rat)<=21:=by
 rw[Y2];have:=Gn (n:=n.natAbs) (k:=20) (by omega) (by decide);omega
theorem Pn {c:List Int×Int} (hc:CI c):∃ (z:Int) (c':List Int×Int),G4 c=some ((Ay (z:Rat),()),(c',()))/\CI c'/\D (z:Rat)<=50:=by
 unfold G4
 obtain ⟨r1,c1,e1,hc1,a1,b1⟩:=BE hc (n:=8) (by omega)
 have e1':A2 (c.1,c.2) 8=some ((r1,()),(c1,())):=e1
 rw[e1',Ae]
 simp only
 by_cases h6:r1=6
 ·rw[Av h6]
  obtain ⟨r2,c2,e2,hc2,a2,b2⟩:=BE hc1 (n:=2001) (by omega)
  have e2':A2 (c1.1,c1.2) 2001=some ((r2,()),(c2,())):=e2
  rw[e2',Ae]
  simp only
  rw[AB,Gl (show Du _ from ⟨by omega,by omega⟩),Ae]
  exact ⟨_,_,rfl,hc2,Nat.le_trans (G0 (by omega)) (by omega)⟩
 ·rw[Aj h6]
  by_cases h7:r1=7
  ·rw[Av h7]
   obtain ⟨r2,c2,e2,hc2,a2,b2⟩:=BE hc1 (n:=1099511627776) (by omega)
   have e2':A2 (c1.1,c1.2) 1099511627776=some ((r2,()),(c2,())):=e2
   rw[e2',Ae]
   simp only
   rw[AB,Gl (show Du _ from ⟨by omega,by omega⟩),Ae]
   obtain ⟨r3,c3,e3,hc3,a3,b3⟩:=BE hc2 (n:=1099511627776) (by omega)
   have e3':A2 (c2.1,c2.2) 1099511627776=some ((r3,()),(c3,())):=e3
   rw[e3',Ae]
   simp only
   rw[Gl (show Du _ from ⟨by omega,by omega⟩),Ae]
   simp only
   have d1:=G0 (n:=r2 - 549755813888) (by omega)
   have d2:=G0 (n:=r3) (by omega)
   have l1:=Em ((r2 - 549755813888:Int):Rat)
   have l2:=Em ((r3:Int):Rat)
   rw[AG0 (by omega) (by omega),Jd,Ae]
   have d3:=SG ((r2 - 549755813888:Int):Rat) ((r3:Int):Rat)
   rw[<-Rat.intCast_mul] at d3 ⊢
   exact ⟨_,_,rfl,hc3,by omega⟩
  ·rw[Aj h7]
   obtain ⟨r2,c2,e2,hc2,a2,b2⟩:=BE hc1 (n:=9) (by omega)
   have e2':A2 (c1.1,c1.2) 9=some ((r2,()),(c2,())):=e2
   rw[e2',Ae]
   simp only
   rw[AB,Gl (show Du _ from ⟨by omega,by omega⟩),Ae]
   exact ⟨_,_,rfl,hc2,Nat.le_trans (G0 (by omega)) (by omega)⟩
theorem AAy (p q:Rat):D (p / q)<=D p+D q:=by
 rw[Rat.div_def];have:=SG p q⁻¹;have:=ACX q;omega
theorem ACz {c:List Int×Int} (hc:CI c):∃ (q:Rat) (c':List Int×Int),GI c=some ((Ay q,()),(c',()))/\CI c'/\D q<=71:=by
 unfold GI
 obtain ⟨z,c1,e1,hc1,d1⟩:=Pn hc
 have e1':G4 (c.1,c.2)=some ((Ay (z:Rat),()),(c1,())):=e1
 rw[e1',Ae]
 simp only
 obtain ⟨r2,c2,e2,hc2,a2,b2⟩:=BE hc1 (n:=4) (by omega)
 have e2':A2 (c1.1,c1.2) 4=some ((r2,()),(c2,())):=e2
 rw[e2',Ae]
 simp only
 rw[AB,Gl (show Du _ from ⟨by omega,by omega⟩),Ae]
 simp only
 have d2:=G0 (n:=1+r2) (by omega)
 have l1:=Em (z:Rat)
 have l2:=Em ((1+r2:Int):Rat)
 rw[AGZ (by omega) (by omega),Jd,Ae]
 have hne:((1+r2:Int):Rat)≠0:=fun e=>by have:=congrArg Rat.num e;rw[Rat.num_intCast] at this;simp at this;omega
 rw[Ob,if_neg hne]
 exact ⟨_,_,rfl,hc2,Nat.le_trans (AAy _ _) (by omega)⟩
end Go.AM.Num
end
section
namespace Go.AM.Num
theorem t0:([48]:qBs)=Ay ((0:Int):Rat):=txt_zero.symm
theorem t1:([49]:qBs)=Ay ((1:Int):Rat):=by rw[MX];simp[Ee]
end Go.AM.Num
end
section
namespace Go.AM.Num
theorem Yv {α:Type} {step:α->Option (Ex×α)} (St:Nat->α) (n:Nat) {E:Ex} (hE:E≠.normal) (stop:Nat->Option (Ex×α)) (hs:∀ k r,stop k=some r->r.1≠.normal)
 (h:∀ k,k < n->step (St k)=some ((stop k).getD (.normal,St (k+1)))) (he:step (St n)=some (E,St n)):∀ j k,k+j=n->Am step (St k)=some (((List.range' k j).findSome? stop).getD (E,St n)):=by
 intro j
 induction j with
 |zero=>
  intro k hk;obtain rfl:k=n:=by omega
  exact Ba he hE
 |succ j ih=>
  intro k hk
  have h1:=h k (by omega)
  rw[List.range'_succ,List.findSome?_cons]
  cases hst:stop k with
  |none=>
   rw[hst] at h1
   rw[A8 h1,ih (k+1) (by omega)]
  |some r=>
   rw[hst] at h1
   exact Ba h1 (hs k r hst)
theorem Gb {α:Type} {step:α->Option (Ex×α)} (St bad:Nat->α) (n:Nat) {E B:Ex} (hE:E≠.normal) (hB:B≠.normal) (ok:Nat->Bool)
 (h:∀ k,k < n->step (St k)=some (if ok k then (.normal,St (k+1)) else (B,bad k))) (he:step (St n)=some (E,St n)) :
 ((List.range n).all ok=true/\Am step (St 0)=some (E,St n))\/((List.range n).all ok=false/\∃ k,Am step (St 0)=some (B,bad k)):=by
 have:=Yv St n hE (fun k=>if ok k then none else some (B,bad k)) (fun k r hr=>by
  split at hr
  ·cases hr
  ·cases hr;exact hB) (fun k hk=>by rw[h k hk];split<;>rfl) he n 0 (by omega)
 rw[<-List.range_eq_range'] at this
 cases hf:(List.range n).findSome? (fun k=>if ok k then none else some (B,bad k)) with
 |none=>
  rw[hf] at this
  refine .inl ⟨?_,this⟩
  rw[List.findSome?_eq_none_iff] at hf
  rw[qY3]
  intro k hk
  have:=hf k hk
  split at this
  ·assumption
  ·cases this
 |some r=>
  rw[hf] at this
  obtain ⟨k,hk,hr⟩:=List.exists_of_findSome?_eq_some hf
  split at hr
  ·cases hr
  ·rename_i hn
   cases hr
   refine .inr ⟨?_,k,this⟩
   rw[List.all_eq_false]
   exact ⟨k,hk,hn⟩
structure Short (N:Nat) (v:Bp):Prop where
 num:v.2.2.1.length<=N
 keys:∀ s∈v.2.2.2.1,s.length<=N
 vals:∀ s∈v.2.2.2.2,s.length<=N
 few:v.2.2.2.1.length<=1000000000/\v.2.2.2.2.length<=1000000000
theorem L_ {l:List qBs} {k N:Nat} (h:∀ s∈l,s.length<=N):(l.getD k []).length<=N:=by
 rw[qZ4]
 cases hk:l[k]? with
 |none=>simp
 |some s=>exact h s (qY14 hk)
noncomputable def Jr (num:qBs) (ks vs:List qBs) (i:Nat):Bool:=Bc (ks.getD i [])&&Bc (vs.getD i [])&&!(vs.getD i []==num)&&(decide (i=0)||decide (Dt (ks.getD (i - 1) []) (ks.getD i []) < 0))
noncomputable def JO (num:qBs) (ks vs:List qBs):Bool:=(List.range ks.length).all (Jr num ks vs)
def EG (v:Bp):Bool:=decide (v.2.2.2.1.length=0)&&decide (v.2.2.2.2.length=0)
noncomputable def DF (v:Bp):Bool:=
 if v.1=1 then v.2.2.1==[]&&EG v
 else if v.1=2 then !v.2.1&&Bc v.2.2.1&&EG v
 else if v.1=3 then !v.2.1&&(rd v.2.2.1).isSome&&EG v
 else if v.1=4 then !v.2.1&&Bc v.2.2.1&&decide (v.2.2.2.1.length=v.2.2.2.2.length)&&JO v.2.2.1 v.2.2.2.1 v.2.2.2.2
 else false
theorem WS {N:Nat} (hN:N<=100000) {v:Bp} (hv:Short N v) (hl:v.2.2.2.1.length=v.2.2.2.2.length) :
 (JO v.2.2.1 v.2.2.2.1 v.2.2.2.2=true/\Am D_ (v,false,0,())=some (.exit 1,v,false,(v.2.2.2.1.length:Int),()))\/(JO v.2.2.1 v.2.2.2.1 v.2.2.2.2=false/\∃ k:Nat,Am D_ (v,false,0,())=some (.ret,v,false,(k:Int),())):=by
 obtain ⟨s,b,num,ks,vs⟩:=v
 have hk:=hv.keys;have hw:=hv.vals;have hf:=hv.few
 simp only at hk hw hf hl ⊢
 have hik:∀ k,B_ (ks.getD k [])=some ((Bc (ks.getD k []),()),()):=fun k=>HI (by have:=L_ (k:=k) hk;omega)
 have hiv:∀ k,B_ (vs.getD k [])=some ((Bc (vs.getD k []),()),()):=fun k=>HI (by have:=L_ (k:=k) hw;omega)
 have hc:∀ k j,Ew (ks.getD k []) (ks.getD j [])=some ((Dt (ks.getD k []) (ks.getD j []),()),()):=fun k j=>Qs (by have:=L_ (k:=k) hk;omega) (by have:=L_ (k:=j) hk;omega)
 exact Gb (step:=D_) (fun k=>((s,b,num,ks,vs),false,(k:Int),())) (fun k=>((s,b,num,ks,vs),false,(k:Int),())) ks.length (E:=.exit 1) (B:=.ret) (by simp) (by simp) (Jr num ks vs) (fun k hk'=>by
  unfold D_
  simp only
  rw[Aw,Ap,Ad,Ad,qZ0,hik,Ae,Ap,Ad,Ad,hiv,Ae,Ap,Ad,Ad]
  unfold Jr
  cases Bc (ks.getD k []) with
  |false=>rfl
  |true=>
   cases Bc (vs.getD k []) with
   |false=>rfl
   |true=>
    cases (vs.getD k []==num) with
    |true=>rfl
    |false=>
     simp only[qY2,qY1,AE,Bool.true_and]
     rw[AB (x:=(k:Int)+1) (by omega)]
     by_cases h0:k=0
     ·subst h0
      rw[AC]
      rfl
     ·rw[Aw,AB,Ap,Ad,Ad,Ap,Ad,Ad]
      have e:((k:Int) - 1).toNat=k - 1:=by omega
      rw[e,hc,Ae,qZ9 h0,Bool.false_or]
      by_cases hs:Dt (ks.getD (k - 1) []) (ks.getD k []) < 0
      ·rw[AC (by simp only;omega),if_pos (qZ10 hs)]
       rfl
      ·rw[Aw (by simp only;omega),if_neg (by rw[qZ9 hs];exact Bool.false_ne_true)]) (by
  unfold D_
  simp only
  rw[AC])
def ti (z:Int):qBs:=Ay (z:Rat)
theorem QN {a b:Int} (h:ti a=ti b):a=b:=by
 have:=txt_inj h
 exact_mod_cast this
abbrev KV:=List (Int×Int)
def lo (i:Int) (P:KV):KV:=P.filter fun p=>decide (p.1 < i)
def hi (i:Int) (P:KV):KV:=P.filter fun p=>decide (i < p.1)
def ET (P:KV):Prop:=P.Pairwise fun a b=>a.1 < b.1
structure Canon (d:Int) (P:KV):Prop where
 incr:ET P
 vals:∀ p∈P,p.2≠d
def Ko (d:Int) (P:KV) (i:Int):Int:=((P.find? fun p=>decide (p.1=i)).map (·.2)).getD d
def C9 (d:Int) (P:KV) (i n:Int):KV:=lo i P++(if n=d then [] else [(i,n)])++hi i P
theorem Ii {i:Int} {P:KV} {p:Int×Int}:p∈lo i P ↔ p∈P/\p.1 < i:=by simp[lo]
theorem JG {i:Int} {P:KV} {p:Int×Int}:p∈hi i P ↔ p∈P/\i < p.1:=by simp[hi]
theorem UA (i:Int):∀ {P:KV},ET P->∃ m,P=lo i P++m++hi i P/\(m=[]\/∃ w,m=[(i,w)]):=by
 intro P
 induction P with
 |nil=>intro _;exact ⟨[],rfl,.inl rfl⟩
 |cons p P ih=>
  intro h
  obtain ⟨hp,hP⟩:=List.pairwise_cons.1 h
  obtain ⟨m,e,hm⟩:=ih hP
  by_cases h1:p.1 < i
  ·refine ⟨m,?_,hm⟩
   have a1:lo i (p::P)=p::lo i P:=by simp[lo,h1]
   have a2:hi i (p::P)=hi i P:=by simp[hi,show ¬ i < p.1 by omega]
   rw[a1,a2,qY5,qY5,<-e]
  ·have e1:lo i P=[]:=List.filter_eq_nil_iff.2 fun q hq=>by have:=hp q hq;simp;omega
   have e2:hi i P=P:=List.filter_eq_self.2 fun q hq=>by have:=hp q hq;simp;omega
   have a1:lo i (p::P)=[]:=by simp[lo,h1];intro a b hab;have:=hp _ hab;simp at this;omega
   by_cases h2:p.1=i
   ·refine ⟨[p],?_,.inr ⟨p.2,by rw[<-h2]⟩⟩
    have a2:hi i (p::P)=P:=by rw[<-e2];simp[hi,show ¬ i < p.1 by omega]
    rw[a1,a2];rfl
   ·refine ⟨[],?_,.inl rfl⟩
    have a2:hi i (p::P)=p::P:=by
     have:hi i (p::P)=p::hi i P:=by simp[hi,show i < p.1 by omega]
     rw[this,e2]
    rw[a1,a2];rfl
theorem Td {d:Int} {P:KV} (h:Canon d P) (i n:Int):Canon d (C9 d P i n):=by
 refine ⟨?_,?_⟩
 ·unfold ET C9
  rw[List.pairwise_append,List.pairwise_append]
  refine ⟨⟨List.Pairwise.filter _ h.incr,by split<;>simp,fun a ha b hb=>?_⟩,List.Pairwise.filter _ h.incr,fun a ha b hb=>?_⟩
  ·have:=(Ii.1 ha).2
   split at hb
   ·simp at hb
   ·simp at hb;subst hb;exact this
  ·have hb':=(JG.1 hb).2
   rcases List.mem_append.1 ha with ha | ha
   ·have:=(Ii.1 ha).2;omega
   ·split at ha
    ·simp at ha
    ·simp at ha;subst ha;exact hb'
 ·intro p hp
  unfold C9 at hp
  rcases List.mem_append.1 hp with hp | hp
  ·rcases List.mem_append.1 hp with hp | hp
   ·exact h.vals p (Ii.1 hp).1
   ·split at hp
    ·simp at hp
    ·simp at hp;subst hp;assumption
  ·exact h.vals p (JG.1 hp).1
def ks (P:KV):List qBs:=P.map fun p=>ti p.1
def vs (P:KV):List qBs:=P.map fun p=>ti p.2
abbrev AP (d:Int) (P:KV):Bp:=(4,false,ti d,ks P,vs P)
theorem CB (P:KV):(ks P).length=P.length:=by simp[ks]
theorem DG (P:KV):(vs P).length=P.length:=by simp[vs]
theorem E' {P:KV} {k:Nat} (h:k < P.length):(ks P).getD k []=ti P[k].1:=by simp[ks,qZ4,h]
theorem GZ {P:KV} {k:Nat} (h:k < P.length):(vs P).getD k []=ti P[k].2:=by simp[vs,qZ4,h]
theorem Nj (a b:Int):Dt (ti a) (ti b)=(a - b).sign:=by
 unfold Dt ti
 rw[Df,Df]
 simp only
 rw[<-Rat.intCast_sub,Rat.num_intCast]
theorem YO {x:Int}:x.sign < 0 ↔ x < 0:=by
 rcases Int.lt_trichotomy x 0 with h | h | h
 ·rw[Int.sign_eq_neg_one_of_neg h];omega
 ·subst h;simp
 ·rw[Int.sign_eq_one_of_pos h];omega
theorem FK (a:Int):Bc (ti a)=true:=PB a
theorem OC {s:qBs} (h:Bc s=true):∃ z,s=ti z:=by
 obtain ⟨z,h1,_⟩:=K2 h
 exact ⟨z,h1⟩
theorem Ub:∀ {l:List qBs},(∀ s∈l,Bc s=true)->∃ zs:List Int,l=zs.map ti:=by
 intro l
 induction l with
 |nil=>intro _;exact ⟨[],rfl⟩
 |cons s l ih=>
  intro h
  obtain ⟨z,hz⟩:=OC (h s (by simp))
  obtain ⟨zs,hzs⟩:=ih fun x hx=>h x (qY13 _ hx)
  exact ⟨z::zs,by rw[hz,hzs];rfl⟩
theorem AFA {P:KV} (h:∀ i (hi:i < P.length),i=0\/(P[i - 1]'(by omega)).1 < P[i].1):ET P:=by
 unfold ET
 rw[List.pairwise_iff_getElem]
 intro i j hi hj hij
 induction j with
 |zero=>omega
 |succ j ih=>
  have h1:P[j].1 < P[j+1].1:=by
   rcases h (j+1) hj with h | h
   ·omega
   ·exact h
  by_cases e:i=j
  ·subst e;exact h1
  ·have:=ih (by omega) (by omega);omega
theorem ABC {v:Bp} (h:DF v=true) (h4:v.1=4):∃ d P,v=AP d P/\Canon d P:=by
 obtain ⟨s,b,num,k,w⟩:=v
 simp only at h4
 subst h4
 unfold DF at h
 simp only[show ¬ (4:Int)=1 by omega,show ¬ (4:Int)=2 by omega,show ¬ (4:Int)=3 by omega,if_false,if_true,qY0,Bool.not_eq_true',decide_eq_true_eq,JO,qY3,List.mem_range,Jr,Bool.or_eq_true,beq_eq_false_iff_ne] at h
 obtain ⟨⟨⟨hb,hn⟩,hl⟩,he⟩:=h
 subst hb
 obtain ⟨d,rfl⟩:=OC hn
 have hg:∀ (l:List qBs),(∀ i,i < l.length->Bc (l.getD i [])=true)->∀ s∈l,Bc s=true:=by
  intro l hl s hs
  obtain ⟨i,hi,rfl⟩:=List.getElem_of_mem hs
  have:=hl i hi
  simpa [qZ4,hi] using this
 obtain ⟨zs,rfl⟩:=Ub (hg k fun i hi=>(he i hi).1.1.1)
 obtain ⟨ws,rfl⟩:=Ub (hg w fun i hi=>(he i (by omega)).1.1.2)
 simp only[List.length_map] at hl he
 have e1:ks (zs.zip ws)=zs.map ti:=by
  have:(zs.zip ws).map (·.1)=zs:=List.map_fst_zip (by omega)
  conv=>rhs;rw[<-this,List.map_map]
  rfl
 have e2:vs (zs.zip ws)=ws.map ti:=by
  have:(zs.zip ws).map (·.2)=ws:=List.map_snd_zip (by omega)
  conv=>rhs;rw[<-this,List.map_map]
  rfl
 refine ⟨d,zs.zip ws,by unfold AP;rw[e1,e2],AFA fun i hi=>?_,fun p hp=>?_⟩
 ·have hi':i < zs.length:=by simp at hi;omega
  rcases (he i hi').2 with h0 | h1
  ·exact .inl h0
  ·by_cases h0:i=0
   ·exact .inl h0
   ·refine .inr ?_
    rw[<-e1,E' (by simp;omega),E' hi,Nj] at h1
    have:=YO.1 h1
    omega
 ·obtain ⟨i,hi,rfl⟩:=List.getElem_of_mem hp
  have hi':i < zs.length:=by simp at hi;omega
  have h1:=(he i hi').1.2
  rw[<-e2,GZ hi] at h1
  exact fun e=>h1 (congrArg ti e)
theorem Q1 {d:Int} {P:KV} (h:Canon d P):DF (AP d P)=true:=by
 unfold DF AP
 simp only[show ¬ (4:Int)=1 by omega,show ¬ (4:Int)=2 by omega,show ¬ (4:Int)=3 by omega,if_false,if_true,qY0,Bool.not_eq_true',decide_eq_true_eq,JO,qY3,List.mem_range,Jr,Bool.or_eq_true,beq_eq_false_iff_ne,CB,DG,FK,true_and]
 intro i hi
 rw[E' hi,GZ hi]
 refine ⟨⟨⟨FK _,FK _⟩,fun e=>h.vals _ (List.getElem_mem hi) (QN e)⟩,?_⟩
 by_cases h0:i=0
 ·exact .inl h0
 ·refine .inr ?_
  rw[E' (by omega),Nj]
  have:=List.pairwise_iff_getElem.1 h.incr (i - 1) i (by omega) hi (by omega)
  rw[Int.sign_eq_neg_one_of_neg (by omega)]
  omega
structure Sm (N:Nat) (d:Int) (P:KV):Prop where
 num:(ti d).length<=N
 els:∀ p∈P,(ti p.1).length<=N/\(ti p.2).length<=N
 few:P.length<=1000000000
theorem Sm.short {N:Nat} {d:Int} {P:KV} (h:Sm N d P):Short N (AP d P):=
 ⟨h.num,fun s hs=>by obtain ⟨p,hp,rfl⟩:=List.mem_map.1 hs;exact (h.els p hp).1,fun s hs=>by obtain ⟨p,hp,rfl⟩:=List.mem_map.1 hs;exact (h.els p hp).2,by simp only[AP];rw[CB,DG];exact ⟨h.few,h.few⟩⟩
theorem MH {a b:Int} (ha:(ti a).length<=200000) (hb:(ti b).length<=200000):Ew (ti a) (ti b)=some (((a - b).sign,()),()):=by rw[Qs ha hb,Nj]
theorem Gd (a b:Int):(ti a==ti b)=decide (a=b):=by
 by_cases h:a=b
 ·subst h;simp
 ·rw[qZ9 h,beq_eq_false_iff_ne];exact fun e=>h (QN e)
structure Parts (i:Int) (L m H:KV):Prop where
 lo:∀ p∈L,p.1 < i
 mid:m=[]\/∃ w,m=[(i,w)]
 hi:∀ p∈H,i < p.1
theorem AB8 {P:KV} (h:ET P) (i:Int):∃ m,P=lo i P++m++hi i P/\Parts i (lo i P) m (hi i P):=by
 obtain ⟨m,e,hm⟩:=UA i h
 exact ⟨m,e,fun p hp=>(Ii.1 hp).2,hm,fun p hp=>(JG.1 hp).2⟩
theorem R5 {N:Nat} (hN:N<=100000) {v:Bp} (hv:Short N v):J5 v=some ((DF v,()),()):=by
 have h1:B_ v.2.2.1=some ((Bc v.2.2.1,()),()):=HI (by have:=hv.num;omega)
 have h2:DD v.2.2.1=some (((rd v.2.2.1).isSome,()),()):=KF (by have:=hv.num;omega)
 unfold J5 DF EG
 rw[h1,h2]
 simp only[Ae]
 by_cases e4:v.1=4
 ·rw[BX e4,if_neg (by omega),if_neg (by omega),if_neg (by omega),if_pos e4,B5]
  cases hb:v.2.1 with
  |true=>rfl
  |false=>
   simp only[AE,qY1,Bool.true_and]
   rw[Aj,Aj,Aj,Av e4]
   cases hi:Bc v.2.2.1 with
   |false=>rfl
   |true=>
    simp only[qY2,AE,Bool.true_and]
    by_cases hl:v.2.2.2.1.length=v.2.2.2.2.length
    ·rw[BX,qZ10 hl,Bool.true_and]
     rcases WS hN hv hl with ⟨a1,a2⟩ | ⟨a1,k,a2⟩
     ·rw[a1,a2];simp only[Ae,Bh,Az]
     ·rw[a1,a2];simp only[Ae,Cc,Ca,Az,AE]
    ·rw[B5,qZ9 hl,Bool.false_and]
 ·rw[B5 e4]
  by_cases k1:v.2.2.2.1.length=0
  ·rw[AC,qZ10 k1,Bool.true_and]
   by_cases k2:v.2.2.2.2.length=0
   ·rw[AC,qZ10 k2]
    simp only[Bool.and_true]
    by_cases e1:v.1=1
    ·rw[BX e1,if_pos e1,Av e1]
    ·rw[B5 e1,if_neg e1]
     by_cases e2:v.1=2
     ·rw[if_pos e2,Aj e1,Av e2];cases v.2.1<;>rfl
     ·rw[if_neg e2]
      by_cases e3:v.1=3
      ·rw[if_pos e3,Aj e1,Aj e2,Av e3];cases v.2.1<;>rfl
      ·rw[if_neg e3,if_neg e4,Aj e1,Aj e2,Aj e3,Aj e4];cases v.2.1<;>rfl
   ·rw[Aw,qZ9 k2]
    simp only[Bool.and_false,if_neg e4,ite_self]
  ·rw[Aw,qZ9 k1,Bool.false_and]
   simp only[Bool.and_false,if_neg e4,ite_self]
section
variable {d i n:Int} {P:KV} {t6:Bp}
theorem G3 (Q:KV) (p:Int×Int):ks Q++[ti p.1]=ks (Q++[p]):=by simp[ks]
theorem GV (Q:KV) (p:Int×Int):vs Q++[ti p.2]=vs (Q++[p]):=by simp[vs]
theorem WN {Q:KV} {k:Nat} (hf:P.length<=1000000000) (hQ:Q.length<=2000000000) (hk:k < P.length) (hne:P[k].1≠i) :
 Ci (ti i,ti n,AP d P,t6,AP d Q,true,(k:Int),())=some (.normal,(ti i,ti n,AP d P,t6,AP d (Q++[P[k]]),true,((k+1:Nat):Int),())):=by
 have a1:=CB P;have a2:=DG P;have a3:=CB Q;have a4:=DG Q
 unfold Ci
 simp only
 rw[Aw]
 simp only[qY2,AE]
 rw[Aw,Ap,Ad,Ad,qZ0,E' hk,GZ hk,Gd,qZ9 hne]
 simp only[qY1,Az]
 rw[Ap,Ad,Ad,Ad (by rw[C4];simp only[qY11,List.length_nil];omega),Ap,Ad,Ad,Ad (by rw[C4];simp only[qY11,List.length_nil];omega),AB,G3,GV]
 rfl
theorem Sf {Q:KV} {b:Bool}:Ci (ti i,ti n,AP d P,t6,AP d Q,b,((P.length+1:Nat):Int),())=some (.exit 0,(ti i,ti n,AP d P,t6,AP d Q,b,((P.length+1:Nat):Int),())):=by
 have a1:=CB P
 unfold Ci
 simp only
 rw[AC]
theorem Xj {Q:KV} (hf:P.length<=1000000000) :
 Ci (ti i,ti n,AP d P,t6,AP d Q,true,(P.length:Int),())=some (.normal,(ti i,ti n,AP d P,t6,AP d Q,true,((P.length+1:Nat):Int),())):=by
 have a1:=CB P
 unfold Ci
 simp only
 rw[Aw]
 simp only[qY2,AE]
 rw[AC,AB]
 rfl
theorem OS (hf:P.length<=1000000000):∀ (R pre Q:KV),P=pre++R->(∀ p∈R,p.1≠i)->Q.length+R.length<=2000000000->
 Am Ci (ti i,ti n,AP d P,t6,AP d Q,true,(pre.length:Int),())=some (.exit 0,(ti i,ti n,AP d P,t6,AP d (Q++R),true,((P.length+1:Nat):Int),())):=by
 intro R
 induction R with
 |nil=>
  intro pre Q e _ _
  have:pre.length=P.length:=by rw[e];simp
  rw[this,A8 (Xj hf),Ba Sf (by simp),qY4]
 |cons p R ih=>
  intro pre Q e hne hQ
  have hk:pre.length < P.length:=by rw[e];simp
  have hp:P[pre.length]=p:=by simp[e]
  simp only[qY11] at hQ
  rw[A8 (WN hf (by omega) hk (by rw[hp];exact hne p (by simp))),hp]
  have:=ih (pre++[p]) (Q++[p]) (by rw[e];simp) (fun q hq=>hne q (qY13 _ hq)) (by simp;omega)
  rw[qZ1] at this
  simp only[qZ6,qY11,List.length_nil,qY5,qY15] at this
  exact this
theorem Y_ {N:Nat} (hN:N<=100000) {Q:KV} {k:Nat} (hs:Sm N d P) (hi:(ti i).length<=N) (hQ:Q.length<=2000000000) (hk:k < P.length) (hlt:P[k].1 < i) :
 Ci (ti i,ti n,AP d P,t6,AP d Q,false,(k:Int),())=some (.normal,(ti i,ti n,AP d P,t6,AP d (Q++[P[k]]),false,((k+1:Nat):Int),())):=by
 have a1:=CB P;have a2:=DG P;have a3:=CB Q;have a4:=DG Q;have hf:=hs.few
 have hc:Ew (ti P[k].1) (ti i)=some (((P[k].1 - i).sign,()),()):=MH (by have:=(hs.els _ (List.getElem_mem hk)).1;omega) (by omega)
 have hsg:(P[k].1 - i).sign=-1:=Int.sign_eq_neg_one_of_neg (by omega)
 unfold Ci
 simp only
 rw[Aw]
 simp only[qY1,Az]
 rw[Aj,Ap,Ad,Ad,qZ0,E' hk,GZ hk,hc,Ae,hsg]
 rw[AC (by simp only;omega),Aw,Ap,Ad,Ad,Gd,qZ9 (by omega)]
 simp only[qY1,Az]
 rw[Ap,Ad,Ad,Ad (by rw[C4];simp only[qY11,List.length_nil];omega),Ap,Ad,Ad,Ad (by rw[C4];simp only[qY11,List.length_nil];omega),AB,G3,GV]
 rfl
theorem XO {N:Nat} (hN:N<=100000) (hs:Sm N d P) (hi:(ti i).length<=N):∀ (R pre Z:KV),P=pre++R++Z->(∀ p∈R,p.1 < i)->
 Am Ci (ti i,ti n,AP d P,t6,AP d pre,false,(pre.length:Int),())=Am Ci (ti i,ti n,AP d P,t6,AP d (pre++R),false,((pre++R).length:Int),()):=by
 intro R
 induction R with
 |nil=>intro pre Z _ _;rw[qY4]
 |cons p R ih=>
  intro pre Z e hlt
  have hk:pre.length < P.length:=by rw[e];simp
  have hp:P[pre.length]=p:=by simp[e]
  have hf:=hs.few
  rw[A8 (Y_ hN hs hi (by omega) hk (by rw[hp];exact hlt p (by simp))),hp]
  have:=ih (pre++[p]) Z (by rw[e];simp) (fun q hq=>hlt q (qY13 _ hq))
  rw[qZ1] at this
  simp only[qZ6,qY11,List.length_nil,qY5,qY15] at this ⊢
  exact this
end
def D3 (d i n:Int):KV:=if n=d then [] else [(i,n)]
section
variable {d i n:Int} {P:KV} {t6:Bp}
theorem AFb {L:KV} (hf:P.length<=1000000000) (hL:L.length=P.length) :
 Ci (ti i,ti n,AP d P,t6,AP d L,false,(P.length:Int),())=some (.normal,(ti i,ti n,AP d P,t6,AP d (L++D3 d i n),true,((P.length+1:Nat):Int),())):=by
 have a1:=CB P;have a3:=CB L;have a4:=DG L
 unfold Ci
 simp only
 rw[Aw]
 simp only[qY1,Az]
 rw[Av,Gd]
 unfold D3
 by_cases hn:n=d
 ·rw[qZ10 hn,if_pos hn]
  simp only[qY2,AE]
  rw[AC,AB,qY4]
  rfl
 ·rw[qZ9 hn,if_neg hn]
  simp only[qY1,Az]
  rw[Ad (by rw[C4];simp only[qY11,List.length_nil];omega),Ad (by rw[C4];simp only[qY11,List.length_nil];omega),AC,AB,G3 L (i,n),GV L (i,n)]
  rfl
theorem Ws {N:Nat} (hN:N<=100000) (hs:Sm N d P) (hi:(ti i).length<=N) {L:KV} (hk:L.length < P.length) (hgt:i < P[L.length].1) :
 Ci (ti i,ti n,AP d P,t6,AP d L,false,(L.length:Int),())=some (.normal,(ti i,ti n,AP d P,t6,AP d (L++D3 d i n++[P[L.length]]),true,((L.length+1:Nat):Int),())):=by
 have a1:=CB P;have a2:=DG P;have a3:=CB L;have a4:=DG L;have hf:=hs.few
 have hc:Ew (ti P[L.length].1) (ti i)=some (((P[L.length].1 - i).sign,()),()):=MH (by have:=(hs.els _ (List.getElem_mem hk)).1;omega) (by omega)
 have hsg:(P[L.length].1 - i).sign=1:=Int.sign_eq_one_of_pos (by omega)
 unfold Ci
 simp only
 rw[Aw]
 simp only[qY1,Az]
 rw[Aj,Ap,Ad,Ad,qZ0,E' hk,GZ hk,hc,Ae,hsg]
 rw[Aw (by simp only;omega),Gd,Gd]
 unfold D3
 by_cases hn:n=d
 ·rw[qZ10 hn,if_pos hn,qY4]
  simp only[qY2,AE]
  rw[Aw,Ap,Ad,Ad,qZ9 (by omega)]
  simp only[qY1,Az]
  rw[Ap,Ad,Ad,Ad (by rw[C4];simp only[qY11,List.length_nil];omega),Ap,Ad,Ad,Ad (by rw[C4];simp only[qY11,List.length_nil];omega),AB,G3,GV]
  rfl
 ·rw[qZ9 hn,if_neg hn]
  simp only[qY1,Az]
  rw[Ad (by rw[C4];simp only[qY11,List.length_nil];omega),Ad (by rw[C4];simp only[qY11,List.length_nil];omega),Aw,Ap,Ad,Ad,qZ9 (by omega)]
  simp only[qY1,Az]
  rw[Ap,Ad,Ad,Ad (by rw[C4];simp only[qZ6,qY11,List.length_nil];omega),Ap,Ad,Ad,Ad (by rw[C4];simp only[qZ6,qY11,List.length_nil];omega),AB,G3 L (i,n),GV L (i,n),G3,GV]
  rfl
theorem XB {N:Nat} (hN:N<=100000) (hs:Sm N d P) (hi:(ti i).length<=N) {L:KV} (hk:L.length < P.length) (heq:P[L.length].1=i) :
 Ci (ti i,ti n,AP d P,t6,AP d L,false,(L.length:Int),())=some (.normal,(ti i,ti n,AP d P,t6,AP d (L++D3 d i n),true,((L.length+1:Nat):Int),())):=by
 have a1:=CB P;have a2:=DG P;have a3:=CB L;have a4:=DG L;have hf:=hs.few
 have hc:Ew (ti P[L.length].1) (ti i)=some (((P[L.length].1 - i).sign,()),()):=MH (by have:=(hs.els _ (List.getElem_mem hk)).1;omega) (by omega)
 have hsg:(P[L.length].1 - i).sign=0:=by rw[show P[L.length].1 - i=0 by omega];rfl
 unfold Ci
 simp only
 rw[Aw]
 simp only[qY1,Az]
 rw[Aj,Ap,Ad,Ad,qZ0,E' hk,GZ hk,hc,Ae,hsg]
 rw[Aw (by simp only;omega),Gd,Gd]
 unfold D3
 by_cases hn:n=d
 ·rw[qZ10 hn,if_pos hn,qY4]
  simp only[qY2,AE]
  rw[Aw,Ap,Ad,Ad,qZ10 heq]
  simp only[qY2,AE]
  rw[AB]
  rfl
 ·rw[qZ9 hn,if_neg hn]
  simp only[qY1,Az]
  rw[Ad (by rw[C4];simp only[qY11,List.length_nil];omega),Ad (by rw[C4];simp only[qY11,List.length_nil];omega),Aw,Ap,Ad,Ad,qZ10 heq]
  simp only[qY2,AE]
  rw[AB,G3 L (i,n),GV L (i,n)]
  rfl
theorem AA4 {N:Nat} (hN:N<=100000) (hP:ET P) (hs:Sm N d P) (hi:(ti i).length<=N) :
 Am Ci (ti i,ti n,AP d P,t6,AP d [],false,0,())=some (.exit 0,(ti i,ti n,AP d P,t6,AP d (C9 d P i n),true,((P.length+1:Nat):Int),())):=by
 obtain ⟨m,e,hp⟩:=AB8 hP i
 have hf:=hs.few
 have hd:=XO (n:=n) (t6:=t6) hN hs hi (lo i P) [] (m++Num.hi i P) (by rw[qY15,<-qZ1];exact e) hp.lo
 simp only[qY15,List.length_nil] at hd
 rw[show ((0:Nat):Int)=0 from rfl] at hd
 rw[hd]
 have hst:C9 d P i n=lo i P++D3 d i n++Num.hi i P:=rfl
 have hil:(D3 d i n).length<=1:=by unfold D3;split<;>simp
 have hlen:=congrArg List.length e
 simp only[qZ6] at hlen
 rcases hp.mid with rfl | ⟨w,rfl⟩
 ·cases hH:Num.hi i P with
  |nil=>
   have hL:(lo i P).length=P.length:=by rw[hH] at hlen;simp at hlen;omega
   rw[hL,A8 (AFb hf hL),Ba Sf (by simp),hst,hH,qY4]
  |cons p H'=>
   have hk:(lo i P).length < P.length:=by rw[hH] at hlen;simp at hlen;omega
   have hp0:P[(lo i P).length]=p:=by
    have:P=lo i P++p::H':=by rw[hH,qY4] at e;exact e
    have h2:P[(lo i P).length]?=some p:=(congrArg (fun Q:KV=>Q[(lo i P).length]?) this).trans (by simp)
    rw[qZ5 hk] at h2
    exact Option.some.inj h2
   have hmem:∀ q∈p::H',i < q.1:=fun q hq=>hp.hi q (by show q∈Num.hi i P;rw[hH];exact hq)
   have h1:=Ws (n:=n) (t6:=t6) hN hs hi hk (by rw[hp0];exact hmem p (by simp))
   rw[hp0] at h1
   have h2:=OS (i:=i) (n:=n) (d:=d) (t6:=t6) hf H' (lo i P++[p]) (lo i P++D3 d i n++[p]) (by rw[hH] at e;simpa using e) (fun q hq=>by have:=hmem q (qY13 _ hq);omega)
    (by rw[hH] at hlen;simp at hlen ⊢;omega)
   rw[A8 h1,hst,hH]
   simp only[qZ6,qY11,List.length_nil,qZ1,qY5,qY15] at h2 ⊢
   exact h2
 ·have hk:(lo i P).length < P.length:=by simp at hlen;omega
  have hp0:P[(lo i P).length].1=i:=by
   have h2:P[(lo i P).length]?=some (i,w):=(congrArg (fun Q:KV=>Q[(lo i P).length]?) e).trans (by simp)
   rw[qZ5 hk] at h2
   rw[Option.some.inj h2]
  have h1:=XB (n:=n) (t6:=t6) hN hs hi hk hp0
  have h2:=OS (i:=i) (n:=n) (d:=d) (t6:=t6) hf (Num.hi i P) (lo i P++[(i,w)]) (lo i P++D3 d i n) e (fun q hq=>by have:=hp.hi q hq;omega)
   (by simp at hlen ⊢;omega)
  rw[A8 h1,hst]
  simp only[qZ6,qY11,List.length_nil] at h2 ⊢
  exact h2
end
theorem ADS {N:Nat} (hN:N<=100000) {d i n:Int} {P:KV} (hP:Canon d P) (hs:Sm N d P) (hi:(ti i).length<=N) (hn:(ti n).length<=N) :
 Ln (AP d P) (ti i) (ti n)=some ((AP d (C9 d P i n),0,()),()):=by
 unfold Ln
 simp only
 rw[BX,R5 hN hs.short,Ae,Q1 hP,HI (by omega),HI (by omega),FK,FK]
 simp only[qY2,AE,Ae]
 have:=AA4 (n:=n) (t6:=((0:Int),false,([]:qBs),([]:List qBs),([]:List qBs))) hN hP.incr hs hi
 have e:(AP d []:Bp)=(4,false,ti d,([]:List qBs),([]:List qBs)):=rfl
 rw[e] at this
 rw[this,Ae]
 simp only[Bh,Az]
theorem Qr {d i n:Int} {P:KV} (h:ET P):(C9 d P i n).length<=P.length+1:=by
 obtain ⟨m,e,_⟩:=UA i h
 have:=congrArg List.length e
 unfold C9
 simp only[qZ6] at this ⊢
 split<;>simp<;>omega
theorem AEQ {N:Nat} {d i n:Int} {P:KV} (hP:ET P) (h:Sm N d P) (hi:(ti i).length<=N) (hn:(ti n).length<=N) (hl:P.length < 1000000000):Sm N d (C9 d P i n):=by
 refine ⟨h.num,fun p hp=>?_,by have:=Qr (d:=d) (i:=i) (n:=n) hP;omega⟩
 unfold C9 at hp
 rcases List.mem_append.1 hp with hp | hp
 ·rcases List.mem_append.1 hp with hp | hp
  ·exact h.els p (Ii.1 hp).1
  ·split at hp
   ·cases hp
   ·rw[List.mem_singleton.1 hp];exact ⟨hi,hn⟩
 ·exact h.els p (JG.1 hp).1
theorem AAg {c:List Int×Int} (hc:CI c):∃ (z:Int) (c':List Int×Int),G4 c=some ((ti z,()),(c',()))/\CI c'/\(ti z).length<=52:=by
 obtain ⟨z,c',h1,h2,h3⟩:=Pn hc
 exact ⟨z,c',h1,h2,by have:=Em (z:Rat);unfold ti;omega⟩
theorem M0 (d:Int):Canon d []:=⟨List.Pairwise.nil,fun _ hp=>absurd hp qY16⟩
theorem PT {N:Nat} {d:Int} (h:(ti d).length<=N):Sm N d []:=⟨h,fun _ hp=>absurd hp qY16,Nat.zero_le _⟩
abbrev nOp (n:Aa):Int:=n.1
abbrev A5 (n:Aa):Int:=n.2.1
abbrev Bv (n:Aa):qBs:=n.2.2.1
abbrev A_ (n:Aa):qBs:=n.2.2.2.1
abbrev AU (n:Aa):Int:=n.2.2.2.2
def letterB (c:UInt8):Bool:=(decide (97<=c)&&decide (c<=122))||(decide (65<=c)&&decide (c<=90))||c==95||c==36||c==33
def EU (c:UInt8):Bool:=letterB c||(decide (48<=c)&&decide (c<=57))||c==46||c==64
def H9:List qBs:=[[97,110,100],[111,114],[110,111,116],[105,116,101],[116,114,117,101],[102,97,108,115,101],[108,101,116],[102,111,114,97,108,108],[101,120,105,115,116,115],
 [100,105,115,116,105,110,99,116],[100,105,118],[109,111,100],[115,101,108,101,99,116],[115,116,111,114,101],[99,111,110,115,116],[66,111,111,108],[73,110,116],[82,101,97,108],[65,114,114,97,121]]
def D8 (s:qBs):Bool:=decide (s.length<=40)&&letterB (s.getD 0 0)&&!(decide (s∈H9))&&s.all EU
noncomputable def Bi (n:Aa):Bool:=
 if nOp n=3 then decide (Bv n=[])&&((decide (A5 n=2)&&Bc (A_ n))||(decide (A5 n=3)&&(rd (A_ n)).isSome))
 else if nOp n=4\/nOp n=5 then decide (1<=A5 n/\A5 n<=4)&&D8 (Bv n)&&decide (A_ n=[])
 else if nOp n=16\/nOp n=17 then decide (A5 n=0)&&decide (Bv n=[])&&Bc (A_ n)&&decide (0 < E0 (A_ n))
 else decide (1<=nOp n/\nOp n<=20)&&decide (A5 n=0)&&decide (Bv n=[])&&decide (A_ n=[])
def AQ (o k:Int):Bool:=
 if o=1\/o=2\/o=3\/o=4 then decide (k=0)
 else if o=5 then decide (1<=k/\k<=40)
 else if o=6\/o=16\/o=17\/o=20 then decide (k=1)
 else if o=7\/o=8 then decide (0<=k)
 else if o=14 then decide (1<=k)
 else if o=10\/o=19 then decide (k=3)
 else decide (k=2)
theorem Lk {o k:Int} (h:AQ o k=true):0<=k:=by
 unfold AQ at h
 repeat' split at h
 all_goals (simp at h;omega)
noncomputable def Cd (n:Aa):Bool:=Bi n&&AQ (nOp n) (AU n)
def AO (n:Aa) (first:Int) (ss:List Int):Int:=
 if nOp n=3\/nOp n=4\/nOp n=5 then A5 n
 else if nOp n=1\/nOp n=2\/nOp n=6\/nOp n=7\/nOp n=8\/nOp n=9 then (if ∀ s∈ss,s=1 then 1 else 0)
 else if nOp n=10 then (if ss.getD 0 0=1/\ss.getD 1 0=ss.getD 2 0 then ss.getD 1 0 else 0)
 else if nOp n=11 then (if ss.getD 0 0=ss.getD 1 0 then 1 else 0)
 else if nOp n=12\/nOp n=13 then (if (ss.getD 0 0=2\/ss.getD 0 0=3)/\∀ s∈ss,s=ss.getD 0 0 then 1 else 0)
 else if nOp n=14 then (if (ss.getD 0 0=2\/ss.getD 0 0=3)/\∀ s∈ss,s=ss.getD 0 0 then ss.getD 0 0 else 0)
 else if nOp n=15 then (if first=3/\(ss.getD 0 0=2\/ss.getD 0 0=3)/\∀ s∈ss,s=ss.getD 0 0 then ss.getD 0 0 else 0)
 else if nOp n=16\/nOp n=17 then (if ss.getD 0 0=2 then 2 else 0)
 else if nOp n=18 then (if ss.getD 0 0=4/\ss.getD 1 0=2 then 2 else 0)
 else if nOp n=19 then (if ss.getD 0 0=4/\ss.getD 1 0=2/\ss.getD 2 0=2 then 4 else 0)
 else if nOp n=20 then (if ss.getD 0 0=2 then 4 else 0)
 else 0
inductive Tf where
 |nil
 |cons (n:Aa) (k r:Tf)
namespace Tf
def flat:Tf->List Aa
 |nil=>[]
 |cons n k r=>n::(flat k++flat r)
def len:Tf->Nat
 |nil=>0
 |cons _ _ r=>len r+1
def size:Tf->Nat
 |nil=>0
 |cons _ k r=>size k+size r+1
def app:Tf->Tf->Tf
 |nil,g=>g
 |cons n k r,g=>cons n k (app r g)
def dep:Tf->Nat
 |nil=>0
 |cons _ k r=>max (dep k+1) (dep r)
def op1:Tf->Int
 |nil=>0
 |cons n _ _=>nOp n
def srt:Tf->List Int
 |nil=>[]
 |cons n k r=>(if 0∈srt k then 0 else AO n (op1 k) (srt k))::srt r
noncomputable def wf:Tf->Bool
 |nil=>true
 |cons n k r=>Cd n&&decide (AU n=(len k:Int))&&wf k&&wf r
def take:Nat->Tf->Tf
 |0,_=>nil
 |_+1,nil=>nil
 |c+1,cons n k r=>cons n k (take c r)
def drop:Nat->Tf->Tf
 |0,f=>f
 |_+1,nil=>nil
 |c+1,cons _ _ r=>drop c r
theorem Br (f:Tf):f.flat.length=f.size:=by
 induction f with
 |nil=>rfl
 |cons n k r ik ir=>simp only[flat,size,qY11,qZ6];omega
theorem HP (f g:Tf):(f.app g).flat=f.flat++g.flat:=by
 induction f with
 |nil=>rfl
 |cons n k r _ ir=>simp only[app,flat,ir,qY5,qZ1]
theorem LB (f g:Tf):(f.app g).len=f.len+g.len:=by
 induction f with
 |nil=>simp[app,len]
 |cons n k r _ ir=>simp only[app,len,ir];omega
theorem OI (f g:Tf):(f.app g).size=f.size+g.size:=by
 induction f with
 |nil=>simp[app,size]
 |cons n k r _ ir=>simp only[app,size,ir];omega
theorem G6 (f g:Tf):(f.app g).srt=f.srt++g.srt:=by
 induction f with
 |nil=>rfl
 |cons n k r _ ir=>simp only[app,srt,ir,qY5]
theorem IC (f g:Tf):(f.app g).wf=(f.wf&&g.wf):=by
 induction f with
 |nil=>simp[app,wf]
 |cons n k r _ ir=>simp only[app,wf,ir,Bool.and_assoc]
theorem NM (f g:Tf):(f.app g).dep=max f.dep g.dep:=by
 induction f with
 |nil=>simp[app,dep]
 |cons n k r _ ir=>simp only[app,dep,ir];omega
theorem XG (f:Tf):f.app nil=f:=by
 induction f with
 |nil=>rfl
 |cons n k r _ ir=>simp only[app,ir]
theorem C8 (f:Tf):f.srt.length=f.len:=by
 induction f with
 |nil=>rfl
 |cons n k r _ ir=>simp only[srt,len,qY11,ir]
theorem P_:∀ (c:Nat) (f:Tf),(take c f).app (drop c f)=f:=by
 intro c
 induction c with
 |zero=>intro f;cases f<;>rfl
 |succ c ih=>
  intro f
  cases f with
  |nil=>rfl
  |cons n k r=>simp only[take,drop,app,ih]
theorem Sk:∀ (c:Nat) (f:Tf),c<=f.len->(take c f).len=c:=by
 intro c
 induction c with
 |zero=>intro f _;cases f<;>rfl
 |succ c ih=>
  intro f h
  cases f with
  |nil=>simp[len] at h
  |cons n k r=>simp only[len] at h;simp only[take,len,ih r (by omega)]
theorem VR (f g:Tf):take f.len (f.app g)=f:=by
 induction f with
 |nil=>cases g<;>rfl
 |cons n k r _ ir=>simp only[len,app,take,ir]
theorem AFz (f g:Tf):drop f.len (f.app g)=g:=by
 induction f with
 |nil=>cases g<;>rfl
 |cons n k r _ ir=>simp only[len,app,drop,ir]
theorem Z8 {f:Tf} (h:0 < f.len):0 < f.size:=by
 cases f with
 |nil=>simp[len] at h
 |cons n k r=>simp only[size];omega
theorem Dz (f:Tf):f.len<=f.size:=by
 induction f with
 |nil=>simp[len,size]
 |cons n k r _ ir=>simp only[len,size];omega
theorem UX (f:Tf):f.dep<=f.size:=by
 induction f with
 |nil=>simp[dep,size]
 |cons n k r ik ir=>simp only[dep,size];omega
theorem Cp {n:Aa} {k r:Tf}:(cons n k r).wf=true ↔ Cd n=true/\AU n=(len k:Int)/\wf k=true/\wf r=true:=by
 simp only[wf,qY0,decide_eq_true_eq,and_assoc]
theorem DB {n:Aa} {k r:Tf}:(0:Int)∉(cons n k r).srt ↔ (0:Int)∉k.srt/\AO n (op1 k) k.srt≠0/\(0:Int)∉r.srt:=by
 simp only[srt,qY12,not_or]
 constructor
 ·rintro ⟨h1,h2⟩
  split at h1
  ·exact absurd rfl h1
  ·rename_i h;exact ⟨h,fun e=>h1 e.symm,h2⟩
 ·rintro ⟨h1,h2,h3⟩
  rw[if_neg h1]
  exact ⟨fun e=>h2 e.symm,h3⟩
end Tf
open Tf
noncomputable def bkp:List Aa->Option Tf
 |[]=>some nil
 |n::l=>(bkp l).bind fun f=>if Cd n=true/\AU n<=(f.len:Int)/\(0:Int)≠AO n (op1 (take (AU n).toNat f)) (take (AU n).toNat f).srt then some (cons n (take (AU n).toNat f) (drop (AU n).toNat f)) else none
theorem N3:∀ {t:List Aa} {f:Tf},bkp t=some f->f.flat=t/\f.wf=true/\(0:Int)∉f.srt:=by
 intro t
 induction t with
 |nil=>intro f h;simp only[bkp,Option.some.injEq] at h;subst h;exact ⟨rfl,rfl,by simp[srt]⟩
 |cons n l ih=>
  intro f h
  simp only[bkp,Option.bind_eq_some_iff] at h
  obtain ⟨g,hg,h⟩:=h
  split at h
  ·rename_i hc
   obtain ⟨h1,h2,h3⟩:=hc
   obtain ⟨i1,i2,i3⟩:=ih hg
   simp only[Option.some.injEq] at h
   subst h
   have e:=P_ (AU n).toNat g
   have hk:0<=AU n:=by
    unfold Cd at h1
    simp only[qY0] at h1
    exact Lk h1.2
   have hl:=Sk (AU n).toNat g (by omega)
   rw[<-e,IC,qY0] at i2
   rw[<-e,G6,qZ7,not_or] at i3
   refine ⟨?_,Cp.2 ⟨h1,by rw[hl];omega,i2.1,i2.2⟩,DB.2 ⟨i3.1,fun e=>h3 e.symm,i3.2⟩⟩
   rw[<-i1]
   simp only[flat]
   rw[<-HP,e]
  ·cases h
theorem AFj:∀ (N:Nat) (f:Tf),f.size<=N->f.wf=true->(0:Int)∉f.srt->bkp f.flat=some f:=by
 intro N
 induction N with
 |zero=>intro f h _ _;cases f with
  |nil=>rfl
  |cons n k r=>simp[size] at h
 |succ N ih=>
  intro f h hw hs
  cases f with
  |nil=>rfl
  |cons n k r=>
   obtain ⟨h1,h2,h3,h4⟩:=Cp.1 hw
   obtain ⟨s1,s2,s3⟩:=DB.1 hs
   simp only[size] at h
   have:=ih (k.app r) (by rw[OI];omega) (by rw[IC,h3,h4];rfl) (by rw[G6,qZ7];exact fun e=>e.elim s1 s3)
   rw[HP] at this
   simp only[flat,bkp,this,Option.bind_some]
   have e:(AU n).toNat=k.len:=by omega
   rw[e,VR,AFz,if_pos ⟨h1,by rw[LB];omega,fun e=>s2 e.symm⟩]
theorem T8 {t:List Aa} {f:Tf}:bkp t=some f ↔ f.flat=t/\f.wf=true/\(0:Int)∉f.srt:=
 ⟨N3,fun ⟨h1,h2,h3⟩=>h1 ▸ AFj _ f (Nat.le_refl _) h2 h3⟩
def many (p:List Aa->Option (Tf×List Aa)):Nat->List Aa->Option (Tf×List Aa)
 |0,l=>some (nil,l)
 |c+1,l=>(p l).bind fun x=>(many p c x.2).bind fun y=>some (x.1.app y.1,y.2)
noncomputable def one:Nat->List Aa->Option (Tf×List Aa)
 |0,_=>none
 |_+1,[]=>none
 |d+1,n::l=>if Cd n=true then (many (one d) (AU n).toNat l).bind fun x=>some (cons n x.1 nil,x.2) else none
theorem PU {d:Nat} (ho:∀ {l l':List Aa} {f:Tf},one d l=some (f,l')->l=f.flat++l'/\f.wf=true/\f.len=1/\f.dep<=d) :
 ∀ (c:Nat) {l l':List Aa} {f:Tf},many (one d) c l=some (f,l')->l=f.flat++l'/\f.wf=true/\f.len=c/\f.dep<=d:=by
 intro c
 induction c with
 |zero=>intro l l' f h;simp only[many,Option.some.injEq,Prod.mk.injEq] at h;obtain ⟨rfl,rfl⟩:=h;exact ⟨rfl,rfl,rfl,Nat.zero_le _⟩
 |succ c ih=>
  intro l l' f h
  simp only[many,Option.bind_eq_some_iff] at h
  obtain ⟨⟨g,l1⟩,h1,⟨g2,l2⟩,h2,h3⟩:=h
  simp only[Option.some.injEq,Prod.mk.injEq] at h3
  obtain ⟨rfl,rfl⟩:=h3
  obtain ⟨e1,w1,n1,d1⟩:=ho h1
  obtain ⟨e2,w2,n2,d2⟩:=ih h2
  simp only at e2
  refine ⟨by rw[e1,e2,HP,qZ1],by rw[IC,w1,w2];rfl,by rw[LB];omega,by rw[NM];omega⟩
theorem Mb:∀ (d:Nat) {l l':List Aa} {f:Tf},one d l=some (f,l')->l=f.flat++l'/\f.wf=true/\f.len=1/\f.dep<=d:=by
 intro d
 induction d with
 |zero=>intro l l' f h;simp[one] at h
 |succ d ih=>
  intro l l' f h
  cases l with
  |nil=>simp[one] at h
  |cons n l=>
   simp only[one] at h
   split at h
   ·rename_i hn
    simp only[Option.bind_eq_some_iff] at h
    obtain ⟨⟨g,l1⟩,h1,h2⟩:=h
    simp only[Option.some.injEq,Prod.mk.injEq] at h2
    obtain ⟨rfl,rfl⟩:=h2
    obtain ⟨e1,w1,n1,d1⟩:=PU ih _ h1
    have hk:0<=AU n:=by
     unfold Cd at hn
     simp only[qY0] at hn
     exact Lk hn.2
    refine ⟨by rw[e1];simp only[flat,qY4,qY5],Cp.2 ⟨hn,by omega,w1,rfl⟩,rfl,by simp only[dep];omega⟩
   ·cases h
theorem Wp (f:Tf):∀ (d:Nat) (l:List Aa),f.wf=true->f.dep<=d->many (one d) f.len (f.flat++l)=some (f,l):=by
 induction f with
 |nil=>intro d l _ _;rfl
 |cons n k r ik ir=>
  intro d l hw hd
  obtain ⟨h1,h2,h3,h4⟩:=Cp.1 hw
  simp only[dep] at hd
  obtain ⟨e,rfl⟩:∃ e,d=e+1:=⟨d - 1,by omega⟩
  have e1:=ik e (r.flat++l) h3 (by omega)
  have e2:=ir (e+1) l h4 (by omega)
  have ek:(AU n).toNat=k.len:=by omega
  simp only[len,flat,many,qY5,one,qZ1]
  rw[if_pos h1,ek,e1]
  simp only[Option.bind_some]
  rw[e2]
  rfl
theorem Tm {f:Tf} {d:Nat} (l:List Aa) (hw:f.wf=true) (hl:f.len=1) (hd:f.dep<=d):one d (f.flat++l)=some (f,l):=by
 have:=Wp f d l hw hd
 rw[hl] at this
 simp only[many,Option.bind_eq_some_iff] at this
 obtain ⟨⟨g,l1⟩,h1,⟨g2,l2⟩,h2,h3⟩:=this
 simp only[Option.some.injEq,Prod.mk.injEq] at h2 h3
 obtain ⟨rfl,rfl⟩:=h2
 obtain ⟨rfl,rfl⟩:=h3
 rw[h1,XG]
end Go.AM.Num
end
section
namespace Go.AM.Num
theorem DS {P:UInt8->Prop} (h:∀ n:Fin 256,P (UInt8.ofNat n.val)) (c:UInt8):P c:=by
 have:=h ⟨c.toNat,c.toNat_lt⟩
 simpa using this
theorem Qi (c:UInt8):JP (c.toNat:Int)=some ((letterB c,()),()):=by
 refine DS (P:=fun c=>JP (c.toNat:Int)=some ((letterB c,()),())) ?_ c
 decide +kernel
theorem AGA (c:UInt8):decide ((c.toNat:Int)>=48)=decide (48<=c):=by
 refine DS (P:=fun c=>decide ((c.toNat:Int)>=48)=decide (48<=c)) ?_ c
 decide +kernel
theorem YU (c:UInt8):decide ((c.toNat:Int)<=57)=decide (c<=57):=by
 refine DS (P:=fun c=>decide ((c.toNat:Int)<=57)=decide (c<=57)) ?_ c
 decide +kernel
theorem TP (c:UInt8):((c.toNat:Int) !=46)=!(c==46):=by
 refine DS (P:=fun c=>((c.toNat:Int) !=46)=!(c==46)) ?_ c
 decide +kernel
theorem Vl (c:UInt8):((c.toNat:Int) !=64)=!(c==64):=by
 refine DS (P:=fun c=>((c.toNat:Int) !=64)=!(c==64)) ?_ c
 decide +kernel
theorem JI {α:Type} (l:List α) (d:α) (p:α->Bool):(List.range l.length).all (fun k=>p (l.getD k d))=l.all p:=by
 rw[Bool.eq_iff_iff,qY3,qY3]
 constructor
 ·intro h x hx
  obtain ⟨i,hi⟩:=List.getElem?_of_mem hx
  have:=h i (by simp only[List.mem_range];exact (List.getElem?_eq_some_iff.1 hi).1)
  simpa [qZ4,hi] using this
 ·intro h k hk
  simp only[List.mem_range] at hk
  simpa [qZ4,hk] using h _ (List.getElem_mem hk)
theorem ZO (s:qBs) (l:List qBs):l.foldr (fun w k=>cond (s==w) (some ((true,()),())) k) (some ((false,()),()))=some ((decide (s∈l),()),()):=by
 induction l with
 |nil=>simp
 |cons w l ih=>
  simp only[List.foldr_cons,ih,qY12]
  by_cases h:s=w
  ·rw[show (s==w)=true by simpa using h];simp[h]
  ·rw[show (s==w)=false by simpa using h];simp[h]
theorem AAY (s:qBs):M' s=some ((decide (s∈H9),()),()):=by
 have:=ZO s H9
 exact this
theorem Rl (s:qBs):(s==[])=decide (s=[]):=by
 cases s<;>simp
theorem AAN (s:qBs):Fm s=some ((D8 s,()),()):=by
 unfold Fm
 by_cases h0:s=[]
 ·subst h0;decide
 ·rw[show (s==([]:qBs))=false by simpa using h0,AE]
  have hl:0 < s.length:=List.length_pos_iff.2 h0
  unfold D8
  by_cases h1:s.length<=40
  ·rw[AC,qZ10 h1,Ap,Ad,Ad,Qi,Ae,AAY,Ae]
   have e:(0:Int).toNat=0:=rfl
   rw[e]
   simp only
   cases letterB (s.getD 0 0) with
   |false=>rfl
   |true=>
    simp only[qY2,AE,Bool.true_and]
    cases decide (s∈H9) with
    |true=>rfl
    |false=>
     rw[AE]
     have key:=Gb (step:=Jf) (fun k=>(s,false,(s.length:Int),(k:Int),())) (fun k=>(s,false,(s.length:Int),(k:Int),())) s.length (E:=.exit 0) (B:=.ret) (by simp) (by simp) (fun k=>EU (s.getD k 0)) (fun k hk=>by
      unfold Jf
      simp only
      rw[Aw,Ap,Ad,Ad,qZ0,Qi,Ae,AGA,YU,TP,Vl,AB (x:=(k:Int)+1) (by omega)]
      unfold EU
      generalize letterB (s.getD k 0)=a
      generalize decide (48<=s.getD k 0)=b
      generalize decide (s.getD k 0<=57)=c
      generalize (s.getD k 0==46)=d
      generalize (s.getD k 0==64)=e
      cases a<;>cases b<;>cases c<;>cases d<;>cases e<;>rfl) (by
      unfold Jf
      simp only
      rw[AC])
     rw[JI] at key
     rcases key with ⟨k1,k2⟩ | ⟨k1,j,k2⟩
     ·rw[show ((0:Nat):Int)=0 from rfl] at k2
      rw[k2,k1]
      simp only[Ae,Bh,Az,qY1,Bool.true_and]
     ·rw[show ((0:Nat):Int)=0 from rfl] at k2
      rw[k2,k1]
      simp only[Ae,Cc,Ca,Az,AE,Bool.and_false]
  ·rw[Aw,qZ9 h1]
   rfl
theorem UT (s:Int):F6 s=some ((decide (1<=s/\s<=4),()),()):=by
 unfold F6
 by_cases h:s>=1
 ·rw[Aw h]
  have:decide (s<=4)=decide (1<=s/\s<=4):=by rw[decide_eq_decide];omega
  rw[this]
 ·rw[AC h,qZ9 (by omega)]
theorem AGe {s:Int} {a:qBs} (h:a.length<=1000000):Kp s a=some (((decide (s=2)&&Bc a)||(decide (s=3)&&(rd a).isSome),()),()):=by
 unfold Kp
 rw[Ty (by omega),QA (by omega)]
 simp only[Ae]
 by_cases h2:s=2
 ·subst h2
  cases Bc a<;>rfl
 ·rw[Aj h2,qZ9 h2,Bool.false_and,Bool.false_or]
  by_cases h3:s=3
  ·subst h3;rfl
  ·rw[Aj h3,qZ9 h3,Bool.false_and]
theorem Sn {n:Aa} (h:(A_ n).length<=1000000):IJ n=some ((Bi n,()),()):=by
 obtain ⟨o,s,nm,num,kd⟩:=n
 simp only[A_] at h
 unfold IJ Bi
 simp only[nOp,A5,Bv,A_]
 rw[AGe h,UT,AAN,Ty (by omega),V7 (by omega)]
 simp only[Ae,Rl]
 by_cases e3:o=3
 ·rw[Av e3,if_pos e3];cases decide (nm=[])<;>rfl
 ·rw[Aj e3,if_neg e3]
  by_cases e4:o=4
  ·rw[Av e4,if_pos (.inl e4)];cases decide (1<=s/\s<=4)<;>cases D8 nm<;>rfl
  ·rw[Aj e4]
   by_cases e5:o=5
   ·rw[Av e5,if_pos (.inr e5)];cases decide (1<=s/\s<=4)<;>cases D8 nm<;>rfl
   ·rw[Aj e5,if_neg (by omega)]
    by_cases e6:o=16
    ·rw[Av e6,if_pos (.inl e6)]
     by_cases z:s=0
     ·rw[Av z,qZ10 z];cases decide (nm=[])<;>cases Bc num<;>rfl
     ·rw[Aj z,qZ9 z];rfl
    ·rw[Aj e6]
     by_cases e7:o=17
     ·rw[Av e7,if_pos (.inr e7)]
      by_cases z:s=0
      ·rw[Av z,qZ10 z];cases decide (nm=[])<;>cases Bc num<;>rfl
      ·rw[Aj z,qZ9 z];rfl
     ·rw[Aj e7,if_neg (by omega)]
      by_cases g1:o>=1
      ·rw[Aw g1]
       by_cases g2:o<=20
       ·rw[Aw g2,qZ10 (show 1<=o/\o<=20 from ⟨g1,g2⟩)]
        by_cases z:s=0
        ·rw[Av z,qZ10 z];cases decide (nm=[])<;>rfl
        ·rw[Aj z,qZ9 z];rfl
       ·rw[AC g2,qZ9 (by omega)];rfl
      ·rw[AC g1,qZ9 (by omega)];rfl
theorem QL {o k:Int} (hk:0<=k):Gk o k=some ((AQ o k,()),()):=by
 by_cases h1:o=1;· subst h1;rfl
 by_cases h2:o=2;· subst h2;rfl
 by_cases h3:o=3;· subst h3;rfl
 by_cases h4:o=4;· subst h4;rfl
 by_cases h5:o=5
 ·subst h5
  have e:AQ 5 k=decide (1<=k/\k<=40):=rfl
  rw[e]
  unfold Gk
  rw[Aj (by decide),Aj (by decide),Aj (by decide),Aj (by decide),Av rfl]
  by_cases g:k>=1
  ·rw[Aw g]
   have:decide (k<=40)=decide (1<=k/\k<=40):=by rw[decide_eq_decide];omega
   rw[this]
  ·rw[AC g,qZ9 (by omega)]
 by_cases h6:o=6;· subst h6;rfl
 by_cases h16:o=16;· subst h16;rfl
 by_cases h17:o=17;· subst h17;rfl
 by_cases h20:o=20;· subst h20;rfl
 by_cases h7:o=7
 ·subst h7
  have e:AQ 7 k=decide (0<=k):=rfl
  rw[e,qZ10 hk];rfl
 by_cases h8:o=8
 ·subst h8
  have e:AQ 8 k=decide (0<=k):=rfl
  rw[e,qZ10 hk];rfl
 by_cases h14:o=14;· subst h14;rfl
 by_cases h10:o=10;· subst h10;rfl
 by_cases h19:o=19;· subst h19;rfl
 unfold Gk AQ
 rw[Aj h1,Aj h2,Aj h3,Aj h4,Aj h5,Aj h6,Aj h16,Aj h17,Aj h20,Aj h7,Aj h8,Aj h14,Aj h10,Aj h19,
  if_neg (by omega),if_neg h5,if_neg (by omega),if_neg (by omega),if_neg h14,if_neg (by omega)]
 rfl
theorem Z7 (b:Bool) (s:Int):BH b s=some ((if b=true then s else 0,()),()):=by cases b<;>rfl
theorem Ul (s:Int):Fi s=some ((decide (s=2\/s=3),()),()):=by
 unfold Fi
 by_cases h:s=2
 ·rw[Av h,qZ10 (.inl h)]
 ·rw[Aj h]
  have:(s==3)=decide (s=2\/s=3):=by
   have e:(s==3)=decide (s=3):=rfl
   rw[e,decide_eq_decide];omega
  rw[this]
theorem PG {ss:List Int} {s:Int} (hl:ss.length<=1000000000):De ss s=some ((decide (∀ x∈ss,x=s),()),()):=by
 have key:=Gb (step:=JR) (fun k=>(ss,some s,(0:Int),(ss.length:Int),(k:Int),())) (fun k=>(ss,some s,(k:Int),(ss.length:Int),(k:Int),())) ss.length (E:=.exit 0) (B:=.ret) (by simp) (by simp) (fun k=>decide (ss.getD k 0=s)) (fun k hk=>by
  unfold JR
  simp only
  rw[Aw,Ap,Ad,Ad,qZ0]
  have e:Mx (ss.getD k 0) (some s)=some ((ss.getD k 0 !=s,()),()):=rfl
  rw[e,Ae,AB (x:=(k:Int)+1) (by omega)]
  by_cases h:ss.getD k 0=s
  ·rw[BX h,if_pos (qZ10 h)];rfl
  ·rw[B5 h,if_neg (fun e=>h (of_decide_eq_true e))]) (by
  unfold JR
  simp only
  rw[AC])
 rw[JI ss 0 (fun x=>decide (x=s))] at key
 rw[show ((0:Nat):Int)=0 from rfl] at key
 unfold De NV NR
 rcases key with ⟨k1,k2⟩ | ⟨k1,j,k2⟩
 ·rw[k2]
  simp only[Ae,Bh,Az]
  rw[show decide (∀ x∈ss,x=s)=true from qZ10 (by simpa [qY3] using k1)]
  rfl
 ·rw[k2]
  simp only[Ae,Cc,Ca,Az,AE]
  rw[show decide (∀ x∈ss,x=s)=false from qZ9 (fun h=>by rw[List.all_eq_true.2 (fun x hx=>qZ10 (h x hx))] at k1;cases k1),qZ10 (show (j:Int)>=0 by omega)]
  rfl
theorem Uf {n:Aa} {ss:List Int} (ho:1<=nOp n/\nOp n<=20) (hl:ss.length<=1000000000) (hc:AQ (nOp n) ss.length=true):Gz n ss=some ((AO n 3 ss,()),()):=by
 obtain ⟨o,s,nm,num,kd⟩:=n
 simp only[nOp] at ho hc
 unfold Gz AO
 simp only[nOp,A5,PG hl,PG (show (ss.drop 1).length<=1000000000 by simp;omega),Z7,Ul,Ae,decide_eq_true_eq,show (0:Int).toNat=0 from rfl,show (1:Int).toNat=1 from rfl,show (2:Int).toNat=2 from rfl]
 by_cases h3:o=3;· rw[Av h3,if_pos (.inl h3)]
 rw[Aj h3]
 by_cases h4:o=4;· rw[Av h4,if_pos (.inr (.inl h4))]
 rw[Aj h4]
 by_cases h5:o=5;· rw[Av h5,if_pos (.inr (.inr h5))]
 rw[Aj h5,if_neg (show ¬ (o=3\/o=4\/o=5) by omega)]
 by_cases h1:o=1;· rw[Av h1,if_pos (show o=1\/o=2\/o=6\/o=7\/o=8\/o=9 by omega)]
 rw[Aj h1]
 by_cases h2:o=2;· rw[Av h2,if_pos (show o=1\/o=2\/o=6\/o=7\/o=8\/o=9 by omega)]
 rw[Aj h2]
 by_cases h6:o=6;· rw[Av h6,if_pos (show o=1\/o=2\/o=6\/o=7\/o=8\/o=9 by omega)]
 rw[Aj h6]
 by_cases h7:o=7;· rw[Av h7,if_pos (show o=1\/o=2\/o=6\/o=7\/o=8\/o=9 by omega)]
 rw[Aj h7]
 by_cases h8:o=8;· rw[Av h8,if_pos (show o=1\/o=2\/o=6\/o=7\/o=8\/o=9 by omega)]
 rw[Aj h8]
 by_cases h9:o=9;· rw[Av h9,if_pos (show o=1\/o=2\/o=6\/o=7\/o=8\/o=9 by omega)]
 rw[Aj h9,if_neg (show ¬ (o=1\/o=2\/o=6\/o=7\/o=8\/o=9) by omega)]
 by_cases h10:o=10
 ·subst h10
  rcases ss with _ | ⟨a,_ | ⟨b,_ | ⟨c,_ | ⟨d,l⟩⟩⟩⟩<;>simp[AQ] at hc
  ·by_cases q:a=1
   ·simp[Ab,q]
   ·simp[Ab,q,show (a==1)=false by simpa using q]
  ·omega
 rw[Aj h10,if_neg h10]
 by_cases h11:o=11
 ·subst h11
  rcases ss with _ | ⟨a,_ | ⟨b,_ | ⟨c,l⟩⟩⟩<;>simp[AQ] at hc
  ·simp[Ab]
  ·omega
 rw[Aj h11,if_neg h11]
 by_cases h12:o=12
 ·subst h12
  rcases ss with _ | ⟨a,_ | ⟨b,_ | ⟨c,l⟩⟩⟩<;>simp[AQ] at hc
  ·by_cases q:a=2\/a=3<;>simp[Ab,q]
  ·omega
 rw[Aj h12]
 by_cases h13:o=13
 ·subst h13
  rcases ss with _ | ⟨a,_ | ⟨b,_ | ⟨c,l⟩⟩⟩<;>simp[AQ] at hc
  ·by_cases q:a=2\/a=3<;>simp[Ab,q]
  ·omega
 rw[Aj h13,if_neg (show ¬ (o=12\/o=13) by omega)]
 by_cases h14:o=14
 ·subst h14
  rcases ss with _ | ⟨a,l⟩<;>simp[AQ] at hc
  by_cases q:a=2\/a=3<;>simp[Ab,q]
 rw[Aj h14,if_neg h14]
 by_cases h15:o=15
 ·subst h15
  rcases ss with _ | ⟨a,_ | ⟨b,_ | ⟨c,l⟩⟩⟩<;>simp[AQ] at hc
  ·by_cases q:a=2\/a=3<;>simp[Ab,q]
  ·omega
 rw[Aj h15,if_neg h15]
 by_cases h16:o=16
 ·subst h16
  rcases ss with _ | ⟨a,_ | ⟨b,l⟩⟩<;>simp[AQ] at hc
  ·simp[Ab]
  ·omega
 rw[Aj h16]
 by_cases h17:o=17
 ·subst h17
  rcases ss with _ | ⟨a,_ | ⟨b,l⟩⟩<;>simp[AQ] at hc
  ·simp[Ab]
  ·omega
 rw[Aj h17,if_neg (show ¬ (o=16\/o=17) by omega)]
 by_cases h18:o=18
 ·subst h18
  rcases ss with _ | ⟨a,_ | ⟨b,_ | ⟨c,l⟩⟩⟩<;>simp[AQ] at hc
  ·by_cases q:a=4
   ·simp[Ab,q]
   ·simp[Ab,q,show (a==4)=false by simpa using q]
  ·omega
 rw[Aj h18,if_neg h18]
 by_cases h19:o=19
 ·subst h19
  rcases ss with _ | ⟨a,_ | ⟨b,_ | ⟨c,_ | ⟨d,l⟩⟩⟩⟩<;>simp[AQ] at hc
  ·by_cases q:a=4
   ·simp[Ab,q]
   ·simp[Ab,q,show (a==4)=false by simpa using q]
  ·omega
 rw[Aj h19,if_neg h19]
 obtain rfl:o=20:=by omega
 rcases ss with _ | ⟨a,_ | ⟨b,l⟩⟩<;>simp[AQ] at hc
 ·simp[Ab]
 ·omega
namespace Tf
def info:Nat->Tf->List (Int×Int×Int)
 |_,nil=>[]
 |p,cons n k r=>((if 0∈srt k then 0 else AO n (op1 k) (srt k)),((dep k+1:Nat):Int),((p+1+size k:Nat):Int))::(info (p+1) k++info (p+1+size k) r)
def rts:Nat->Tf->List Int
 |_,nil=>[]
 |p,cons _ k r=>rts (p+1+size k) r++[(p:Int)]
def rtf:Nat->Tf->List Int
 |_,nil=>[]
 |p,cons _ k r=>(p:Int)::rtf (p+1+size k) r
theorem Cm (f:Tf):∀ p,(info p f).length=f.size:=by
 induction f with
 |nil=>intro p;rfl
 |cons n k r ik ir=>intro p;simp only[info,size,qY11,qZ6,ik,ir]
theorem Rr (f g:Tf):∀ p,info p (f.app g)=info p f++info (p+f.size) g:=by
 induction f with
 |nil=>intro p;simp[app,info,size]
 |cons n k r _ ir=>
  intro p
  have e:p+1+size k+size r=p+(size k+size r+1):=by omega
  simp only[app,info,size,ir,qY5,qZ1,e]
theorem AFD (f g:Tf):∀ p,rts p (f.app g)=rts (p+f.size) g++rts p f:=by
 induction f with
 |nil=>intro p;simp[app,rts,size]
 |cons n k r _ ir=>
  intro p
  have e:p+1+size k+size r=p+(size k+size r+1):=by omega
  simp only[app,rts,size,ir,qZ1,e]
theorem Ft (f:Tf):∀ p,(rts p f).length=f.len:=by
 induction f with
 |nil=>intro p;rfl
 |cons n k r _ ir=>intro p;simp[rts,len,ir]
theorem AFs (f:Tf):∀ p,(rts p f).reverse=rtf p f:=by
 induction f with
 |nil=>intro p;rfl
 |cons n k r _ ir=>intro p;simp[rts,rtf,ir]
end Tf
open Tf
theorem AFN {α β γ:Type} (f:β->γ->Option γ) (g:α->β):∀ (l:List α) (y:γ),foldO (fun a y=>f (g a) y) l y=foldO f (l.map g) y:=by
 intro l
 induction l with
 |nil=>intro y;rfl
 |cons a l ih=>intro y;simp only[foldO,List.map_cons];congr 1;funext z;exact ih z
theorem AEj {β:Type} (f:Int->β->Option β) (l:List Int) (y:β):foldO (fun (p:Int×Nat) y=>f p.1 y) l.zipIdx.reverse y=foldO f l.reverse y:=by
 rw[AFN f (fun p:Int×Nat=>p.1),List.map_reverse]
 congr 2
 exact List.zipIdx_map_fst 0 l
theorem DV {α:Type} {l r:List α} {p:Nat} {x d:α} (h:l.drop p=x::r):l.getD p d=x/\p < l.length:=by
 have h0:(l.drop p)[0]?=some x:=by rw[h];rfl
 rw[List.getElem?_drop] at h0
 have e:p+0=p:=by omega
 rw[e] at h0
 exact ⟨by rw[qZ4,h0];rfl,(List.getElem?_eq_some_iff.1 h0).1⟩
abbrev SQ:=((List Aa)×List (Int×Af))×(Int×Af)×(List Int)×Unit
def Jx (v:Int) (y:SQ):Option SQ:=(H6 v 0 y).bind fun o=>some (Hx y o)
theorem Zv (t:List Aa) (P:List (Int×Af)) (hP:P.length<=20000):∀ (k:Tf) (p:Nat) (s0:Int) (d0:Nat) (ss:List Int),(∃ rest,P.drop p=info p k++rest)->1<=d0->d0<=100000->ss.length+k.len<=100000->
 foldO Jx (rtf p k) ((t,P),(s0,(d0:Int),(p:Int)),ss,())=some ((t,P),(s0,((max d0 (k.dep+1):Nat):Int),((p+k.size:Nat):Int)),ss++k.srt,()):=by
 intro k
 induction k with
 |nil=>
  intro p s0 d0 ss _ h1 _ _
  have e:max d0 (dep nil+1)=d0:=by simp only[dep];omega
  simp only[rtf,foldO,srt,qY4,size,Nat.add_zero,e]
 |cons n k r ik ir=>
  intro p s0 d0 ss ⟨rest,hr⟩ h1 h2 h3
  simp only[info,qY5] at hr
  obtain ⟨g1,g2⟩:=DV (d:=((0:Int),(0:Int),(0:Int))) hr
  have hz:size k+size r+1<=P.length:=by
   have:=congrArg List.length hr
   simp only[List.length_drop,qY11,qZ6,Cm] at this
   omega
  have hdk:=UX k
  have hdr:=UX r
  have hlr:=Dz r
  simp only[len] at h3
  simp only[rtf,foldO]
  have hstep:Jx (p:Int) ((t,P),(s0,(d0:Int),(p:Int)),ss,())=some ((t,P),(s0,((max d0 (k.dep+2):Nat):Int),((p+1+size k:Nat):Int)),ss++[if 0∈srt k then 0 else AO n (op1 k) (srt k)],()):=by
   unfold Jx H6 Hx
   simp only
   rw[qZ0,g1]
   rw[Ap,Ad,Ad,Ad g2,Ad (by simp[As];omega),Ap,Ad,Ad,Ad g2,Ap,Ad,Ad,Ad g2,Ae]
   rw[AB (x:=((dep k+1:Nat):Int)+1) (by omega)]
   have:BN (d0:Int) (((dep k+1:Nat):Int)+1)=((max d0 (k.dep+2):Nat):Int):=by rw[Mw];split<;>omega
   rw[this]
  rw[hstep,Option.bind_some]
  rw[ir (p+1+size k) s0 (max d0 (k.dep+2)) _ ⟨rest,by
   have:=congrArg (List.drop (1+size k)) hr
   rw[List.drop_drop] at this
   have e:p+(1+size k)=p+1+size k:=by omega
   rw[e] at this
   rw[this,Nat.add_comm 1,List.drop_succ_cons,qZ1,List.drop_append_of_le_length (by rw[Cm];omega)]
   have:(info (p+1) k).drop (size k)=[]:=qY7 (by rw[Cm];omega)
   rw[this,qY15]⟩ (by omega) (by omega) (by simp;omega)]
  have e1:max (max d0 (k.dep+2)) (r.dep+1)=max d0 ((cons n k r).dep+1):=by simp only[dep];omega
  have e2:p+1+size k+size r=p+(cons n k r).size:=by simp only[size];omega
  rw[e1,e2]
  simp only[srt,qZ1,qY5,qY15]
theorem LG (n:Aa) (f:Int) (ss:List Int):AO n f ss=if nOp n=15/\f≠3 then 0 else AO n 3 ss:=by
 unfold AO
 by_cases h:nOp n=15
 ·by_cases hf:f=3
  ·simp[h,hf]
  ·simp[h,hf]
 ·simp[h]
theorem X8:∀ (i:Nat) {t:List Aa} {f:Tf},bkp t=some f->∃ g,bkp (t.drop i)=some g:=by
 intro i
 induction i with
 |zero=>intro t f h;exact ⟨f,by simpa using h⟩
 |succ i ih=>
  intro t f h
  cases t with
  |nil=>exact ⟨nil,by simp[bkp]⟩
  |cons n l=>
   simp only[bkp,Option.bind_eq_some_iff] at h
   obtain ⟨g,hg,_⟩:=h
   simpa using ih hg
def BG (t:List Aa):Prop:=∀ n∈t,(A_ n).length<=100000
theorem AAV {t:List Aa} (hs:BG t) (hl:t.length<=20000) {i:Nat} (hi:i < t.length) {F:Tf} {P:List (Int×Af)} (hF:bkp (t.drop (i+1))=some F) (hP:P.length=t.length) (hPi:P.drop (i+1)=info (i+1) F) :
 (bkp (t.drop i)=none/\∃ v,Fy (t,(none:Option A4),false,(t,P),rts (i+1) F,(i:Int),())=some (.ret,(t,(none:Option A4),false,v,rts (i+1) F,(i:Int),())))\/
 ∃ G P',bkp (t.drop i)=some G/\P'.length=t.length/\P'.drop i=info i G/\Fy (t,(none:Option A4),false,(t,P),rts (i+1) F,(i:Int),())=some (.normal,(t,(none:Option A4),false,(t,P'),rts i G,(i:Int) - 1,())):=by
 obtain ⟨hf1,hf2,hf3⟩:=N3 hF
 have hsz:F.size=t.length - (i+1):=by rw[<-Br,hf1,List.length_drop]
 have hfl:=Dz F
 have hget:t.getD i Ao=t[i]:=by simp[qZ4,hi]
 have hmem:t[i]∈t:=List.getElem_mem hi
 have hbp:bkp (t.drop i)=if Cd t[i]=true/\AU t[i]<=(F.len:Int)/\(0:Int)≠AO t[i] (op1 (take (AU t[i]).toNat F)) (take (AU t[i]).toNat F).srt then some (cons t[i] (take (AU t[i]).toNat F) (drop (AU t[i]).toNat F)) else none:=by
  rw[qY6 hi]
  simp only[bkp,hF,Option.bind_some]
 have hnum:=hs _ hmem
 have hfe:=Sn (n:=t[i]) (by omega)
 unfold Fy
 simp only
 rw[Aw,Ap,Ad,Ad,qZ0,hget]
 generalize hn:t[i]=n at hbp hnum hfe ⊢
 have hK:n.2.2.2.2=AU n:=rfl
 have hO:n.1=nOp n:=rfl
 rw[hK,hO,Ft]
 by_cases q1:AU n < 0
 ·rw[Aw q1]
  refine .inl ⟨?_,_,rfl⟩
  rw[hbp,if_neg]
  rintro ⟨h,_⟩
  unfold Cd at h
  simp only[qY0] at h
  have:=Lk h.2
  omega
 rw[AC q1]
 by_cases q2:AU n > (F.len:Int)
 ·rw[Aw q2]
  exact .inl ⟨by rw[hbp,if_neg (by omega)],_,rfl⟩
 rw[AC q2,hfe,Ae]
 by_cases q3:Bi n=false
 ·rw[q3]
  refine .inl ⟨?_,_,rfl⟩
  rw[hbp,if_neg]
  rintro ⟨h,_⟩
  unfold Cd at h
  rw[q3] at h
  cases h
 rw[Bool.not_eq_false] at q3
 rw[q3]
 simp only[qY2,AE]
 rw[QL (by omega),Ae]
 by_cases q4:AQ (nOp n) (AU n)=false
 ·rw[q4]
  refine .inl ⟨?_,_,rfl⟩
  rw[hbp,if_neg]
  rintro ⟨h,_⟩
  unfold Cd at h
  rw[q4,Bool.and_false] at h
  cases h
 rw[Bool.not_eq_false] at q4
 rw[q4]
 simp only[qY2,AE]
 have hok:Cd n=true:=by unfold Cd;rw[q3,q4];rfl
 obtain ⟨c,hc⟩:∃ c:Nat,AU n=(c:Int):=⟨(AU n).toNat,by omega⟩
 have hct:(AU n).toNat=c:=by omega
 rw[hct] at hbp
 have hFe:=P_ c F
 have hkl:=Sk c F (by omega)
 generalize hk:take c F=k at hbp hFe hkl
 generalize hr:drop c F=r at hbp hFe
 have hlen:F.len=k.len+r.len:=by rw[<-hFe,LB]
 have hsize:F.size=k.size+r.size:=by rw[<-hFe,OI]
 have hrl:r.len=F.len - c:=by omega
 have hR:rts (i+1) F=rts (i+1+k.size) r++rts (i+1) k:=by rw[<-hFe,AFD]
 have hw:qI ((F.len:Int) - AU n)=(r.len:Int):=by rw[AB];omega
 have hRd:(rts (i+1) F).drop r.len=rts (i+1) k:=by
  rw[hR,List.drop_append_of_le_length (by rw[Ft];omega),qY7 (by rw[Ft];omega),qY15]
 have hRt:(rts (i+1) F).take r.len=rts (i+1+k.size) r:=by
  rw[hR,List.take_append_of_le_length (by rw[Ft];omega),List.take_of_length_le (by rw[Ft];omega)]
 have hRdt:((rts (i+1) F).drop r.len).take (F.len - r.len)=rts (i+1) k:=by
  rw[hRd,List.take_of_length_le (by rw[Ft];omega)]
 have hfold:=Zv t P (by omega) k (i+1) 0 1 [] ⟨info (i+1+k.size) r,by rw[hPi,<-hFe,Rr]⟩ (by omega) (by omega) (by simp;omega)
 rw[hw,qZ0,hRdt]
 rw[Ap,Ad,Ad,Ad (by rw[Ft];simp only[As];omega)]
 have hidx:foldO (fun (p:Int×Nat) y=>(H6 p.1 p.2 y).bind fun o=>some (Hx y o)) (rts (i+1) k).zipIdx.reverse ((t,P),((0:Int),1,qI ((i:Int)+1)),([]:List Int),())=foldO Jx (rtf (i+1) k) ((t,P),((0:Int),((1:Nat):Int),((i+1:Nat):Int)),([]:List Int),()):=by
  rw[<-AFs,<-AEj Jx]
  rw[AB]
  rfl
 rw[hidx,hfold,Ae,Ae]
 unfold KW
 simp only[qY15]
 have hss:k.srt.length=c:=by rw[C8];exact hkl
 have hop:1<=nOp n/\nOp n<=20:=by
  unfold Bi at q3
  split at q3
  ·omega
  ·split at q3
   ·omega
   ·split at q3
    ·omega
    ·simp only[qY0,decide_eq_true_eq] at q3
     exact q3.1.1.1
 rw[Uf hop (by omega) (by rw[hss,<-hc];exact q4),Ae]
 have hfirst:=LG n (op1 k) k.srt
 by_cases q5:AO n 3 k.srt=0
 ·rw[Av q5]
  refine .inl ⟨?_,_,rfl⟩
  rw[hbp,if_neg]
  rintro ⟨_,_,h⟩
  rw[hfirst,q5] at h
  split at h<;>exact h rfl
 rw[Aj q5]
 have hwi:qI ((i:Int)+1)=((i+1:Nat):Int):=by rw[AB];omega
 have hwm:qI ((i:Int) - 1)=(i:Int) - 1:=AB
 have hgood:∀ (hx:¬ (nOp n=15/\op1 k≠3)),bkp (t.drop i)=some (cons n k r)/\(P.set i (AO n 3 k.srt,((max 1 (k.dep+1):Nat):Int),((i+1+k.size:Nat):Int))).drop i=info i (cons n k r):=by
  intro hx
  rw[if_neg hx] at hfirst
  refine ⟨by rw[hbp,if_pos ⟨hok,by omega,by rw[hfirst];exact fun e=>q5 e.symm⟩],?_⟩
  have h0:(0:Int)∉k.srt:=fun h=>hf3 (by rw[<-hFe,G6,qZ7];exact .inl h)
  rw[qY6 (by simp;omega)]
  simp only[info]
  rw[if_neg h0,hfirst,List.getElem_set_self,List.drop_set_of_lt (by omega),hPi,<-hFe,Rr]
  have e:max 1 (k.dep+1)=k.dep+1:=by omega
  rw[e]
 have hlt:P.length=t.length:=hP
 by_cases q6:nOp n=15
 ·rw[Av q6,hwi,Ap,Ad]
  have hk2:0 < k.len:=by
   have:AQ 15 (AU n)=decide (AU n=2):=rfl
   rw[q6,this,decide_eq_true_eq] at q4
   omega
  have hkne:∃ n1 k1 r1,k=cons n1 k1 r1:=by
   cases k with
   |nil=>simp[len] at hk2
   |cons n1 k1 r1=>exact ⟨n1,k1,r1,rfl⟩
  obtain ⟨n1,k1,r1,hke⟩:=hkne
  have hd:t.drop (i+1)=n1::(k1.flat++r1.flat++r.flat):=by
   rw[<-hf1,<-hFe,hke]
   simp only[app,flat,HP,qZ1]
  obtain ⟨g1,g2⟩:=DV (d:=Ao) hd
  have ho1:op1 k=n1.1:=by rw[hke];rfl
  rw[Ad,qZ0,g1]
  by_cases q7:n1.1=3
  ·rw[BX q7]
   obtain ⟨b1,b2⟩:=hgood (fun h=>h.2 (by rw[ho1];exact q7))
   refine .inr ⟨_,_,b1,by simp[hP],b2,?_⟩
   rw[Ap,Ad,Ad,Ad,Ap,Ad,Ad,Ad (by simp[As];omega),hRt,hwm]
   rfl
  ·rw[B5 q7]
   refine .inl ⟨?_,_,rfl⟩
   rw[hbp,if_neg]
   rintro ⟨_,_,h⟩
   rw[hfirst,if_pos ⟨q6,by rw[ho1];exact q7⟩] at h
   exact h rfl
 ·rw[Aj q6]
  obtain ⟨b1,b2⟩:=hgood (fun h=>q6 h.1)
  refine .inr ⟨_,_,b1,by simp[hP],b2,?_⟩
  rw[Ap,Ad,Ad,Ad,Ap,Ad,Ad,Ad (by simp[As];omega),hRt,hwm]
  rfl
theorem AGn {t:List Aa} (hs:BG t) (hl:t.length<=20000):∀ (j:Nat),j<=t.length->∀ (F:Tf) (P:List (Int×Af)),bkp (t.drop j)=some F->P.length=t.length->P.drop j=info j F->
 (bkp t=none/\∃ v,Am Fy (t,(none:Option A4),false,(t,P),rts j F,(j:Int) - 1,())=some (.ret,(t,(none:Option A4),false,v)))\/
 ∃ G,bkp t=some G/\Am Fy (t,(none:Option A4),false,(t,P),rts j F,(j:Int) - 1,())=some (.exit 0,(t,(none:Option A4),false,(t,info 0 G),rts 0 G,-1,())):=by
 intro j
 induction j with
 |zero=>
  intro _ F P hF hP hPi
  refine .inr ⟨F,by simpa using hF,Ba ?_ (by simp)⟩
  unfold Fy
  simp only
  rw[AC]
  have e:P=info 0 F:=by simpa using hPi
  rw[e]
  rfl
 |succ j ih=>
  intro hj F P hF hP hPi
  have e:(((j+1:Nat):Int) - 1)=(j:Int):=by omega
  rw[e]
  rcases AAV hs hl (i:=j) (by omega) hF hP hPi with ⟨h1,v,h2⟩ | ⟨G,P',h1,h2,h3,h4⟩
  ·refine .inl ⟨?_,_,Ba h2 (by simp)⟩
   cases hb:bkp t with
   |none=>rfl
   |some f=>
    obtain ⟨g,hg⟩:=X8 j hb
    rw[h1] at hg;cases hg
  ·rw[A8 h4]
   exact ih (by omega) G P' h1 h2 h3
theorem Pj {t:List Aa} (hs:BG t) (hl:t.length<=20000):Gt t=some ((match bkp t with | none=>(none,false,()) | some F=>(some (t,info 0 F),decide (F.len=1),())),()):=by
 unfold Gt
 have h:=AGn hs hl t.length (Nat.le_refl _) nil (List.replicate t.length ((0:Int),(0:Int),(0:Int))) (by simp[bkp]) (by simp) (by simp[info])
 rw[Ap,Ap,Ad,Ad,Ad (by simp only[As];omega),qZ0,AB]
 simp only[rts] at h
 rcases h with ⟨h1,v,h2⟩ | ⟨G,h1,h2⟩
 ·rw[h2,h1]
  simp only[Ae,Cc,Ca,Az,AE]
 ·rw[h2,h1]
  simp only[Ae,Bh,Az,Ft]
  have e:((G.len:Int)==1)=decide (G.len=1):=by
   have e:((G.len:Int)==1)=decide ((G.len:Int)=1):=rfl
   rw[e,decide_eq_decide];omega
  rw[e]
end Go.AM.Num
end
section
namespace Go.AM.Num
theorem J2 {α:Type} (s:qBs) (x:α):∀ l,AT s (Bw s x l)=some x:=by
 intro l
 induction l with
 |nil=>simp[Bw,AT]
 |cons a l ih=>
  obtain ⟨k,y⟩:=a
  simp only[Bw]
  by_cases h:k=s
  ·rw[show (k==s)=true by simpa using h];simp[AT,h]
  ·have hk:(k==s)=false:=by simpa using h
   rw[hk];simp[AT,hk,ih]
theorem IB {α:Type} {s t:qBs} (h:t≠s) (x:α):∀ l,AT t (Bw s x l)=AT t l:=by
 intro l
 have h2:(s==t)=false:=by simpa using fun e=>h e.symm
 induction l with
 |nil=>simp[Bw,AT,h2]
 |cons a l ih=>
  obtain ⟨k,y⟩:=a
  simp only[Bw]
  by_cases hk:k=s
  ·subst hk;simp[AT,h2]
  ·rw[show (k==s)=false by simpa using hk]
   simp only[AE,AT,ih]
namespace Tf
def subs:Tf->List (Aa×Tf)
 |nil=>[]
 |cons n k r=>(n,k)::(subs k++subs r)
theorem Fk (f:Tf):f.subs.length=f.size:=by
 induction f with
 |nil=>rfl
 |cons n k r ik ir=>simp only[subs,size,qY11,qZ6,ik,ir]
theorem Q4 (f:Tf):∀ (o p:Nat),p < f.size->∃ n k x rest rest2,f.subs[p]?=some (n,k)/\f.flat.drop p=n::(k.flat++rest)/\(info o f).drop p=x::(info (o+p+1) k++rest2):=by
 induction f with
 |nil=>intro o p h;simp[size] at h
 |cons n k r ik ir=>
  intro o p h
  cases p with
  |zero=>exact ⟨n,k,((if 0∈srt k then 0 else AO n (op1 k) (srt k)),((dep k+1:Nat):Int),((o+1+size k:Nat):Int)),flat r,info (o+1+size k) r,rfl,rfl,rfl⟩
  |succ p=>
   simp only[size] at h
   by_cases hp:p < k.size
   ·obtain ⟨n',k',x,rest,rest2,h1,h2,h3⟩:=ik (o+1) p hp
    refine ⟨n',k',x,rest++r.flat,rest2++info (o+1+k.size) r,?_,?_,?_⟩
    ·simp only[subs,List.getElem?_cons_succ]
     rw[qY8 (by rw[Fk];exact hp)]
     exact h1
    ·simp only[flat,List.drop_succ_cons]
     rw[List.drop_append_of_le_length (by rw[Br];omega),h2]
     simp
    ·simp only[info,List.drop_succ_cons]
     rw[List.drop_append_of_le_length (by rw[Cm];omega),h3]
     have e:o+1+p+1=o+(p+1)+1:=by omega
     simp[e]
   ·obtain ⟨n',k',x,rest,rest2,h1,h2,h3⟩:=ir (o+1+k.size) (p - k.size) (by omega)
    refine ⟨n',k',x,rest,rest2,?_,?_,?_⟩
    ·simp only[subs,List.getElem?_cons_succ]
     rw[qY9 (by rw[Fk];omega),Fk]
     exact h1
    ·simp only[flat,List.drop_succ_cons]
     rw[List.drop_append,Br,qY7 (by rw[Br];omega),h2]
     rfl
    ·simp only[info,List.drop_succ_cons]
     rw[List.drop_append,Cm,qY7 (by rw[Cm];omega),h3]
     have e:o+1+k.size+(p - k.size)+1=o+(p+1)+1:=by omega
     simp[e]
theorem M7 {f:Tf} (hw:f.wf=true) (hs:(0:Int)∉f.srt):∀ {n:Aa} {k:Tf},(n,k)∈f.subs->Cd n=true/\AU n=(k.len:Int)/\k.wf=true/\(0:Int)∉k.srt:=by
 induction f with
 |nil=>intro n k h;simp[subs] at h
 |cons m a b ia ib=>
  intro n k h
  obtain ⟨h1,h2,h3,h4⟩:=Cp.1 hw
  obtain ⟨s1,s2,s3⟩:=DB.1 hs
  simp only[subs,qY12,qZ7,Prod.mk.injEq] at h
  rcases h with ⟨rfl,rfl⟩ | h | h
  ·exact ⟨h1,h2,h3,s1⟩
  ·exact ia h3 s1 h
  ·exact ib h4 s3 h
theorem Kt {f:Tf}:∀ {n:Aa} {k:Tf},(n,k)∈f.subs->k.size < f.size:=by
 induction f with
 |nil=>intro n k h;simp[subs] at h
 |cons m a b ia ib=>
  intro n k h
  simp only[subs,qY12,qZ7,Prod.mk.injEq] at h
  simp only[size]
  rcases h with ⟨rfl,rfl⟩ | h | h
  ·omega
  ·have:=ia h;omega
  ·have:=ib h;omega
end Tf
open Tf
theorem WG (t:List Aa) (P:List (Int×Af)) (hP:P.length<=20000):∀ (k:Tf) (p:Nat) (out:List Int) (idx:Nat) (K:Int),(∃ rest,P.drop p=info p k++rest)->((idx+k.len:Nat):Int)=K->out.length+k.len<=100000->idx+k.len<=100000->
 Am Ji (some (t,P),out,(p:Int),K,(idx:Int),())=some (.exit 0,(some (t,P),out++rtf p k,((p+k.size:Nat):Int),K,K,())):=by
 intro k
 induction k with
 |nil=>
  intro p out idx K _ h1 _ _
  simp only[len,Nat.add_zero] at h1
  subst h1
  refine Ba ?_ (by simp)
  unfold Ji
  simp only
  rw[AC]
  simp[rtf,size]
 |cons n k r ik ir=>
  intro p out idx K ⟨rest,hr⟩ h1 h2 h3
  simp only[info,qY5] at hr
  obtain ⟨g1,g2⟩:=DV (d:=((0:Int),(0:Int),(0:Int))) hr
  simp only[len] at h1 h2 h3
  have hr':P.drop (p+1+size k)=info (p+1+size k) r++rest:=by
   have:=congrArg (List.drop (1+size k)) hr
   rw[List.drop_drop] at this
   have e:p+(1+size k)=p+1+size k:=by omega
   rw[e] at this
   rw[this,Nat.add_comm 1,List.drop_succ_cons,qZ1,List.drop_append_of_le_length (by rw[Cm];omega)]
   have:(info (p+1) k).drop (size k)=[]:=qY7 (by rw[Cm];omega)
   rw[this,qY15]
  rw[A8 (y:=(some (t,P),out++[(p:Int)],((p+1+size k:Nat):Int),K,((idx+1:Nat):Int),())) (by
   unfold Ji
   simp only[Option.isSome_some,Option.getD_some]
   rw[Aw,qZ0,g1]
   rw[Ad (by simp[As];omega),Cg,Ap,Ad,Ad,AB (x:=(idx:Int)+1) (by omega)]
   rfl)]
  rw[ir (p+1+size k) _ (idx+1) K ⟨rest,hr'⟩ (by omega) (by simp;omega) (by omega)]
  have e2:p+1+size k+size r=p+(cons n k r).size:=by simp only[size];omega
  rw[e2]
  simp only[rtf,qZ1,qY5,qY15]
theorem Ux {t:List Aa} {P:List (Int×Af)} (hP:P.length<=20000) {p:Nat} {n:Aa} {k:Tf} {rest:List (Int×Af)} (hp:p < t.length) (ht:t.getD p Ao=n) (hn:AU n=(k.len:Int)) (hd:P.drop (p+1)=info (p+1) k++rest) (hk:k.size<=20000) (hpl:p<=20000) :
 Io (some (t,P)) (p:Int)=some ((rtf (p+1) k,()),()):=by
 have hkl:=Dz k
 unfold Io
 simp only[Option.isSome_some,Option.getD_some]
 rw[Cg,Ap,Ad,Ad,qZ0,ht,AB]
 have hK:n.2.2.2.2=(k.len:Int):=hn
 have:=WG t P hP k (p+1) [] 0 (k.len:Int) ⟨rest,hd⟩ (by simp) (by simp;omega) (by omega)
 rw[hK]
 have e:((p+1:Nat):Int)=(p:Int)+1:=by omega
 rw[e] at this
 rw[show ((0:Nat):Int)=0 from rfl] at this
 rw[this]
 simp only[Ae,Bh,Az,qY15]
theorem AFZ (t:List Aa) (P:List (Int×Af)) (hP:P.length<=20000) (t4:qBs×Ac) (nm:qBs) (s:Int):∀ (k:Tf) (p:Nat) (args pre:List Int),(∃ rest,P.drop p=info p k++rest)->args.length+k.len<=100000->pre.length+k.len<=100000->
 Am t_view_signature_s3 (some (t,P),t4,(nm,args,s),pre++rtf p k,((pre++rtf p k).length:Int),(pre.length:Int),())=some (.exit 0,(some (t,P),t4,(nm,args++k.srt,s),pre++rtf p k,((pre++rtf p k).length:Int),((pre++rtf p k).length:Int),())):=by
 intro k
 induction k with
 |nil=>
  intro p args pre _ _ _
  refine Ba ?_ (by simp)
  unfold t_view_signature_s3
  simp only[rtf,qY4]
  rw[AC]
  simp[srt]
 |cons n k r ik ir=>
  intro p args pre ⟨rest,hr⟩ h2 h3
  simp only[info,qY5] at hr
  obtain ⟨g1,g2⟩:=DV (d:=((0:Int),(0:Int),(0:Int))) hr
  simp only[len] at h2 h3
  have hr':P.drop (p+1+size k)=info (p+1+size k) r++rest:=by
   have:=congrArg (List.drop (1+size k)) hr
   rw[List.drop_drop] at this
   have e:p+(1+size k)=p+1+size k:=by omega
   rw[e] at this
   rw[this,Nat.add_comm 1,List.drop_succ_cons,qZ1,List.drop_append_of_le_length (by rw[Cm];omega)]
   have:(info (p+1) k).drop (size k)=[]:=qY7 (by rw[Cm];omega)
   rw[this,qY15]
  have ih:=ir (p+1+size k) (args++[if 0∈srt k then 0 else AO n (op1 k) (srt k)]) (pre++[(p:Int)]) ⟨rest,hr'⟩ (by simp;omega) (by simp;omega)
  simp only[qZ1,qY5,qY15] at ih
  simp only[rtf,srt]
  rw[A8 (y:=(some (t,P),t4,(nm,args++[if 0∈srt k then 0 else AO n (op1 k) (srt k)],s),pre++(p:Int)::rtf (p+1+size k) r,((pre++(p:Int)::rtf (p+1+size k) r).length:Int),((pre.length+1:Nat):Int),())) (by
   unfold t_view_signature_s3
   have e:(pre++(p:Int)::rtf (p+1+size k) r).getD pre.length 0=(p:Int):=by simp[qZ4]
   simp only[Option.isSome_some,Option.getD_some]
   rw[Aw (by simp;omega),Ap,Ad,Ad (by simp;omega),Cg,qZ0,e,Ap,Ad,Ad,qZ0,g1,Ad (by simp[As];omega),AB (x:=(pre.length:Int)+1) (by omega)]
   rfl)]
  have e2:(pre++[(p:Int)]).length=pre.length+1:=by simp
  rw[e2] at ih
  rw[ih]
theorem Yh {t:List Aa} {P:List (Int×Af)} (hP:P.length<=20000) {p:Nat} {n:Aa} {k:Tf} {rest:List (Int×Af)} (hp:p < t.length) (ht:t.getD p Ao=n) (hn:AU n=(k.len:Int)) (hd:P.drop (p+1)=info (p+1) k++rest) (hk:k.size<=20000) (hpl:p<=20000) :
 Lc (some (t,P)) (p:Int)=some (((Bv n,k.srt,A5 n),()),()):=by
 have hkl:=Dz k
 unfold Lc
 simp only[Option.isSome_some,Option.getD_some]
 rw[Cg,Ap,Ad,Ad,Cg,Ap,Ad,Ad,qZ0,ht,Ux hP hp ht hn hd hk hpl,Ae]
 have:=AFZ t P hP (([]:qBs),([]:List Int),(0:Int)) n.2.2.1 n.2.1 k (p+1) [] [] ⟨rest,hd⟩ (by simp;omega) (by simp;omega)
 simp only[qY15,List.length_nil] at this
 rw[show ((0:Nat):Int)=0 from rfl] at this
 rw[this]
 simp only[Ae,Bh,Az]
abbrev Us:=qBs×Bool×List Int×Int
def B8 (x:Aa×Tf):Option Us:=if nOp x.1=4 then some (Bv x.1,false,[],A5 x.1) else if nOp x.1=5 then some (Bv x.1,true,x.2.srt,A5 x.1) else none
def Ch (f:Tf):List Us:=f.subs.filterMap B8
def CR (us:List Us):Prop:=∀ a∈us,∀ b∈us,a.1=b.1->a=b
theorem CR.mono {us vs:List Us} (h:CR vs) (hs:∀ a∈us,a∈vs):CR us:=fun a ha b hb e=>h a (hs a ha) b (hs b hb) e
structure NI (us:List Us) (vars:List (qBs×Vr)) (funcs:List (qBs×qBs×Ac)):Prop where
 cns:CR us
 w:∀ a∈us,(a.2.1=false/\a.2.2.1=[])\/a.2.1=true
 v:∀ nm x,AT nm vars=some x->x.1=nm/\(nm,false,[],x.2)∈us
 v':∀ nm s,(nm,false,[],s)∈us->(AT nm vars).isSome=true
 f:∀ nm x,AT nm funcs=some x->x.1=nm/\(nm,true,x.2.1,x.2.2)∈us
 f':∀ nm a s,(nm,true,a,s)∈us->(AT nm funcs).isSome=true
theorem NI.nil:NI [] [] []:=⟨fun a h=>absurd h qY16,fun a h=>absurd h qY16,fun nm x h=>(by simp[AT] at h),fun nm s h=>absurd h qY16,fun nm x h=>(by simp[AT] at h),fun nm a s h=>absurd h qY16⟩
theorem NI.fresh {us:List Us} {vars:List (qBs×Vr)} {funcs:List (qBs×qBs×Ac)} (h:NI us vars funcs) {nm:qBs} (h1:AT nm vars=none) (h2:AT nm funcs=none):∀ a∈us,a.1≠nm:=by
 rintro ⟨m,b,l,s⟩ ha e
 simp only at e
 subst e
 rcases h.w _ ha with ⟨e1,e2⟩ | e1
 ·simp only at e1 e2;subst e1;subst e2
  have:=h.v' _ _ ha
  rw[h1] at this;cases this
 ·simp only at e1;subst e1
  have:=h.f' _ _ _ ha
  rw[h2] at this;cases this
theorem MT {us:List Us} {u:Us} (h:CR us) (hu:∀ a∈us,a.1=u.1->a=u):CR (us++[u]):=by
 intro a ha b hb e
 rcases List.mem_append.1 ha with ha1 | ha1
 ·rcases List.mem_append.1 hb with hb1 | hb1
  ·exact h a ha1 b hb1 e
  ·rw[qZ8] at hb1
   rw[hb1] at e ⊢
   exact hu a ha1 e
 ·rw[qZ8] at ha1
  rw[ha1] at e ⊢
  rcases List.mem_append.1 hb with hb1 | hb1
  ·exact (hu b hb1 e.symm).symm
  ·rw[qZ8] at hb1;exact hb1.symm
theorem NI.addV {us:List Us} {vars:List (qBs×Vr)} {funcs:List (qBs×qBs×Ac)} (h:NI us vars funcs) {nm:qBs} {s:Int} (h1:AT nm vars=none) (h2:AT nm funcs=none):NI (us++[(nm,false,[],s)]) (Bw nm (nm,s) vars) funcs:=by
 have hf:=h.fresh h1 h2
 refine ⟨MT h.cns fun a ha e=>absurd e (hf a ha),fun a ha=>?_,fun m x hx=>?_,fun m x hx=>?_,fun m x hx=>?_,fun m a x hx=>?_⟩
 ·rcases List.mem_append.1 ha with ha | ha
  ·exact h.w a ha
  ·rw[qZ8] at ha;subst ha;exact .inl ⟨rfl,rfl⟩
 ·by_cases e:m=nm
  ·subst e;rw[J2] at hx;cases hx;exact ⟨rfl,by simp⟩
  ·rw[IB e] at hx
   obtain ⟨a1,a2⟩:=h.v m x hx
   exact ⟨a1,List.mem_append_left _ a2⟩
 ·by_cases e:m=nm
  ·subst e;rw[J2];rfl
  ·rw[IB e]
   rcases List.mem_append.1 hx with hx | hx
   ·exact h.v' m x hx
   ·rw[qZ8] at hx;cases hx;exact absurd rfl e
 ·obtain ⟨a1,a2⟩:=h.f m x hx
  exact ⟨a1,List.mem_append_left _ a2⟩
 ·rcases List.mem_append.1 hx with hx | hx
  ·exact h.f' m a x hx
  ·rw[qZ8] at hx;cases hx
theorem NI.addF {us:List Us} {vars:List (qBs×Vr)} {funcs:List (qBs×qBs×Ac)} (h:NI us vars funcs) {nm:qBs} {l:List Int} {s:Int} (h1:AT nm vars=none) (h2:AT nm funcs=none):NI (us++[(nm,true,l,s)]) vars (Bw nm (nm,l,s) funcs):=by
 have hf:=h.fresh h1 h2
 refine ⟨MT h.cns fun a ha e=>absurd e (hf a ha),fun a ha=>?_,fun m x hx=>?_,fun m x hx=>?_,fun m x hx=>?_,fun m a x hx=>?_⟩
 ·rcases List.mem_append.1 ha with ha | ha
  ·exact h.w a ha
  ·rw[qZ8] at ha;subst ha;exact .inr rfl
 ·obtain ⟨a1,a2⟩:=h.v m x hx
  exact ⟨a1,List.mem_append_left _ a2⟩
 ·rcases List.mem_append.1 hx with hx | hx
  ·exact h.v' m x hx
  ·rw[qZ8] at hx;cases hx
 ·by_cases e:m=nm
  ·subst e;rw[J2] at hx;cases hx;exact ⟨rfl,by simp⟩
  ·rw[IB e] at hx
   obtain ⟨a1,a2⟩:=h.f m x hx
   exact ⟨a1,List.mem_append_left _ a2⟩
 ·by_cases e:m=nm
  ·subst e;rw[J2];rfl
  ·rw[IB e]
   rcases List.mem_append.1 hx with hx | hx
   ·exact h.f' m a x hx
   ·rw[qZ8] at hx;cases hx;exact absurd rfl e
theorem NI.again {us:List Us} {vars:List (qBs×Vr)} {funcs:List (qBs×qBs×Ac)} (h:NI us vars funcs) {u:Us} (hu:u∈us):NI (us++[u]) vars funcs:=by
 have hm:∀ a,a∈us++[u] ↔ a∈us:=fun a=>by
  rw[qZ7,qZ8]
  exact ⟨fun h=>h.elim id fun e=>e ▸ hu,.inl⟩
 exact ⟨MT h.cns fun a ha e=>h.cns a ha u hu e,fun a ha=>h.w a ((hm a).1 ha),fun m x hx=>⟨(h.v m x hx).1,(hm _).2 (h.v m x hx).2⟩,fun m s hx=>h.v' m s ((hm _).1 hx),fun m x hx=>⟨(h.f m x hx).1,(hm _).2 (h.f m x hx).2⟩,fun m a s hx=>h.f' m a s ((hm _).1 hx)⟩
end Go.AM.Num
end
section
namespace Go.AM.Num
open Tf
theorem X7 {a b:List Int} (ha:a.length<=2000000000):L9 a b=some ((decide (a=b),()),()):=by
 unfold L9
 by_cases hl:a.length=b.length
 ·rw[BX]
  have:=Gb (step:=IQ) (fun k=>(a,b,false,(a.length:Int),(k:Int),())) (fun k=>(a,b,false,(a.length:Int),(k:Int),())) a.length (E:=.exit 0) (B:=.ret) (by simp) (by simp) (fun k=>decide (a.getD k 0=b.getD k 0)) (fun k hk=>by
   unfold IQ
   simp only
   rw[Aw,Ap,Ad,Ad,Ap,Ad,Ad,qZ0,AB]
   by_cases h:a.getD k 0=b.getD k 0
   ·rw[BX h,if_pos (qZ10 h)];rfl
   ·rw[B5 h,if_neg (fun e=>h (of_decide_eq_true e))]) (by
   unfold IQ
   simp only
   rw[AC])
  rw[show ((0:Nat):Int)=0 from rfl] at this
  have heq:(List.range a.length).all (fun k=>decide (a.getD k 0=b.getD k 0))=decide (a=b):=by
   rw[Bool.eq_iff_iff,qY3,decide_eq_true_eq]
   constructor
   ·intro h
    refine List.ext_getElem hl fun k h1 h2=>?_
    have:=h k (List.mem_range.2 h1)
    simpa [qZ4,h1,h2] using this
   ·rintro rfl k _;simp
  rcases this with ⟨h1,h2⟩ | ⟨h1,k,h2⟩
  ·rw[h2,<-heq,h1];simp only[Ae,Bh,Az]
  ·rw[h2,<-heq,h1];simp only[Ae,Cc,Ca,Az,AE]
 ·rw[B5,qZ9 (fun e=>hl (by rw[e]))]
theorem Qe {f g:qBs×Ac} (h:f.2.1.length<=2000000000):IZ f g=some ((decide (f=g),()),()):=by
 obtain ⟨a,l,s⟩:=f
 obtain ⟨b,m,u⟩:=g
 simp only at h
 unfold IZ
 simp only[X7 h,Ae]
 by_cases h1:a=b
 ·rw[show (a==b)=true by simpa using h1,Az]
  by_cases h2:s=u
  ·rw[Av h2];simp[h1,h2]
  ·rw[Aj h2,qZ9 (fun e=>h2 (by cases e;rfl))]
 ·rw[show (a==b)=false by simpa using h1,AE,qZ9 (fun e=>h1 (by cases e;rfl))]
section
variable {F:Tf} {t:List Aa} {P:List (Int×Af)}
abbrev CJ (F:Tf) (p:Nat):List Us:=(F.subs.take p).filterMap B8
theorem LH {p:Nat}:∀ a∈CJ F p,a∈Ch F:=by
 intro a ha
 simp only[CJ,Ch,List.mem_filterMap] at ha ⊢
 obtain ⟨x,h1,h2⟩:=ha
 exact ⟨x,List.mem_of_mem_take h1,h2⟩
theorem P6 {p:Nat} {n:Aa} {k:Tf} (h:F.subs[p]?=some (n,k)):CJ F (p+1)=CJ F p++(B8 (n,k)).toList:=by
 simp only[CJ,List.take_add_one,h,Option.toList_some,List.filterMap_append]
 cases hu:B8 (n,k)<;>simp[hu]
def vAdd (l:List Vr) (x:Aa×Tf):List Vr:=if nOp x.1=4/\∀ y∈l,y.1≠Bv x.1 then l++[(Bv x.1,A5 x.1)] else l
def fAdd (m:List (qBs×Ac)) (x:Aa×Tf):List (qBs×Ac):=if nOp x.1=5/\∀ y∈m,y.1≠Bv x.1 then m++[(Bv x.1,x.2.srt,A5 x.1)] else m
def K0 (F:Tf) (p:Nat):List Vr:=(F.subs.take p).foldl vAdd []
def LM (F:Tf) (p:Nat):List (qBs×Ac):=(F.subs.take p).foldl fAdd []
def Kj (F:Tf):List Vr:=F.subs.foldl vAdd []
def Lw (F:Tf):List (qBs×Ac):=F.subs.foldl fAdd []
def KL {α β:Type} (l:List (qBs×β)) (vars:List (qBs×α)):Prop:=∀ nm,AT nm vars=none ↔ ∀ y∈l,y.1≠nm
theorem KL.nil {α β:Type}:KL ([]:List (qBs×β)) ([]:List (qBs×α)):=fun nm=>⟨fun _ y hy=>absurd hy qY16,fun _=>rfl⟩
theorem KL.add {α β:Type} {l:List (qBs×β)} {vars:List (qBs×α)} (h:KL l vars) (nm:qBs) (y:α) (z:β):KL (l++[(nm,z)]) (Bw nm y vars):=fun x=>by
 by_cases e:x=nm
 ·subst e
  rw[J2]
  constructor
  ·intro h;cases h
  ·intro h';exact absurd rfl (h' (x,z) (by simp))
 ·rw[IB e,h x]
  constructor
  ·intro h' w hw
   rcases List.mem_append.1 hw with hw | hw
   ·exact h' w hw
   ·rw[List.mem_singleton.1 hw];exact fun e'=>e e'.symm
  ·exact fun h' w hw=>h' w (List.mem_append_left _ hw)
theorem KL.some {α β:Type} {l:List (qBs×β)} {vars:List (qBs×α)} (h:KL l vars) {nm:qBs} {x:α} (hx:AT nm vars=some x):¬ ∀ y∈l,y.1≠nm:=fun h'=>by rw[(h nm).2 h'] at hx;cases hx
theorem Z0 (hF:F.flat=t) (hw:F.wf=true) (hs:(0:Int)∉F.srt) (hz:F.size<=20000) (hP:P=info 0 F) {p:Nat} (hp:p < F.size) {vars:List (qBs×Vr)} {funcs:List (qBs×qBs×Ac)} {l0:List Vr} {m0:List (qBs×Ac)}
 (hI:NI (CJ F p) vars funcs) (hl:l0.length<=p) (hm:m0.length<=p) :
 (¬ CR (CJ F (p+1))/\∃ x,F8 (some (t,P),([]:List Vr),([]:List (qBs×Ac)),false,vars,funcs,l0,m0,t,(t.length:Int),(p:Int),())=some (.ret,(some (t,P),([]:List Vr),([]:List (qBs×Ac)),false,x)))\/
 ∃ vars' funcs' l' m',NI (CJ F (p+1)) vars' funcs'/\l'.length<=p+1/\m'.length<=p+1/\F8 (some (t,P),([]:List Vr),([]:List (qBs×Ac)),false,vars,funcs,l0,m0,t,(t.length:Int),(p:Int),())=some (.normal,(some (t,P),([]:List Vr),([]:List (qBs×Ac)),false,vars',funcs',l',m',t,(t.length:Int),((p+1:Nat):Int),()))/\
  ∀ x,F.subs[p]?=some x->KL l0 vars->KL m0 funcs->l'=vAdd l0 x/\m'=fAdd m0 x/\KL l' vars'/\KL m' funcs':=by
 obtain ⟨n,k,x,rest,rest2,h1,h2,h3⟩:=Q4 F 0 p hp
 obtain ⟨g1,g2⟩:=DV (d:=Ao) h2
 have hmem:(n,k)∈F.subs:=qY14 h1
 obtain ⟨w1,w2,w3,w4⟩:=M7 hw hs hmem
 have hks:=Kt hmem
 have htl:t.length=F.size:=by rw[<-hF,Br]
 have hPl:P.length=F.size:=by rw[hP,Cm]
 rw[hF] at g1
 have hd:P.drop (p+1)=info (p+1) k++rest2:=by
  have:=congrArg (List.drop 1) h3
  rw[List.drop_drop] at this
  rw[hP]
  simpa using this
 have hwp:qI ((p:Int)+1)=((p+1:Nat):Int):=by rw[AB];rfl
 have hT:=P6 h1
 unfold F8
 simp only
 rw[Aw,Ap,Ad,Ad,qZ0,g1,hwp]
 by_cases e4:n.1=4
 ·have hu:B8 (n,k)=some (n.2.2.1,false,[],n.2.1):=by unfold B8;rw[if_pos e4]
  rw[hu] at hT
  rw[Av e4]
  cases hv:AT n.2.2.1 vars with
  |none=>
   simp only[Option.isSome_none,qY1,Az]
   rw[Ad (by simp[As];omega)]
   cases hf:AT n.2.2.1 funcs with
   |none=>
    simp only[Option.isSome_none,AE]
    rw[BX rfl]
    exact .inr ⟨_,_,_,_,by rw[hT];exact hI.addV hv hf,by simp;omega,by omega,rfl,fun x hx kv kf=>by
     obtain rfl:(n,k)=x:=by rw[h1] at hx;exact Option.some.inj hx
     exact ⟨by unfold vAdd;rw[if_pos ⟨e4,(kv _).1 hv⟩],by unfold fAdd;rw[if_neg (fun h=>by have h:=h.1;simp only[nOp] at h;omega)],kv.add _ _ _,kf⟩⟩
   |some g=>
    simp only[Option.isSome_some,Az]
    refine .inl ⟨fun hc=>?_,_,rfl⟩
    obtain ⟨a1,a2⟩:=hI.f _ _ hf
    rw[hT] at hc
    have:=hc _ (List.mem_append_left _ a2) (n.2.2.1,false,[],n.2.1) (by simp) rfl
    simp at this
  |some y=>
   simp only[Option.isSome_some,qY2,AE,Option.getD_some]
   obtain ⟨b1,b2⟩:=hI.v _ _ hv
   cases hf:AT n.2.2.1 funcs with
   |none=>
    simp only[Option.isSome_none,AE]
    by_cases q:y.2=n.2.1
    ·rw[BX q]
     rw[q] at b2
     exact .inr ⟨_,_,_,_,by rw[hT];exact hI.again b2,by omega,by omega,rfl,fun x hx kv kf=>by
      obtain rfl:(n,k)=x:=by rw[h1] at hx;exact Option.some.inj hx
      exact ⟨by unfold vAdd;rw[if_neg fun h=>kv.some hv h.2],by unfold fAdd;rw[if_neg (fun h=>by have h:=h.1;simp only[nOp] at h;omega)],kv,kf⟩⟩
    ·rw[B5 q]
     refine .inl ⟨fun hc=>?_,_,rfl⟩
     rw[hT] at hc
     have:=hc _ (List.mem_append_left _ b2) (n.2.2.1,false,[],n.2.1) (by simp) rfl
     simp at this
     exact q this
   |some g=>
    simp only[Option.isSome_some,Az]
    refine .inl ⟨fun hc=>?_,_,rfl⟩
    obtain ⟨a1,a2⟩:=hI.f _ _ hf
    rw[hT] at hc
    have:=hc _ (List.mem_append_left _ a2) (n.2.2.1,false,[],n.2.1) (by simp) rfl
    simp at this
 ·rw[Aj e4]
  by_cases e5:n.1=5
  ·have hu:B8 (n,k)=some (n.2.2.1,true,k.srt,n.2.1):=by unfold B8;rw[if_neg e4,if_pos e5]
   rw[hu] at hT
   rw[Av e5,Yh (by omega) (by omega) g1 w2 hd (by omega) (by omega),Ae]
   have hkl:k.srt.length<=2000000000:=by rw[C8];have:=Dz k;omega
   simp only
   cases hf:AT n.2.2.1 funcs with
   |none=>
    simp only[Option.isSome_none,qY1,Az]
    rw[Ad (by simp[As];omega)]
    cases hv:AT n.2.2.1 vars with
    |none=>
     simp only[Option.isSome_none,AE]
     rw[Qe hkl,Ae,qZ10 rfl]
     simp only[qY2,AE]
     exact .inr ⟨_,_,_,_,by rw[hT];exact hI.addF hv hf,by omega,by simp;omega,rfl,fun x hx kv kf=>by
      obtain rfl:(n,k)=x:=by rw[h1] at hx;exact Option.some.inj hx
      exact ⟨by unfold vAdd;rw[if_neg fun h=>e4 h.1],by unfold fAdd;rw[if_pos ⟨e5,(kf _).1 hf⟩],kv,kf.add _ _ _⟩⟩
    |some y=>
     simp only[Option.isSome_some,Az]
     refine .inl ⟨fun hc=>?_,_,rfl⟩
     obtain ⟨a1,a2⟩:=hI.v _ _ hv
     rw[hT] at hc
     have:=hc _ (List.mem_append_left _ a2) (n.2.2.1,true,k.srt,n.2.1) (by simp) rfl
     simp at this
   |some g=>
    simp only[Option.isSome_some,qY2,AE,Option.getD_some]
    obtain ⟨b1,b2⟩:=hI.f _ _ hf
    cases hv:AT n.2.2.1 vars with
    |none=>
     simp only[Option.isSome_none,AE]
     obtain ⟨gn,gl,gs⟩:=g
     simp only at b1 b2
     have hgl:gl.length<=2000000000:=by
      obtain ⟨⟨n',k'⟩,m1,m2⟩:=List.mem_filterMap.1 (LH _ b2)
      unfold B8 at m2
      split at m2
      ·simp at m2
      ·split at m2
       ·simp only[Option.some.injEq,Prod.mk.injEq] at m2
        rw[<-m2.2.2.1,C8]
        have:=Kt m1;have:=Dz k';omega
       ·cases m2
     rw[Qe hgl,Ae]
     by_cases q:(gn,gl,gs)=(Bv n,k.srt,A5 n)
     ·rw[qZ10 q]
      simp only[qY2,AE]
      simp only[Prod.mk.injEq] at q
      rw[q.2.1,q.2.2] at b2
      exact .inr ⟨_,_,_,_,by rw[hT];exact hI.again b2,by omega,by omega,rfl,fun x hx kv kf=>by
       obtain rfl:(n,k)=x:=by rw[h1] at hx;exact Option.some.inj hx
       exact ⟨by unfold vAdd;rw[if_neg fun h=>e4 h.1],by unfold fAdd;rw[if_neg fun h=>kf.some hf h.2],kv,kf⟩⟩
     ·rw[qZ9 q]
      simp only[qY1,Az]
      refine .inl ⟨fun hc=>?_,_,rfl⟩
      rw[hT] at hc
      have:=hc _ (List.mem_append_left _ b2) (n.2.2.1,true,k.srt,n.2.1) (by simp) rfl
      simp only[Prod.mk.injEq,true_and] at this
      exact q (by rw[b1,this.1,this.2])
    |some y=>
     simp only[Option.isSome_some,Az]
     refine .inl ⟨fun hc=>?_,_,rfl⟩
     obtain ⟨a1,a2⟩:=hI.v _ _ hv
     rw[hT] at hc
     have:=hc _ (List.mem_append_left _ a2) (n.2.2.1,true,k.srt,n.2.1) (by simp) rfl
     simp at this
  ·have hu:B8 (n,k)=none:=by unfold B8;rw[if_neg e4,if_neg e5]
   rw[hu] at hT
   rw[Aj e5]
   exact .inr ⟨_,_,_,_,by rw[hT];simpa using hI,by omega,by omega,rfl,fun x hx kv kf=>by
    obtain rfl:(n,k)=x:=by rw[h1] at hx;exact Option.some.inj hx
    exact ⟨by unfold vAdd;rw[if_neg fun h=>e4 h.1],by unfold fAdd;rw[if_neg fun h=>e5 h.1],kv,kf⟩⟩
theorem XL (hF:F.flat=t) (hw:F.wf=true) (hs:(0:Int)∉F.srt) (hz:F.size<=20000) (hP:P=info 0 F):∀ (m p:Nat) (vars:List (qBs×Vr)) (funcs:List (qBs×qBs×Ac)) (l0:List Vr) (m0:List (qBs×Ac)),p+m=F.size->
 NI (CJ F p) vars funcs->l0.length<=p->m0.length<=p->l0=K0 F p->m0=LM F p->KL l0 vars->KL m0 funcs->
 (¬ CR (Ch F)/\∃ x,Am F8 (some (t,P),([]:List Vr),([]:List (qBs×Ac)),false,vars,funcs,l0,m0,t,(t.length:Int),(p:Int),())=some (.ret,(some (t,P),([]:List Vr),([]:List (qBs×Ac)),false,x)))\/
 (CR (Ch F)/\∃ v f x,Am F8 (some (t,P),([]:List Vr),([]:List (qBs×Ac)),false,vars,funcs,l0,m0,t,(t.length:Int),(p:Int),())=some (.exit 0,(some (t,P),([]:List Vr),([]:List (qBs×Ac)),false,v,f,Kj F,Lw F,x))):=by
 have htl:t.length=F.size:=by rw[<-hF,Br]
 intro m
 induction m with
 |zero=>
  intro p vars funcs l0 m0 hp hI _ _ hv hf _ _
  have e1:K0 F p=Kj F:=by unfold K0 Kj;rw[List.take_of_length_le (by rw[Fk];omega)]
  have e2:LM F p=Lw F:=by unfold LM Lw;rw[List.take_of_length_le (by rw[Fk];omega)]
  rw[<-e1,<-e2,<-hv,<-hf]
  refine .inr ⟨?_,_,_,_,Ba (by unfold F8;simp only;rw[AC]) (by simp)⟩
  have e:CJ F p=Ch F:=by unfold CJ Ch;rw[List.take_of_length_le (by rw[Fk];omega)]
  rw[<-e];exact hI.cns
 |succ m ih=>
  intro p vars funcs l0 m0 hp hI hl hm hv hf kv kf
  rcases Z0 hF hw hs hz hP (p:=p) (by omega) hI hl hm with ⟨h1,x,h2⟩ | ⟨vars',funcs',l',m',h1,h2,h3,h4,h5⟩
  ·exact .inl ⟨fun hc=>h1 (hc.mono LH),x,Ba h2 (by simp)⟩
  ·rw[A8 h4]
   have hx:F.subs[p]?=some (F.subs[p]'(by rw[Fk];omega)):=qZ5 _
   obtain ⟨k1,k2,k3,k4⟩:=h5 _ hx kv kf
   refine ih (p+1) vars' funcs' l' m' (by omega) h1 h2 h3 ?_ ?_ k3 k4
   ·rw[k1,hv];unfold K0;rw[List.take_add_one,hx,Option.toList_some,List.foldl_append];rfl
   ·rw[k2,hf];unfold LM;rw[List.take_add_one,hx,Option.toList_some,List.foldl_append];rfl
theorem RS (hF:F.flat=t) (hw:F.wf=true) (hs:(0:Int)∉F.srt) (hz:F.size<=20000):(CR (Ch F)/\F7 (some (t,info 0 F))=some ((Kj F,Lw F,true,()),()))\/(¬ CR (Ch F)/\F7 (some (t,info 0 F))=some (([],[],false,()),())):=by
 unfold F7
 simp only[Option.isSome_some,Option.getD_some]
 rw[Cg]
 rcases XL hF hw hs hz rfl F.size 0 [] [] [] [] (by omega) NI.nil (by simp) (by simp) rfl rfl KL.nil KL.nil with ⟨h1,x,h2⟩ | ⟨h1,v,f,x,h2⟩
 ·rw[show ((0:Nat):Int)=0 from rfl] at h2
  rw[h2]
  simp only[Ae,Cc,Ca,Az,AE]
  exact .inr ⟨h1,by first | rfl | trivial⟩
 ·rw[show ((0:Nat):Int)=0 from rfl] at h2
  rw[h2]
  simp only[Ae,Bh,Az]
  exact .inl ⟨h1,by first | rfl | trivial⟩
end
structure VT (t:List Aa) (F:Tf):Prop where
 flat:F.flat=t
 wf:F.wf=true
 srt:(0:Int)∉F.srt
 len:F.len=1
 size:F.size<=20000
 dep:F.dep<=257
 cns:CR (Ch F)
theorem VT.one {t:List Aa} {F:Tf} (h:VT t F):∃ n k,F=cons n k nil:=by
 have:=h.len
 cases F with
 |nil=>simp[Tf.len] at this
 |cons n k r=>
  cases r with
  |nil=>exact ⟨n,k,rfl⟩
  |cons a b c=>simp only[Tf.len] at this;omega
theorem VT.bkp {t:List Aa} {F:Tf} (h:VT t F):bkp t=some F:=T8.2 ⟨h.flat,h.wf,h.srt⟩
theorem VT.uniq {t:List Aa} {F G:Tf} (h:VT t F) (g:VT t G):F=G:=by
 have:=h.bkp;rw[g.bkp] at this;exact (Option.some.inj this).symm
theorem Jp {t:List Aa} (hs:BG t):(∃ F,VT t F/\E7 t=some ((some (t,info 0 F),true,()),()))\/((¬ ∃ F,VT t F)/\E7 t=some ((none,false,()),())):=by
 unfold E7
 by_cases h0:t.length=0
 ·rw[Av]
  refine .inr ⟨fun ⟨F,hF⟩=>?_,rfl⟩
  obtain ⟨n,k,e⟩:=hF.one
  have:=hF.flat
  rw[e] at this
  rw[<-this] at h0
  simp[Tf.flat] at h0
 rw[Aj]
 by_cases h1:t.length > 20000
 ·rw[Aw]
  refine .inr ⟨fun ⟨F,hF⟩=>?_,rfl⟩
  have:=hF.size
  have h2:=Br F
  rw[hF.flat] at h2
  omega
 rw[AC,Pj hs (by omega),Ae]
 cases hb:bkp t with
 |none=>exact .inr ⟨fun ⟨F,hF⟩=>(by rw[hF.bkp] at hb;cases hb),rfl⟩
 |some F=>
  obtain ⟨f1,f2,f3⟩:=N3 hb
  have hz:F.size<=20000:=by rw[<-Br,f1];omega
  simp only
  by_cases hl:F.len=1
  ·rw[qZ10 hl]
   simp only[qY2,AE]
   obtain ⟨n,k,e⟩:∃ n k,F=cons n k nil:=by
    cases F with
    |nil=>simp[Tf.len] at hl
    |cons n k r=>
     cases r with
     |nil=>exact ⟨n,k,rfl⟩
     |cons a b c=>simp only[Tf.len] at hl;omega
   have hlarge:E8 (some (t,info 0 F))=some ((decide (F.dep > 257),()),()):=by
    unfold E8
    simp only[Option.isSome_some,Option.getD_some]
    rw[Cg,AC,Cg,e]
    have hd:(cons n k nil).dep=k.dep+1:=by simp only[Tf.dep];omega
    have hg:((info 0 (cons n k nil)).getD (0:Int).toNat ((0:Int),(0:Int),(0:Int))).2.1=((k.dep+1:Nat):Int):=rfl
    rw[Ap,Ad,Ad (by rw[Cm];simp only[Tf.size];omega),hd]
    have e2:decide (((info 0 (cons n k nil)).getD (0:Int).toNat ((0:Int),(0:Int),(0:Int))).2.1 > 257)=decide (k.dep+1 > 257):=by rw[decide_eq_decide,hg];omega
    rw[e2]
   rw[hlarge,Ae]
   by_cases hd:F.dep > 257
   ·rw[qZ10 hd]
    refine .inr ⟨fun ⟨G,hG⟩=>?_,rfl⟩
    have:=hG.bkp
    rw[hb] at this
    cases this
    exact absurd hG.dep (by omega)
   rw[qZ9 hd]
   simp only[AE]
   rcases RS f1 f2 f3 hz with ⟨c1,c2⟩ | ⟨c1,c2⟩
   ·rw[c2,Ae]
    exact .inl ⟨F,⟨f1,f2,f3,hl,hz,by omega,c1⟩,rfl⟩
   ·rw[c2,Ae]
    refine .inr ⟨fun ⟨G,hG⟩=>?_,rfl⟩
    have:=hG.bkp
    rw[hb] at this
    cases this
    exact c1 hG.cns
  ·rw[qZ9 hl]
   refine .inr ⟨fun ⟨G,hG⟩=>?_,rfl⟩
   have:=hG.bkp
   rw[hb] at this
   cases this
   exact hl hG.len
theorem Z1 {t:List Aa} (hs:BG t):∃ b,K3 t=some ((b,()),())/\(b=true ↔ ∃ F,VT t F):=by
 unfold K3
 rcases Jp hs with ⟨F,h1,h2⟩ | ⟨h1,h2⟩
 ·rw[h2,Ae];exact ⟨_,rfl,fun _=>⟨F,h1⟩,fun _=>rfl⟩
 ·rw[h2,Ae];exact ⟨_,rfl,fun h=>(by cases h),fun h=>absurd h h1⟩
end Go.AM.Num
end
section
namespace Go.AM.Num
inductive SV where
 |b (x:Bool)
 |z (n:Int)
 |q (r:Rat)
 |a (d:Int) (P:KV)
def encS:SV->Bp
 |.b x=>(1,x,[],[],[])
 |.z n=>(2,false,ti n,[],[])
 |.q r=>(3,false,Ay r,[],[])
 |.a d P=>AP d P
def CC:SV->Int
 |.b _=>1
 |.z _=>2
 |.q _=>3
 |.a _ _=>4
def Eo:SV->Prop
 |.a d P=>Canon d P
 |_=>True
def GQ:SV->Bool
 |.b x=>x
 |_=>false
def Dg:SV->Rat
 |.z n=>(n:Rat)
 |.q r=>r
 |_=>0
def intV (v:SV):Int:=(Dg v).num
def ER (s:Int) (r:Rat):SV:=if s=2 then .z r.num else .q r
def UL:SV->Int->Int
 |.a d P,i=>Ko d P i
 |_,_=>0
def Ps:SV->Int->Int->SV
 |.a d P,i,n=>.a d (C9 d P i n)
 |v,_,_=>v
def AEz (vs:List SV):Rat:=vs.foldl (fun s v=>s+Dg v) 0
noncomputable def Dc (n:Aa):Rat:=(rd (A_ n)).getD 0
open Classical in
noncomputable def Ik (n:Aa) (vs:List SV):SV:=
 if nOp n=1\/nOp n=7 then .b (vs.all GQ)
 else if nOp n=2\/nOp n=8 then .b (vs.any GQ)
 else if nOp n=6 then .b (!GQ (vs.getD 0 (.b false)))
 else if nOp n=9 then .b (!GQ (vs.getD 0 (.b false))||GQ (vs.getD 1 (.b false)))
 else if nOp n=10 then (if GQ (vs.getD 0 (.b false))=true then vs.getD 1 (.b false) else vs.getD 2 (.b false))
 else if nOp n=11 then .b (decide (vs.getD 0 (.b false)=vs.getD 1 (.b false)))
 else if nOp n=12 then .b (decide (Dg (vs.getD 0 (.b false))<=Dg (vs.getD 1 (.b false))))
 else if nOp n=13 then .b (decide (Dg (vs.getD 0 (.b false)) < Dg (vs.getD 1 (.b false))))
 else if nOp n=3 then ER (A5 n) (Dc n)
 else if nOp n=14 then ER (CC (vs.getD 0 (.b false))) (AEz vs)
 else if nOp n=15 then ER (CC (vs.getD 0 (.b false))) (Dg (vs.getD 0 (.b false)) * Dg (vs.getD 1 (.b false)))
 else if nOp n=16 then .z (intV (vs.getD 0 (.b false)) / (Dc n).num)
 else if nOp n=17 then .z (intV (vs.getD 0 (.b false)) % (Dc n).num)
 else if nOp n=18 then .z (UL (vs.getD 0 (.b false)) (intV (vs.getD 1 (.b false))))
 else if nOp n=19 then Ps (vs.getD 0 (.b false)) (intV (vs.getD 1 (.b false))) (intV (vs.getD 2 (.b false)))
 else .a (intV (vs.getD 0 (.b false))) []
theorem N4 {v:Bp}:EG v=true ↔ v.2.2.2.1=[]/\v.2.2.2.2=[]:=by
 unfold EG
 simp only[qY0,decide_eq_true_eq,List.length_eq_zero_iff]
theorem VQ {v:Bp}:DF v=true ↔ ∃ s,Eo s/\v=encS s:=by
 constructor
 ·intro h
  by_cases h4:v.1=4
  ·obtain ⟨d,P,e,c⟩:=ABC h h4
   exact ⟨.a d P,c,e⟩
  obtain ⟨s,b,num,k,w⟩:=v
  simp only at h4
  unfold DF at h
  simp only at h
  split at h
  ·rename_i h1
   subst h1
   simp only[qY0,N4,beq_iff_eq] at h
   obtain ⟨rfl,rfl,rfl⟩:=h
   exact ⟨.b b,trivial,rfl⟩
  ·split at h
   ·rename_i h1
    subst h1
    simp only[qY0,N4,Bool.not_eq_true'] at h
    obtain ⟨⟨rfl,h2⟩,rfl,rfl⟩:=h
    obtain ⟨z,rfl⟩:=OC h2
    exact ⟨.z z,trivial,rfl⟩
   ·split at h
    ·rename_i h1
     subst h1
     simp only[qY0,N4,Bool.not_eq_true',Option.isSome_iff_exists] at h
     obtain ⟨⟨rfl,q,h2⟩,rfl,rfl⟩:=h
     have:=Eu h2
     subst this
     exact ⟨.q q,trivial,rfl⟩
    ·first | cases h | (rw[if_neg h4] at h;cases h)
 ·rintro ⟨s,h,rfl⟩
  cases s with
  |b x=>simp[encS,DF,EG]
  |z n=>simp[encS,DF,EG,FK]
  |q r=>simp[encS,DF,EG,Df]
  |a d P=>exact Q1 h
theorem ACJ {s:SV} (h:Eo s):DF (encS s)=true:=VQ.2 ⟨s,h,rfl⟩
theorem NH {s:Int} (h:s=2\/s=3) (r:Rat):CC (ER s r)=s:=by
 unfold ER
 split
 ·rename_i e;rw[e];rfl
 ·rcases h with h | h
  ·contradiction
  ·rw[h];rfl
theorem Mu (s:Int) (r:Rat):Eo (ER s r):=by unfold ER;split<;>trivial
theorem V1 {n:Aa} {vs:List SV} {f:Int} (hn:Bi n=true) (h4:nOp n≠4) (h5:nOp n≠5) (hc:AQ (nOp n) vs.length=true) (hs:AO n f (vs.map CC)≠0) (hok:∀ v∈vs,Eo v) :
 CC (Ik n vs)=AO n f (vs.map CC)/\Eo (Ik n vs):=by
 obtain ⟨o,s,nm,num,kd⟩:=n
 simp only[nOp] at h4 h5 hc
 have hall:∀ ws:List SV,(if ∀ s∈ws.map CC,s=1 then (1:Int) else 0)≠0->(1:Int)=if ∀ s∈ws.map CC,s=1 then (1:Int) else 0:=fun ws h=>by
  split at h<;>rename_i hh
  ·rw[if_pos hh]
  ·exact absurd rfl h
 unfold Ik AO at *
 simp only[nOp,A5] at *
 by_cases e3:o=3
 ·subst e3
  simp at hs ⊢
  refine ⟨NH ?_ _,Mu _ _⟩
  simp[Bi] at hn
  rcases hn.2 with h | h
  ·exact .inl h.1
  ·exact .inr h.1
 rw[if_neg (show ¬ (o=3\/o=4\/o=5) by omega)] at hs ⊢
 by_cases e1:o=1\/o=7
 ·rw[if_pos e1,if_pos (by omega)]
  rw[if_pos (by omega)] at hs
  exact ⟨hall vs hs,trivial⟩
 rw[if_neg e1]
 by_cases e2:o=2\/o=8
 ·rw[if_pos e2,if_pos (by omega)]
  rw[if_pos (by omega)] at hs
  exact ⟨hall vs hs,trivial⟩
 rw[if_neg e2]
 by_cases e6:o=6
 ·rw[if_pos e6,if_pos (by omega)]
  rw[if_pos (by omega)] at hs
  exact ⟨hall vs hs,trivial⟩
 rw[if_neg e6]
 by_cases e9:o=9
 ·rw[if_pos e9,if_pos (by omega)]
  rw[if_pos (by omega)] at hs
  exact ⟨hall vs hs,trivial⟩
 rw[if_neg e9]
 rw[if_neg (show ¬ (o=1\/o=2\/o=6\/o=7\/o=8\/o=9) by omega)] at hs ⊢
 by_cases e10:o=10
 ·subst e10
  rcases vs with _ | ⟨a,_ | ⟨b,_ | ⟨c,_ | ⟨d,l⟩⟩⟩⟩<;>simp[AQ] at hc
  ·simp at hs hok ⊢
   by_cases q:GQ a=true
   ·rw[if_pos q,if_pos ⟨hs.1,hs.2.1⟩];exact ⟨rfl,hok.2.1⟩
   ·rw[if_neg q,if_pos ⟨hs.1,hs.2.1⟩];exact ⟨hs.2.1.symm,hok.2.2⟩
  ·omega
 rw[if_neg e10] at hs ⊢
 rw[if_neg e10]
 by_cases e11:o=11
 ·subst e11
  simp at hs ⊢
  rw[if_pos hs];exact ⟨rfl,trivial⟩
 rw[if_neg e11] at hs ⊢
 rw[if_neg e11]
 by_cases e12:o=12
 ·subst e12
  simp only[true_or,if_true] at hs ⊢
  split at hs<;>rename_i hh
  ·rw[if_pos hh];exact ⟨rfl,trivial⟩
  ·exact absurd rfl hs
 rw[if_neg e12]
 by_cases e13:o=13
 ·subst e13
  simp only[or_true,if_true] at hs ⊢
  split at hs<;>rename_i hh
  ·rw[if_pos hh];exact ⟨rfl,trivial⟩
  ·exact absurd rfl hs
 rw[if_neg e13,if_neg e3]
 rw[if_neg (show ¬ (o=12\/o=13) by omega)] at hs ⊢
 by_cases e14:o=14
 ·subst e14
  rcases vs with _ | ⟨a,l⟩<;>simp[AQ] at hc
  simp only[if_true,List.map_cons,qZ3] at hs ⊢
  split at hs<;>rename_i hh
  ·rw[if_pos hh];exact ⟨NH hh.1 _,Mu _ _⟩
  ·exact absurd rfl hs
 rw[if_neg e14] at hs ⊢
 rw[if_neg e14]
 by_cases e15:o=15
 ·subst e15
  rcases vs with _ | ⟨a,l⟩<;>simp[AQ] at hc
  simp only[if_true,List.map_cons,qZ3] at hs ⊢
  split at hs<;>rename_i hh
  ·rw[if_pos hh];exact ⟨NH hh.2.1 _,Mu _ _⟩
  ·exact absurd rfl hs
 rw[if_neg e15] at hs ⊢
 rw[if_neg e15]
 by_cases e16:o=16
 ·rw[if_pos e16,if_pos (.inl e16)]
  rw[if_pos (.inl e16)] at hs
  split at hs<;>rename_i hh
  ·rw[if_pos hh];exact ⟨rfl,trivial⟩
  ·exact absurd rfl hs
 rw[if_neg e16]
 by_cases e17:o=17
 ·rw[if_pos e17,if_pos (.inr e17)]
  rw[if_pos (.inr e17)] at hs
  split at hs<;>rename_i hh
  ·rw[if_pos hh];exact ⟨rfl,trivial⟩
  ·exact absurd rfl hs
 rw[if_neg e17]
 rw[if_neg (show ¬ (o=16\/o=17) by omega)] at hs ⊢
 by_cases e18:o=18
 ·rw[if_pos e18] at hs ⊢
  rw[if_pos e18]
  split at hs<;>rename_i hh
  ·rw[if_pos hh];exact ⟨rfl,trivial⟩
  ·exact absurd rfl hs
 rw[if_neg e18] at hs ⊢
 rw[if_neg e18]
 by_cases e19:o=19
 ·subst e19
  rcases vs with _ | ⟨a,_ | ⟨b,_ | ⟨c,_ | ⟨d,l⟩⟩⟩⟩<;>simp[AQ] at hc
  ·simp at hs hok ⊢
   rw[if_pos hs]
   cases a with
   |a d P=>exact ⟨rfl,Td hok.1 _ _⟩
   |b x=>simp[CC] at hs
   |z x=>simp[CC] at hs
   |q x=>simp[CC] at hs
  ·omega
 rw[if_neg e19] at hs ⊢
 rw[if_neg e19]
 split at hs<;>rename_i hh
 ·rw[if_pos hh]
  split at hs<;>rename_i h2
  ·rw[if_pos h2];exact ⟨rfl,M0 _⟩
  ·exact absurd rfl hs
 ·exact absurd rfl hs
structure Ht (m:Nat) (r:Rat):Prop where
 num:(dd r.num.natAbs).length<=m
 den:(dd r.den).length<=m
theorem Ht.mono {m k:Nat} {r:Rat} (h:Ht m r) (hk:m<=k):Ht k r:=⟨by have:=h.num;omega,by have:=h.den;omega⟩
theorem Ht.D {m:Nat} {r:Rat} (h:Ht m r):D r<=2 * m:=by have:=h.num;have:=h.den;unfold Num.D;omega
theorem AFw {m:Nat} {r:Rat} (h:D r<=m):Ht m r:=by unfold Num.D at h;exact ⟨by omega,by omega⟩
theorem Q_ {n:Int} {d m:Nat} (hd:d≠0) (h1:(dd n.natAbs).length<=m) (h2:(dd d).length<=m):Ht m (mkRat n d):=by
 have e1:(n / (d.gcd n.natAbs:Nat)).natAbs<=n.natAbs:=by
  obtain ⟨k,hk⟩:((d.gcd n.natAbs:Nat):Int) ∣ n:=by
   have:=Nat.gcd_dvd_right d n.natAbs
   exact Int.ofNat_dvd_left.2 this
  have hg:((d.gcd n.natAbs:Nat):Int)≠0:=fun e=>hd (Nat.gcd_eq_zero_iff.1 (by exact_mod_cast e)).1
  have e1:n / (d.gcd n.natAbs:Nat)=k:=by
   conv=>lhs;lhs;rw[hk]
   exact Int.mul_ediv_cancel_left _ hg
  rw[e1]
  conv=>rhs;rw[hk,Int.natAbs_mul]
  exact Nat.le_mul_of_pos_left _ (by omega)
 have e2:=Nat.div_le_self d (d.gcd n.natAbs)
 have:=Cs e1
 have:=Cs e2
 refine ⟨?_,?_⟩
 ·rw[Rat.num_mkRat,if_neg hd];omega
 ·rw[Rat.den_mkRat,if_neg hd];omega
theorem AD3 {m k:Nat} {p q:Rat} (hp:Ht m p) (hq:Ht k q):Ht (m+k+1) (p+q):=by
 rw[Rat.add_def']
 have h1:=Cs (Qx (p.num * q.den) (q.num * p.den))
 have h2:=My (p.num * q.den).natAbs (q.num * p.den).natAbs
 rw[Int.natAbs_mul,Int.natAbs_mul,Int.natAbs_natCast,Int.natAbs_natCast] at h1 h2
 have h3:=CF p.num.natAbs q.den
 have h4:=CF q.num.natAbs p.den
 have h5:=CF p.den q.den
 have:=hp.num;have:=hp.den;have:=hq.num;have:=hq.den
 exact Q_ (Nat.mul_ne_zero p.den_nz q.den_nz) (by omega) (by omega)
theorem XJ {m k:Nat} {p q:Rat} (hp:Ht m p) (hq:Ht k q):Ht (m+k) (p * q):=by
 rw[Rat.mul_def']
 have h1:=CF p.num.natAbs q.num.natAbs
 have h5:=CF p.den q.den
 have:=hp.num;have:=hp.den;have:=hq.num;have:=hq.den
 exact Q_ (Nat.mul_ne_zero p.den_nz q.den_nz) (by rw[Int.natAbs_mul];omega) (by omega)
theorem EB {m:Nat} {n:Int} (h:(dd n.natAbs).length<=m):Ht m (n:Rat):=by
 refine ⟨by rw[Rat.num_intCast];exact h,?_⟩
 rw[Rat.den_intCast,Ee]
 have:=HR n.natAbs
 simp;omega
theorem OB {m:Nat} {r:Rat} (h:Ht m r):Ht m ((r.num:Int):Rat):=EB h.num
theorem O4 {m:Nat} {x y:Int} (h:Ht m (x:Rat)) (hy:y.natAbs<=x.natAbs):Ht m (y:Rat):=by
 have:=h.num
 rw[Rat.num_intCast] at this
 exact EB (by have:=Cs hy;omega)
def Dk (B:Nat):SV->Prop
 |.b _=>True
 |.z n=>Ht B (n:Rat)
 |.q r=>Ht B r
 |.a d P=>Ht B (d:Rat)/\(∀ p∈P,Ht B (p.1:Rat)/\Ht B (p.2:Rat))/\P.length<=B
theorem Dk.mono {B C:Nat} {v:SV} (h:Dk B v) (hc:B<=C):Dk C v:=by
 cases v with
 |b _=>trivial
 |z n=>exact Ht.mono h hc
 |q r=>exact Ht.mono h hc
 |a d P=>
  obtain ⟨h1,h2,h3⟩:=h
  exact ⟨h1.mono hc,fun p hp=>⟨(h2 p hp).1.mono hc,(h2 p hp).2.mono hc⟩,by omega⟩
theorem II {B:Nat} {v:SV} (h:Dk B v) (hB:1<=B):Ht B (Dg v):=by
 have h0:Ht B ((0:Int):Rat):=EB (by simp[Bt];exact hB)
 cases v with
 |b _=>exact h0
 |z n=>exact h
 |q r=>exact h
 |a d P=>exact h0
theorem AFI {B:Nat} {v:SV} (h:Dk B v) (hB:1<=B):Ht B ((intV v:Int):Rat):=OB (II h hB)
def Hs:List SV->Nat->Prop
 |[],_=>True
 |v::vs,B=>∃ b c,1<=b/\Dk b v/\Hs vs c/\b+1+c<=B
theorem Hs.mono {vs:List SV} {B C:Nat} (h:Hs vs B) (hc:B<=C):Hs vs C:=by
 cases vs with
 |nil=>trivial
 |cons v vs=>obtain ⟨b,c,h1,h2,h3,h4⟩:=h;exact ⟨b,c,h1,h2,h3,by omega⟩
theorem Hs.mem:∀ {vs:List SV} {B:Nat},Hs vs B->∀ v∈vs,Dk B v:=by
 intro vs
 induction vs with
 |nil=>intro B _ v hv;cases hv
 |cons w vs ih=>
  intro B h v hv
  obtain ⟨b,c,h1,h2,h3,h4⟩:=h
  rcases List.mem_cons.1 hv with rfl | hv
  ·exact h2.mono (by omega)
  ·exact (ih h3 v hv).mono (by omega)
theorem Hs.sum:∀ {vs:List SV} {a B:Nat} {r:Rat},Ht a r->Hs vs B->Ht (a+B) (vs.foldl (fun s v=>s+Dg v) r):=by
 intro vs
 induction vs with
 |nil=>intro a B r h _;exact h.mono (by omega)
 |cons w vs ih=>
  intro a B r h hs
  obtain ⟨b,c,h1,h2,h3,h4⟩:=hs
  exact (ih (AD3 h (II h2 h1)) h3).mono (by omega)
theorem Hs.get {vs:List SV} {B:Nat} (h:Hs vs B) (i:Nat):Dk B (vs.getD i (.b false)):=by
 rw[qZ4]
 cases hi:vs[i]? with
 |none=>trivial
 |some v=>exact h.mem v (qY14 hi)
theorem YN (i:Int):∀ P:KV,(lo i P).length+(hi i P).length<=P.length:=by
 intro P
 induction P with
 |nil=>simp[lo,hi]
 |cons p P ih=>
  simp only[lo,hi] at ih
  simp only[lo,hi,List.filter_cons]
  by_cases h1:p.1 < i
  ·rw[if_pos (qZ10 h1),if_neg (by simp;omega)];simp;omega
  ·rw[if_neg (by simp;omega)]
   split<;>simp<;>omega
theorem Oa {B:Nat} {r:Rat} (s:Int) (h:Ht B r):Dk B (ER s r):=by unfold ER;split;exact OB h;exact h
theorem AB0 {n:Aa} {vs:List SV} {B:Nat} (hB:Hs vs B) (hn:Ht 75 (Dc n)):Dk (B+79) (Ik n vs):=by
 have g:=hB.get
 have gi:∀ i,Ht (B+1) ((intV (vs.getD i (.b false)):Int):Rat):=fun i=>AFI ((g i).mono (by omega)) (by omega)
 have gv:∀ i,Ht (B+1) (Dg (vs.getD i (.b false))):=fun i=>II ((g i).mono (by omega)) (by omega)
 unfold Ik
 by_cases c0:nOp n=1\/nOp n=7
 ·rw[if_pos c0];trivial
 rw[if_neg c0]
 by_cases c1:nOp n=2\/nOp n=8
 ·rw[if_pos c1];trivial
 rw[if_neg c1]
 by_cases c2:nOp n=6
 ·rw[if_pos c2];trivial
 rw[if_neg c2]
 by_cases c3:nOp n=9
 ·rw[if_pos c3];trivial
 rw[if_neg c3]
 by_cases c4:nOp n=10
 ·rw[if_pos c4]
  split<;>exact (g _).mono (by omega)
 rw[if_neg c4]
 by_cases c5:nOp n=11
 ·rw[if_pos c5];trivial
 rw[if_neg c5]
 by_cases c6:nOp n=12
 ·rw[if_pos c6];trivial
 rw[if_neg c6]
 by_cases c7:nOp n=13
 ·rw[if_pos c7];trivial
 rw[if_neg c7]
 by_cases c8:nOp n=3
 ·rw[if_pos c8];exact Oa _ (hn.mono (by omega))
 rw[if_neg c8]
 by_cases c9:nOp n=14
 ·rw[if_pos c9]
  have h0:Ht 1 (0:Rat):=EB (n:=0) (by simp[Bt])
  exact Oa _ ((hB.sum h0).mono (by omega))
 rw[if_neg c9]
 by_cases c10:nOp n=15
 ·rw[if_pos c10]
  refine Oa _ ?_
  rcases vs with _ | ⟨a,_ | ⟨b,l⟩⟩
  ·simp only[List.getD_nil,Dg]
   rw[Rat.zero_mul]
   exact EB (n:=0) (by simp[Bt])
  ·simp only[qZ2,List.getD_nil,Dg]
   rw[Rat.mul_zero]
   exact EB (n:=0) (by simp[Bt])
  ·obtain ⟨x,c,h1,h2,⟨y,c2,h5,h6,h7,h8⟩,h4⟩:=hB
   simp only[qZ2,qZ3]
   exact (XJ (II h2 h1) (II h6 h5)).mono (by omega)
 rw[if_neg c10]
 by_cases c11:nOp n=16
 ·rw[if_pos c11]
  have:(intV (vs.getD 0 (.b false)) / (Dc n).num).natAbs<=(intV (vs.getD 0 (.b false))).natAbs:=by
   have h:=Int.natAbs_ediv_le_natAbs (intV (vs.getD 0 (.b false))) (Dc n).num
   exact h
  exact (O4 (gi 0) this).mono (by omega)
 rw[if_neg c11]
 by_cases c12:nOp n=17
 ·rw[if_pos c12]
  by_cases hz:(Dc n).num=0
  ·rw[hz,Int.emod_zero];exact (gi 0).mono (by omega)
  ·have:(intV (vs.getD 0 (.b false)) % (Dc n).num).natAbs<=(Dc n).num.natAbs:=by
    have h1:=Int.emod_nonneg (intV (vs.getD 0 (.b false))) hz
    have h2:=Int.emod_lt (intV (vs.getD 0 (.b false))) hz
    omega
   exact (O4 (OB hn) this).mono (by omega)
 rw[if_neg c12]
 by_cases c13:nOp n=18
 ·rw[if_pos c13]
  have ga:=g 0
  generalize vs.getD 0 (.b false)=v at ga
  cases v with
  |a d P=>
   obtain ⟨h1,h2,h3⟩:=ga
   have:Ko d P (intV (vs.getD 1 (.b false)))=d\/∃ p∈P,Ko d P (intV (vs.getD 1 (.b false)))=p.2:=by
    unfold Ko
    cases hf:P.find? fun p=>decide (p.1=intV (vs.getD 1 (.b false))) with
    |none=>exact .inl rfl
    |some p=>exact .inr ⟨p,List.mem_of_find?_eq_some hf,rfl⟩
   simp only[UL]
   rcases this with e | ⟨p,hp,e⟩
   ·rw[e];exact h1.mono (by omega)
   ·rw[e];exact (h2 p hp).2.mono (by omega)
  |b _=>exact EB (n:=0) (by simp[Bt])
  |z _=>exact EB (n:=0) (by simp[Bt])
  |q _=>exact EB (n:=0) (by simp[Bt])
 rw[if_neg c13]
 by_cases c14:nOp n=19
 ·rw[if_pos c14]
  have ga:=g 0
  generalize vs.getD 0 (.b false)=v at ga
  cases v with
  |a d P=>
   obtain ⟨h1,h2,h3⟩:=ga
   simp only[Ps]
   refine ⟨h1.mono (by omega),fun p hp=>?_,?_⟩
   ·unfold C9 at hp
    rcases List.mem_append.1 hp with hp | hp
    ·rcases List.mem_append.1 hp with hp | hp
     ·have:=h2 p (Ii.1 hp).1;exact ⟨this.1.mono (by omega),this.2.mono (by omega)⟩
     ·split at hp
      ·cases hp
      ·rw[List.mem_singleton.1 hp];exact ⟨(gi 1).mono (by omega),(gi 2).mono (by omega)⟩
    ·have:=h2 p (JG.1 hp).1;exact ⟨this.1.mono (by omega),this.2.mono (by omega)⟩
   ·have e:=YN (intV (vs.getD 1 (.b false))) P
    unfold C9
    simp only[qZ6]
    split<;>simp only[List.length_nil,qY11]<;>omega
  |b _=>trivial
  |z _=>exact Ht.mono ga (by omega)
  |q _=>exact Ht.mono ga (by omega)
 rw[if_neg c14]
 ·exact ⟨(gi 0).mono (by omega),fun p hp=>absurd hp qY16,Nat.zero_le _⟩
end Go.AM.Num
end
section
namespace Go.AM.Num
open Tf
noncomputable def Sd (A:qBs->Option SV) (G:Aa->List SV->Int ⊕ SV) (n:Aa) (vs:List SV):Int ⊕ SV:=
 if nOp n=4 then (match A (Bv n) with | none=>.inl 7 | some v=>if CC v=A5 n then .inr v else .inl 3)
 else if nOp n=5 then G n vs
 else .inr (Ik n vs)
noncomputable def JY (A:qBs->Option SV) (G:Aa->List SV->Int ⊕ SV):Tf->Int ⊕ List SV
 |.nil=>.inr []
 |.cons n k r=>match JY A G k with
  |.inl e=>.inl e
  |.inr vs=>match Sd A G n vs with
   |.inl e=>.inl e
   |.inr v=>match JY A G r with
    |.inl e=>.inl e
    |.inr ws=>.inr (v::ws)
structure EA (A:qBs->Option SV) (G:Aa->List SV->Int ⊕ SV):Prop where
 ok:∀ nm v,A nm=some v->Eo v/\Dk 75 v
 fn:∀ n vs v,G n vs=.inr v->Eo v/\Dk 75 v/\CC v=A5 n
 er:∀ n vs e,G n vs=.inl e->e≠0
def MA (f:Tf):Prop:=∀ n∈f.flat,(A_ n).length<=73
theorem Y8 {n:Aa} (h:(A_ n).length<=73):Ht 75 (Dc n):=by
 unfold Dc
 cases hr:rd (A_ n) with
 |none=>exact EB (n:=0) (by simp[Bt])
 |some q=>
  have e:=Eu hr
  have:=IK q
  rw[<-e] at this
  exact AFw (r:=q) (by omega)
theorem FF {n:Aa}:Cd n=true ↔ Bi n=true/\AQ (nOp n) (AU n)=true:=by unfold Cd;rw[qY0]
theorem Ax {A:qBs->Option SV} {G:Aa->List SV->Int ⊕ SV} (hE:EA A G):∀ (F:Tf),F.wf=true->(0:Int)∉F.srt->MA F->∀ vs,JY A G F=.inr vs->vs.map CC=F.srt/\(∀ v∈vs,Eo v)/\Hs vs (80 * F.size):=by
 intro F
 induction F with
 |nil=>
  intro _ _ _ vs h
  simp only[JY,Sum.inr.injEq] at h
  subst h
  exact ⟨rfl,fun v hv=>(by cases hv),trivial⟩
 |cons n k r ik ir=>
  intro hw hs hn vs h
  obtain ⟨w1,w2,w3,w4⟩:=Cp.1 hw
  obtain ⟨s1,s2,s3⟩:=DB.1 hs
  have hnk:MA k:=fun m hm=>hn m (by simp only[flat,qY12,qZ7];exact .inr (.inl hm))
  have hnr:MA r:=fun m hm=>hn m (by simp only[flat,qY12,qZ7];exact .inr (.inr hm))
  have hnn:=Y8 (hn n (by simp[flat]))
  simp only[JY] at h
  split at h
  ·cases h
  rename_i ks hk
  obtain ⟨k1,k2,k3⟩:=ik w3 s1 hnk _ hk
  split at h
  ·cases h
  rename_i v hv
  split at h
  ·cases h
  rename_i ws hr
  obtain ⟨r1,r2,r3⟩:=ir w4 s3 hnr _ hr
  simp only[Sum.inr.injEq] at h
  subst h
  have key:CC v=AO n (op1 k) k.srt/\Eo v/\Dk (80 * k.size+79) v:=by
   unfold Sd at hv
   split at hv
   ·rename_i h4
    split at hv
    ·cases hv
    rename_i u hu
    split at hv
    ·rename_i e
     simp only[Sum.inr.injEq] at hv
     subst hv
     obtain ⟨a1,a2⟩:=hE.ok _ _ hu
     exact ⟨by rw[e];unfold AO;rw[if_pos (by omega)],a1,a2.mono (by omega)⟩
    ·cases hv
   ·rename_i h4
    split at hv
    ·rename_i h5
     obtain ⟨a1,a2,a3⟩:=hE.fn _ _ _ hv
     exact ⟨by rw[a3];unfold AO;rw[if_pos (by omega)],a1,a2.mono (by omega)⟩
    ·rename_i h5
     simp only[Sum.inr.injEq] at hv
     subst hv
     obtain ⟨f1,f2⟩:=FF.1 w1
     have hl:(ks.length:Int)=AU n:=by
      have:=congrArg List.length k1
      rw[List.length_map,C8] at this
      omega
     obtain ⟨a1,a2⟩:=V1 (f:=op1 k) f1 h4 h5 (by rw[hl];exact f2) (by rw[k1];exact s2) k2
     rw[k1] at a1
     exact ⟨a1,a2,AB0 k3 hnn⟩
  obtain ⟨q1,q2,q3⟩:=key
  refine ⟨?_,?_,?_⟩
  ·simp only[List.map_cons,srt,r1,q1]
   rw[if_neg s1]
  ·intro u hu
   rcases List.mem_cons.1 hu with rfl | hu
   ·exact q2
   ·exact r2 u hu
  ·exact ⟨80 * k.size+79,80 * r.size,by omega,q3,r3,by simp only[size];omega⟩
theorem WV {n:Aa} (hf:Bi n=true) (ho:nOp n=3):(A5 n=2\/A5 n=3)/\A_ n=Ay (Dc n)/\(A5 n=2->(Dc n).den=1):=by
 unfold Bi at hf
 rw[if_pos ho] at hf
 simp only[qY0,Bool.or_eq_true,decide_eq_true_eq] at hf
 unfold Dc
 rcases hf.2 with ⟨h1,h2⟩ | ⟨h1,h2⟩
 ·obtain ⟨m,h3,h4⟩:=K2 h2
  rw[h4]
  exact ⟨.inl h1,h3,fun _=>Rat.den_intCast m⟩
 ·obtain ⟨q,h3⟩:=Option.isSome_iff_exists.1 h2
  rw[h3]
  exact ⟨.inr h1,Eu h3,fun e=>by omega⟩
theorem i0:(0:Int).toNat=0:=rfl
theorem i1:(1:Int).toNat=1:=rfl
theorem i2:(2:Int).toNat=2:=rfl
structure SmallV (v:Bp):Prop where
 sh:Short 73 v
 few:v.2.2.2.1.length<=75
def NY (t:List Aa):Prop:=∀ n∈t,(A_ n).length<=73
structure VSok (VS:List Vr):Prop where
 name:∀ v∈VS,D8 v.1=true/\1<=v.2/\v.2<=4
 once:∀ v∈VS,∀ w∈VS,v.1=w.1->v=w
structure GenF (VS:List Vr) (ss:List Int) (N d:Nat) (l:List Aa) (K:Tf):Prop where
 flat:K.flat=l
 wf:K.wf=true
 srt:K.srt=ss
 nz:(0:Int)∉ss
 sh:NY l
 size:K.size<=N
 dep:K.dep<=d
 vars:∀ x∈l,nOp x=4->(Bv x,A5 x)∈VS
 noap:∀ x∈l,nOp x≠5
def AZ (VS:List Vr) (ss:List Int) (N d:Nat) (l:List Aa):Prop:=∃ K,GenF VS ss N d l K
theorem AZ.nil (VS:List Vr):AZ VS [] 0 0 []:=⟨Tf.nil,rfl,rfl,rfl,by simp,fun _ h=>absurd h qY16,Nat.le_refl _,Nat.le_refl _,fun _ h=>absurd h qY16,fun _ h=>absurd h qY16⟩
theorem AZ.mono {VS:List Vr} {ss:List Int} {N M d e:Nat} {l:List Aa} (h:AZ VS ss N d l) (hN:N<=M) (hd:d<=e):AZ VS ss M e l:=by
 obtain ⟨K,hK⟩:=h
 exact ⟨K,hK.flat,hK.wf,hK.srt,hK.nz,hK.sh,by have:=hK.size;omega,by have:=hK.dep;omega,hK.vars,hK.noap⟩
theorem AZ.app {VS:List Vr} {ss uu:List Int} {N M d:Nat} {l m:List Aa} (h:AZ VS ss N d l) (g:AZ VS uu M d m):AZ VS (ss++uu) (N+M) d (l++m):=by
 obtain ⟨K,hK⟩:=h
 obtain ⟨L,hL⟩:=g
 refine ⟨K.app L,by rw[HP,hK.flat,hL.flat],by rw[IC,hK.wf,hL.wf];rfl,by rw[G6,hK.srt,hL.srt],?_,?_,?_,?_,?_,?_⟩
 ·rw[qZ7];exact fun h=>h.elim hK.nz hL.nz
 ·exact fun x hx=>(List.mem_append.1 hx).elim (hK.sh x) (hL.sh x)
 ·rw[OI];have:=hK.size;have:=hL.size;omega
 ·rw[NM];have:=hK.dep;have:=hL.dep;omega
 ·exact fun x hx=>(List.mem_append.1 hx).elim (hK.vars x) (hL.vars x)
 ·exact fun x hx=>(List.mem_append.1 hx).elim (hK.noap x) (hL.noap x)
theorem QS {K:Tf} {l:List Aa} (h:K.flat=l):op1 K=(l.getD 0 Ao).1:=by
 subst h
 cases K<;>rfl
theorem AZ.node {VS:List Vr} {ss:List Int} {N d:Nat} {l:List Aa} (h:AZ VS ss N d l) {n:Aa} {s:Int} (hf:Bi n=true) (hc:AQ (nOp n) ss.length=true) (hk:AU n=(ss.length:Int)) (hs:AO n (l.getD 0 Ao).1 ss=s) (hz:s≠0)
 (hnum:(A_ n).length<=73) (hv:nOp n=4->(Bv n,A5 n)∈VS) (ha:nOp n≠5):AZ VS [s] (N+1) (d+1) (n::l):=by
 obtain ⟨K,hK⟩:=h
 have hl:K.len=ss.length:=by rw[<-C8,hK.srt]
 refine ⟨cons n K Tf.nil,by simp[Tf.flat,hK.flat],Cp.2 ⟨FF.2 ⟨hf,by rw[hk];exact hc⟩,by rw[hl];exact hk,hK.wf,rfl⟩,?_,?_,?_,?_,?_,?_,?_⟩
 ·simp only[Tf.srt,hK.srt]
  rw[if_neg hK.nz,QS hK.flat,hs]
 ·simp[Ne.symm hz]
 ·intro x hx
  rcases List.mem_cons.1 hx with rfl | hx
  ·exact hnum
  ·exact hK.sh x hx
 ·simp only[Tf.size];have:=hK.size;omega
 ·simp only[Tf.dep];have:=hK.dep;omega
 ·intro x hx
  rcases List.mem_cons.1 hx with rfl | hx
  ·exact hv
  ·exact hK.vars x hx
 ·intro x hx
  rcases List.mem_cons.1 hx with rfl | hx
  ·exact ha
  ·exact hK.noap x hx
theorem U4 {n:Aa} {k:Tf}:∀ {f:Tf},(n,k)∈f.subs->n∈f.flat:=by
 intro f
 induction f with
 |nil=>intro h;simp[subs] at h
 |cons m a b ia ib=>
  intro h
  simp only[subs,qY12,qZ7,Prod.mk.injEq] at h
  simp only[Tf.flat,qY12,qZ7]
  rcases h with ⟨rfl,_⟩ | h | h
  ·exact .inl rfl
  ·exact .inr (.inl (ia h))
  ·exact .inr (.inr (ib h))
theorem On {VS:List Vr} (hV:VSok VS) {s:Int} {N d:Nat} {t:List Aa} {F:Tf} (h:GenF VS [s] N d t F) (hN:N<=20000) (hd:d<=257):VT t F:=by
 refine ⟨h.flat,h.wf,by rw[h.srt];exact h.nz,by rw[<-C8,h.srt];rfl,by have:=h.size;omega,by have:=h.dep;omega,?_⟩
 have key:∀ a∈Ch F,a.2.1=false/\a.2.2.1=[]/\(a.1,a.2.2.2)∈VS:=by
  intro a ha
  obtain ⟨⟨n,k⟩,h1,h2⟩:=List.mem_filterMap.1 ha
  have hm:n∈t:=by rw[<-h.flat];exact U4 h1
  unfold B8 at h2
  split at h2
  ·rename_i h4
   simp only[Option.some.injEq] at h2
   subst h2
   exact ⟨rfl,rfl,h.vars n hm h4⟩
  ·split at h2
   ·rename_i h5
    exact absurd h5 (h.noap n hm)
   ·cases h2
 rintro ⟨a,b,c,e⟩ ha ⟨a',b',c',e'⟩ ha' hn
 obtain ⟨p1,p2,p3⟩:=key _ ha
 obtain ⟨q1,q2,q3⟩:=key _ ha'
 simp only at p1 p2 p3 q1 q2 q3 hn
 have:=hV.once _ p3 _ q3 hn
 simp only[Prod.mk.injEq] at this
 rw[p1,p2,q1,q2,this.1,this.2]
theorem WE {VS:List Vr} (hV:VSok VS) {nm:qBs} {s:Int} (h:(nm,s)∈VS):AZ VS [s] 1 1 [((4:Int),s,nm,([]:qBs),(0:Int))]:=by
 obtain ⟨h1,h2,h3⟩:=hV.name _ h
 exact (AZ.nil VS).node (by simp[nOp,A5,Bv,A_,Bi,h1,h2,h3]) rfl rfl (by simp[nOp,A5,AO]) (by simp only at h2;omega) (by simp[A_]) (fun _=>h) (by simp[nOp])
theorem IH {VS:List Vr} {z:Int} (h:(ti z).length<=73):AZ VS [2] 1 1 [((3:Int),(2:Int),([]:qBs),ti z,(0:Int))]:=
 (AZ.nil VS).node (by simp[nOp,A5,Bv,A_,Bi,FK]) rfl rfl (by simp[nOp,A5,AO]) (by omega) h (fun h=>by simp[nOp] at h) (by simp[nOp])
theorem RZ {VS:List Vr} {q:Rat} (h:(Ay q).length<=73):AZ VS [3] 1 1 [((3:Int),(3:Int),([]:qBs),Ay q,(0:Int))]:=
 (AZ.nil VS).node (by simp[nOp,A5,Bv,A_,Bi,Df]) rfl rfl (by simp[nOp,A5,AO]) (by omega) h (fun h=>by simp[nOp] at h) (by simp[nOp])
theorem Pb {VS:List Vr}:AZ VS [1] 1 1 [((1:Int),(0:Int),([]:qBs),([]:qBs),(0:Int))]:=
 (AZ.nil VS).node (by simp[nOp,A5,Bv,A_,Bi]) rfl rfl (by simp[nOp,A5,AO]) (by omega) (by simp[A_]) (fun h=>by simp[nOp] at h) (by simp[nOp])
theorem Tp {VS:List Vr}:AZ VS [1] 1 1 [((2:Int),(0:Int),([]:qBs),([]:qBs),(0:Int))]:=
 (AZ.nil VS).node (by simp[nOp,A5,Bv,A_,Bi]) rfl rfl (by simp[nOp,A5,AO]) (by omega) (by simp[A_]) (fun h=>by simp[nOp] at h) (by simp[nOp])
def alphaB (c:UInt8):Bool:=(decide (97<=c)&&decide (c<=122))||(decide (65<=c)&&decide (c<=90))
theorem AAL (c:UInt8):K1 (c.toNat:Int)=some ((alphaB c,()),()):=by
 refine DS (P:=fun c=>K1 (c.toNat:Int)=some ((alphaB c,()),())) ?_ c
 decide +kernel
theorem UP (c:UInt8):letterB c=(alphaB c||c==95||c==36||c==33):=rfl
theorem AFR (c:UInt8):decide ((c.toNat:Int) < 48)=!decide (48<=c):=by
 refine DS (P:=fun c=>decide ((c.toNat:Int) < 48)=!decide (48<=c)) ?_ c
 decide +kernel
theorem AFk (c:UInt8):decide ((c.toNat:Int) > 57)=!decide (c<=57):=by
 refine DS (P:=fun c=>decide ((c.toNat:Int) > 57)=!decide (c<=57)) ?_ c
 decide +kernel
theorem Zo (c:UInt8):((c.toNat:Int)==95)=(c==95):=by
 refine DS (P:=fun c=>((c.toNat:Int)==95)=(c==95)) ?_ c
 decide +kernel
theorem ACx (c:UInt8):((c.toNat:Int)==36)=(c==36):=by
 refine DS (P:=fun c=>((c.toNat:Int)==36)=(c==36)) ?_ c
 decide +kernel
theorem Yq (c:UInt8):((c.toNat:Int)==33)=(c==33):=by
 refine DS (P:=fun c=>((c.toNat:Int)==33)=(c==33)) ?_ c
 decide +kernel
theorem ADx {l:List qBs} {s:qBs} (hl:l.length<=1000000000):KR l s=some ((decide (s∈l),()),()):=by
 have key:=Gb (step:=JK) (fun k=>(l,s,false,(k:Int),())) (fun k=>(l,s,true,(k:Int),())) l.length (E:=.exit 0) (B:=.ret) (by simp) (by simp) (fun k=>!(l.getD k []==s)) (fun k hk=>by
  unfold JK
  simp only
  rw[Aw,Ap,Ad,Ad,qZ0,AB (x:=(k:Int)+1) (by omega)]
  cases (l.getD k []==s)<;>rfl) (by
  unfold JK
  simp only
  rw[AC])
 rw[JI l [] (fun x=>!(x==s))] at key
 rw[show ((0:Nat):Int)=0 from rfl] at key
 unfold KR
 rcases key with ⟨k1,k2⟩ | ⟨k1,j,k2⟩
 ·rw[k2]
  simp only[Ae,Bh,Az]
  rw[qZ9]
  intro h
  have:=List.all_eq_true.1 k1 s h
  simp at this
 ·rw[k2]
  simp only[Ae,Cc,Ca,Az,AE]
  rw[qZ10]
  by_cases h:s∈l
  ·exact h
  ·rw[List.all_eq_true.2 (fun x hx=>by simp;exact fun e=>h (e ▸ hx))] at k1;cases k1
theorem Xu:Ou=some ((H9,()),()):=rfl
theorem AAq {s:qBs} (h:s≠[]):(List.range s.length).all (fun k=>if k=0 then letterB (s.getD 0 0) else EU (s.getD k 0))=(letterB (s.getD 0 0)&&s.all EU):=by
 have hpos:0 < s.length:=List.length_pos_iff.2 h
 rw[<-JI s 0 EU,Bool.eq_iff_iff,qY0,qY3,qY3]
 constructor
 ·intro hh
  have h0:=hh 0 (List.mem_range.2 hpos)
  simp only[if_true] at h0
  refine ⟨h0,fun k hk=>?_⟩
  have hk':=hh k hk
  by_cases e:k=0
  ·subst e
   unfold EU
   rw[h0];rfl
  ·rw[if_neg e] at hk';exact hk'
 ·rintro ⟨h0,hh⟩ k hk
  split
  ·exact h0
  ·exact hh k hk
theorem Vy (s:qBs):J0 s=some ((D8 s,()),()):=by
 unfold J0
 by_cases h0:s=[]
 ·subst h0;decide
 ·rw[show (s==([]:qBs))=false by simpa using h0,AE]
  have hpos:0 < s.length:=List.length_pos_iff.2 h0
  unfold D8
  by_cases h1:s.length<=40
  ·rw[AC,qZ10 h1,Xu,Ae]
   simp only
   rw[ADx (by decide),Ae,Bool.true_and]
   cases hw:decide (s∈H9) with
   |true=>cases letterB (s.getD 0 0)<;>rfl
   |false=>
    simp only[AE]
    have key:=Gb (step:=IE) (fun k=>(s,false,(k:Int),())) (fun k=>(s,false,(k:Int),())) s.length (E:=.exit 0) (B:=.ret) (by simp) (by simp) (fun k=>if k=0 then letterB (s.getD 0 0) else EU (s.getD k 0)) (fun k hk=>by
     unfold IE
     simp only
     rw[Aw,Ap,Ad,Ad,qZ0,AAL,Ae,AFR,AFk,TP,Vl,Zo,ACx,Yq,AB (x:=(k:Int)+1) (by omega)]
     by_cases hk0:k=0
     ·subst hk0
      rw[if_pos rfl,UP]
      generalize alphaB (s.getD 0 0)=a
      generalize (s.getD 0 0==95)=b
      generalize (s.getD 0 0==36)=c
      generalize (s.getD 0 0==33)=d
      cases a<;>cases b<;>cases c<;>cases d<;>rfl
     ·rw[if_neg hk0]
      unfold EU
      rw[UP,Aj (show (k:Int)≠0 by omega)]
      generalize alphaB (s.getD k 0)=a
      generalize (s.getD k 0==95)=b
      generalize (s.getD k 0==36)=c
      generalize (s.getD k 0==33)=d
      generalize decide (48<=s.getD k 0)=e
      generalize decide (s.getD k 0<=57)=f
      generalize (s.getD k 0==46)=g
      generalize (s.getD k 0==64)=h
      cases a<;>cases b<;>cases c<;>cases d<;>cases e<;>cases f<;>cases g<;>cases h<;>rfl) (by
     unfold IE
     simp only
     rw[AC])
    rw[AAq h0] at key
    rcases key with ⟨k1,k2⟩ | ⟨k1,j,k2⟩
    ·rw[show ((0:Nat):Int)=0 from rfl] at k2
     rw[k2]
     simp only[Ae,Bh,Az,qY1,Bool.and_true]
     rw[k1]
    ·rw[show ((0:Nat):Int)=0 from rfl] at k2
     rw[k2]
     simp only[Ae,Cc,Ca,Az,AE,qY1,Bool.and_true]
     rw[k1]
  ·rw[Aw,qZ9 h1]
   rfl
theorem Z9 (s:Int):KP s=some ((decide (1<=s/\s<=4),()),()):=UT s
theorem AB1 {n:Aa} (h:(A_ n).length<=100000):L8 n=some ((Bi n,()),()):=by
 obtain ⟨o,s,nm,num,kd⟩:=n
 simp only[A_] at h
 unfold L8 Bi
 simp only[nOp,A5,Bv,A_]
 rw[Z9,Vy,HI (by omega),Te (by omega),KF (by omega)]
 simp only[Ae,Rl]
 by_cases e3:o=3
 ·rw[Av e3,if_pos e3]
  by_cases h2:s=2
  ·subst h2
   cases decide (nm=[])<;>cases Bc num<;>rfl
  ·rw[Aj h2,qZ9 h2,Bool.false_and,Bool.false_or]
   by_cases h3:s=3
   ·subst h3;cases decide (nm=[])<;>rfl
   ·rw[Aj h3,qZ9 h3,Bool.false_and];cases decide (nm=[])<;>rfl
 ·rw[Aj e3,if_neg e3]
  by_cases e4:o=4
  ·rw[Av e4,if_pos (.inl e4)];cases decide (1<=s/\s<=4)<;>cases D8 nm<;>cases decide (num=[])<;>rfl
  ·rw[Aj e4]
   by_cases e5:o=5
   ·rw[Av e5,if_pos (.inr e5)];cases decide (1<=s/\s<=4)<;>cases D8 nm<;>cases decide (num=[])<;>rfl
   ·rw[Aj e5,if_neg (by omega)]
    by_cases e6:o=16
    ·rw[Av e6,if_pos (.inl e6)]
     by_cases z:s=0
     ·rw[Av z,qZ10 z];cases decide (nm=[])<;>cases Bc num<;>rfl
     ·rw[Aj z,qZ9 z];rfl
    ·rw[Aj e6]
     by_cases e7:o=17
     ·rw[Av e7,if_pos (.inr e7)]
      by_cases z:s=0
      ·rw[Av z,qZ10 z];cases decide (nm=[])<;>cases Bc num<;>rfl
      ·rw[Aj z,qZ9 z];rfl
     ·rw[Aj e7,if_neg (by omega)]
      by_cases g1:o>=1
      ·rw[Aw g1]
       by_cases g2:o<=20
       ·rw[Aw g2,qZ10 (show 1<=o/\o<=20 from ⟨g1,g2⟩)]
        by_cases z:s=0
        ·rw[Av z,qZ10 z];cases decide (nm=[])<;>rfl
        ·rw[Aj z,qZ9 z];rfl
       ·rw[AC g2,qZ9 (by omega)];rfl
      ·rw[AC g1,qZ9 (by omega)];rfl
theorem ABp (o k:Int):I7 o k=some ((AQ o k,()),()):=by
 by_cases h1:o=1;· subst h1;rfl
 by_cases h2:o=2;· subst h2;rfl
 by_cases h3:o=3;· subst h3;rfl
 by_cases h4:o=4;· subst h4;rfl
 by_cases h5:o=5
 ·subst h5
  have e:AQ 5 k=decide (1<=k/\k<=40):=rfl
  rw[e]
  unfold I7
  rw[Aj (by decide),Aj (by decide),Aj (by decide),Aj (by decide),Av rfl]
  by_cases g:k>=1
  ·rw[Aw g]
   have:decide (k<=40)=decide (1<=k/\k<=40):=by rw[decide_eq_decide];omega
   rw[this]
  ·rw[AC g,qZ9 (by omega)]
 by_cases h6:o=6;· subst h6;rfl
 by_cases h16:o=16;· subst h16;rfl
 by_cases h17:o=17;· subst h17;rfl
 by_cases h20:o=20;· subst h20;rfl
 by_cases h7:o=7;· subst h7;rfl
 by_cases h8:o=8;· subst h8;rfl
 by_cases h10:o=10;· subst h10;rfl
 by_cases h19:o=19;· subst h19;rfl
 by_cases h14:o=14;· subst h14;rfl
 unfold I7 AQ
 rw[Aj h1,Aj h2,Aj h3,Aj h4,Aj h5,Aj h6,Aj h16,Aj h17,Aj h20,Aj h7,Aj h8,Aj h10,Aj h19,Aj h14,
  if_neg (by omega),if_neg h5,if_neg (by omega),if_neg (by omega),if_neg h14,if_neg (by omega)]
 rfl
theorem X4 {ss:List Int} {s out:Int} (hl:ss.length<=1000000000):C5 ss s out=some ((if ∀ x∈ss,x=s then out else 0,()),()):=by
 have key:=Gb (step:=Iz) (fun k=>(ss,s,out,(0:Int),(k:Int),())) (fun k=>(ss,s,out,(0:Int),(k:Int),())) ss.length (E:=.exit 0) (B:=.ret) (by simp) (by simp) (fun k=>decide (ss.getD k 0=s)) (fun k hk=>by
  unfold Iz
  simp only
  rw[Aw,Ap,Ad,Ad,qZ0,AB (x:=(k:Int)+1) (by omega)]
  by_cases h:ss.getD k 0=s
  ·rw[BX h,if_pos (qZ10 h)];rfl
  ·rw[B5 h,if_neg (fun e=>h (of_decide_eq_true e))]) (by
  unfold Iz
  simp only
  rw[AC])
 rw[JI ss 0 (fun x=>decide (x=s))] at key
 rw[show ((0:Nat):Int)=0 from rfl] at key
 unfold C5
 rcases key with ⟨k1,k2⟩ | ⟨k1,j,k2⟩
 ·rw[k2]
  simp only[Ae,Bh,Az]
  rw[if_pos (by simpa [qY3] using k1)]
 ·rw[k2]
  simp only[Ae,Cc,Ca,Az,AE]
  rw[if_neg (fun h=>by rw[List.all_eq_true.2 (fun x hx=>qZ10 (h x hx))] at k1;cases k1)]
theorem P8 {n:Aa} {f:Int} {ss:List Int} (ho:1<=nOp n/\nOp n<=20) (hl:ss.length<=1000000000) (hc:AQ (nOp n) ss.length=true) (h15:nOp n=15->f=3->ss.getD 0 0=2\/ss.getD 0 0=3):JF n f ss=some ((AO n f ss,()),()):=by
 obtain ⟨o,s,nm,num,kd⟩:=n
 simp only[nOp] at ho hc h15
 have hnum:∀ s,IW s=some ((decide (s=2\/s=3),()),()):=Ul
 unfold JF AO
 simp only[nOp,A5,X4 hl,hnum,Ae,show (0:Int).toNat=0 from rfl,show (1:Int).toNat=1 from rfl,show (2:Int).toNat=2 from rfl]
 by_cases h1:o=1
 ·subst h1
  rcases ss with _ | ⟨a,l⟩<;>simp[AQ] at hc
  ·simp
  ·omega
 rw[Aj h1]
 by_cases h2:o=2
 ·subst h2
  rcases ss with _ | ⟨a,l⟩<;>simp[AQ] at hc
  ·simp
  ·omega
 rw[Aj h2]
 by_cases h3:o=3;· rw[Av h3,if_pos (.inl h3)]
 rw[Aj h3]
 by_cases h4:o=4;· rw[Av h4,if_pos (.inr (.inl h4))]
 rw[Aj h4]
 by_cases h5:o=5;· rw[Av h5,if_pos (.inr (.inr h5))]
 rw[Aj h5,if_neg (show ¬ (o=3\/o=4\/o=5) by omega)]
 by_cases h6:o=6;· rw[Av h6,if_pos (show o=1\/o=2\/o=6\/o=7\/o=8\/o=9 by omega)]
 rw[Aj h6]
 by_cases h7:o=7;· rw[Av h7,if_pos (show o=1\/o=2\/o=6\/o=7\/o=8\/o=9 by omega)]
 rw[Aj h7]
 by_cases h8:o=8;· rw[Av h8,if_pos (show o=1\/o=2\/o=6\/o=7\/o=8\/o=9 by omega)]
 rw[Aj h8]
 by_cases h9:o=9;· rw[Av h9,if_pos (show o=1\/o=2\/o=6\/o=7\/o=8\/o=9 by omega)]
 rw[Aj h9,if_neg (show ¬ (o=1\/o=2\/o=6\/o=7\/o=8\/o=9) by omega)]
 by_cases h10:o=10
 ·subst h10
  rcases ss with _ | ⟨a,_ | ⟨b,_ | ⟨c,_ | ⟨d,l⟩⟩⟩⟩<;>simp[AQ] at hc
  ·by_cases q:a=1
   ·by_cases q2:b=c
    ·simp[Ab,q,q2]
    ·simp[Ab,q,q2,show (b==c)=false by simpa using q2]
   ·simp[Ab,q,show (a==1)=false by simpa using q]
  ·omega
 rw[Aj h10,if_neg h10]
 by_cases h11:o=11
 ·subst h11
  rcases ss with _ | ⟨a,_ | ⟨b,_ | ⟨c,l⟩⟩⟩<;>simp[AQ] at hc
  ·by_cases q:b=a
   ·simp[Ab,q]
   ·simp[Ab,q]
    exact fun e=>q e.symm
  ·omega
 rw[Aj h11,if_neg h11]
 by_cases h12:o=12
 ·subst h12
  rcases ss with _ | ⟨a,_ | ⟨b,_ | ⟨c,l⟩⟩⟩<;>simp[AQ] at hc
  ·by_cases q:a=2\/a=3<;>simp[Ab,q]
  ·omega
 rw[Aj h12]
 by_cases h13:o=13
 ·subst h13
  rcases ss with _ | ⟨a,_ | ⟨b,_ | ⟨c,l⟩⟩⟩<;>simp[AQ] at hc
  ·by_cases q:a=2\/a=3<;>simp[Ab,q]
  ·omega
 rw[Aj h13,if_neg (show ¬ (o=12\/o=13) by omega)]
 by_cases h14:o=14
 ·subst h14
  rcases ss with _ | ⟨a,l⟩<;>simp[AQ] at hc
  by_cases q:a=2\/a=3<;>simp[Ab,q]
 rw[Aj h14,if_neg h14]
 by_cases h15':o=15
 ·subst h15'
  have h15:=h15 rfl
  rcases ss with _ | ⟨a,_ | ⟨b,_ | ⟨c,l⟩⟩⟩<;>simp[AQ] at hc
  ·by_cases q:f=3
   ·have:=h15 q
    simp at this
    simp[Ab,q,this]
   ·simp[q,show (f==3)=false by simpa using q]
  ·omega
 rw[Aj h15',if_neg h15']
 by_cases h16:o=16
 ·subst h16
  rcases ss with _ | ⟨a,_ | ⟨b,l⟩⟩<;>simp[AQ] at hc
  ·simp
  ·omega
 rw[Aj h16]
 by_cases h17:o=17
 ·subst h17
  rcases ss with _ | ⟨a,_ | ⟨b,l⟩⟩<;>simp[AQ] at hc
  ·simp
  ·omega
 rw[Aj h17,if_neg (show ¬ (o=16\/o=17) by omega)]
 by_cases h20:o=20
 ·subst h20
  rcases ss with _ | ⟨a,_ | ⟨b,l⟩⟩<;>simp[AQ] at hc
  ·simp
  ·omega
 rw[Aj h20]
 by_cases h18:o=18
 ·subst h18
  rcases ss with _ | ⟨a,_ | ⟨b,_ | ⟨c,l⟩⟩⟩<;>simp[AQ] at hc
  ·by_cases q:a=4
   ·by_cases q2:b=2
    ·simp[Ab,q,q2]
    ·simp[Ab,q,q2,show (b==2)=false by simpa using q2]
   ·simp[Ab,q,show (a==4)=false by simpa using q]
  ·omega
 rw[Aj h18,if_neg h18]
 obtain rfl:o=19:=by omega
 rcases ss with _ | ⟨a,_ | ⟨b,_ | ⟨c,_ | ⟨d,l⟩⟩⟩⟩<;>simp[AQ] at hc
 ·by_cases q:a=4
  ·by_cases q2:b=2
   ·by_cases q3:c=2
    ·simp[Ab,q,q2,q3]
    ·simp[Ab,q,q2,q3,show (c==2)=false by simpa using q3]
   ·simp[Ab,q,q2,show (b==2)=false by simpa using q2]
  ·simp[Ab,q,show (a==4)=false by simpa using q]
 ·omega
theorem AEH {n:Aa} (h:Bi n=true):1<=nOp n/\nOp n<=20:=by
 unfold Bi at h
 split at h
 ·omega
 ·split at h
  ·omega
  ·split at h
   ·omega
   ·simp only[qY0,decide_eq_true_eq] at h
    exact h.1.1.1
theorem Vt {n:Aa} (h:Bi n=true) (ho:nOp n=3\/nOp n=4\/nOp n=5):1<=A5 n/\A5 n<=4:=by
 unfold Bi at h
 split at h
 ·simp only[qY0,Bool.or_eq_true,decide_eq_true_eq] at h
  rcases h.2 with h | h<;>omega
 ·rw[if_pos (by omega)] at h
  simp only[qY0,decide_eq_true_eq] at h
  exact h.1.1
theorem ABA {ss:List Int} (h:∀ s∈ss,0<=s/\s<=4) (i:Nat):0<=ss.getD i 0/\ss.getD i 0<=4:=by
 rw[qZ4]
 cases hi:ss[i]? with
 |none=>simp
 |some s=>exact h s (qY14 hi)
theorem AGY {n:Aa} {f:Int} {ss:List Int} (hf:Bi n=true) (h:∀ s∈ss,0<=s/\s<=4):0<=AO n f ss/\AO n f ss<=4:=by
 have g:=ABA h
 have g0:=g 0
 have g1:=g 1
 unfold AO
 by_cases c0:nOp n=3\/nOp n=4\/nOp n=5
 ·rw[if_pos c0];have:=Vt hf c0;omega
 rw[if_neg c0]
 by_cases c1:nOp n=1\/nOp n=2\/nOp n=6\/nOp n=7\/nOp n=8\/nOp n=9
 ·rw[if_pos c1];split<;>omega
 rw[if_neg c1]
 by_cases c2:nOp n=10
 ·rw[if_pos c2];split<;>omega
 rw[if_neg c2]
 by_cases c3:nOp n=11
 ·rw[if_pos c3];split<;>omega
 rw[if_neg c3]
 by_cases c4:nOp n=12\/nOp n=13
 ·rw[if_pos c4];split<;>omega
 rw[if_neg c4]
 by_cases c5:nOp n=14
 ·rw[if_pos c5];split<;>omega
 rw[if_neg c5]
 by_cases c6:nOp n=15
 ·rw[if_pos c6];split<;>omega
 rw[if_neg c6]
 by_cases c7:nOp n=16\/nOp n=17
 ·rw[if_pos c7];split<;>omega
 rw[if_neg c7]
 by_cases c8:nOp n=18
 ·rw[if_pos c8];split<;>omega
 rw[if_neg c8]
 by_cases c9:nOp n=19
 ·rw[if_pos c9];split<;>omega
 rw[if_neg c9]
 by_cases c10:nOp n=20
 ·rw[if_pos c10];split<;>omega
 rw[if_neg c10];omega
theorem UF:∀ (f:Tf),f.wf=true->∀ s∈f.srt,0<=s/\s<=4:=by
 intro f
 induction f with
 |nil=>intro _ s hs;simp[srt] at hs
 |cons n k r ik ir=>
  intro hw s hs
  obtain ⟨w1,w2,w3,w4⟩:=Cp.1 hw
  simp only[srt,qY12] at hs
  rcases hs with rfl | hs
  ·split
   ·omega
   ·exact AGY (FF.1 w1).1 (ik w3)
  ·exact ir w4 s hs
noncomputable def C0 (d L:Nat) (l:List Aa):Int×Int:=match one d l with
 |none=>(-1,0)
 |some (T,l')=>((L:Int) - (l'.length:Int),T.srt.getD 0 0)
abbrev QX:=List Aa->Int->Int->Option ((Int×Int×Unit)×Unit)
def R9 (t:List Aa) (tr:QX) (dp:Nat):Prop:=∀ i:Nat,tr t (i:Int) (dp:Int)=some (((C0 (257 - dp) t.length (t.drop i)).1,(C0 (257 - dp) t.length (t.drop i)).2,()),())
theorem RG {d:Nat} {l l':List Aa} {T:Tf} (h:one d l=some (T,l')):T.size+l'.length=l.length/\T.srt.length=1:=by
 obtain ⟨h1,h2,h3,h4⟩:=Mb d h
 have:=congrArg List.length h1
 rw[qZ6,Br] at this
 exact ⟨this.symm,by rw[C8,h3]⟩
theorem Uc {d i:Nat} {t l':List Aa} {T:Tf} (h:one d (t.drop i)=some (T,l')) (hi:i<=t.length):t.drop (i+T.size)=l'/\i+T.size<=t.length/\(t.length:Int) - (l'.length:Int)=((i+T.size:Nat):Int):=by
 obtain ⟨h1,_,_,_⟩:=Mb d h
 have h2:=(RG h).1
 rw[List.length_drop] at h2
 refine ⟨?_,by omega,by omega⟩
 rw[<-List.drop_drop,h1,List.drop_append_of_le_length (by rw[Br];omega),qY7 (by rw[Br];omega),qY15]
theorem ABH {t:List Aa} (ht:t.length<=20000) {tr:QX} {dp:Nat} (hdp:dp<=256) (htr:R9 t tr (dp+1)) {i:Nat} (hi:i < t.length) {K:Int} (hK:(t.getD i Ao).2.2.2.2=K) :
 ∀ (c:Nat) (e k:Nat) (s:List Int) (good:Bool),e<=t.length->((k+c:Nat):Int)=K->s.length=k->k+c<=20000->
 match many (one (257 - (dp+1))) c (t.drop e) with
 |none=>∃ y,Am (Fq tr) (t,(i:Int),(dp:Int),0,0,s,(e:Int),good,(k:Int),())=some (.ret,(t,(i:Int),(dp:Int),-1,0,y))
 |some (F,l')=>Am (Fq tr) (t,(i:Int),(dp:Int),0,0,s,(e:Int),good,(k:Int),())=some (.exit 0,(t,(i:Int),(dp:Int),0,0,s++F.srt,(t.length:Int) - (l'.length:Int),good&&F.srt.all (fun x=>decide (x > 0)),K,())):=by
 intro c
 induction c with
 |zero=>
  intro e k s good he hk _ _
  simp only[many]
  refine Ba ?_ (by simp)
  unfold Fq
  simp only
  rw[Ap,Ad,Ad,qZ0,hK,AC]
  have e1:(t.length:Int) - ((t.drop e).length:Int)=(e:Int):=by rw[List.length_drop];omega
  have e2:K=(k:Int):=by omega
  rw[e1,e2]
  simp[srt]
 |succ c ih=>
  intro e k s good he hk hs hb
  have hcall:=htr e
  simp only[many]
  have hstep0:Fq tr (t,(i:Int),(dp:Int),0,0,s,(e:Int),good,(k:Int),())=(tr t (e:Int) (qI ((dp:Int)+1))).bind fun r1=>
   cond (decide (r1.1.1 < (0:Int))) (some (Ex.ret,(t,(i:Int),(dp:Int),-1,0,s,r1.1.1,good,(k:Int),())))
    (cond good (Ab (decide (s.length+([r1.1.2.1]:List Int).length<=As)) (some (Ex.normal,(t,(i:Int),(dp:Int),0,0,s++([r1.1.2.1]:List Int),r1.1.1,decide (r1.1.2.1 > (0:Int)),qI ((k:Int)+(1:Int)),()))))
    (Ab (decide (s.length+([r1.1.2.1]:List Int).length<=As)) (some (Ex.normal,(t,(i:Int),(dp:Int),0,0,s++([r1.1.2.1]:List Int),r1.1.1,false,qI ((k:Int)+(1:Int)),()))))):=by
   unfold Fq
   simp only
   rw[Ap,Ad,Ad,qZ0,hK,Aw]
  have hwd:qI ((dp:Int)+1)=((dp+1:Nat):Int):=by rw[AB];rfl
  rw[hwd] at hstep0
  cases ho:one (257 - (dp+1)) (t.drop e) with
  |none=>
   have hcall':tr t (e:Int) ((dp+1:Nat):Int)=some ((-1,0,()),()):=by rw[hcall];unfold C0;rw[ho]
   rw[hcall',Ae] at hstep0
   rw[Aw (show (-1:Int) < 0 by omega)] at hstep0
   simp only[Option.bind_none]
   exact ⟨_,Ba hstep0 (by simp)⟩
  |some x=>
   obtain ⟨T,l1⟩:=x
   obtain ⟨q1,q2⟩:=RG ho
   obtain ⟨d1,d2,d3⟩:=Uc ho he
   obtain ⟨x,hx⟩:∃ x,T.srt=[x]:=by
    match h:T.srt,q2 with
    |[x],_=>exact ⟨x,rfl⟩
   have hcall':tr t (e:Int) ((dp+1:Nat):Int)=some ((((e+T.size:Nat):Int),x,()),()):=by
    rw[hcall];unfold C0;rw[ho];simp only;rw[hx,d3];rfl
   rw[hcall',Ae] at hstep0
   rw[AC (show ¬ ((e+T.size:Nat):Int) < 0 by omega)] at hstep0
   have hlen:s.length+1<=As:=by simp only[As];omega
   have hgo:Fq tr (t,(i:Int),(dp:Int),0,0,s,(e:Int),good,(k:Int),())=some (.normal,(t,(i:Int),(dp:Int),0,0,s++[x],((e+T.size:Nat):Int),good&&decide (x > 0),((k+1:Nat):Int),())):=by
    rw[hstep0,AB (x:=(k:Int)+1) (by omega)]
    cases good
    ·simp only[AE,Bool.false_and];rw[Ad (by simpa using hlen)];rfl
    ·simp only[Az,Bool.true_and];rw[Ad (by simpa using hlen)];rfl
   have ih':=ih (e+T.size) (k+1) (s++[x]) (good&&decide (x > 0)) d2 (by omega) (by simp[hs]) (by omega)
   simp only[Option.bind_some]
   rw[d1] at ih'
   cases hm:many (one (257 - (dp+1))) c l1 with
   |none=>
    rw[hm] at ih'
    obtain ⟨y,hy⟩:=ih'
    simp only[Option.bind_none]
    exact ⟨y,by rw[A8 hgo,hy]⟩
   |some z=>
    obtain ⟨F,l'⟩:=z
    rw[hm] at ih'
    simp only[Option.bind_some] at ih' ⊢
    rw[A8 hgo,ih',G6,hx]
    simp[Bool.and_assoc]
theorem ACu {f:Tf} (hw:f.wf=true):f.srt.all (fun x=>decide (x > 0))=!decide (0∈f.srt):=by
 have h:=UF f hw
 generalize f.srt=l at h
 induction l with
 |nil=>rfl
 |cons a l ih=>
  have ha:=h a (by simp)
  rw[List.all_cons,ih fun s hs=>h s (by simp[hs])]
  by_cases h0:a=0
  ·subst h0;simp
  ·rw[qZ10 (show a > 0 by omega)]
   have:(0:Int)∈a::l ↔ 0∈l:=by simp;omega
   simp only[this,Bool.true_and]
theorem U5 {t:List Aa} (hs:BG t) (ht:t.length<=20000):∀ (f dp:Nat),dp<=257->258<=f+dp->R9 t (E4 f) dp:=by
 intro f
 induction f with
 |zero=>intro dp h1 h2;omega
 |succ f ih=>
  intro dp h1 h2 i
  have hunf:E4 (f+1) t (i:Int) (dp:Int)=L0 (E4 f) t (i:Int) (dp:Int):=rfl
  rw[hunf]
  unfold L0
  by_cases hi:i>=t.length
  ·rw[Aw]
   unfold C0
   have e:t.drop i=[]:=qY7 hi
   rw[e]
   cases h:257 - dp<;>rfl
  rw[AC]
  by_cases hd:dp=257
  ·rw[Aw]
   unfold C0
   have e:257 - dp=0:=by omega
   rw[e]
   rfl
  rw[AC]
  have hi':i < t.length:=by omega
  have hget:t.getD i Ao=t[i]:=by simp[qZ4,hi']
  have hdrop:=qY6 hi'
  have hnum:=hs _ (List.getElem_mem hi')
  have hd1:257 - dp=(257 - (dp+1))+1:=by omega
  have hone:one (257 - dp) (t.drop i)=if Cd t[i]=true then (many (one (257 - (dp+1))) (AU t[i]).toNat (t.drop (i+1))).bind fun x=>some (cons t[i] x.1 nil,x.2) else none:=by rw[hd1,hdrop];rfl
  generalize t[i]=n at hget hnum hone
  have hg:∀ (k:Option ((Int×Int×Unit)×Unit)),Ab (decide (0<=(i:Int))&&decide ((i:Int) < (t.length:Int))) k=k:=fun k=>by rw[Ap,Ad,Ad]
  rw[hg,qZ0,hget,AB1 (by omega),Ae]
  have hno:Cd n=false->C0 (257 - dp) t.length (t.drop i)=(-1,0):=fun h=>by
   unfold C0
   rw[hone,if_neg (by rw[h];decide)]
  by_cases q3:Bi n=false
  ·rw[q3,hno (by unfold Cd;rw[q3];rfl)];rfl
  rw[Bool.not_eq_false] at q3
  rw[q3]
  simp only[qY2,AE]
  rw[hg,hg,ABp,Ae]
  by_cases q4:AQ n.1 n.2.2.2.2=false
  ·rw[q4,hno (by unfold Cd;rw[q4,Bool.and_false])];rfl
  rw[Bool.not_eq_false] at q4
  rw[q4]
  simp only[qY2,AE]
  rw[hg]
  have hok:Cd n=true:=FF.2 ⟨q3,q4⟩
  rw[if_pos hok] at hone
  have hk0:=Lk q4
  have hK:n.2.2.2.2=AU n:=rfl
  rw[hK] at hk0 ⊢
  have hbound:∀ F l',many (one (257 - (dp+1))) (AU n).toNat (t.drop (i+1))=some (F,l')->F.len=(AU n).toNat/\F.wf=true/\t.drop (i+1)=F.flat++l'/\F.size+l'.length=t.length - (i+1):=by
   intro F l' hm
   obtain ⟨m1,m2,m3,m4⟩:=PU (Mb _) _ hm
   have:=congrArg List.length m1
   rw[qZ6,Br,List.length_drop] at this
   exact ⟨m3,m2,m1,this.symm⟩
  by_cases q5:AU n > (t.length:Int)
  ·rw[Aw q5]
   have hm:many (one (257 - (dp+1))) (AU n).toNat (t.drop (i+1))=none:=by
    cases hm:many (one (257 - (dp+1))) (AU n).toNat (t.drop (i+1)) with
    |none=>rfl
    |some x=>
     obtain ⟨F,l'⟩:=x
     obtain ⟨b1,b2,b3,b4⟩:=hbound F l' hm
     have:=Dz F
     omega
   unfold C0
   rw[hone,hm]
   rfl
  rw[AC q5]
  have hwi:qI ((i:Int)+1)=((i+1:Nat):Int):=by rw[AB];rfl
  have hl:=ABH ht (dp:=dp) (by omega) (ih (dp+1) (by omega) (by omega)) hi' (K:=AU n) (by rw[hget]) (AU n).toNat (i+1) 0 [] true (by omega) (by omega) rfl (by omega)
  rw[show ((0:Nat):Int)=0 from rfl] at hl
  rw[hwi]
  cases hm:many (one (257 - (dp+1))) (AU n).toNat (t.drop (i+1)) with
  |none=>
   rw[hm] at hl hone
   obtain ⟨y,hy⟩:=hl
   rw[hy]
   simp only[Ae,Cc,Ca,Az,AE]
   unfold C0
   rw[hone]
   rfl
  |some x=>
   obtain ⟨F,l'⟩:=x
   obtain ⟨b1,b2,b3,b4⟩:=hbound F l' hm
   rw[hm] at hl hone
   simp only at hl
   rw[hl]
   simp only[Ae,Bh,Az,qY15,Bool.true_and]
   rw[ACu b2]
   simp only[Option.bind_some] at hone
   have htree:C0 (257 - dp) t.length (t.drop i)=((t.length:Int) - (l'.length:Int),if 0∈F.srt then 0 else AO n (op1 F) F.srt):=by
    unfold C0
    rw[hone]
    rfl
   rw[htree]
   by_cases h0:(0:Int)∈F.srt
   ·rw[qZ10 h0,if_pos h0];rfl
   rw[qZ9 h0,if_neg h0]
   simp only[qY1,qY2,AE]
   have hop:=AEH q3
   have hcl:AQ (nOp n) (F.srt.length:Int)=true:=by
    have e:(F.srt.length:Int)=AU n:=by rw[C8,b1];omega
    rw[e];exact q4
   have hsl:F.srt.length<=1000000000:=by rw[C8];have:=Dz F;omega
   cases F with
   |nil=>
    rw[AC (by simp[srt]),hg,qZ0,hget,P8 (f:=0) hop hsl hcl (fun _ h=>by omega),Ae]
    rfl
   |cons n1 k1 r1=>
    have hb:t.drop (i+1)=n1::(k1.flat++r1.flat++l'):=by rw[b3];simp[flat]
    obtain ⟨g1,g2⟩:=DV (d:=Ao) hb
    obtain ⟨w1,w2,w3,w4⟩:=Cp.1 b2
    obtain ⟨s1,s2,s3⟩:=DB.1 h0
    rw[Aw (by simp[srt]),hwi,Ap,Ad,Ad,hg,qZ0,qZ0,hget,g1]
    rw[P8 (f:=n1.1) hop hsl hcl (fun _ h=>by
     have hsrt:(cons n1 k1 r1).srt.getD 0 0=AO n1 (op1 k1) k1.srt:=by
      simp only[srt,qZ3]
      rw[if_neg s1]
     rw[hsrt]
     have h3:nOp n1=3:=h
     have:AO n1 (op1 k1) k1.srt=A5 n1:=by unfold AO;rw[if_pos (.inl h3)]
     rw[this]
     exact (WV (FF.1 w1).1 h3).1),Ae]
    rfl
end Go.AM.Num
end
