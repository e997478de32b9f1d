/- Law ValueFunctions: a part of its proof. No conditions. -/
import Derived.Test.YtcpdjngcofhljaaGreatDoorValueFunctions5
import Derived.Lib.ItoaNum
import Derived.Lib.SlTrimSet
set_option linter.unusedSimpArgs false
set_option linter.unusedVariables false
section
namespace Go.AM.Num
theorem PH (m n:Nat) (hm:(limbs m).length<=100000000) (hn:(limbs n).length<=100000000):Jr (limbs m) (limbs n)=some ((limbs (Nat.gcd m n),()),()):=by
 obtain ⟨r,hr,b,rfl⟩:=BJ (step:=K9) (Q:=fun r=>∃ b,r=(Ex.exit 0,(limbs (Nat.gcd m n),b,())))
  (fun k x=>∃ a b:Nat,x=(limbs a,limbs b,())/\k=b/\Nat.gcd a b=Nat.gcd m n/\(limbs a).length<=100000000/\(limbs b).length<=100000000) (by
   rintro k x ⟨a,b,rfl,rfl,hg,ha,hb⟩
   by_cases h0:k=0
   ·subst h0
    refine .inl ⟨_,?_,?_,limbs 0,rfl⟩
    ·rw[limbs_zero]
     simp only[K9]
     rw[<-hg,Nat.gcd_zero_right]
     rfl
    ·simp
   ·have hl:(limbs k).length≠0:=fun e=>h0 (limbs_nil.1 (List.eq_nil_of_length_eq_zero e))
    have hq:=Nn a k ha hb h0
    refine .inr ⟨a % k,_,?_,Nat.mod_lt _ (by omega),k,a % k,rfl,rfl,?_,hb,?_⟩
    ·simp (disch:=(first | omega | (simp only[Ai];omega))) only[K9,hq,Aj]
    ·rw[Nat.gcd_comm,<-Nat.gcd_rec,Nat.gcd_comm,hg]
    ·exact Nat.le_trans (IZ (Nat.le_of_lt (Nat.mod_lt _ (by omega)))) hb) n _ ⟨m,n,rfl,rfl,rfl,hm,hn⟩
 unfold Jr
 rw[hr]
 simp (disch:=(first | omega | (simp only[Ai];omega))) only[Aj]
theorem Ln:limbs 1=[1]:=by rw[limbs_small (by decide) (by decide)];rfl
theorem AEm (neg:Bool) (m d:Nat) (hd:d≠0) (hm:(limbs m).length<=100000000) (hdl:(limbs d).length<=100000000) :
 Gv neg (limbs m) (limbs d)=some (((neg,limbs (m / Nat.gcd m d),limbs (d / Nat.gcd m d)),()),()):=by
 have hg0:Nat.gcd m d≠0:=fun e=>hd (Nat.gcd_eq_zero_iff.1 e).2
 have hgl:(limbs (Nat.gcd m d)).length<=100000000:=Nat.le_trans (IZ (Nat.le_of_dvd (by omega) (Nat.gcd_dvd_right m d))) hdl
 unfold Gv
 by_cases h1:Nat.gcd m d=1
 ·simp (disch:=(first | omega | (simp only[Ai];omega))) only[PH m d hm hdl,Hj,h1,Aj]
  simp
 ·simp (disch:=(first | omega | (simp only[Ai];omega))) only[PH m d hm hdl,Hj,Nn m _ hm hgl hg0,Nn d _ hdl hgl hg0,Aj]
  simp[h1]
abbrev dd (n:Nat):qBs:=Lib.decDigits n
theorem FY {n:Nat} (h:n < 10):dd n=[UInt8.ofNat (48+n)]:=by unfold dd;rw[Lib.decDigits,dif_pos h]
theorem Ha {n:Nat} (h:¬ n < 10):dd n=dd (n / 10)++[UInt8.ofNat (48+n % 10)]:=by unfold dd;rw[Lib.decDigits,dif_neg h]
theorem dig_of {k:Nat} (h:k < 10):dig (UInt8.ofNat (48+k))=k/\FH (UInt8.ofNat (48+k)):=by
 have:(UInt8.ofNat (48+k)).toNat=48+k:=by simp[UInt8.toNat_ofNat];omega
 exact ⟨by unfold dig;omega,by unfold FH;omega⟩
theorem EN (n:Nat):dd n≠[]:=by
 by_cases h:n < 10
 ·rw[FY h];simp
 ·rw[Ha h];simp
theorem B8 (n:Nat):AS (dd n):=by
 induction n using Nat.strongRecOn with
 |_ n ih=>
  by_cases h:n < 10
  ·rw[FY h];intro c hc;rw[List.mem_singleton.1 hc];exact (dig_of h).2
  ·rw[Ha h]
   refine (ih (n / 10) (by omega)).app fun c hc=>?_
   rw[List.mem_singleton.1 hc];exact (dig_of (by omega)).2
theorem Ca (n:Nat):dval (dd n)=n:=by
 induction n using Nat.strongRecOn with
 |_ n ih=>
  by_cases h:n < 10
  ·rw[FY h,show [UInt8.ofNat (48+n)]=[]++[UInt8.ofNat (48+n)] from rfl,FJ,(dig_of h).1];simp[dval]
  ·rw[Ha h,FJ,ih (n / 10) (by omega),(dig_of (by omega)).1];omega
theorem DR {m n:Nat} (h:dd m=dd n):m=n:=by rw[<-Ca m,h,Ca]
theorem BC:dd 0=[48]:=by rw[FY (by decide)];rfl
theorem C1:dd 1=[49]:=by rw[FY (by decide)];rfl
theorem Px {n:Nat} (h:n≠0):∃ c s,dd n=c::s/\FH c/\c≠48:=by
 induction n using Nat.strongRecOn with
 |_ n ih=>
  by_cases h1:n < 10
  ·refine ⟨UInt8.ofNat (48+n),[],FY h1,(dig_of h1).2,fun e=>?_⟩
   have:=(dig_of h1).1
   rw[e] at this
   simp[dig] at this;omega
  ·obtain ⟨c,s,e,hc⟩:=ih (n / 10) (by omega) (by omega)
   exact ⟨c,s++[UInt8.ofNat (48+n % 10)],by rw[Ha h1,e];rfl,hc⟩
theorem Og {s:qBs} (hd:AS s) (hne:s≠[]) (hc:s=[48]\/s.head?≠some 48):s=dd (dval s):=by
 rcases hc with rfl | hc
 ·rw[show dval [48]=0 from rfl,BC]
 ·have key:∀ (n:Nat) (s:qBs),s.length=n->AS s->s≠[]->s.head?≠some 48->s=dd (dval s)/\dval s≠0:=by
   intro n
   induction n with
   |zero=>intro s hl _ hne;exact absurd (List.eq_nil_of_length_eq_zero hl) hne
   |succ n ih=>
    intro s hl hd hne hc
    obtain ⟨t,c,rfl⟩:∃ t c,s=t++[c]:=⟨s.dropLast,s.getLast hne,(List.dropLast_concat_getLast hne).symm⟩
    have hcd:FH c:=hd c (by simp)
    have hcl:=Qv hcd
    have hofc:UInt8.ofNat (48+dig c)=c:=by
     have h1:=hcd.1
     have:48+dig c=c.toNat:=by unfold dig;omega
     rw[this];simp
    by_cases ht:t=[]
    ·subst ht
     have h0:dig c≠0:=by
      intro e
      apply hc
      have h1:=hcd.1
      have h2:c.toNat=48:=by unfold dig at e;omega
      simp only[qY15,List.head?_cons,Option.some.injEq]
      exact UInt8.toNat_inj.1 h2
     rw[FJ,AJi]
     refine ⟨?_,by omega⟩
     rw[FY (by omega)]
     simp[hofc]
    ·obtain ⟨e1,e2⟩:=ih t (by simpa using hl) (fun x hx=>hd x (by simp[hx])) ht (by
      cases t with
      |nil=>exact absurd rfl ht
      |cons x t=>simpa using hc)
     rw[FJ]
     refine ⟨?_,by omega⟩
     rw[Ha (by omega),show (10 * dval t+dig c) / 10=dval t by omega,show (10 * dval t+dig c) % 10=dig c by omega,<-e1,hofc]
  exact (key _ s rfl hd hne hc).1
theorem Ec {n k:Nat} (h:n < 10 ^ k) (hk:0 < k):(dd n).length<=k:=by
 induction k generalizing n with
 |zero=>omega
 |succ k ih=>
  by_cases h1:n < 10
  ·rw[FY h1];simp
  ·rw[Ha h1,qZ6]
   have hk0:0 < k:=by
    rcases Nat.eq_zero_or_pos k with h0 | h0
    ·subst h0;simp at h;omega
    ·exact h0
   have:=ih (n:=n / 10) (by rw[Nat.pow_succ] at h;omega) hk0
   simp;omega
theorem Gf (n:Nat):n < 10 ^ (dd n).length:=by
 have:=E6 (B8 n)
 rwa [Ca] at this
theorem JH (n:Nat):0 < (dd n).length:=List.length_pos_iff.2 (EN n)
theorem BL {m n:Nat} (h:m<=n):(dd m).length<=(dd n).length:=Ec (Nat.lt_of_le_of_lt h (Gf n)) (JH n)
theorem I7 (m n:Nat):(dd (m+n)).length<=max (dd m).length (dd n).length+1:=by
 apply Ec _ (by omega)
 have h1:=Gf m
 have h2:=Gf n
 have h3:10 ^ (dd m).length<=10 ^ (max (dd m).length (dd n).length):=Nat.pow_le_pow_right (by decide) (by omega)
 have h4:10 ^ (dd n).length<=10 ^ (max (dd m).length (dd n).length):=Nat.pow_le_pow_right (by decide) (by omega)
 rw[Nat.pow_succ];omega
theorem Cf (m n:Nat):(dd (m * n)).length<=(dd m).length+(dd n).length:=by
 apply Ec _ (by have:=JH m;omega)
 rw[Nat.pow_add]
 exact Nat.mul_lt_mul'' (Gf m) (Gf n)
theorem FE (n:Nat):(limbs n).length<=(dd n).length:=by
 apply O2
 rw[T8]
 have h1:=Gf n
 have h2:10 ^ (dd n).length<=10 ^ (9 * (dd n).length):=Nat.pow_le_pow_right (by decide) (by omega)
 omega
theorem AEC {y:Int} (h:0<=y/\y < 1000000000):AS (CW y):=by
 unfold CW
 refine AS.app (fun c hc=>?_) (B8 _)
 rw[List.eq_of_mem_replicate hc]
 exact ⟨by decide,by decide⟩
theorem ABT (k:Nat) (s:qBs):dval (List.replicate k 48++s)=dval s:=by
 rw[OQ]
 have:dval (List.replicate k 48)=0:=by
  induction k with
  |zero=>rfl
  |succ k ih=>rw[List.replicate_succ',FJ,ih];rfl
 rw[this];simp
theorem Ys {y:Int} (h:0<=y/\y < 1000000000):(CW y).length=9:=by
 have:(dd y.toNat).length<=9:=Ec (by simp;omega) (by decide)
 unfold CW
 simp;unfold dd at this;omega
theorem AH7 (y:Int):dval (CW y)=y.toNat:=by unfold CW;rw[ABT];exact Ca _
theorem AGr {n:Nat} (h:n / 1000000000≠0):dd n=dd (n / 1000000000)++CW ((n % 1000000000:Nat):Int):=by
 have hb:0<=((n % 1000000000:Nat):Int)/\((n % 1000000000:Nat):Int) < 1000000000:=by omega
 obtain ⟨c,s,e,_,hc⟩:=Px h
 have hv:dval (dd (n / 1000000000)++CW ((n % 1000000000:Nat):Int))=n:=by
  rw[OQ,Ca,AH7,Ys hb]
  simp;omega
 have:=Og (s:=dd (n / 1000000000)++CW ((n % 1000000000:Nat):Int)) ((B8 _).app (AEC hb)) (by simp[EN]) (.inr (by rw[e];simpa using hc))
 rw[hv] at this
 exact this.symm
theorem ACd (n:Nat):Qh (limbs n)=dd n:=by
 induction n using Nat.strongRecOn with
 |_ n ih=>
  by_cases h0:n=0
  ·subst h0;rw[limbs_zero,BC];rfl
  ·by_cases h1:n / 1000000000=0
   ·rw[limbs_small h0 (by omega)]
    show Lib.decDigits ((n:Int)).toNat++[]=_
    simp
   ·rw[AGr h1,<-ih (n / 1000000000) (by omega),H_ h0]
    unfold Qh
    rw[List.reverse_cons]
    cases hr:(limbs (n / 1000000000)).reverse with
    |nil=>exact absurd (limbs_nil.1 (by simpa using hr)) h1
    |cons x r=>simp
abbrev bs (s:qBs):List Int:=s.map fun c=>((c.toNat:Nat):Int)
theorem ALb (a b:qBs):bs (a++b)=bs a++bs b:=by simp[bs]
theorem AMi (l:List Int):Of ((),l)=some ((),((),l),()):=rfl
theorem Pg (t s:qBs) (h:t.length+s.length<=68719476736):Ed ((),bs t) s=some (((s.length:Int),false,()),((),bs (t++s)),()):=by
 unfold Ed
 rw[AMi]
 simp only[Ad,ALb]
 rw[Ab (by rw[Cx];simp[bs];omega)]
theorem ADM (s:qBs) (h:s≠[]):Mn ((),bs s)=some ((s,()),()):=by
 unfold Mn
 rw[Ab (by have:=List.length_pos_iff.2 h;simpa [bs] using this)]
 have:(bs s).map (fun n=>UInt8.ofNat n.toNat)=s:=by
  simp only[bs,List.map_map]
  conv=>rhs;rw[<-List.map_id s]
  apply List.map_congr_left
  intro c _
  simp
 simp only[this]
theorem YU {v:Int} (h0:0<=v) (h:v < 1000000000):JT (qU v) 10=some ((dd v.toNat,()),()):=by
 rw[Je ⟨h0,by omega⟩]
 unfold JT
 rw[if_pos ⟨h0,by omega,rfl⟩]
theorem AES {v:Int} (i:Nat) (t:qBs) (h0:0<=v) (h:v < 1000000000) (hl:t.length+9<=68719476736):JA v i (((),bs t),())=some (((),bs (t++CW v)),()):=by
 have hd:(dd v.toNat).length<=9:=Ec (k:=9) (by omega) (by decide)
 unfold JA
 simp only[YU h0 h,Ad]
 rw[Ak,Ab,Ab (by simp;omega)]
 have hz:([48,48,48,48,48,48,48,48,48]:qBs).drop ((dd v.toNat).length:Int).toNat=List.replicate (9 - (dd v.toNat).length) 48:=by
  rw[qZ0]
  rw[show ([48,48,48,48,48,48,48,48,48]:qBs)=List.replicate 9 48 from rfl,List.drop_replicate]
 rw[hz,Pg t _ (by simp;omega)]
 simp only[Ad]
 rw[Pg _ _ (by simp;omega)]
 simp only[Ad,CW,qZ1]
theorem Vy:∀ (l:List (Int×Nat)) (t:qBs),(∀ p∈l,0<=p.1/\p.1 < 1000000000)->t.length+9 * l.length<=68719476736->
 foldO (fun p y=>(JA p.1 p.2 y).bind fun o=>some (N2 y o)) l (((),bs t),())=some (((),bs (t++(l.map fun p=>CW p.1).flatten)),())
 |[],t,_,_=>by simp[foldO]
 |p::l,t,h,hl=>by
  have hp:=h p List.mem_cons_self
  simp only[qY11] at hl
  simp only[foldO]
  rw[AES p.2 t hp.1 hp.2 (by omega)]
  simp only[Ad]
  show foldO _ l (((),bs (t++CW p.1)),())=_
  rw[Vy l _ (fun q hq=>h q (qY13 _ hq)) (by rw[qZ6,Ys hp];omega)]
  simp
theorem XW (n:Nat) (h:(limbs n).length<=1000000000):Hc (limbs n)=some ((dd n,()),()):=by
 rw[<-ACd]
 have hw:=Dw n
 generalize limbs n=l at h hw
 unfold Hc
 rcases List.eq_nil_or_concat l with rfl | ⟨r,x,rfl⟩
 ·rfl
 ·rw[List.concat_eq_append] at h hw ⊢
  have hx:=hw x (by simp)
  have hr:∀ y∈r,0<=y/\y < 1000000000:=fun y hy=>hw y (by simp[hy])
  simp only[qZ6,List.length_singleton] at h ⊢
  rw[Ag,Aw]
  have e1:((r.length+1:Nat):Int) - 1=(r.length:Int):=by omega
  rw[e1]
  rw[Ak,Ab,Ab]
  have e2:(r++[x]).getD (r.length:Int).toNat 0=x:=by rw[qZ0];simp[List.getD]
  rw[e2,YU hx.1 hx.2]
  simp only[Ad]
  have hd:(dd x.toNat).length<=9:=Ec (k:=9) (by omega) (by decide)
  rw[show (((),([]:List Int)):Unit×List Int)=((),bs []) from rfl,Pg [] _ (by simp;omega)]
  simp only[Ad,qY15]
  rw[Ak,Ab,Ab,qZ0,List.take_left' rfl,Ab (by rw[Cx];omega)]
  rw[Vy _ _ (fun p hp=>hr p.1 (by
   have:=List.mem_reverse.1 hp
   exact List.fst_mem_of_mem_zipIdx this)) (by simp;omega)]
  simp only[Ad,Mx]
  rw[ADM _ (by simp[EN])]
  simp only[Ad]
  have e3:(r.zipIdx.reverse.map fun p=>CW p.1)=r.reverse.map CW:=by
   rw[List.map_reverse,List.map_reverse]
   congr 1
   have:(r.zipIdx.map fun p=>CW p.1)=(r.zipIdx.map Prod.fst).map CW:=by rw[List.map_map];rfl
   rw[this,List.zipIdx_map_fst]
  rw[e3]
  simp[Qh]
end Go.AM.Num
end
section
namespace Go.AM.Num
def An (q:Rat):qBs:=(if q.num < 0 then [45] else [])++dd q.num.natAbs++(if q.den=1 then [] else 47::dd q.den)
def sg (neg:Bool) (m:Nat):Int:=if neg then -(m:Int) else m
def tx (neg:Bool) (m d:Nat):qBs:=(if neg=true/\m≠0 then [45] else [])++dd m++(if d=1 then [] else 47::dd d)
theorem DF (neg:Bool) (m:Nat):(sg neg m).natAbs=m:=by cases neg<;>simp[sg]
theorem Jz (neg:Bool) (m:Nat):sg neg m < 0 ↔ neg=true/\m≠0:=by
 cases neg<;>simp[sg]<;>omega
theorem K1 (a b:Bool) (m n:Nat):sg a m * sg b n=sg (a !=b) (m * n):=by
 cases a<;>cases b<;>simp[sg,Int.neg_mul,Int.mul_neg]
theorem GB (q:Rat):sg (decide (q.num < 0)) q.num.natAbs=q.num:=by
 unfold sg
 by_cases h:q.num < 0
 ·rw[qZ10 h];simp;omega
 ·rw[qZ9 h];simp;omega
theorem Zy (neg:Bool) (m g:Nat) (h:g ∣ m):sg neg m / (g:Int)=sg neg (m / g):=by
 cases neg with
 |false=>simp[sg]
 |true=>
  simp only[sg,if_true]
  rw[Int.neg_ediv_of_dvd (Int.natCast_dvd_natCast.2 h),<-Int.natCast_ediv]
theorem M6 (neg:Bool) (m d:Nat) (hd:d≠0):tx neg (m / Nat.gcd m d) (d / Nat.gcd m d)=An (mkRat (sg neg m) d):=by
 have hn:(mkRat (sg neg m) d).num=sg neg (m / Nat.gcd m d):=by
  rw[Rat.num_mkRat,if_neg hd,DF,Nat.gcd_comm d m,Zy _ _ _ (Nat.gcd_dvd_left m d)]
 have hde:(mkRat (sg neg m) d).den=d / Nat.gcd m d:=by
  rw[Rat.den_mkRat,if_neg hd,DF,Nat.gcd_comm d m]
 unfold An tx
 rw[hn,hde,DF]
 simp only[Jz]
theorem NA (neg:Bool) (m d:Nat) (hd:d≠0) (hg:Nat.gcd m d=1):tx neg m d=An (mkRat (sg neg m) d):=by
 have:=M6 neg m d hd
 rwa [hg,Nat.div_one,Nat.div_one] at this
theorem GW {n:Nat}:(47:UInt8)∉dd n:=fun h=>by have:=(B8 n _ h).1;simp at this
theorem AHX {n:Nat}:(45:UInt8)∉dd n:=fun h=>by have:=(B8 n _ h).1;simp at this
theorem Pt (n:Nat) (r:qBs) (s:qBs):dd n++r≠45::s:=by
 intro h
 cases e:dd n with
 |nil=>exact EN n e
 |cons c t=>
  rw[e] at h
  simp only[qY5,List.cons.injEq] at h
  have:(45:UInt8)∈dd n:=by rw[e,h.1];simp
  exact AHX this
theorem RL {a b x y:qBs} (ha:(47:UInt8)∉a) (hx:(47:UInt8)∉x) (h:a++47::b=x++47::y):a=x/\b=y:=by
 induction a generalizing x with
 |nil=>
  cases x with
  |nil=>simpa using h
  |cons c x=>simp only[qY15,qY5,List.cons.injEq] at h;exact absurd (h.1 ▸ List.mem_cons_self) hx
 |cons c a ih=>
  cases x with
  |nil=>simp only[qY15,qY5,List.cons.injEq] at h;exact absurd (h.1 ▸ List.mem_cons_self) ha
  |cons e x=>
   simp only[qY5,List.cons.injEq] at h
   obtain ⟨h1,h2⟩:=ih (fun hm=>ha (qY13 _ hm)) (fun hm=>hx (qY13 _ hm)) h.2
   exact ⟨by rw[h.1,h1],h2⟩
theorem txt_inj {p q:Rat} (h:An p=An q):p=q:=by
 unfold An at h
 have hs:(p.num < 0 ↔ q.num < 0):=by
  by_cases h1:p.num < 0<;>by_cases h2:q.num < 0
  ·simp[h1,h2]
  ·rw[if_pos h1,if_neg h2] at h
   simp only[qY15,qZ1,qY5] at h
   exact absurd h.symm (Pt _ _ _)
  ·rw[if_neg h1,if_pos h2] at h
   simp only[qY15,qZ1,qY5] at h
   exact absurd h (Pt _ _ _)
  ·simp[h1,h2]
 have h':dd p.num.natAbs++(if p.den=1 then [] else 47::dd p.den)=dd q.num.natAbs++(if q.den=1 then [] else 47::dd q.den):=by
  by_cases h1:p.num < 0
  ·rw[if_pos h1,if_pos (hs.1 h1)] at h
   simpa using h
  ·rw[if_neg h1,if_neg (fun h2=>h1 (hs.2 h2))] at h
   simpa using h
 have key:p.num.natAbs=q.num.natAbs/\p.den=q.den:=by
  by_cases h1:p.den=1<;>by_cases h2:q.den=1
  ·rw[if_pos h1,if_pos h2] at h'
   simp only[qY4] at h'
   exact ⟨DR h',by omega⟩
  ·rw[if_pos h1,if_neg h2] at h'
   simp only[qY4] at h'
   exact absurd (show (47:UInt8)∈dd p.num.natAbs by rw[h'];simp) GW
  ·rw[if_neg h1,if_pos h2] at h'
   simp only[qY4] at h'
   exact absurd (show (47:UInt8)∈dd q.num.natAbs by rw[<-h'];simp) GW
  ·rw[if_neg h1,if_neg h2] at h'
   obtain ⟨e1,e2⟩:=RL GW GW h'
   exact ⟨DR e1,DR e2⟩
 exact Rat.ext (by omega) key.2
open Classical in
noncomputable def rd (a:qBs):Option Rat:=if h:∃ q,a=An q then some h.choose else none
theorem Ct (q:Rat):rd (An q)=some q:=by
 have h:∃ p,An q=An p:=⟨q,rfl⟩
 unfold rd
 rw[dif_pos h]
 exact congrArg some (txt_inj h.choose_spec).symm
theorem DM {a:qBs} {q:Rat} (h:rd a=some q):a=An q:=by
 unfold rd at h
 split at h
 ·rename_i hh
  have:=hh.choose_spec
  rw[Option.some.inj h] at this
  exact this
 ·cases h
theorem KD {a:qBs} (h:∀ q,a≠An q):rd a=none:=by
 cases e:rd a with
 |none=>rfl
 |some q=>exact absurd (DM e) (h q)
def D (q:Rat):Nat:=(dd q.num.natAbs).length+(dd q.den).length
theorem BH (q:Rat):(An q).length<=D q+2:=by
 unfold An D
 simp only[qZ6]
 have h1:(if q.num < 0 then [(45:UInt8)] else []).length<=1:=by split<;>simp
 have h2:(if q.den=1 then ([]:qBs) else 47::dd q.den).length<=(dd q.den).length+1:=by split<;>simp
 omega
theorem Ik (q:Rat):D q<=(An q).length+1:=by
 unfold An D
 simp only[qZ6]
 by_cases h:q.den=1
 ·rw[if_pos h,h,C1];simp
 ·rw[if_neg h];simp;omega
theorem PD (n:Int) (d:Nat) (hd:d≠0):D (mkRat n d)<=(dd n.natAbs).length+(dd d).length:=by
 unfold D
 rw[Rat.num_mkRat,Rat.den_mkRat,if_neg hd,if_neg hd]
 have h1:(n / (d.gcd n.natAbs:Nat)).natAbs<=n.natAbs:=by
  obtain ⟨k,hk⟩:((d.gcd n.natAbs:Nat):Int) ∣ n:=by
   have:=Nat.gcd_dvd_right d n.natAbs
   exact Int.ofNat_dvd_left.2 this
  have hg:((d.gcd n.natAbs:Nat):Int)≠0:=fun e=>hd (Nat.gcd_eq_zero_iff.1 (by exact_mod_cast e)).1
  have e1:n / (d.gcd n.natAbs:Nat)=k:=by
   conv=>lhs;lhs;rw[hk]
   exact Int.mul_ediv_cancel_left _ hg
  rw[e1]
  conv=>rhs;rw[hk,Int.natAbs_mul]
  exact Nat.le_mul_of_pos_left _ (by omega)
 have h2:=Nat.div_le_self d (d.gcd n.natAbs)
 have:=BL h1
 have:=BL h2
 omega
theorem R0 (a b:Int):(a+b).natAbs<=a.natAbs+b.natAbs:=by omega
theorem XI (p q:Rat):D (p+q)<=2 * (D p+D q)+1:=by
 rw[Rat.add_def']
 refine Nat.le_trans (PD _ _ (Nat.mul_ne_zero p.den_nz q.den_nz)) ?_
 have h1:=BL (R0 (p.num * q.den) (q.num * p.den))
 have h2:=I7 (p.num * q.den).natAbs (q.num * p.den).natAbs
 rw[Int.natAbs_mul,Int.natAbs_mul,Int.natAbs_natCast,Int.natAbs_natCast] at h1 h2
 have h3:=Cf p.num.natAbs q.den
 have h4:=Cf q.num.natAbs p.den
 have h5:=Cf p.den q.den
 unfold D
 omega
theorem Wl (p q:Rat):D (p * q)<=D p+D q:=by
 rw[Rat.mul_def']
 refine Nat.le_trans (PD _ _ (Nat.mul_ne_zero p.den_nz q.den_nz)) ?_
 have h1:=Cf p.num.natAbs q.num.natAbs
 have h5:=Cf p.den q.den
 rw[Int.natAbs_mul]
 unfold D
 omega
theorem QT (q:Rat):D (-q)=D q:=by unfold D;rw[Rat.neg_num,Rat.neg_den,Int.natAbs_neg]
theorem ZJ (q:Rat):D q⁻¹<=D q:=by
 unfold D
 rw[Rat.num_inv,Rat.den_inv]
 by_cases h:q.num=0
 ·rw[if_pos h,h];simp[BC,C1];have:=JH q.den;omega
 ·rw[if_neg h,Int.natAbs_mul]
  have:(q.num.sign).natAbs=1:=Int.natAbs_sign_of_ne_zero h
  rw[this,Int.natAbs_natCast,Nat.one_mul];omega
theorem QQ (n:Int):D (n:Rat)=(dd n.natAbs).length+1:=by
 unfold D;rw[Rat.num_intCast,Rat.den_intCast,C1];rfl
end Go.AM.Num
end
section
namespace Go.AM.Num
theorem AKp (r:qBs) (c:UInt8):strings_CutPrefix (c::r) [c]=some ((r,true,()),()):=by
 simp[strings_CutPrefix,Lib.trimPrefix,Lib.hasPrefix]
theorem ALn {s:qBs} {c:UInt8} (h:∀ r,s≠c::r):strings_CutPrefix s [c]=some ((s,false,()),()):=by
 have hp:Lib.hasPrefix s [c]=false:=by
  unfold Lib.hasPrefix
  cases s with
  |nil=>rfl
  |cons b t=>
   simp only[List.isPrefixOf,Bool.and_true,beq_eq_false_iff_ne,ne_eq]
   rintro rfl
   exact h t rfl
 simp[strings_CutPrefix,Lib.trimPrefix,hp]
theorem AMt {x y:qBs} {c:UInt8} (hx:c∉x):Lib.index (x++c::y) [c]=x.length:=by
 induction x with
 |nil=>unfold Lib.index;simp[List.isPrefixOf]
 |cons b x ih=>
  have hb:(c==b)=false:=by rw[beq_eq_false_iff_ne];rintro rfl;exact hx List.mem_cons_self
  have:=ih fun h=>hx (qY13 _ h)
  simp only[qY5]
  unfold Lib.index
  simp only[List.isPrefixOf,hb,Bool.false_and,this]
  have h1:((x.length:Int)==-1)=false:=by rw[beq_eq_false_iff_ne];omega
  simp[h1]
theorem AHE {s:qBs} {c:UInt8} (hs:c∉s):Lib.index s [c]=-1:=by
 induction s with
 |nil=>rfl
 |cons b s ih=>
  have hb:(c==b)=false:=by rw[beq_eq_false_iff_ne];rintro rfl;exact hs List.mem_cons_self
  unfold Lib.index
  simp[List.isPrefixOf,hb,ih fun h=>hs (qY13 _ h)]
theorem Se {x y:qBs} {c:UInt8} (hx:c∉x) (hl:(x++c::y).length<=1000000000):strings_Cut (x++c::y) [c]=some ((x,y,true,()),()):=by
 unfold strings_Cut
 rw[if_pos (by omega)]
 simp[Lib.cut,AMt hx]
theorem Tn {s:qBs} {c:UInt8} (hs:c∉s) (hl:s.length<=1000000000):strings_Cut s [c]=some ((s,[],false,()),()):=by
 unfold strings_Cut
 rw[if_pos (by omega)]
 simp[Lib.cut,AHE hs]
theorem XT (c:UInt8) (s:qBs):(∃ x y,s=x++c::y/\c∉x)\/c∉s:=by
 induction s with
 |nil=>exact .inr (by simp)
 |cons b s ih=>
  by_cases h:b=c
  ·subst h;exact .inl ⟨[],s,rfl,by simp⟩
  ·rcases ih with ⟨x,y,rfl,hx⟩ | hs
   ·refine .inl ⟨b::x,y,rfl,?_⟩
    intro hm
    rcases List.mem_cons.1 hm with rfl | hm
    ·exact h rfl
    ·exact hx hm
   ·refine .inr ?_
    intro hm
    rcases List.mem_cons.1 hm with rfl | hm
    ·exact h rfl
    ·exact hs hm
theorem AAg {s:qBs} {k:Nat} (h:k < s.length):(s.map (fun b=>(b.toNat:Int))).getD k 0=(s[k].toNat:Int):=by
 rw[qZ4,List.getElem?_map,qZ5 h];rfl
theorem AD6 (s:qBs) (hl:s.length<=1000000000) :
 (AS s/\Am FS (s,false,s.map (fun b=>(b.toNat:Int)),(s.length:Int),0,())=some (Ex.exit 0,(s,false,s.map (fun b=>(b.toNat:Int)),(s.length:Int),(s.length:Int),())))\/
 (¬ AS s/\∃ i,Am FS (s,false,s.map (fun b=>(b.toNat:Int)),(s.length:Int),0,())=some (Ex.ret,(s,false,s.map (fun b=>(b.toNat:Int)),(s.length:Int),i,()))):=by
 obtain ⟨r,hr,hq⟩:=BJ (step:=FS) (Q:=fun r=>(AS s/\r=(Ex.exit 0,(s,false,s.map (fun b=>(b.toNat:Int)),(s.length:Int),(s.length:Int),())))\/(¬ AS s/\∃ i,r=(Ex.ret,(s,false,s.map (fun b=>(b.toNat:Int)),(s.length:Int),i,()))))
  (fun m x=>∃ k:Nat,m+k=s.length/\x=(s,false,s.map (fun b=>(b.toNat:Int)),(s.length:Int),(k:Int),())/\AS (s.take k)) (by
   rintro m x ⟨k,hm,rfl,hd⟩
   by_cases hk:k < s.length
   ·have hg:=AAg hk
    have e:(k:Int).toNat=k:=by omega
    have hml:(s.map (fun b=>(b.toNat:Int))).length=s.length:=by simp
    have hmem:s[k]∈s:=List.getElem_mem hk
    by_cases h1:s[k].toNat < 48
    ·refine .inl ⟨_,?_,?_,.inr ⟨fun h=>?_,(k:Int),rfl⟩⟩
     ·simp (disch:=(first | omega | (simp only[Ai];omega))) only[FS,e,hg,hml,Aj]
     ·simp
     ·have:=(h _ hmem).1;omega
    ·by_cases h2:s[k].toNat > 57
     ·refine .inl ⟨_,?_,?_,.inr ⟨fun h=>?_,(k:Int),rfl⟩⟩
      ·simp (disch:=(first | omega | (simp only[Ai];omega))) only[FS,e,hg,hml,Aj]
      ·simp
      ·have:=(h _ hmem).2;omega
     ·refine .inr ⟨m - 1,_,?_,by omega,k+1,by omega,rfl,?_⟩
      ·simp (disch:=(first | omega | (simp only[Ai];omega))) only[FS,e,hg,hml,Aj]
       rfl
      ·rw[List.take_succ_eq_append_getElem hk]
       refine hd.app fun c hc=>?_
       rw[List.mem_singleton.1 hc]
       exact ⟨by omega,by omega⟩
   ·have hks:k=s.length:=by omega
    subst hks
    refine .inl ⟨_,?_,?_,.inl ⟨by simpa using hd,rfl⟩⟩
    ·simp (disch:=(first | omega | (simp only[Ai];omega))) only[FS,Aj]
    ·simp) s.length _ ⟨0,by omega,rfl,by simp[AS]⟩
 rcases hq with ⟨h,rfl⟩ | ⟨h,i,rfl⟩
 ·exact .inl ⟨h,hr⟩
 ·exact .inr ⟨h,i,hr⟩
theorem Be {s t:qBs} (h:s=t):(s==t)=true:=by simpa using h
theorem A_ {s t:qBs} (h:s≠t):(s==t)=false:=by simpa using h
theorem BA (s:qBs) (hl:s.length<=1000000000):Fa s=some ((s==dd (dval s),()),()):=by
 unfold Fa
 have hml:((s.map (fun b=>(b.toNat:Int))).length:Int)=(s.length:Int):=by simp
 rw[hml]
 rcases AD6 s hl with ⟨hd,hr⟩ | ⟨hd,i,hr⟩
 ·simp (disch:=(first | omega | (simp only[Ai];omega))) only[hr,Aj]
  by_cases h48:s=[48]
  ·subst h48
   rw[Be rfl]
   have:([48]==dd (dval [48]))=true:=Be (by rw[show dval [48]=0 from rfl,BC])
   rw[this];rfl
  ·rw[A_ h48]
   cases s with
   |nil=>
    have:([]==dd (dval []))=false:=A_ (fun h=>EN _ h.symm)
    rw[this];rfl
   |cons c t=>
    have hne:((c::t:qBs)==[])=false:=rfl
    rw[hne]
    simp only[qY1,Ap]
    simp (disch:=(first | omega | (simp only[Ai];omega))) only[Aj]
    by_cases hc:c=48
    ·subst hc
     have:((48::t:qBs)==dd (dval (48::t)))=false:=A_ (fun h=>by
      by_cases h0:dval (48::t)=0
      ·rw[h0,BC] at h;exact h48 h
      ·obtain ⟨c',s',e,_,hne'⟩:=Px h0
       rw[e] at h
       simp only[List.cons.injEq] at h
       exact hne' h.1.symm)
     rw[this];rfl
    ·have:((c::t:qBs)==dd (dval (c::t)))=true:=Be (Og hd (by simp) (.inr (by simpa using hc)))
     rw[this]
     have hcn:((c.toNat:Int) !=48)=true:=by
      simp only[bne_iff_ne,ne_eq]
      intro e
      exact hc (UInt8.toNat_inj.1 (by show c.toNat=48;omega))
     show some (((((c::t).getD 0 0).toNat:Int) !=48,()),())=_
     rw[show ((c::t:qBs).getD 0 0)=c from rfl,hcn]
 ·simp (disch:=(first | omega | (simp only[Ai];omega))) only[hr,Aj]
  have:(s==dd (dval s))=false:=A_ (fun h=>hd (h ▸ B8 _))
  rw[this]
end Go.AM.Num
end
section
namespace Go.AM.Num
def Dg (q:Rat):Bool×List Int×List Int:=(decide (q.num < 0),limbs q.num.natAbs,limbs q.den)
def G_ (neg:Bool):qBs:=if neg then [45] else []
theorem shape {neg:Bool} {s:qBs} {q:Rat} (hs:neg=false->∀ r,s≠45::r) (h:G_ neg++s=An q):neg=decide (q.num < 0)/\s=dd q.num.natAbs++(if q.den=1 then [] else 47::dd q.den):=by
 unfold An G_ at h
 cases neg with
 |true=>
  by_cases hq:q.num < 0
  ·rw[if_pos hq] at h
   simp only[if_true,List.singleton_append,qY5,qZ1,qY15,List.cons.injEq,true_and] at h
   exact ⟨(qZ10 hq).symm,h⟩
  ·rw[if_neg hq] at h
   simp only[if_true,List.singleton_append,qY15] at h
   exact absurd h.symm (Pt _ _ _)
 |false=>
  by_cases hq:q.num < 0
  ·rw[if_pos hq] at h
   simp only[Bool.false_eq_true,if_false,qY15,qY5,qZ1] at h
   exact absurd h (hs rfl _)
  ·rw[if_neg hq] at h
   simp only[Bool.false_eq_true,if_false,qY15] at h
   exact ⟨(qZ9 hq).symm,h⟩
theorem QM (a:qBs):∃ neg s,strings_CutPrefix a [45]=some ((s,neg,()),())/\a=G_ neg++s/\(neg=false->∀ r,s≠45::r):=by
 by_cases h:∃ r,a=45::r
 ·obtain ⟨r,rfl⟩:=h
  exact ⟨true,r,AKp r 45,rfl,fun h=>by cases h⟩
 ·have h':∀ r,a≠45::r:=fun r e=>h ⟨r,e⟩
  exact ⟨false,a,ALn h',rfl,fun _=>h'⟩
theorem Rc (neg:Bool) (m d:Nat) (hd:d≠0) (hg:Nat.gcd m d=1):(mkRat (sg neg m) d).num=sg neg m/\(mkRat (sg neg m) d).den=d:=by
 rw[Rat.num_mkRat,Rat.den_mkRat,if_neg hd,if_neg hd,DF,Nat.gcd_comm d m,hg]
 simp
theorem KS {neg:Bool} {m d:Nat} (h:neg=true->m≠0):G_ neg++(dd m++(if d=1 then [] else 47::dd d))=tx neg m d:=by
 unfold G_ tx
 cases neg with
 |true=>simp[h rfl]
 |false=>simp
theorem XK {neg:Bool} {m d:Nat} (hd:d≠0) (hg:Nat.gcd m d=1) (h:neg=true->m≠0):Dg (mkRat (sg neg m) d)=(neg,limbs m,limbs d):=by
 obtain ⟨h1,h2⟩:=Rc neg m d hd hg
 unfold Dg
 rw[h1,h2,DF]
 congr 1
 cases neg with
 |true=>exact qZ10 ((Jz _ _).2 ⟨rfl,h rfl⟩)
 |false=>exact qZ9 (fun e=>by simpa using ((Jz _ _).1 e).1)
theorem OS (a:qBs) (hl:a.length<=10000000) :
 ∃ r ok,BY a=some ((r,ok,()),())/\((ok=true/\∃ q,a=An q/\r=Dg q)\/(ok=false/\∀ q,a≠An q)):=by
 obtain ⟨neg,s,hcp,ha,hs⟩:=QM a
 have hsl:s.length<=10000000:=by rw[ha,qZ6] at hl;omega
 have shp:∀ q,a=An q->neg=decide (q.num < 0)/\s=dd q.num.natAbs++(if q.den=1 then [] else 47::dd q.den):=fun q h=>shape hs (ha ▸ h)
 have o:∀ n,Fo (limbs n)=some ((decide (n=1),()),()):=Hj
 rcases XT 47 s with ⟨x,y,rfl,hx⟩ | hx
 ·have hxl:x.length<=10000000:=by rw[qZ6] at hsl;omega
  have hyl:y.length<=10000000:=by rw[qZ6,qY11] at hsl;omega
  have hcut:=Se (y:=y) hx (by omega)
  have shp':∀ q,a=An q->neg=decide (q.num < 0)/\q.den≠1/\x=dd q.num.natAbs/\y=dd q.den:=by
   intro q h
   obtain ⟨h1,h2⟩:=shp q h
   by_cases hd:q.den=1
   ·rw[if_pos hd,qY4] at h2
    exact absurd (show (47:UInt8)∈dd q.num.natAbs by rw[<-h2];simp) GW
   ·rw[if_neg hd] at h2
    obtain ⟨e1,e2⟩:=RL hx GW h2
    exact ⟨h1,hd,e1,e2⟩
  by_cases hnx:x=dd (dval x)
  ·have hox:=Be hnx
   by_cases h0:x=[48]
   ·refine ⟨(false,[],[]),false,?_,.inr ⟨rfl,fun q h=>?_⟩⟩
    ·unfold BY
     simp (disch:=(first | omega | (simp only[Ai];omega))) only[hcp,hcut,BA x (by omega),hox,Be h0,Aj]
     cases neg<;>rfl
    ·obtain ⟨_,h2,h3,_⟩:=shp' q h
     have hq0:q.num.natAbs=0:=DR (by rw[<-h3,h0,BC])
     have:Nat.gcd q.num.natAbs q.den=1:=q.reduced
     rw[hq0,Nat.gcd_zero_left] at this
     exact h2 this
   ·have hno:=P2 (s:=x) (hnx ▸ B8 _) (by omega)
    have hm0:dval x≠0:=fun e=>h0 (by rw[hnx,e,BC])
    by_cases hny:y=dd (dval y)
    ·by_cases hy0:y=[48]
     ·refine ⟨(false,[],[]),false,?_,.inr ⟨rfl,fun q h=>?_⟩⟩
      ·unfold BY
       simp (disch:=(first | omega | (simp only[Ai];omega))) only[hcp,hcut,BA x (by omega),hox,A_ h0,hno,BA y (by omega),Be hny,Be hy0,Aj]
      ·obtain ⟨_,h2,h3,h4⟩:=shp' q h
       exact q.den_nz (DR (by rw[<-h4,hy0,BC]))
     ·by_cases hy1:y=[49]
      ·refine ⟨(false,[],[]),false,?_,.inr ⟨rfl,fun q h=>?_⟩⟩
       ·unfold BY
        simp (disch:=(first | omega | (simp only[Ai];omega))) only[hcp,hcut,BA x (by omega),hox,A_ h0,hno,BA y (by omega),Be hny,A_ hy0,Be hy1,Aj]
       ·obtain ⟨_,h2,h3,h4⟩:=shp' q h
        exact h2 (DR (by rw[<-h4,hy1,C1]))
      ·have hno2:=P2 (s:=y) (hny ▸ B8 _) (by omega)
       have hd0:dval y≠0:=fun e=>hy0 (by rw[hny,e,BC])
       have hd1:dval y≠1:=fun e=>hy1 (by rw[hny,e,C1])
       have hg:=PH (dval x) (dval y) (Nat.le_trans (FE _) (by rw[<-hnx];omega)) (Nat.le_trans (FE _) (by rw[<-hny];omega))
       refine ⟨(neg,limbs (dval x),limbs (dval y)),decide (Nat.gcd (dval x) (dval y)=1),?_,?_⟩
       ·unfold BY
        simp (disch:=(first | omega | (simp only[Ai];omega))) only[hcp,hcut,BA x (by omega),hox,A_ h0,hno,BA y (by omega),Be hny,A_ hy0,A_ hy1,hno2,hg,o,Aj]
       ·by_cases hg1:Nat.gcd (dval x) (dval y)=1
        ·refine .inl ⟨qZ10 hg1,mkRat (sg neg (dval x)) (dval y),?_,(XK hd0 hg1 (fun _=>hm0)).symm⟩
         rw[<-NA neg _ _ hd0 hg1,<-KS (fun _=>hm0),if_neg hd1,<-hnx,<-hny]
         exact ha
        ·refine .inr ⟨qZ9 hg1,fun q h=>?_⟩
         obtain ⟨_,h2,h3,h4⟩:=shp' q h
         rw[h3,h4,Ca,Ca] at hg1
         exact hg1 q.reduced
    ·refine ⟨(false,[],[]),false,?_,.inr ⟨rfl,fun q h=>?_⟩⟩
     ·unfold BY
      simp (disch:=(first | omega | (simp only[Ai];omega))) only[hcp,hcut,BA x (by omega),hox,A_ h0,hno,BA y (by omega),A_ hny,Aj]
     ·obtain ⟨_,h2,h3,h4⟩:=shp' q h
      exact hny (by rw[h4,Ca])
  ·refine ⟨(false,[],[]),false,?_,.inr ⟨rfl,fun q h=>?_⟩⟩
   ·unfold BY
    simp (disch:=(first | omega | (simp only[Ai];omega))) only[hcp,hcut,BA x (by omega),A_ hnx,Aj]
   ·obtain ⟨_,h2,h3,h4⟩:=shp' q h
    exact hnx (by rw[h3,Ca])
 ·have hcut:=Tn hx (by omega)
  have shp':∀ q,a=An q->neg=decide (q.num < 0)/\q.den=1/\s=dd q.num.natAbs:=by
   intro q h
   obtain ⟨h1,h2⟩:=shp q h
   by_cases hd:q.den=1
   ·rw[if_pos hd,qY4] at h2
    exact ⟨h1,hd,h2⟩
   ·rw[if_neg hd] at h2
    exact absurd (by rw[h2];simp) hx
  by_cases hnx:s=dd (dval s)
  ·have hox:=Be hnx
   have hno:=P2 (s:=s) (hnx ▸ B8 _) (by omega)
   have fin:(neg=true->dval s≠0)->a=An (mkRat (sg neg (dval s)) 1)/\(neg,limbs (dval s),([1]:List Int))=Dg (mkRat (sg neg (dval s)) 1):=by
    intro h
    constructor
    ·rw[<-NA neg _ _ (by decide) (Nat.gcd_one_right _),<-KS h]
     simp only[if_true,qY4]
     rw[<-hnx];exact ha
    ·rw[XK (by decide) (Nat.gcd_one_right _) h,Ln]
   by_cases h0:s=[48]
   ·cases hneg:neg with
    |true=>
     subst hneg
     refine ⟨(false,[],[]),false,?_,.inr ⟨rfl,fun q h=>?_⟩⟩
     ·unfold BY
      simp (disch:=(first | omega | (simp only[Ai];omega))) only[hcp,hcut,BA s (by omega),hox,Be h0,Aj]
     ·obtain ⟨h1,h2,h3⟩:=shp' q h
      have hq0:q.num.natAbs=0:=DR (by rw[<-h3,h0,BC])
      have:=of_decide_eq_true h1.symm
      omega
    |false=>
     subst hneg
     obtain ⟨f1,f2⟩:=fin (fun h=>by cases h)
     refine ⟨_,true,?_,.inl ⟨rfl,_,f1,f2⟩⟩
     unfold BY
     simp (disch:=(first | omega | (simp only[Ai];omega))) only[hcp,hcut,BA s (by omega),hox,Be h0,hno,Aj]
   ·have hm0:dval s≠0:=fun e=>h0 (by rw[hnx,e,BC])
    obtain ⟨f1,f2⟩:=fin (fun _=>hm0)
    refine ⟨_,true,?_,.inl ⟨rfl,_,f1,f2⟩⟩
    unfold BY
    simp (disch:=(first | omega | (simp only[Ai];omega))) only[hcp,hcut,BA s (by omega),hox,A_ h0,hno,Aj]
  ·refine ⟨(false,[],[]),false,?_,.inr ⟨rfl,fun q h=>?_⟩⟩
   ·unfold BY
    simp (disch:=(first | omega | (simp only[Ai];omega))) only[hcp,hcut,BA s (by omega),A_ hnx,Aj]
   ·obtain ⟨_,h2,h3⟩:=shp' q h
    exact hnx (by rw[h3,Ca])
theorem Yb (q:Rat) (h:D q<=9000000):BY (An q)=some ((Dg q,true,()),()):=by
 obtain ⟨r,ok,hr,⟨rfl,p,hp,rfl⟩ | ⟨rfl,hn⟩⟩:=OS (An q) (by have:=BH q;omega)
 ·rw[hr,txt_inj hp]
 ·exact absurd rfl (hn q)
end Go.AM.Num
end
section
namespace Go.AM.Num
theorem AGP (M:Nat) (hM:1000000000000000000<=M) (s:qBs) (acc:Nat) (hd:AS s) (h:acc * 10 ^ s.length+dval s < 1000000000000000000):Lib.parseUintM M acc s=.ok (acc * 10 ^ s.length+dval s):=by
 induction s generalizing acc with
 |nil=>simp[Lib.parseUintM,dval]
 |cons c s ih=>
  have hc:=hd c (by simp)
  have hdc:c.toNat - 48=dig c:=rfl
  rw[FB,qY11,Nat.pow_succ] at h ⊢
  have hp:1<=10 ^ s.length:=Nat.one_le_pow _ _ (by decide)
  have e:acc * (10 ^ s.length * 10)+(dig c * 10 ^ s.length+dval s)=(acc * 10+dig c) * 10 ^ s.length+dval s:=by grind
  rw[e] at h ⊢
  have h1:(acc * 10+dig c) * 1<=(acc * 10+dig c) * 10 ^ s.length:=Nat.mul_le_mul_left _ hp
  unfold Lib.parseUintM
  rw[if_pos ⟨hc.1,hc.2⟩,if_neg (by omega),hdc,if_neg (by omega)]
  exact ih (acc * 10+dig c) (fun x hx=>hd x (by simp[hx])) h
theorem P_ (n:Nat) (h:n < 1000000000):Gy (dd n) 10 64=some (((n:Int),false,()),()):=by
 have hl:(dd n).length<=9:=Ec (by simpa using h) (by decide)
 have hm:=AGP (2 ^ 64 - 1) (by decide) (dd n) 0 (B8 n) (by rw[Ca];omega)
 rw[Ca,Nat.zero_mul,Nat.zero_add] at hm
 unfold Gy
 rw[if_pos ⟨rfl,rfl,by omega⟩]
 have:Lib.parseIntB 64 (dd n)=.ok (n:Int):=by
  cases e:dd n with
  |nil=>exact absurd e (EN n)
  |cons c r=>
   have hc:=B8 n c (by rw[e];simp)
   unfold Lib.parseIntB
   have h1:¬ (c.toNat=43\/c.toNat=45):=by have:=hc.1;omega
   have h2:¬ c.toNat=45:=by have:=hc.1;omega
   simp only[if_neg h1]
   unfold Lib.parseUintB
   rw[if_neg (by simp),<-e,hm]
   simp[h2]
   omega
 rw[this]
theorem T7 (m n:Nat):Hq (m:Int) (n:Int)=some ((((Nat.gcd m n:Nat):Int),()),()):=by
 obtain ⟨r,hr,b,rfl⟩:=BJ (step:=L4) (Q:=fun r=>∃ b,r=(Ex.exit 0,(((Nat.gcd m n:Nat):Int),b,())))
  (fun k x=>∃ a b:Nat,x=((a:Int),(b:Int),())/\k=b/\Nat.gcd a b=Nat.gcd m n) (by
   rintro k x ⟨a,b,rfl,rfl,hg⟩
   by_cases h0:k=0
   ·subst h0
    refine .inl ⟨(Ex.exit 0,((a:Int),0,())),?_,by simp,0,?_⟩
    ·simp (disch:=(first | omega | (simp only[Ai];omega))) only[L4,Aj]
     rfl
    ·rw[<-hg,Nat.gcd_zero_right]
   ·refine .inr ⟨a % k,_,?_,Nat.mod_lt _ (by omega),k,a % k,rfl,rfl,?_⟩
    ·simp (disch:=(first | omega | (simp only[Ai];omega))) only[L4,Aj]
     rw[<-Int.natCast_emod]
    ·rw[Nat.gcd_comm,<-Nat.gcd_rec,Nat.gcd_comm,hg]) n _ ⟨m,n,rfl,rfl,rfl⟩
 unfold Hq
 rw[hr]
 simp (disch:=(first | omega | (simp only[Ai];omega))) only[Aj]
def NU (a:qBs) (r:Int×Int):Prop:=∃ q,a=An q/\r=(q.num,(q.den:Int))/\q.num.natAbs < 1000000000/\q.den < 1000000000
theorem Qx {n:Nat} (h:(dd n).length<=9):n < 1000000000:=by
 have:=Gf n
 have h2:10 ^ (dd n).length<=10 ^ 9:=Nat.pow_le_pow_right (by decide) h
 omega
theorem Qc (a:qBs) (hl:a.length<=10000000):∃ r ok,BU a=some ((r,ok,()),())/\(ok=true->NU a r):=by
 obtain ⟨neg,s,hcp,ha,hs⟩:=QM a
 have hsl:s.length<=10000000:=by rw[ha,qZ6] at hl;omega
 have nope:∀ (r:Int×Int),BU a=some ((r,false,()),())->∃ r ok,BU a=some ((r,ok,()),())/\(ok=true->NU a r):=fun r h=>⟨r,false,h,fun h=>by cases h⟩
 rcases XT 47 s with ⟨x,y,rfl,hx⟩ | hx
 ·have hxl:x.length<=10000000:=by rw[qZ6] at hsl;omega
  have hyl:y.length<=10000000:=by rw[qZ6,qY11] at hsl;omega
  have hcut:=Se (y:=y) hx (by omega)
  by_cases h9:x.length<=9
  ·by_cases hy9:y.length<=9
   ·by_cases hnx:x=dd (dval x)
    ·have hox:=Be hnx
     by_cases h0:x=[48]
     ·refine nope (0,0) ?_
      unfold BU
      simp (disch:=(first | omega | (simp only[Ai];omega))) only[hcp,hcut,BA x (by omega),hox,Be h0,Aj]
      cases neg<;>rfl
     ·have hm0:dval x≠0:=fun e=>h0 (by rw[hnx,e,BC])
      have hmB:dval x < 1000000000:=Qx (by rw[<-hnx];exact h9)
      have hp:=P_ (dval x) hmB
      rw[<-hnx] at hp
      by_cases hny:y=dd (dval y)
      ·have hdB:dval y < 1000000000:=Qx (by rw[<-hny];exact hy9)
       have hpy:=P_ (dval y) hdB
       rw[<-hny] at hpy
       by_cases h2:dval y < 2
       ·refine nope (0,0) ?_
        unfold BU
        simp (disch:=(first | omega | (simp only[Ai];omega))) only[hcp,hcut,BA x (by omega),hox,A_ h0,hp,BA y (by omega),Be hny,hpy,Aj]
       ·have hdv:=T7 (dval x) (dval y)
        by_cases hg:Nat.gcd (dval x) (dval y)=1
        ·have hd0:dval y≠0:=by omega
         obtain ⟨e1,e2⟩:=Rc neg (dval x) (dval y) hd0 hg
         have hsm:NU a (sg neg (dval x),((dval y:Nat):Int)):=by
          refine ⟨mkRat (sg neg (dval x)) (dval y),?_,by rw[e1,e2],by rw[e1,DF];exact hmB,by rw[e2];exact hdB⟩
          rw[<-NA neg _ _ hd0 hg,<-KS (fun _=>hm0),if_neg (by omega),<-hnx,<-hny]
          exact ha
         rw[hg] at hdv
         cases neg with
         |true=>
          refine ⟨_,true,?_,fun _=>hsm⟩
          unfold BU
          simp (disch:=(first | omega | (simp only[Ai];omega))) only[hcp,hcut,BA x (by omega),hox,A_ h0,hp,BA y (by omega),Be hny,hpy,hdv,Aj]
          simp[sg]
         |false=>
          refine ⟨_,true,?_,fun _=>hsm⟩
          unfold BU
          simp (disch:=(first | omega | (simp only[Ai];omega))) only[hcp,hcut,BA x (by omega),hox,A_ h0,hp,BA y (by omega),Be hny,hpy,hdv,Aj]
          simp[sg]
        ·refine nope (0,0) ?_
         unfold BU
         simp (disch:=(first | omega | (simp only[Ai];omega))) only[hcp,hcut,BA x (by omega),hox,A_ h0,hp,BA y (by omega),Be hny,hpy,hdv,Aj]
      ·refine nope (0,0) ?_
       unfold BU
       simp (disch:=(first | omega | (simp only[Ai];omega))) only[hcp,hcut,BA x (by omega),hox,A_ h0,hp,BA y (by omega),A_ hny,Aj]
    ·refine nope (0,0) ?_
     unfold BU
     simp (disch:=(first | omega | (simp only[Ai];omega))) only[hcp,hcut,BA x (by omega),A_ hnx,Aj]
   ·refine nope (0,0) ?_
    unfold BU
    simp (disch:=(first | omega | (simp only[Ai];omega))) only[hcp,hcut,Aj]
  ·refine nope (0,0) ?_
   unfold BU
   simp (disch:=(first | omega | (simp only[Ai];omega))) only[hcp,hcut,Aj]
 ·have hcut:=Tn hx (by omega)
  have hnil:(([]:qBs).length:Int)=0:=rfl
  by_cases h9:s.length<=9
  ·by_cases hnx:s=dd (dval s)
   ·have hox:=Be hnx
    have hmB:dval s < 1000000000:=Qx (by rw[<-hnx];exact h9)
    have hp:=P_ (dval s) hmB
    rw[<-hnx] at hp
    have fin:(neg=true->dval s≠0)->NU a (sg neg (dval s),1):=by
     intro h
     obtain ⟨e1,e2⟩:=Rc neg (dval s) 1 (by decide) (Nat.gcd_one_right _)
     refine ⟨mkRat (sg neg (dval s)) 1,?_,by rw[e1,e2];rfl,by rw[e1,DF];exact hmB,by rw[e2];decide⟩
     rw[<-NA neg _ _ (by decide) (Nat.gcd_one_right _),<-KS h]
     simp only[if_true,qY4]
     rw[<-hnx];exact ha
    by_cases h0:s=[48]
    ·cases neg with
     |true=>
      refine nope (0,0) ?_
      unfold BU
      simp (disch:=(first | omega | (simp only[Ai];omega))) only[hcp,hcut,hnil,BA s (by omega),hox,Be h0,Aj]
     |false=>
      refine ⟨_,true,?_,fun _=>fin (fun h=>by cases h)⟩
      unfold BU
      simp (disch:=(first | omega | (simp only[Ai];omega))) only[hcp,hcut,hnil,BA s (by omega),hox,Be h0,hp,Aj]
      simp[sg]
    ·have hm0:dval s≠0:=fun e=>h0 (by rw[hnx,e,BC])
     cases neg with
     |true=>
      refine ⟨_,true,?_,fun _=>fin (fun _=>hm0)⟩
      unfold BU
      simp (disch:=(first | omega | (simp only[Ai];omega))) only[hcp,hcut,hnil,BA s (by omega),hox,A_ h0,hp,Aj]
      simp[sg]
     |false=>
      refine ⟨_,true,?_,fun _=>fin (fun _=>hm0)⟩
      unfold BU
      simp (disch:=(first | omega | (simp only[Ai];omega))) only[hcp,hcut,hnil,BA s (by omega),hox,A_ h0,hp,Aj]
      simp[sg]
   ·refine nope (0,0) ?_
    unfold BU
    simp (disch:=(first | omega | (simp only[Ai];omega))) only[hcp,hcut,hnil,BA s (by omega),A_ hnx,Aj]
  ·refine nope (0,0) ?_
   unfold BU
   simp (disch:=(first | omega | (simp only[Ai];omega))) only[hcp,hcut,Aj]
theorem ABv (neg:Bool) (m:Nat):Lib.itoa (sg neg m)=(if neg=true/\m≠0 then [45] else [])++dd m:=by
 unfold Lib.itoa
 by_cases h:sg neg m < 0
 ·rw[if_pos h,if_pos ((Jz _ _).1 h),DF];rfl
 ·rw[if_neg h,if_neg (fun e=>h ((Jz _ _).2 e))]
  have:(sg neg m).toNat=m:=by have:=DF neg m;omega
  rw[this];rfl
theorem AHq {n:Int} (h:n.natAbs < 9000000000000000000):D6 n:=⟨by omega,by omega⟩
theorem Yj (neg:Bool) (m:Nat) (h:m < 9000000000000000000):FA (sg neg m) 10=some (((if neg=true/\m≠0 then [45] else [])++dd m,()),()):=by
 unfold FA
 rw[if_pos ⟨AHq (by rw[DF];exact h),rfl⟩,ABv]
theorem AEF (m:Nat) (h:m < 9000000000000000000):FA (m:Int) 10=some ((dd m,()),()):=by
 have:=Yj false m h
 simpa [sg] using this
theorem AMH (neg:Bool) (m g:Nat):(sg neg m).tdiv (g:Int)=sg neg (m / g):=by
 cases neg with
 |false=>simp only[sg,Bool.false_eq_true,if_false];rw[Int.tdiv_eq_ediv_of_nonneg (by omega),Int.natCast_ediv]
 |true=>simp only[sg,if_true];rw[Int.neg_tdiv,Int.tdiv_eq_ediv_of_nonneg (by omega),Int.natCast_ediv]
theorem ACZ (n:Int):BS n (0 - n)=(n.natAbs:Int):=by rw[MH];split<;>omega
theorem Ud (neg:Bool) (m:Nat):-(m:Int)<=sg neg m/\sg neg m<=m:=by cases neg<;>simp[sg]<;>omega
theorem Iv (n:Int):n=sg (decide (n < 0)) n.natAbs:=by
 unfold sg
 by_cases h:n < 0
 ·rw[qZ10 h];simp;omega
 ·rw[qZ9 h];simp;omega
theorem DA:A6=1152921504606846976:=rfl
theorem ALo (p:Prop) [Decidable p]:(if p then [(45:UInt8)] else []).length<=1:=by split<;>simp
theorem Sv (neg:Bool) (m d:Nat) (hd:d≠0) (hm:m < 9000000000000000000) (hdB:d < 9000000000000000000) :
 HF (sg neg m) (d:Int)=some ((An (mkRat (sg neg m) d),()),()):=by
 have hg0:Nat.gcd m d≠0:=fun e=>hd (Nat.gcd_eq_zero_iff.1 e).2
 have hdv:=T7 m d
 obtain ⟨b1,b2⟩:=Ud neg m
 have hmx:BS (sg neg m) (0 - sg neg m)=(m:Int):=by rw[ACZ,DF]
 have hn1:=Nat.div_le_self m (Nat.gcd m d)
 have hn2:=Nat.div_le_self d (Nat.gcd m d)
 obtain ⟨c1,c2⟩:=Ud neg (m / Nat.gcd m d)
 have f1:=Yj neg (m / Nat.gcd m d) (by omega)
 have f2:=AEF (d / Nat.gcd m d) (by omega)
 have hdt:((d:Int)).tdiv ((Nat.gcd m d:Nat):Int)=((d / Nat.gcd m d:Nat):Int):=by rw[Int.tdiv_eq_ediv_of_nonneg (by omega),Int.natCast_ediv]
 have hdt2:(d:Int) / ((Nat.gcd m d:Nat):Int)=((d / Nat.gcd m d:Nat):Int):=(Int.natCast_ediv _ _).symm
 have hl1:(dd (m / Nat.gcd m d)).length<=19:=Ec (by omega) (by decide)
 have hl2:(dd (d / Nat.gcd m d)).length<=19:=Ec (by omega) (by decide)
 rw[<-M6 neg m d hd]
 unfold tx
 have hnum:=AMH neg m (Nat.gcd m d)
 obtain ⟨pre,hpre⟩:∃ pre:qBs,pre=(if neg=true/\m / Nat.gcd m d≠0 then [45] else []):=⟨_,rfl⟩
 have hprel:pre.length<=1:=by rw[hpre];exact ALo _
 rw[<-hpre] at f1 ⊢
 unfold HF
 by_cases h1:d / Nat.gcd m d=1
 ·rw[if_pos h1]
  rw[h1] at hdt hdt2
  simp (disch:=(first | omega | (simp only[Ai];omega))) only[hmx,hdv,hnum,f1,hdt,hdt2,Aj]
  simp
 ·have hq0:0 < d / Nat.gcd m d:=Nat.div_pos (Nat.le_of_dvd (by omega) (Nat.gcd_dvd_right m d)) (by omega)
  rw[if_neg h1]
  have g1:([47]:qBs).length+(dd (d / Nat.gcd m d)).length<=A6:=by rw[DA];simp;omega
  have g2:(pre++dd (m / Nat.gcd m d)).length+(([47]:qBs)++dd (d / Nat.gcd m d)).length<=A6:=by rw[DA];simp;omega
  simp (disch:=(first | omega | (simp only[Ai];omega))) only[hmx,hdv,hnum,f1,hdt,hdt2,f2,Ab g1,Ab g2,Aj]
  simp
theorem SN (n d:Int) (hd:d≠0) (hn:n.natAbs < 9000000000000000000) (hdB:d.natAbs < 9000000000000000000) :
 HF n d=some ((An (Rat.divInt n d),()),()):=by
 by_cases h:d < 0
 ·have h1:=Sv (decide (-n < 0)) n.natAbs d.natAbs (by omega) hn hdB
  have e1:sg (decide (-n < 0)) n.natAbs=-n:=by have:=Iv (-n);rw[Int.natAbs_neg] at this;exact this.symm
  rw[e1] at h1
  have e2:(d.natAbs:Int)=-d:=by omega
  rw[e2] at h1
  have e3:Rat.divInt n d=mkRat (-n) d.natAbs:=by rw[<-Rat.neg_divInt_neg,<-e2,Rat.divInt_ofNat]
  rw[e3,<-h1]
  have w1:qI (0 - n)=0 - n:=Aw
  have w2:qI (0 - d)=0 - d:=Aw
  unfold HF
  rw[w1,w2,show (0:Int) - n=-n by omega,show (0:Int) - d=-d by omega,As h,Ax]
 ·have h1:=Sv (decide (n < 0)) n.natAbs d.natAbs (by omega) hn hdB
  rw[<-Iv n] at h1
  have e2:(d.natAbs:Int)=d:=by omega
  rw[<-Rat.divInt_ofNat,e2] at h1
  exact h1
end Go.AM.Num
end
section
namespace Go.AM.Num
theorem AMc (neg:Bool) (m d:Nat) (hm:(dd m).length<=100000000) (hd:(dd d).length<=100000000):GG (neg,limbs m,limbs d)=some ((tx neg m d,()),()):=by
 have tm':=XW m (by have:=FE m;omega)
 have td':=XW d (by have:=FE d;omega)
 have o:=Hj d
 have h1:([45]:qBs).length+(dd m).length<=A6:=by rw[DA];simp;omega
 have h2:([47]:qBs).length+(dd d).length<=A6:=by rw[DA];simp;omega
 have h3:(([45]:qBs)++dd m).length+(([47]:qBs)++dd d).length<=A6:=by rw[DA];simp;omega
 have h4:(dd m).length+(([47]:qBs)++dd d).length<=A6:=by rw[DA];simp;omega
 have hl0:¬ ((limbs 0).length:Int) > 0:=by rw[limbs_zero];simp
 unfold GG tx
 cases neg with
 |true=>
  by_cases hm0:m=0
  ·subst hm0
   by_cases h:d=1
   ·subst h
    simp (disch:=(first | omega | (simp only[Ai];omega))) only[tm',td',Hj 1,Ax hl0,decide_true,Aj]
    simp
   ·simp (disch:=(first | omega | (simp only[Ai];omega))) only[tm',td',o,Ax hl0,qZ9 h,Ab h2,Ab h4,Aj]
    simp[h]
  ·have hl:((limbs m).length:Int) > 0:=by
    have:(limbs m).length≠0:=fun e=>hm0 (limbs_nil.1 (List.eq_nil_of_length_eq_zero e))
    omega
   by_cases h:d=1
   ·subst h
    simp (disch:=(first | omega | (simp only[Ai];omega))) only[tm',td',Hj 1,As hl,decide_true,Ab h1,Aj]
    simp[hm0]
   ·simp (disch:=(first | omega | (simp only[Ai];omega))) only[tm',td',o,As hl,qZ9 h,Ab h1,Ab h2,Ab h3,Aj]
    simp[h,hm0]
 |false=>
  by_cases h:d=1
  ·subst h
   simp (disch:=(first | omega | (simp only[Ai];omega))) only[tm',td',Hj 1,decide_true,Aj]
   simp
  ·simp (disch:=(first | omega | (simp only[Ai];omega))) only[tm',td',o,qZ9 h,Ab h2,Ab h4,Aj]
   simp[h]
def Is (r:Bool×List Int×List Int) (q:Rat):Prop:=∃ neg m d,r=(neg,limbs m,limbs d)/\tx neg m d=An q/\(dd m).length<=100000000/\(dd d).length<=100000000
theorem Is.text {r:Bool×List Int×List Int} {q:Rat} (h:Is r q):GG (r.1,r.2.1,r.2.2)=some ((An q,()),()):=by
 obtain ⟨neg,m,d,rfl,h1,h2,h3⟩:=h
 rw[AMc neg m d h2 h3,h1]
theorem Ov (neg:Bool) (m d:Nat) (hd:d≠0) (hm:(dd m).length<=100000000) (hdl:(dd d).length<=100000000) :
 ∃ r,Gv neg (limbs m) (limbs d)=some ((r,()),())/\Is r (mkRat (sg neg m) d):=
 ⟨_,AEm neg m d hd (Nat.le_trans (FE _) hm) (Nat.le_trans (FE _) hdl),neg,_,_,rfl,M6 neg m d hd,
  Nat.le_trans (BL (Nat.div_le_self _ _)) hm,Nat.le_trans (BL (Nat.div_le_self _ _)) hdl⟩
theorem DT (q:Rat):(dd q.num.natAbs).length<=D q:=by unfold D;omega
theorem Ey (q:Rat):(dd q.den).length<=D q:=by unfold D;omega
theorem Xd (p q:Rat):p+q=mkRat (sg (decide (p.num < 0)) (p.num.natAbs * q.den)+sg (decide (q.num < 0)) (q.num.natAbs * p.den)) (p.den * q.den):=by
 rw[Rat.add_def']
 congr 1
 have h1:=K1 (decide (p.num < 0)) false p.num.natAbs q.den
 have h2:=K1 (decide (q.num < 0)) false q.num.natAbs p.den
 rw[GB] at h1 h2
 simp only[Bool.bne_false] at h1 h2
 rw[<-h1,<-h2];rfl
theorem AAu (p q:Rat) (h:D p+D q<=10000000):∃ r,MS (Dg p) (Dg q)=some ((r,()),())/\Is r (p+q):=by
 have a1:=DT p
 have a2:=Ey p
 have a3:=DT q
 have a4:=Ey q
 have b1:=Cf p.num.natAbs q.den
 have b2:=Cf q.num.natAbs p.den
 have b3:=Cf p.den q.den
 have b4:=I7 (p.num.natAbs * q.den) (q.num.natAbs * p.den)
 have b5:=BL (Nat.sub_le (p.num.natAbs * q.den) (q.num.natAbs * p.den))
 have b6:=BL (Nat.sub_le (q.num.natAbs * p.den) (p.num.natAbs * q.den))
 have L:=FE
 have m1:=Km p.num.natAbs q.den (by have:=L p.num.natAbs;omega) (by have:=L q.den;omega)
 have m2:=Km q.num.natAbs p.den (by have:=L q.num.natAbs;omega) (by have:=L p.den;omega)
 have m3:=Km p.den q.den (by have:=L p.den;omega) (by have:=L q.den;omega)
 have hd0:p.den * q.den≠0:=Nat.mul_ne_zero p.den_nz q.den_nz
 obtain ⟨x,hx⟩:∃ x,x=p.num.natAbs * q.den:=⟨_,rfl⟩
 obtain ⟨y,hy⟩:∃ y,y=q.num.natAbs * p.den:=⟨_,rfl⟩
 have hf:=Xd p q
 rw[<-hx] at b1 b4 b5 b6 m1 hf
 rw[<-hy] at b2 b4 b5 b6 m2 hf
 have Lx:=L x
 have Ly:=L y
 rw[hf]
 obtain ⟨n1,hn1⟩:∃ n,n=decide (p.num < 0):=⟨_,rfl⟩
 obtain ⟨n2,hn2⟩:∃ n,n=decide (q.num < 0):=⟨_,rfl⟩
 unfold MS Dg
 rw[<-hn1,<-hn2]
 by_cases hs:n1=n2
 ·subst hs
  have e:sg n1 x+sg n1 y=sg n1 (x+y):=by cases n1<;>simp[sg];omega
  rw[e]
  obtain ⟨r,hr,hi⟩:=Ov n1 (x+y) (p.den * q.den) hd0 (by omega) (by omega)
  refine ⟨r,?_,hi⟩
  simp (disch:=(first | omega | (simp only[Ai];omega))) only[m1,m2,m3,Uk x y (by omega) (by omega),hr,beq_self_eq_true,Aj]
 ·have hsb:(n1==n2)=false:=by simpa using hs
  obtain ⟨c,hc,hc1,hc2⟩:=XU x y (by omega) (by omega)
  by_cases hle:y<=x
  ·have hc0:c>=0:=by
    rcases Int.lt_or_le c 0 with h | h
    ·have:=hc1.1 h;omega
    ·exact h
   have e:sg n1 x+sg n2 y=sg n1 (x - y):=by cases n1<;>cases n2<;>simp_all [sg]<;>omega
   rw[e]
   obtain ⟨r,hr,hi⟩:=Ov n1 (x - y) (p.den * q.den) hd0 (by omega) (by omega)
   refine ⟨r,?_,hi⟩
   simp (disch:=(first | omega | (simp only[Ai];omega))) only[m1,m2,m3,hsb,hc,Rg x y (by omega) hle,hr,Aj]
  ·have hc0:¬ c>=0:=by have:=hc1.2 (by omega);omega
   have e:sg n1 x+sg n2 y=sg n2 (y - x):=by cases n1<;>cases n2<;>simp_all [sg]<;>omega
   rw[e]
   obtain ⟨r,hr,hi⟩:=Ov n2 (y - x) (p.den * q.den) hd0 (by omega) (by omega)
   refine ⟨r,?_,hi⟩
   simp (disch:=(first | omega | (simp only[Ai];omega))) only[m1,m2,m3,hsb,hc,Rg y x (by omega) (by omega),hr,Aj]
theorem ALV (n1 n2:Bool) (m1 d1 m2 d2:Nat) (h1:d1≠0) (h2:d2≠0) (a1:(dd m1).length<=10000000) (a2:(dd d1).length<=10000000) (a3:(dd m2).length<=10000000) (a4:(dd d2).length<=10000000) :
 ∃ r,LN (n1,limbs m1,limbs d1) (n2,limbs m2,limbs d2)=some ((r,()),())/\Is r (mkRat (sg n1 m1 * sg n2 m2) (d1 * d2)):=by
 have b1:=Cf m1 m2
 have b2:=Cf d1 d2
 have L:=FE
 have e1:=Km m1 m2 (by have:=L m1;omega) (by have:=L m2;omega)
 have e2:=Km d1 d2 (by have:=L d1;omega) (by have:=L d2;omega)
 obtain ⟨r,hr,hi⟩:=Ov (n1 !=n2) (m1 * m2) (d1 * d2) (Nat.mul_ne_zero h1 h2) (by omega) (by omega)
 rw[<-K1] at hi
 refine ⟨r,?_,hi⟩
 have e3:(!(n1==n2))=(n1 !=n2):=rfl
 unfold LN
 simp (disch:=(first | omega | (simp only[Ai];omega))) only[e1,e2,e3,hr,Aj]
theorem AFz (p q:Rat) (h:D p+D q<=10000000):∃ r,LN (Dg p) (Dg q)=some ((r,()),())/\Is r (p * q):=by
 have:=ALV (decide (p.num < 0)) (decide (q.num < 0)) p.num.natAbs p.den q.num.natAbs q.den p.den_nz q.den_nz (by have:=DT p;omega) (by have:=Ey p;omega) (by have:=DT q;omega) (by have:=Ey q;omega)
 rw[GB,GB,<-Rat.mul_def'] at this
 exact this
theorem AKM (q:Rat) (h:q≠0):q⁻¹=mkRat (sg (decide (q.num < 0)) q.den) q.num.natAbs:=by
 have hn:q.num≠0:=fun e=>h (Rat.num_eq_zero.1 e)
 rw[Rat.inv_def]
 by_cases hs:q.num < 0
 ·rw[qZ10 hs,<-Rat.neg_divInt_neg]
  have e:-q.num=(q.num.natAbs:Int):=by omega
  rw[e,Rat.divInt_ofNat];rfl
 ·rw[qZ9 hs]
  have e:q.num=(q.num.natAbs:Int):=by omega
  conv=>lhs;rw[e]
  rw[Rat.divInt_ofNat];rfl
end Go.AM.Num
end
section
namespace Go.AM.Num
noncomputable def Cr (f:Rat->Rat->qBs) (a b:qBs):qBs:=
 match rd a,rd b with
 |some p,some q=>f p q
 |_,_=>[]
theorem Ds (f:Rat->Rat->qBs) (p q:Rat):Cr f (An p) (An q)=f p q:=by unfold Cr;rw[Ct,Ct]
theorem M4 {f:Rat->Rat->qBs} {a b:qBs} (h:rd a=none):Cr f a b=[]:=by unfold Cr;rw[h]
theorem JB {f:Rat->Rat->qBs} {a b:qBs} (h:rd b=none):Cr f a b=[]:=by
 unfold Cr;rw[h];cases rd a<;>rfl
theorem Nc {q:Rat} {n:Nat} (h:(An q).length<=n):D q<=n+1:=by have:=Ik q;omega
theorem L5 {a b:Nat} (ha:a < 1000000000) (hb:b < 1000000000):a * b<=999999998000000001:=by
 have h1:a * b<=999999999 * b:=Nat.mul_le_mul_right _ (by omega)
 omega
section
variable {a b:qBs}
theorem AI2 (p q:Rat) (h1:p.num.natAbs < 1000000000) (h2:p.den < 1000000000) (h3:q.num.natAbs < 1000000000) (h4:q.den < 1000000000) :
 Kr (p.num,(p.den:Int)) (q.num,(q.den:Int))=some ((An (p+q),()),()):=by
 have e1:=L5 h1 h4
 have e2:=L5 h3 h2
 have e3:=L5 h2 h4
 have f1:(p.num * q.den).natAbs=p.num.natAbs * q.den:=by rw[Int.natAbs_mul,Int.natAbs_natCast]
 have f2:(q.num * p.den).natAbs=q.num.natAbs * p.den:=by rw[Int.natAbs_mul,Int.natAbs_natCast]
 have f3:((p.den:Int) * q.den).natAbs=p.den * q.den:=by rw[Int.natAbs_mul,Int.natAbs_natCast,Int.natAbs_natCast]
 have hd:p.den * q.den≠0:=Nat.mul_ne_zero p.den_nz q.den_nz
 have hfr:=SN (p.num * q.den+q.num * p.den) ((p.den:Int) * q.den) (by omega) (by omega) (by omega)
 rw[<-Int.natCast_mul,Rat.divInt_ofNat,<-Rat.add_def',Int.natCast_mul] at hfr
 unfold Kr
 simp (disch:=(first | omega | (simp only[Ai];omega))) only[hfr,Aj]
theorem AMC (p q:Rat) (h1:p.num.natAbs < 1000000000) (h2:p.den < 1000000000) (h3:q.num.natAbs < 1000000000) (h4:q.den < 1000000000) :
 K' (p.num,(p.den:Int)) (q.num,(q.den:Int))=some ((An (p * q),()),()):=by
 have e1:=L5 h1 h3
 have e3:=L5 h2 h4
 have f1:(p.num * q.num).natAbs=p.num.natAbs * q.num.natAbs:=Int.natAbs_mul _ _
 have f3:((p.den:Int) * q.den).natAbs=p.den * q.den:=by rw[Int.natAbs_mul,Int.natAbs_natCast,Int.natAbs_natCast]
 have hd:p.den * q.den≠0:=Nat.mul_ne_zero p.den_nz q.den_nz
 have hfr:=SN (p.num * q.num) ((p.den:Int) * q.den) (by omega) (by omega) (by omega)
 rw[<-Int.natCast_mul,Rat.divInt_ofNat,<-Rat.mul_def',Int.natCast_mul] at hfr
 unfold K'
 simp (disch:=(first | omega | (simp only[Ai];omega))) only[hfr,Aj]
theorem Wh {f:Rat->Rat->Rat} {F1:Int×Int->Int×Int->Option ((qBs×Unit)×Unit)} {F2:Bool×List Int×List Int->Bool×List Int×List Int->Option ((qBs×Unit)×Unit)}
 {two:qBs->qBs->Unit->Unit->Option ((qBs×Unit)×Unit)}
 (htwo:∀ a b r1 k1 r2 k2,BU a=some ((r1,k1,()),())->BU b=some ((r2,k2,()),())->
  (k1=true->k2=true->∀ t,F1 r1 r2=some ((t,()),())->two a b () ()=some ((t,()),()))/\
  ((k1=false\/k2=false)->∀ s1 o1 s2 o2,BY a=some ((s1,o1,()),())->BY b=some ((s2,o2,()),())->
   ((o1=false\/o2=false)->two a b () ()=some (([],()),()))/\(o1=true->o2=true->∀ t,F2 s1 s2=some ((t,()),())->two a b () ()=some ((t,()),()))))
 (ok:Rat->Prop)
 (h1:∀ p q:Rat,ok q->p.num.natAbs < 1000000000->p.den < 1000000000->q.num.natAbs < 1000000000->q.den < 1000000000->F1 (p.num,(p.den:Int)) (q.num,(q.den:Int))=some ((An (f p q),()),()))
 (h2:∀ p q:Rat,ok q->D p+D q<=10000000->F2 (Dg p) (Dg q)=some ((An (f p q),()),()))
 (ha:a.length<=3000000) (hb:b.length<=3000000) (hok:∀ q,b=An q->ok q):two a b () ()=some ((Cr (fun p q=>An (f p q)) a b,()),()):=by
 obtain ⟨r1,k1,e1,s1⟩:=Qc a (by omega)
 obtain ⟨r2,k2,e2,s2⟩:=Qc b (by omega)
 obtain ⟨t1,t2⟩:=htwo a b r1 k1 r2 k2 e1 e2
 by_cases hk:k1=true/\k2=true
 ·obtain ⟨p,rfl,rfl,b1,b2⟩:=s1 hk.1
  obtain ⟨q,rfl,rfl,b3,b4⟩:=s2 hk.2
  rw[Ds]
  exact t1 hk.1 hk.2 _ (h1 p q (hok q rfl) b1 b2 b3 b4)
 ·obtain ⟨r,o1,e3,q1⟩:=OS a (by omega)
  obtain ⟨r',o2,e4,q2⟩:=OS b (by omega)
  have hk':k1=false\/k2=false:=by
   rcases Bool.eq_false_or_eq_true k1 with h | h
   ·rcases Bool.eq_false_or_eq_true k2 with h' | h'
    ·exact absurd ⟨h,h'⟩ hk
    ·exact .inr h'
   ·exact .inl h
  obtain ⟨u1,u2⟩:=t2 hk' r o1 r' o2 e3 e4
  rcases q1 with ⟨rfl,p,rfl,rfl⟩ | ⟨rfl,hn⟩
  ·rcases q2 with ⟨rfl,q,rfl,rfl⟩ | ⟨rfl,hn⟩
   ·rw[Ds]
    exact u2 rfl rfl _ (h2 p q (hok q rfl) (by have:=Nc ha;have:=Nc hb;omega))
   ·rw[JB (KD hn)]
    exact u1 (.inr rfl)
  ·rw[M4 (KD hn)]
   exact u1 (.inl rfl)
theorem PS (ha:a.length<=3000000) (hb:b.length<=3000000):JM a b=some ((Cr (fun p q=>An (p+q)) a b,()),()):=by
 have:=Wh (f:=(·+·)) (F1:=Kr) (F2:=LM) (two:=JL) (a:=a) (b:=b) (by
  intro a b r1 k1 r2 k2 e1 e2
  constructor
  ·rintro rfl rfl t ht
   unfold JL
   simp (disch:=(first | omega | (simp only[Ai];omega))) only[e1,e2,ht,Aj]
  ·intro hk s1 o1 s2 o2 e3 e4
   constructor
   ·intro ho
    unfold JL
    cases k1<;>cases k2<;>cases o1<;>cases o2<;>simp_all [cond]
   ·rintro rfl rfl t ht
    unfold JL
    cases k1<;>cases k2<;>simp_all [cond]) (fun _=>True) (fun p q _=>AI2 p q) (fun p q _ h=>by
  obtain ⟨r,hr,hi⟩:=AAu p q h
  unfold LM
  simp (disch:=(first | omega | (simp only[Ai];omega))) only[hr,hi.text,Aj]) ha hb (fun _ _=>trivial)
 unfold JM
 rw[this];rfl
theorem ADB (ha:a.length<=3000000) (hb:b.length<=3000000):Ks a b=some ((Cr (fun p q=>An (p * q)) a b,()),()):=by
 have:=Wh (f:=(· * ·)) (F1:=K') (F2:=Kl) (two:=JW) (a:=a) (b:=b) (by
  intro a b r1 k1 r2 k2 e1 e2
  constructor
  ·rintro rfl rfl t ht
   unfold JW
   simp (disch:=(first | omega | (simp only[Ai];omega))) only[e1,e2,ht,Aj]
  ·intro hk s1 o1 s2 o2 e3 e4
   constructor
   ·intro ho
    unfold JW
    cases k1<;>cases k2<;>cases o1<;>cases o2<;>simp_all [cond]
   ·rintro rfl rfl t ht
    unfold JW
    cases k1<;>cases k2<;>simp_all [cond]) (fun _=>True) (fun p q _=>AMC p q) (fun p q _ h=>by
  obtain ⟨r,hr,hi⟩:=AFz p q h
  unfold Kl
  simp (disch:=(first | omega | (simp only[Ai];omega))) only[hr,hi.text,Aj]) ha hb (fun _ _=>trivial)
 unfold Ks
 rw[this];rfl
theorem txt_zero:An 0=[48]:=by unfold An;simp[BC]
noncomputable def M5 (p q:Rat):qBs:=if q=0 then [] else An (p / q)
end
theorem QH {a:qBs} (ha:a.length<=10000000):Fl a=some (((rd a).isSome,()),()):=by
 obtain ⟨r1,k1,e1,s1⟩:=Qc a ha
 unfold Fl
 cases k1 with
 |true=>
  obtain ⟨p,rfl,rfl,b1,b2⟩:=s1 rfl
  simp (disch:=(first | omega | (simp only[Ai];omega))) only[e1,Aj]
  rw[Ct];rfl
 |false=>
  obtain ⟨r,o1,e3,q1⟩:=OS a ha
  rcases q1 with ⟨rfl,p,rfl,rfl⟩ | ⟨rfl,hn⟩
  ·simp (disch:=(first | omega | (simp only[Ai];omega))) only[e1,e3,Aj]
   rw[Ct];rfl
  ·simp (disch:=(first | omega | (simp only[Ai];omega))) only[e1,e3,Aj]
   rw[KD hn];rfl
noncomputable def CH (a:qBs):Int:=match rd a with | some q=>q.num.sign | none=>0
theorem Y7 (q:Rat):(q.num < 0->∃ s,An q=45::s)/\(0 < q.num->∃ c s,An q=c::s/\c≠45):=by
 unfold An
 constructor
 ·intro h;rw[if_pos h];exact ⟨_,rfl⟩
 ·intro h
  rw[if_neg (by omega)]
  obtain ⟨c,s,e,hc,_⟩:=Px (n:=q.num.natAbs) (by omega)
  refine ⟨c,_,by rw[e];rfl,?_⟩
  rintro rfl
  have:=hc.1;simp at this
theorem Mp {q:Rat}:An q=[48] ↔ q=0:=by
 constructor
 ·intro h;rw[<-txt_zero] at h;exact txt_inj h
 ·rintro rfl;exact txt_zero
theorem N6 {a:qBs} (ha:a.length<=10000000):F8 a=some ((CH a,()),()):=by
 have hv:=QH ha
 unfold F8 CH
 cases hr:rd a with
 |none=>rw[hr] at hv;simp (disch:=(first | omega | (simp only[Ai];omega))) only[hv,Option.isSome_none,Aj]
 |some q=>
  rw[hr] at hv
  have hq:=DM hr
  rcases Int.lt_trichotomy q.num 0 with h | h | h
  ·obtain ⟨s,e⟩:=(Y7 q).1 h
   have hne:a≠[48]:=by rw[hq,e];simp
   have e2:((a.getD 0 0).toNat:Int)=45:=by rw[hq,e];rfl
   have hal:0 < a.length:=by rw[hq,e];simp
   have h00:((0:Int)).toNat=0:=rfl
   simp (disch:=(first | omega | (simp only[Ai];omega))) only[hv,Option.isSome_some,A_ hne,h00,e2,Aj]
   rw[Int.sign_eq_neg_one_of_neg h]
  ·have hz:a=[48]:=by rw[hq];exact Mp.2 (Rat.num_eq_zero.1 h)
   simp (disch:=(first | omega | (simp only[Ai];omega))) only[hv,Option.isSome_some,Be hz,Aj]
   rw[h];rfl
  ·obtain ⟨c,s,e,hc⟩:=(Y7 q).2 h
   have hne:a≠[48]:=fun e0=>by
    rw[hq,Mp] at e0;rw[e0] at h;simp at h
   have e2:((a.getD 0 0).toNat:Int)≠45:=by
    rw[hq,e]
    show ((c.toNat:Nat):Int)≠45
    intro h45
    exact hc (UInt8.toNat_inj.1 (by show c.toNat=45;omega))
   have hal:0 < a.length:=by rw[hq,e];simp
   have h00:((0:Int)).toNat=0:=rfl
   simp (disch:=(first | omega | (simp only[Ai];omega))) only[hv,Option.isSome_some,A_ hne,h00,Ag e2,Aj]
   rw[Int.sign_eq_one_of_pos h]
noncomputable def un (f:Rat->qBs) (a:qBs):qBs:=match rd a with | some q=>f q | none=>[]
theorem GF (f:Rat->qBs) (q:Rat):un f (An q)=f q:=by unfold un;rw[Ct]
theorem Nk {f:Rat->qBs} {a:qBs} (h:rd a=none):un f a=[]:=by unfold un;rw[h]
theorem Su {q:Rat} (h:q.num < 0):An q=45::An (-q):=by
 unfold An
 rw[if_pos h,Rat.neg_num,Rat.neg_den,if_neg (show ¬ (-q.num < 0) by omega),Int.natAbs_neg];rfl
theorem OZ:rd []=none:=KD fun q h=>by
 unfold An at h
 have:=EN q.num.natAbs
 simp at h
 exact this h.2.1
theorem Ve {a:qBs} (ha:a.length<=10000000):Kq a=some ((un (fun q=>An (-q)) a,()),()):=by
 have hs:=N6 ha
 unfold Kq
 cases hr:rd a with
 |none=>
  have hne:a≠[48]:=fun e=>by rw[e,<-txt_zero,Ct] at hr;cases hr
  have e:CH a=0:=by unfold CH;rw[hr]
  rw[e] at hs
  rw[Nk hr]
  simp (disch:=(first | omega | (simp only[Ai];omega))) only[hs,A_ hne,Aj]
 |some q=>
  have hq:=DM hr
  have e:CH a=q.num.sign:=by unfold CH;rw[hr]
  rw[e] at hs
  have hu:un (fun q=>An (-q)) a=An (-q):=by rw[hq,GF]
  rw[hu]
  rcases Int.lt_trichotomy q.num 0 with h | h | h
  ·rw[Int.sign_eq_neg_one_of_neg h] at hs
   have ht:=Su h
   have hal:1<=a.length:=by rw[hq,ht];simp
   have h11:((1:Int)).toNat=1:=rfl
   simp (disch:=(first | omega | (simp only[Ai];omega))) only[hs,h11,Aj]
   rw[hq,ht];rfl
  ·have hq0:q=0:=Rat.num_eq_zero.1 h
   have hz:a=[48]:=by rw[hq];exact Mp.2 hq0
   rw[h,Int.sign_zero] at hs
   simp (disch:=(first | omega | (simp only[Ai];omega))) only[hs,Be hz,Aj]
   rw[hz,hq0,Rat.neg_zero,txt_zero]
  ·rw[Int.sign_eq_one_of_pos h] at hs
   have ht:=Su (q:=-q) (by rw[Rat.neg_num];omega)
   rw[Rat.neg_neg] at ht
   have g:([45]:qBs).length+a.length<=A6:=by rw[DA];simp;omega
   simp (disch:=(first | omega | (simp only[Ai];omega))) only[hs,Ab g,Aj]
   rw[ht,hq];rfl
theorem AKO {f:Rat->Rat} {k:Nat} (hf:∀ q,D (f q)<=D q) {a:qBs} (ha:a.length<=k):(un (fun q=>An (f q)) a).length<=k+3:=by
 unfold un
 cases hr:rd a with
 |none=>simp
 |some q=>
  have hq:=DM hr
  have h1:=BH (f q)
  have h2:=hf q
  have h3:=Ik q
  rw[<-hq] at h3
  show (An (f q)).length<=k+3
  omega
theorem Qt {k:Nat} {a:qBs} (ha:a.length<=k):(un (fun q=>An (-q)) a).length<=k+3:=AKO (fun q=>by rw[QT];exact Nat.le_refl _) ha
theorem Xa {f:Rat->Rat->Rat} {k:Nat} (hf:∀ p q,D (f p q)<=2 * (D p+D q)+1) {a b:qBs} (ha:a.length<=k) (hb:b.length<=k):(Cr (fun p q=>An (f p q)) a b).length<=4 * k+8:=by
 unfold Cr
 cases hr:rd a with
 |none=>simp
 |some p=>
  cases hr2:rd b with
  |none=>simp
  |some q=>
   have h1:=BH (f p q)
   have h2:=hf p q
   have h3:=Ik p
   have h4:=Ik q
   rw[<-DM hr] at h3
   rw[<-DM hr2] at h4
   show (An (f p q)).length<=_
   omega
theorem Rw {a b:qBs} (ha:a.length<=2000000) (hb:b.length<=2000000):LH a b=some ((Cr (fun p q=>An (p - q)) a b,()),()):=by
 unfold LH
 rw[Ve (by omega),Ad]
 dsimp only
 rw[PS (by omega) (by have:=Qt hb;omega),Ad]
 congr 3
 unfold un
 cases hr:rd b with
 |none=>rw[JB OZ,JB hr]
 |some q=>
  have hq:=DM hr
  unfold Cr
  rw[Ct,hr]
  cases rd a with
  |none=>rfl
  |some p=>simp only[Rat.sub_eq_add_neg]
noncomputable def Dc (a b:qBs):Int:=
 match rd a,rd b with
 |some p,some q=>(p - q).num.sign
 |_,_=>0
theorem OR {a b:qBs} (ha:a.length<=2000000) (hb:b.length<=2000000):Db a b=some ((Dc a b,()),()):=by
 unfold Db
 have hl:=Xa (f:=fun p q=>p - q) (fun p q=>by rw[Rat.sub_eq_add_neg];have:=XI p (-q);rw[QT] at this;exact this) ha hb
 rw[Rw ha hb,Ad]
 dsimp only
 rw[N6 (by omega),Ad]
 congr 3
 unfold CH Dc Cr
 cases hr:rd a with
 |none=>simp only[OZ]
 |some p=>
  cases hr2:rd b with
  |none=>simp only[OZ]
  |some q=>simp only[Ct]
end Go.AM.Num
end
section
namespace Go.AM.Num
theorem LL (n:Int):An (n:Rat)=(if n < 0 then [45] else [])++dd n.natAbs:=by
 unfold An
 rw[Rat.num_intCast,Rat.den_intCast];simp
theorem AEH (n:Nat):An ((n:Int):Rat)=dd n:=by rw[LL,if_neg (by omega)];simp
theorem PM (neg:Bool) (m:Nat):tx neg m 1=An ((sg neg m:Int):Rat):=by
 rw[LL,DF]
 unfold tx
 simp only[Jz];simp
theorem OB {q:Rat} (h:q.den=1):q=((q.num:Int):Rat):=Rat.ext (by rw[Rat.num_intCast]) (by rw[Rat.den_intCast,h])
noncomputable def A2 (a:qBs):Bool:=match rd a with | some q=>q.den==1 | none=>false
theorem AMk (q:Rat):A2 (An q)=(q.den==1):=by unfold A2;rw[Ct]
theorem DV {a:qBs} (h:A2 a=true):∃ n:Int,a=An (n:Rat)/\rd a=some (n:Rat):=by
 unfold A2 at h
 cases hr:rd a with
 |none=>rw[hr] at h;cases h
 |some q=>
  rw[hr] at h
  have hd:q.den=1:=by simpa using h
  exact ⟨q.num,by rw[<-OB hd];exact DM hr,by rw[<-OB hd]⟩
theorem TQ (n:Int):A2 (An (n:Rat))=true:=by rw[AMk,Rat.den_intCast];rfl
theorem Hm {a:qBs} (ha:a.length<=10000000):CZ a=some ((A2 a,()),()):=by
 obtain ⟨neg,s,hcp,has,hs⟩:=QM a
 have hsl:s.length<=10000000:=by rw[has,qZ6] at ha;omega
 have hn:=BA s (by omega)
 unfold CZ
 by_cases hd:s=dd (dval s)
 ·have good:(neg=true->dval s≠0)->A2 a=true:=by
   intro h
   have:a=An ((sg neg (dval s):Int):Rat):=by
    have e:=KS (neg:=neg) (m:=dval s) (d:=1) h
    rw[if_pos rfl,qY4,<-hd] at e
    rw[has,e,PM]
   rw[this];exact TQ _
  by_cases h0:s=[48]
  ·cases neg with
   |true=>
    have hb:A2 a=false:=by
     cases hi:A2 a with
     |false=>rfl
     |true=>
      obtain ⟨n,hn1,_⟩:=DV hi
      obtain ⟨e1,e2⟩:=shape hs (has ▸ hn1)
      rw[Rat.den_intCast,if_pos rfl,qY4,Rat.num_intCast,h0,<-BC] at e2
      rw[Rat.num_intCast] at e1
      have:=of_decide_eq_true e1.symm
      have:=DR e2
      omega
    rw[hb]
    simp (disch:=(first | omega | (simp only[Ai];omega))) only[hcp,hn,Be hd,Be h0,Aj]
   |false=>
    rw[good (fun h=>by cases h)]
    simp (disch:=(first | omega | (simp only[Ai];omega))) only[hcp,hn,Be hd,Aj]
  ·have hm0:dval s≠0:=fun e=>h0 (by rw[hd,e,BC])
   rw[good (fun _=>hm0)]
   cases neg with
   |true=>simp (disch:=(first | omega | (simp only[Ai];omega))) only[hcp,hn,Be hd,A_ h0,Aj]
   |false=>simp (disch:=(first | omega | (simp only[Ai];omega))) only[hcp,hn,Be hd,Aj]
 ·have hb:A2 a=false:=by
   cases hi:A2 a with
   |false=>rfl
   |true=>
    obtain ⟨n,hn1,_⟩:=DV hi
    obtain ⟨e1,e2⟩:=shape hs (has ▸ hn1)
    rw[Rat.den_intCast,if_pos rfl,qY4] at e2
    exact absurd (by rw[e2,Ca]) hd
  rw[hb]
  simp (disch:=(first | omega | (simp only[Ai];omega))) only[hcp,hn,A_ hd,Aj]
theorem Ym {x Y Q R:Int} (hY:0 < Y) (h:R+Y * Q=x) (h0:0<=R) (h1:R < Y):x / Y=Q/\x % Y=R:=(Int.ediv_emod_unique hY).2 ⟨h,h0,h1⟩
theorem PN (n1 n2:Bool) (X Y:Nat) (hY:Y≠0) :
 (¬ (n1=true/\X % Y≠0)->sg n1 X / sg n2 Y=sg (n1 !=n2) (X / Y)/\sg n1 X % sg n2 Y=((X % Y:Nat):Int))/\
 ((n1=true/\X % Y≠0)->sg n1 X / sg n2 Y=sg (n1 !=n2) (X / Y+1)/\sg n1 X % sg n2 Y=((Y - X % Y:Nat):Int)):=by
 have hY0:(0:Int) < Y:=by omega
 have hdm:=Nat.div_add_mod X Y
 have hml:=Nat.mod_lt X (show 0 < Y by omega)
 obtain ⟨k,hk⟩:∃ k,k=X / Y:=⟨_,rfl⟩
 obtain ⟨r,hr⟩:∃ r,r=X % Y:=⟨_,rfl⟩
 rw[<-hk,<-hr] at hdm ⊢
 rw[<-hr] at hml
 have hX:(X:Int)=Y * k+r:=by rw[<-hdm];simp
 have pos:(¬ (n1=true/\r≠0)->sg n1 X / (Y:Int)=sg n1 k/\sg n1 X % (Y:Int)=((r:Nat):Int))/\
  ((n1=true/\r≠0)->sg n1 X / (Y:Int)=sg n1 (k+1)/\sg n1 X % (Y:Int)=((Y - r:Nat):Int)):=by
  constructor
  ·intro h
   apply Ym hY0 _ (by omega) (by omega)
   cases n1 with
   |false=>simp only[sg,Bool.false_eq_true,if_false];omega
   |true=>
    have:r=0:=by simpa using h
    subst this
    simp only[sg,if_true]
    rw[Int.mul_neg];omega
  ·rintro ⟨rfl,h⟩
   apply Ym hY0 _ (by omega) (by omega)
   simp only[sg,if_true]
   rw[Int.mul_neg,Int.natCast_add,Int.mul_add]
   omega
 cases n2 with
 |false=>
  have e:sg false Y=(Y:Int):=rfl
  rw[e]
  simpa using pos
 |true=>
  have e:sg true Y=-(Y:Int):=rfl
  rw[e,Int.ediv_neg,Int.emod_neg]
  have hns:∀ m,-sg n1 m=sg (n1 !=true) m:=by intro m;cases n1<;>simp[sg]
  constructor
  ·intro h
   obtain ⟨a1,a2⟩:=pos.1 h
   rw[a1,a2,hns];exact ⟨rfl,rfl⟩
  ·intro h
   obtain ⟨a1,a2⟩:=pos.2 h
   rw[a1,a2,hns];exact ⟨rfl,rfl⟩
theorem VG (x:Int):Dg (x:Rat)=(decide (x < 0),limbs x.natAbs,[1]):=by
 unfold Dg;rw[Rat.num_intCast,Rat.den_intCast,Ln]
theorem OM {neg:Bool} {m:Nat} (hm:(dd m).length<=100000000):Is (neg,limbs m,[1]) ((sg neg m:Int):Rat):=⟨neg,m,1,by rw[Ln],PM neg m,hm,by rw[C1];decide⟩
theorem AKc (x y:Int) (hy:y≠0) (hx:(dd x.natAbs).length<=10000000) (hyl:(dd y.natAbs).length<=10000000) :
 ∃ r1 r2,Ng (Dg (x:Rat)) (Dg (y:Rat))=some ((r1,r2,()),())/\Is r1 ((x / y:Int):Rat)/\Is r2 ((x % y:Int):Rat):=by
 obtain ⟨X,hX⟩:∃ X,X=x.natAbs:=⟨_,rfl⟩
 obtain ⟨Y,hY⟩:∃ Y,Y=y.natAbs:=⟨_,rfl⟩
 obtain ⟨n1,h1⟩:∃ n,n=decide (x < 0):=⟨_,rfl⟩
 obtain ⟨n2,h2⟩:∃ n,n=decide (y < 0):=⟨_,rfl⟩
 have ex:x=sg n1 X:=by rw[h1,hX];exact Iv x
 have ey:y=sg n2 Y:=by rw[h2,hY];exact Iv y
 rw[VG,VG,<-h1,<-h2,<-hX,<-hY]
 rw[<-hX] at hx
 rw[<-hY] at hyl
 have hY0:Y≠0:=by rw[hY];omega
 have L:=FE
 have hq:=Nn X Y (by have:=L X;omega) (by have:=L Y;omega) hY0
 have b1:=BL (Nat.div_le_self X Y)
 have b2:=BL (Nat.le_of_lt (Nat.mod_lt X (show 0 < Y by omega)))
 have b3:=BL (Nat.sub_le Y (X % Y))
 have b4:=I7 (X / Y) 1
 rw[C1] at b4
 have b5:([49]:qBs).length=1:=rfl
 obtain ⟨d1,d2⟩:=PN n1 n2 X Y hY0
 rw[<-ex,<-ey] at d1 d2
 have e3:(!(n1==n2))=(n1 !=n2):=rfl
 unfold Ng
 by_cases hc:n1=true/\X % Y≠0
 ·obtain ⟨q1,q2⟩:=d2 hc
  obtain ⟨rfl,hr⟩:=hc
  have hl:((limbs (X % Y)).length:Int) > 0:=by
   have:(limbs (X % Y)).length≠0:=fun e=>hr (limbs_nil.1 (List.eq_nil_of_length_eq_zero e))
   omega
  have ha:=Uk (X / Y) 1 (by have:=L (X / Y);omega) (by rw[Ln];decide)
  rw[Ln] at ha
  have hs:=Rg Y (X % Y) (by have:=L Y;omega) (Nat.le_of_lt (Nat.mod_lt X (by omega)))
  refine ⟨(true !=n2,limbs (X / Y+1),[1]),(false,limbs (Y - X % Y),[1]),?_,?_,?_⟩
  ·simp (disch:=(first | omega | (simp only[Ai];omega))) only[hq,As hl,ha,hs,Aj]
   rfl
  ·rw[q1];exact OM (by omega)
  ·rw[q2];exact OM (neg:=false) (by omega)
 ·obtain ⟨q1,q2⟩:=d1 hc
  refine ⟨(n1 !=n2,limbs (X / Y),[1]),(false,limbs (X % Y),[1]),?_,?_,?_⟩
  ·cases n1 with
   |false=>simp (disch:=(first | omega | (simp only[Ai];omega))) only[hq,Aj];rfl
   |true=>
    have hr:X % Y=0:=by simpa using hc
    have hl:¬ ((limbs (X % Y)).length:Int) > 0:=by rw[hr,limbs_zero];simp
    simp (disch:=(first | omega | (simp only[Ai];omega))) only[hq,Ax hl,Aj]
    rfl
  ·rw[q1];exact OM (by omega)
  ·rw[q2];exact OM (neg:=false) (by omega)
noncomputable def EZ (f:Int->Int->qBs):qBs->qBs->qBs:=Cr fun p q=>if p.den=1/\q.den=1 then f p.num q.num else []
theorem Fq (f:Int->Int->qBs) (x y:Int):EZ f (An (x:Rat)) (An (y:Rat))=f x y:=by
 unfold EZ;rw[Ds,if_pos ⟨Rat.den_intCast x,Rat.den_intCast y⟩,Rat.num_intCast,Rat.num_intCast]
theorem Jc {f:Int->Int->qBs} {a b:qBs} (h:A2 a=false):EZ f a b=[]:=by
 unfold EZ Cr A2 at *
 cases hr:rd a with
 |none=>rfl
 |some p=>
  rw[hr] at h
  have:p.den≠1:=by simpa using h
  cases rd b<;>simp[this]
theorem JR {f:Int->Int->qBs} {a b:qBs} (h:A2 b=false):EZ f a b=[]:=by
 unfold EZ Cr A2 at *
 cases hr:rd b with
 |none=>cases rd a<;>rfl
 |some p=>
  rw[hr] at h
  have:p.den≠1:=by simpa using h
  cases rd a<;>simp[this]
theorem Im {n:Int} {k:Nat} (h:(An (n:Rat)).length<=k):D (n:Rat)<=k+1/\(dd n.natAbs).length<=k:=by
 have h1:=Nc h
 have h2:=QQ n
 omega
theorem SX {a b:qBs} (ha:a.length<=3000000) (hb:b.length<=3000000) :
 Li a b=some ((EZ (fun x y=>if y=0 then [] else An ((x / y:Int):Rat)) a b,EZ (fun x y=>if y=0 then [] else An ((x % y:Int):Rat)) a b,()),()):=by
 have h1:=Hm (a:=a) (by omega)
 have h2:=Hm (a:=b) (by omega)
 unfold Li
 cases i1:A2 a with
 |false=>rw[i1] at h1;rw[Jc i1,Jc i1];simp (disch:=(first | omega | (simp only[Ai];omega))) only[h1,Aj]
 |true=>
  rw[i1] at h1
  cases i2:A2 b with
  |false=>rw[i2] at h2;rw[JR i2,JR i2];simp (disch:=(first | omega | (simp only[Ai];omega))) only[h1,h2,Aj]
  |true=>
   rw[i2] at h2
   obtain ⟨x,rfl,_⟩:=DV i1
   obtain ⟨y,rfl,_⟩:=DV i2
   rw[Fq,Fq]
   by_cases hy:y=0
   ·subst hy
    have hz:An ((0:Int):Rat)=[48]:=txt_zero
    rw[if_pos rfl,if_pos rfl]
    simp (disch:=(first | omega | (simp only[Ai];omega))) only[h1,h2,Be hz,Aj]
   ·have hz:An ((y:Int):Rat)≠[48]:=fun e=>hy (by have:=Mp.1 e;simpa using congrArg Rat.num this)
    obtain ⟨a1,a2⟩:=Im ha
    obtain ⟨a3,a4⟩:=Im hb
    obtain ⟨r1,r2,hr,g1,g2⟩:=AKc x y hy (by omega) (by omega)
    rw[if_neg hy,if_neg hy]
    simp (disch:=(first | omega | (simp only[Ai];omega))) only[h1,h2,A_ hz,Yb (x:Rat) (by omega),Yb (y:Rat) (by omega),hr,g1.text,g2.text,Aj]
noncomputable def Fc:qBs->qBs->qBs:=EZ fun x y=>if y=0 then [] else An ((x / y:Int):Rat)
noncomputable def H6:qBs->qBs->qBs:=EZ fun x y=>if y=0 then [] else An ((x % y:Int):Rat)
theorem AHx {a b:qBs} (ha:a.length<=3000000) (hb:b.length<=3000000):LC a b=some ((Fc a b,()),()):=by
 unfold LC;rw[SX ha hb];rfl
theorem AI0 {a b:qBs} (ha:a.length<=3000000) (hb:b.length<=3000000):Kn a b=some ((H6 a b,()),()):=by
 unfold Kn;rw[SX ha hb];rfl
theorem UM (q:Rat):D ((q.floor:Int):Rat)<=D q+1:=by
 rw[QQ,Rat.floor_def]
 have h1:(q.num / (q.den:Int)).natAbs<=q.num.natAbs:=by
  have hd:=q.den_nz
  rcases Int.lt_or_le q.num 0 with h | h
  ·have h2:q.num<=q.num / (q.den:Int):=by
    apply Int.le_ediv_of_mul_le (by omega)
    have:q.num * q.den<=q.num * 1:=Int.mul_le_mul_of_nonpos_left (by omega) (by omega)
    omega
   have h3:q.num / (q.den:Int)<=0:=by
    have:=Int.ediv_le_ediv (c:=(q.den:Int)) (by omega) (show q.num<=0 by omega)
    rw[Int.zero_ediv] at this
    omega
   omega
  ·have h2:=Int.ediv_le_self (q.den:Int) h
   have h3:=Int.ediv_nonneg h (show (0:Int)<=q.den by omega)
   omega
 have:=BL h1
 have:=DT q
 omega
def HR (q:Rat):Rat:=if q.num < 0 then -q else q
end Go.AM.Num
end
section
namespace Go.AM.Num
theorem Rp {n:Int}:(An (n:Rat)).length<=(dd n.natAbs).length+1:=by
 rw[LL]
 have h1:(if n < 0 then [(45:UInt8)] else []).length<=1:=by split<;>simp
 rw[qZ6];omega
theorem AME (n:Int):HR (n:Rat)=((n.natAbs:Int):Rat):=by
 unfold HR
 rw[Rat.num_intCast]
 split
 ·rw[<-Rat.intCast_neg];congr 1;omega
 ·congr 1;omega
def G6 (s:qBs):Prop:=s≠[]/\AS s
instance (s:qBs):Decidable (AS s):=by unfold AS FH;infer_instance
instance (s:qBs):Decidable (G6 s):=by unfold G6;infer_instance
inductive DecParts:qBs->Bool->qBs->Option qBs->Prop
 |mk {a s:qBs} {neg:Bool} (h:a=G_ neg++s) (hs:neg=false->∀ r,s≠45::r) {x:qBs} {y:Option qBs}
  (hxy:(y=none/\s=x/\(46:UInt8)∉s)\/(∃ z,y=some z/\s=x++46::z/\(46:UInt8)∉x)):DecParts a neg x y
end Go.AM.Num
end
section
namespace Go.AM.Num
theorem MC {s:qBs} (hl:s.length<=1000000000):EV s=some ((decide (G6 s),()),()):=by
 obtain ⟨r,hr,hq⟩:=BJ (step:=Hl) (Q:=fun r=>(AS s/\r=(Ex.exit 0,(s,false,(s.length:Int),())))\/(¬ AS s/\∃ i,r=(Ex.ret,(s,false,i,()))))
  (fun m x=>∃ k:Nat,m+k=s.length/\x=(s,false,(k:Int),())/\AS (s.take k)) (by
   rintro m x ⟨k,hm,rfl,hd⟩
   by_cases hk:k < s.length
   ·have hg:s.getD k 0=s[k]:=by rw[qZ4,qZ5 hk];rfl
    have e:(k:Int).toNat=k:=by omega
    have hmem:s[k]∈s:=List.getElem_mem hk
    by_cases h1:s[k].toNat < 48
    ·refine .inl ⟨_,?_,?_,.inr ⟨fun h=>?_,(k:Int),rfl⟩⟩
     ·simp (disch:=(first | omega | (simp only[Ai];omega))) only[Hl,e,hg,Aj]
     ·simp
     ·have:=(h _ hmem).1;omega
    ·by_cases h2:s[k].toNat > 57
     ·refine .inl ⟨_,?_,?_,.inr ⟨fun h=>?_,(k:Int),rfl⟩⟩
      ·simp (disch:=(first | omega | (simp only[Ai];omega))) only[Hl,e,hg,Aj]
      ·simp
      ·have:=(h _ hmem).2;omega
     ·refine .inr ⟨m - 1,_,?_,by omega,k+1,by omega,rfl,?_⟩
      ·simp (disch:=(first | omega | (simp only[Ai];omega))) only[Hl,e,hg,Aj]
       rfl
      ·rw[List.take_succ_eq_append_getElem hk]
       refine hd.app fun c hc=>?_
       rw[List.mem_singleton.1 hc]
       exact ⟨by omega,by omega⟩
   ·have hks:k=s.length:=by omega
    subst hks
    refine .inl ⟨_,?_,?_,.inl ⟨by simpa using hd,rfl⟩⟩
    ·simp (disch:=(first | omega | (simp only[Ai];omega))) only[Hl,Aj]
    ·simp) s.length (s,false,0,()) ⟨0,by omega,rfl,by simp[AS]⟩
 unfold EV
 rw[hr]
 rcases hq with ⟨hd,rfl⟩ | ⟨hd,i,rfl⟩
 ·simp (disch:=(first | omega | (simp only[Ai];omega))) only[Aj]
  by_cases h0:s=[]
  ·subst h0
   have:decide (G6 [])=false:=qZ9 (fun h=>h.1 rfl)
   rw[this];rfl
  ·rw[A_ h0,qZ10 (show G6 s from ⟨h0,hd⟩)];rfl
 ·simp (disch:=(first | omega | (simp only[Ai];omega))) only[Aj]
  rw[qZ9 (fun h=>hd h.2)]
theorem FP {s:qBs} (hd:AS s) (hne:s≠[]) (hl:s.length<=1000000000):Dm s=some ((dd (dval s),()),()):=by
 obtain ⟨r,hr,rfl⟩:=BJ (step:=Ja) (Q:=fun r=>r=(Ex.exit 0,(dd (dval s),())))
  (fun m x=>∃ t:qBs,x=(t,())/\m=t.length/\AS t/\t≠[]/\dval t=dval s/\t.length<=1000000000) (by
   rintro m x ⟨t,rfl,hm,h1,h2,h3,h4⟩
   cases t with
   |nil=>exact absurd rfl h2
   |cons c t=>
    have h00:((0:Int)).toNat=0:=rfl
    have h11:((1:Int)).toNat=1:=rfl
    have hg:(c::t:qBs).getD 0 0=c:=rfl
    have hlen:(c::t).length=t.length+1:=rfl
    by_cases ht:t=[]
    ·subst ht
     refine .inl ⟨(Ex.exit 0,([c],())),?_,by simp,?_⟩
     ·simp only[Ja]
      rw[Ax (by simp)]
     ·rw[<-h3,<-Og h1 h2 (by
       by_cases hc:c=48
       ·left;rw[hc]
       ·right;simpa using hc)]
    ·have hpos:0 < t.length:=List.length_pos_iff.2 ht
     by_cases hc:c=48
     ·subst hc
      refine .inr ⟨t.length,(t,()),?_,by omega,t,rfl,rfl,fun x hx=>h1 x (by simp[hx]),ht,?_,by omega⟩
      ·have h48:(((48:UInt8).toNat:Nat):Int)=48:=rfl
       simp only[Ja]
       rw[As,Ak,Ab,Ab,h00,hg,h48]
       rw[Aq rfl,Ak,Ab,Ab,h11];rfl
      ·rw[<-h3,FB];simp[dig]
     ·refine .inl ⟨(Ex.exit 0,(c::t,())),?_,by simp,?_⟩
      ·have hne':((c.toNat:Nat):Int)≠48:=fun e=>hc (UInt8.toNat_inj.1 (by show c.toNat=48;omega))
       simp only[Ja]
       rw[As,Ak,Ab,Ab,h00,hg,Ag hne']
      ·rw[<-h3,<-Og h1 h2 (.inr (by simpa using hc))]) s.length (s,()) ⟨s,rfl,rfl,hd,hne,rfl,hl⟩
 unfold Dm
 rw[hr]
 simp (disch:=(first | omega | (simp only[Ai];omega))) only[Aj]
theorem ZF {a b:qBs} (ha:AS a) (hb:AS b) (hl:a.length=b.length):Gc a b=decide (dval a < dval b):=by
 unfold Gc
 induction a generalizing b with
 |nil=>
  cases b with
  |nil=>simp[Op.bytesLess,dval]
  |cons c b=>simp at hl
 |cons x a ih=>
  cases b with
  |nil=>simp at hl
  |cons y b=>
   have hx:=ha x (by simp)
   have hy:=hb y (by simp)
   have hA:AS a:=fun c hc=>ha c (by simp[hc])
   have hB:AS b:=fun c hc=>hb c (by simp[hc])
   have hl':a.length=b.length:=by simpa using hl
   have la:=E6 hA
   have lb:=E6 hB
   rw[FB,FB,hl']
   rw[hl'] at la
   have ih':=ih hA hB hl'
   have hdx:dig x=x.toNat - 48:=rfl
   have hdy:dig y=y.toNat - 48:=rfl
   have:=hx.1
   have:=hy.1
   rcases Nat.lt_trichotomy x.toNat y.toNat with h | h | h
   ·have h1:(dig x+1) * 10 ^ b.length<=dig y * 10 ^ b.length:=Nat.mul_le_mul_right _ (by omega)
    rw[Nat.add_mul] at h1
    rw[qZ10 (by omega)]
    unfold Op.bytesLess
    have:x < y:=UInt8.lt_iff_toNat_lt.2 h
    simp[this]
   ·have hxy:x=y:=UInt8.toNat_inj.1 h
    subst hxy
    unfold Op.bytesLess
    have h1:¬ x < x:=fun e=>Nat.lt_irrefl _ (UInt8.lt_iff_toNat_lt.1 e)
    simp only[h1,if_false]
    rw[ih']
    simp
   ·have h1:(dig y+1) * 10 ^ b.length<=dig x * 10 ^ b.length:=Nat.mul_le_mul_right _ (by omega)
    rw[Nat.add_mul] at h1
    rw[qZ9 (by omega)]
    unfold Op.bytesLess
    have h2:¬ x < y:=fun e=>by have:=UInt8.lt_iff_toNat_lt.1 e;omega
    have h3:x≠y:=fun e=>by rw[e] at h;omega
    simp[h2,h3]
theorem YO (m n:Nat):∃ c,Kx (dd m) (dd n)=some ((c,()),())/\(c < 0 ↔ m < n)/\(c=0 ↔ m=n):=by
 unfold Kx
 rcases Nat.lt_trichotomy (dd m).length (dd n).length with h | h | h
 ·have hlt:m < n:=by
   rcases Nat.lt_or_ge m n with h' | h'
   ·exact h'
   ·have:=BL h';omega
  refine ⟨-1,?_,by omega,by omega⟩
  simp (disch:=(first | omega | (simp only[Ai];omega))) only[Aj]
 ·have hs:=ZF (B8 m) (B8 n) h
  rw[Ca,Ca] at hs
  rcases Nat.lt_trichotomy m n with h' | h' | h'
  ·refine ⟨-1,?_,by omega,by omega⟩
   simp (disch:=(first | omega | (simp only[Ai];omega))) only[hs,qZ10 h',Aj]
  ·subst h'
   refine ⟨0,?_,by omega,by omega⟩
   simp (disch:=(first | omega | (simp only[Ai];omega))) only[hs,qZ9 (Nat.lt_irrefl m),Be rfl,Aj]
  ·refine ⟨1,?_,by omega,by omega⟩
   have hne:dd m≠dd n:=fun e=>by have:=DR e;omega
   simp (disch:=(first | omega | (simp only[Ai];omega))) only[hs,qZ9 (show ¬ m < n by omega),A_ hne,Aj]
 ·have hlt:n < m:=by
   rcases Nat.lt_or_ge n m with h' | h'
   ·exact h'
   ·have:=BL h';omega
  have hne:dd m≠dd n:=fun e=>by have:=DR e;omega
  refine ⟨1,?_,by omega,by omega⟩
  simp (disch:=(first | omega | (simp only[Ai];omega))) only[A_ hne,Aj]
def sfx (a:qBs) (i:Nat):Nat:=dval (a.drop (a.length - i))
theorem OV (a:qBs):sfx a 0=0:=by unfold sfx;rw[Nat.sub_zero,List.drop_length];rfl
theorem D9 {a:qBs} {i:Nat} (h:a.length<=i):sfx a i=dval a:=by unfold sfx;rw[Nat.sub_eq_zero_of_le h,List.drop_zero]
theorem LS {a:qBs} {i:Nat} (h:i < a.length):sfx a (i+1)=dig (a[a.length - 1 - i]'(by omega)) * 10 ^ i+sfx a i:=by
 unfold sfx
 rw[show a.length - (i+1)=a.length - 1 - i by omega,qY6 (by omega),FB,List.length_drop,show a.length - 1 - i+1=a.length - i by omega,show a.length - (a.length - i)=i by omega]
theorem RO {α:Type} {l:List α} {i:Nat} (h:i < l.length) (c:α):(l.set i c).drop i=c::l.drop (i+1):=by
 rw[qY6 (by simpa using h),List.getElem_set_self,List.drop_set_of_lt (by omega)]
def Cl (s:qBs):List Int:=s.map fun b=>(b.toNat:Int)
theorem M' (s:qBs):(Cl s).map (fun n=>UInt8.ofNat n.toNat)=s:=by
 unfold Cl
 rw[List.map_map]
 conv=>rhs;rw[<-List.map_id s]
 apply List.map_congr_left
 intro b _
 simp
theorem MX {k:Int} (h:0<=k/\k < 10):∃ c:UInt8,(c.toNat:Int)=48+k/\FH c/\(dig c:Int)=k:=by
 obtain ⟨n,rfl⟩:∃ n:Nat,k=n:=⟨k.toNat,by omega⟩
 obtain ⟨h1,h2⟩:=dig_of (k:=n) (by omega)
 refine ⟨UInt8.ofNat (48+n),?_,h2,by rw[h1]⟩
 have h3:=h2.1
 have h4:dig (UInt8.ofNat (48+n))=(UInt8.ofNat (48+n)).toNat - 48:=rfl
 omega
theorem AS.cons {c:UInt8} {s:qBs} (h:FH c) (hs:AS s):AS (c::s):=fun x hx=>(List.mem_cons.1 hx).elim (fun e=>e ▸ h) (hs x)
theorem Gj {s:qBs} {k:Nat} (h:k < s.length):s.getD k 0=s[k]:=by rw[qZ4,qZ5 h];rfl
set_option maxHeartbeats 2000000 in
theorem YD (m n:Nat) (hm:(dd m).length<=100000000) (hn:(dd n).length<=100000000):Kv (dd m) (dd n)=some ((dd (m+n),()),()):=by
 obtain ⟨a,ha⟩:∃ a,a=dd m:=⟨_,rfl⟩
 obtain ⟨b,hb⟩:∃ b,b=dd n:=⟨_,rfl⟩
 have hda:AS a:=ha ▸ B8 m
 have hdb:AS b:=hb ▸ B8 n
 rw[<-ha,<-hb]
 rw[<-ha] at hm
 rw[<-hb] at hn
 obtain ⟨N,hN⟩:∃ N,N=max a.length b.length+1:=⟨_,rfl⟩
 have hmx:=X7 a.length b.length
 have hw:qI (BS (a.length:Int) (b.length:Int)+1)=(N:Int):=by rw[hmx,Aw];omega
 obtain ⟨r,hr,s,rfl,h1,h2,h3⟩:=BJ (step:=E_) (Q:=fun r=>∃ s:qBs,r=(Ex.exit 0,(a,b,(N:Int),Cl s,0,(N:Int),()))/\AS s/\s.length=N/\dval s=dval a+dval b)
  (fun k x=>∃ (i:Nat) (out:List Int) (c:Int) (s:qBs),x=(a,b,(N:Int),out,c,(i:Int),())/\k+i=N/\out.length=N/\(0<=c/\c<=1)/\out.drop (N - i)=Cl s/\AS s/\s.length=i/\(dval s:Int)+c * 10 ^ i=(sfx a i:Int)+sfx b i) (by
   rintro k x ⟨i,out,c,s,rfl,hk,hol,hc,hds,hs,hsl,hv⟩
   by_cases hi:i < N
   ·have hix:((N:Int) - 1 - i).toNat=N - 1 - i:=by omega
    have hax:((a.length:Int) - 1 - i).toNat=a.length - 1 - i:=by omega
    have hbx:((b.length:Int) - 1 - i).toNat=b.length - 1 - i:=by omega
    have go:∀ v:Int,(0<=v/\v < 20)->(v * 10 ^ i+((sfx a i:Int)+sfx b i)=c * 10 ^ i+((sfx a (i+1):Int)+sfx b (i+1)))->
     E_ (a,b,(N:Int),out,c,(i:Int),())=some (Ex.normal,(a,b,(N:Int),out.set (N - 1 - i) (48+v % 10),v / 10,(i:Int)+1,()))->
     ∃ m y,E_ (a,b,(N:Int),out,c,(i:Int),())=some (Ex.normal,y)/\m < k/\∃ (i:Nat) (out:List Int) (c:Int) (s:qBs),y=(a,b,(N:Int),out,c,(i:Int),())/\m+i=N/\out.length=N/\(0<=c/\c<=1)/\out.drop (N - i)=Cl s/\AS s/\s.length=i/\(dval s:Int)+c * 10 ^ i=(sfx a i:Int)+sfx b i:=by
     intro v hv1 hv2 hst
     obtain ⟨d,hd1,hd2,hd3⟩:=MX (k:=v % 10) (by omega)
     refine ⟨k - 1,_,hst,by omega,i+1,_,_,d::s,rfl,by omega,by simpa using hol,by omega,?_,hs.cons hd2,by simp[hsl],?_⟩
     ·rw[show N - (i+1)=N - 1 - i by omega,RO (by omega),show N - 1 - i+1=N - i by omega,hds,<-hd1];rfl
     ·rw[FB,hsl,Int.natCast_add,Int.natCast_mul,hd3,Int.pow_succ]
      have:=Int.emod_add_mul_ediv v 10
      push_cast
      grind
    by_cases hia:i < a.length
    ·have hga:=Gj (s:=a) (k:=a.length - 1 - i) (by omega)
     have hdA:=hda (a[a.length - 1 - i]'(by omega)) (List.getElem_mem _)
     have hsa:=LS hia
     obtain ⟨A,hA⟩:∃ A,A=a[a.length - 1 - i]'(by omega):=⟨_,rfl⟩
     rw[<-hA] at hga hdA hsa
     have hA1:=hdA.1
     have hA2:=hdA.2
     have hAd:(dig A:Int)=(A.toNat:Int) - 48:=by unfold dig;omega
     by_cases hib:i < b.length
     ·have hgb:=Gj (s:=b) (k:=b.length - 1 - i) (by omega)
      have hdB:=hdb (b[b.length - 1 - i]'(by omega)) (List.getElem_mem _)
      have hsb:=LS hib
      obtain ⟨B,hB⟩:∃ B,B=b[b.length - 1 - i]'(by omega):=⟨_,rfl⟩
      rw[<-hB] at hgb hdB hsb
      have hB1:=hdB.1
      have hB2:=hdB.2
      have hBd:(dig B:Int)=(B.toNat:Int) - 48:=by unfold dig;omega
      refine .inr (go (c+((A.toNat:Int) - 48)+((B.toNat:Int) - 48)) (by omega) (by rw[hsa,hsb];push_cast;rw[hAd,hBd];grind) ?_)
      simp (disch:=(first | omega | (simp only[Ai];omega))) only[E_,hix,hax,hbx,hga,hgb,Aj]
     ·have hsb:sfx b (i+1)=sfx b i:=by rw[D9 (by omega),D9 (by omega)]
      refine .inr (go (c+((A.toNat:Int) - 48)) (by omega) (by rw[hsa,hsb];push_cast;rw[hAd];grind) ?_)
      simp (disch:=(first | omega | (simp only[Ai];omega))) only[E_,hix,hax,hga,Aj]
    ·have hsa:sfx a (i+1)=sfx a i:=by rw[D9 (by omega),D9 (by omega)]
     by_cases hib:i < b.length
     ·have hgb:=Gj (s:=b) (k:=b.length - 1 - i) (by omega)
      have hdB:=hdb (b[b.length - 1 - i]'(by omega)) (List.getElem_mem _)
      have hsb:=LS hib
      obtain ⟨B,hB⟩:∃ B,B=b[b.length - 1 - i]'(by omega):=⟨_,rfl⟩
      rw[<-hB] at hgb hdB hsb
      have hB1:=hdB.1
      have hB2:=hdB.2
      have hBd:(dig B:Int)=(B.toNat:Int) - 48:=by unfold dig;omega
      refine .inr (go (c+((B.toNat:Int) - 48)) (by omega) (by rw[hsa,hsb];push_cast;rw[hBd];grind) ?_)
      simp (disch:=(first | omega | (simp only[Ai];omega))) only[E_,hix,hbx,hgb,Aj]
     ·have hsb:sfx b (i+1)=sfx b i:=by rw[D9 (by omega),D9 (by omega)]
      refine .inr (go c (by omega) (by rw[hsa,hsb]) ?_)
      simp (disch:=(first | omega | (simp only[Ai];omega))) only[E_,hix,Aj]
   ·have hiN:i=N:=by omega
    subst hiN
    rw[Nat.sub_self,List.drop_zero] at hds
    rw[D9 (by omega),D9 (by omega)] at hv
    have hla:=E6 hda
    have hlb:=E6 hdb
    have hp1:10 ^ a.length<=10 ^ (max a.length b.length):=Nat.pow_le_pow_right (by decide) (by omega)
    have hp2:10 ^ b.length<=10 ^ (max a.length b.length):=Nat.pow_le_pow_right (by decide) (by omega)
    have hpN:10 ^ i=10 * 10 ^ (max a.length b.length):=by rw[hN,Nat.pow_succ,Nat.mul_comm]
    have hc0:c=0:=by
     rcases (show c=0\/c=1 by omega) with h | h
     ·exact h
     ·exfalso
      rw[h,show ((10:Int) ^ i)=((10 ^ i:Nat):Int) by push_cast;rfl] at hv
      omega
    subst hc0
    refine .inl ⟨(Ex.exit 0,(a,b,(i:Int),Cl s,0,(i:Int),())),?_,by simp,s,rfl,hs,hsl,by omega⟩
    rw[<-hds]
    simp (disch:=(first | omega | (simp only[Ai];omega))) only[E_,Aj]) N (a,b,(N:Int),List.replicate ((N:Int)).toNat 0,0,0,()) ⟨0,_,0,[],rfl,by omega,by simp,by omega,by simp[Cl],by simp[AS],rfl,by rw[OV,OV];simp[dval]⟩
 have ht:=FP h1 (fun e=>by rw[e] at h2;simp at h2;omega) (by omega)
 rw[h3] at ht
 have hva:dval a=m:=by rw[ha,Ca]
 have hvb:dval b=n:=by rw[hb,Ca]
 rw[hva,hvb] at ht
 unfold Kv
 simp only[hw]
 rw[hr]
 simp (disch:=(first | omega | (simp only[Ai];omega))) only[M',ht,Aj]
end Go.AM.Num
end
section
namespace Go.AM.Num
set_option maxHeartbeats 2000000 in
theorem RU (m n:Nat) (hm:(dd m).length<=100000000) (hle:n<=m):Jo (dd m) (dd n)=some ((dd (m - n),()),()):=by
 obtain ⟨a,ha⟩:∃ a,a=dd m:=⟨_,rfl⟩
 obtain ⟨b,hb⟩:∃ b,b=dd n:=⟨_,rfl⟩
 have hda:AS a:=ha ▸ B8 m
 have hdb:AS b:=hb ▸ B8 n
 have hbl:b.length<=a.length:=by rw[ha,hb];exact BL hle
 have hane:a≠[]:=ha ▸ EN m
 rw[<-ha,<-hb]
 rw[<-ha] at hm
 have hva:dval a=m:=by rw[ha,Ca]
 have hvb:dval b=n:=by rw[hb,Ca]
 obtain ⟨N,hN⟩:∃ N,N=a.length:=⟨_,rfl⟩
 obtain ⟨r,hr,s,rfl,h1,h2,h3⟩:=BJ (step:=Fg) (Q:=fun r=>∃ s:qBs,r=(Ex.exit 0,(a,b,Cl s,0,(N:Int),()))/\AS s/\s.length=N/\dval s=m - n)
  (fun k x=>∃ (i:Nat) (out:List Int) (c:Int) (s:qBs),x=(a,b,out,c,(i:Int),())/\k+i=N/\out.length=N/\(0<=c/\c<=1)/\out.drop (N - i)=Cl s/\AS s/\s.length=i/\(dval s:Int)+sfx b i=(sfx a i:Int)+c * 10 ^ i) (by
   rintro k x ⟨i,out,c,s,rfl,hk,hol,hc,hds,hs,hsl,hv⟩
   by_cases hi:i < N
   ·have hax:((a.length:Int) - 1 - i).toNat=a.length - 1 - i:=by omega
    have hbx:((b.length:Int) - 1 - i).toNat=b.length - 1 - i:=by omega
    have go:∀ v c':Int,(0<=v/\v < 10)->(0<=c'/\c'<=1)->((sfx a (i+1):Int)+c' * (10 ^ i * 10) - sfx b (i+1)=v * 10 ^ i+((sfx a i:Int)+c * 10 ^ i - sfx b i))->
     Fg (a,b,out,c,(i:Int),())=some (Ex.normal,(a,b,out.set (a.length - 1 - i) (48+v),c',(i:Int)+1,()))->
     ∃ m y,Fg (a,b,out,c,(i:Int),())=some (Ex.normal,y)/\m < k/\∃ (i:Nat) (out:List Int) (c:Int) (s:qBs),y=(a,b,out,c,(i:Int),())/\m+i=N/\out.length=N/\(0<=c/\c<=1)/\out.drop (N - i)=Cl s/\AS s/\s.length=i/\(dval s:Int)+sfx b i=(sfx a i:Int)+c * 10 ^ i:=by
     intro v c' hv1 hc' hv2 hst
     obtain ⟨d,hd1,hd2,hd3⟩:=MX (k:=v) (by omega)
     refine ⟨k - 1,_,hst,by omega,i+1,_,_,d::s,rfl,by omega,by simpa using hol,by omega,?_,hs.cons hd2,by simp[hsl],?_⟩
     ·rw[show N - (i+1)=a.length - 1 - i by omega,RO (by omega),show a.length - 1 - i+1=N - i by omega,hds,<-hd1];rfl
     ·rw[FB,hsl,Int.natCast_add,Int.natCast_mul,hd3,Int.pow_succ]
      push_cast
      grind
    have hia:i < a.length:=by omega
    have hga:=Gj (s:=a) (k:=a.length - 1 - i) (by omega)
    have hdA:=hda (a[a.length - 1 - i]'(by omega)) (List.getElem_mem _)
    have hsa:=LS hia
    obtain ⟨A,hA⟩:∃ A,A=a[a.length - 1 - i]'(by omega):=⟨_,rfl⟩
    rw[<-hA] at hga hdA hsa
    have hA1:=hdA.1
    have hA2:=hdA.2
    have hAd:(dig A:Int)=(A.toNat:Int) - 48:=by unfold dig;omega
    by_cases hib:i < b.length
    ·have hgb:=Gj (s:=b) (k:=b.length - 1 - i) (by omega)
     have hdB:=hdb (b[b.length - 1 - i]'(by omega)) (List.getElem_mem _)
     have hsb:=LS hib
     obtain ⟨B,hB⟩:∃ B,B=b[b.length - 1 - i]'(by omega):=⟨_,rfl⟩
     rw[<-hB] at hgb hdB hsb
     have hB1:=hdB.1
     have hB2:=hdB.2
     have hBd:(dig B:Int)=(B.toNat:Int) - 48:=by unfold dig;omega
     by_cases hneg:(A.toNat:Int) - 48 - c - ((B.toNat:Int) - 48) < 0
     ·refine .inr (go ((A.toNat:Int) - 48 - c - ((B.toNat:Int) - 48)+10) 1 (by omega) (by omega) (by rw[hsa,hsb];push_cast;rw[hAd,hBd];grind) ?_)
      simp (disch:=(first | omega | (simp only[Ai];omega))) only[Fg,hax,hbx,hga,hgb,Aj]
     ·refine .inr (go ((A.toNat:Int) - 48 - c - ((B.toNat:Int) - 48)) 0 (by omega) (by omega) (by rw[hsa,hsb];push_cast;rw[hAd,hBd];grind) ?_)
      simp (disch:=(first | omega | (simp only[Ai];omega))) only[Fg,hax,hbx,hga,hgb,Aj]
    ·have hsb:sfx b (i+1)=sfx b i:=by rw[D9 (by omega),D9 (by omega)]
     by_cases hneg:(A.toNat:Int) - 48 - c < 0
     ·refine .inr (go ((A.toNat:Int) - 48 - c+10) 1 (by omega) (by omega) (by rw[hsa,hsb];push_cast;rw[hAd];grind) ?_)
      simp (disch:=(first | omega | (simp only[Ai];omega))) only[Fg,hax,hga,Aj]
     ·refine .inr (go ((A.toNat:Int) - 48 - c) 0 (by omega) (by omega) (by rw[hsa,hsb];push_cast;rw[hAd];grind) ?_)
      simp (disch:=(first | omega | (simp only[Ai];omega))) only[Fg,hax,hga,Aj]
   ·have hiN:i=N:=by omega
    subst hiN
    rw[Nat.sub_self,List.drop_zero] at hds
    rw[D9 (by omega),D9 (by omega),hva,hvb] at hv
    have hls:=E6 hs
    rw[hsl] at hls
    have hc0:c=0:=by
     rcases (show c=0\/c=1 by omega) with h | h
     ·exact h
     ·exfalso
      rw[h,show ((10:Int) ^ i)=((10 ^ i:Nat):Int) by push_cast;rfl] at hv
      omega
    subst hc0
    refine .inl ⟨(Ex.exit 0,(a,b,Cl s,0,(i:Int),())),?_,by simp,s,rfl,hs,hsl,by omega⟩
    rw[<-hds]
    simp (disch:=(first | omega | (simp only[Ai];omega))) only[Fg,Aj]) N (a,b,List.replicate ((a.length:Int)).toNat 0,0,0,()) ⟨0,_,0,[],rfl,by omega,by simp;omega,by omega,by simp[Cl];omega,by simp[AS],rfl,by rw[OV,OV];simp[dval]⟩
 have hapos:0 < a.length:=List.length_pos_iff.2 hane
 have ht:=FP h1 (fun e=>by rw[e] at h2;simp at h2;omega) (by omega)
 rw[h3] at ht
 unfold Jo
 rw[hr]
 simp (disch:=(first | omega | (simp only[Ai];omega))) only[M',ht,Aj]
def iv (l:List Int):Int:=l.foldl (fun v x=>10 * v+x) 0
theorem AJL (l:List Int) (v:Int):l.foldl (fun v x=>10 * v+x) v=v * 10 ^ l.length+iv l:=by
 induction l generalizing v with
 |nil=>simp[iv]
 |cons c s ih=>
  simp only[List.foldl_cons,iv,qY11,Int.pow_succ]
  rw[ih (10 * v+c),ih (10 * 0+c)]
  grind
theorem ND (x:Int) (l:List Int):iv (x::l)=x * 10 ^ l.length+iv l:=by
 show (x::l).foldl (fun v x=>10 * v+x) 0=_
 rw[List.foldl_cons,AJL];simp
theorem ACv {l:List Int} {k:Nat} (h:k < l.length) (x:Int):iv (l.set k x)=iv l+(x - l.getD k 0) * 10 ^ (l.length - 1 - k):=by
 induction l generalizing k with
 |nil=>simp at h
 |cons y l ih=>
  cases k with
  |zero=>
   simp only[List.set_cons_zero,ND,qZ3,qY11]
   rw[show l.length+1 - 1 - 0=l.length by omega]
   grind
  |succ k=>
   simp only[List.set_cons_succ,ND,qZ2,qY11,List.length_set]
   rw[ih (by simpa using h),show l.length+1 - 1 - (k+1)=l.length - 1 - k by omega]
   omega
theorem iv_zeros (n:Nat):iv (List.replicate n 0)=0:=by
 induction n with
 |zero=>rfl
 |succ n ih=>rw[List.replicate_succ,ND,ih];simp
def pfx (a:qBs) (i:Nat):Nat:=dval (a.take i)
theorem Q8 {a:qBs} {i:Nat} (h:i < a.length):pfx a (i+1)=10 * pfx a i+dig a[i]:=by
 unfold pfx
 rw[List.take_succ_eq_append_getElem h,FJ]
def Bd (l:List Int) (B:Int):Prop:=∀ x∈l,0<=x/\x<=B
theorem Bd.at {l:List Int} {B:Int} (h:Bd l B) (hB:0<=B) (k:Nat):0<=l.getD k 0/\l.getD k 0<=B:=by
 by_cases hk:k < l.length
 ·rw[Jj hk];exact h _ (List.getElem_mem hk)
 ·rw[N3 (by omega)];omega
theorem Bd.set {l:List Int} {B B':Int} (h:Bd l B) (hB:B<=B') {k:Nat} {x:Int} (hx:0<=x/\x<=B'):Bd (l.set k x) B':=by
 intro y hy
 rcases List.mem_or_eq_of_mem_set hy with hy | rfl
 ·have:=h y hy;omega
 ·exact hx
theorem AC8 {a b:qBs} {out0:List Int} {i:Nat} {B:Int} (hda:AS a) (hdb:AS b) (hi:i < a.length) (hol:out0.length=a.length+b.length) (hbl:b.length<=100000000) (hal:a.length<=100000000)
 (hB:0<=B/\B<=1000000000000000000) (hb0:Bd out0 B) :
 ∃ out,Am Jk (a,b,out0,(i:Int),0,())=some (Ex.exit 2,(a,b,out,(i:Int),(b.length:Int),()))/\out.length=out0.length/\Bd out (B+81 * b.length)/\
  iv out=iv out0+(dig a[i]:Int) * 10 ^ (a.length - 1 - i) * dval b:=by
 have hA:=hda a[i] (List.getElem_mem hi)
 obtain ⟨A,hAe⟩:∃ A,A=a[i]:=⟨_,rfl⟩
 rw[<-hAe] at hA ⊢
 have hga:a.getD i 0=A:=by rw[Gj hi,hAe]
 have hA1:=hA.1
 have hA2:=hA.2
 have hAd:(dig A:Int)=(A.toNat:Int) - 48:=by unfold dig;omega
 obtain ⟨r,hr,out,rfl,h1,h2,h3⟩:=BJ (step:=Jk) (Q:=fun r=>∃ out,r=(Ex.exit 2,(a,b,out,(i:Int),(b.length:Int),()))/\out.length=out0.length/\Bd out (B+81 * b.length)/\
  iv out=iv out0+(dig A:Int) * 10 ^ (a.length - 1 - i) * dval b)
  (fun k x=>∃ (j:Nat) (out:List Int),k+j=b.length/\x=(a,b,out,(i:Int),(j:Int),())/\out.length=out0.length/\Bd out (B+81 * j)/\
   iv out=iv out0+(dig A:Int) * 10 ^ (a.length - 1 - i) * ((pfx b j:Int) * 10 ^ (b.length - j))) (by
   rintro k x ⟨j,out,hk,rfl,h1,h2,h3⟩
   by_cases hj:j < b.length
   ·have hgb:=Gj hj
    have hBd:=hdb b[j] (List.getElem_mem hj)
    have hp:=Q8 hj
    obtain ⟨C,hC⟩:∃ C,C=b[j]:=⟨_,rfl⟩
    rw[<-hC] at hgb hBd hp
    have hC1:=hBd.1
    have hC2:=hBd.2
    have hCd:(dig C:Int)=(C.toNat:Int) - 48:=by unfold dig;omega
    have e1:(i:Int).toNat=i:=by omega
    have e2:(j:Int).toNat=j:=by omega
    have e3:((i:Int)+j+1).toNat=i+j+1:=by omega
    have hz:=h2.at (by omega) (i+j+1)
    obtain ⟨P,hP⟩:∃ P,P=((A.toNat:Int) - 48) * ((C.toNat:Int) - 48):=⟨_,rfl⟩
    have hP0:0<=P:=by rw[hP];exact Int.mul_nonneg (by omega) (by omega)
    have hP1:P<=81:=by
     rw[hP]
     have:((A.toNat:Int) - 48) * ((C.toNat:Int) - 48)<=9 * ((C.toNat:Int) - 48):=Int.mul_le_mul_of_nonneg_right (by omega) (by omega)
     omega
    refine .inr ⟨k - 1,(a,b,out.set (i+j+1) (out.getD (i+j+1) 0+P),(i:Int),((j+1:Nat):Int),()),?_,by omega,j+1,_,by omega,rfl,by simpa using h1,h2.set (by omega) (by omega),?_⟩
    ·rw[hP]
     rw[hP] at hP0 hP1
     simp (disch:=(first | omega | (simp only[Ai];omega))) only[Jk,e1,e2,e3,hga,hgb,Aj]
     rfl
    ·rw[ACv (by omega),h3,hp]
     have ex:out.length - 1 - (i+j+1)=(a.length - 1 - i)+(b.length - (j+1)):=by omega
     have ey:b.length - j=(b.length - (j+1))+1:=by omega
     rw[ex,ey,Int.pow_add,Int.pow_succ,hP,<-hAd,<-hCd]
     push_cast
     grind
   ·have hjb:j=b.length:=by omega
    subst hjb
    refine .inl ⟨(Ex.exit 2,(a,b,out,(i:Int),(b.length:Int),())),?_,by simp,out,rfl,h1,h2,?_⟩
    ·simp (disch:=(first | omega | (simp only[Ai];omega))) only[Jk,Aj]
    ·rw[h3];unfold pfx;rw[List.take_length,Nat.sub_self];simp) b.length _ ⟨0,out0,by omega,rfl,rfl,by simpa using hb0,by unfold pfx;simp[dval]⟩
 exact ⟨out,hr,h1,h2,h3⟩
set_option maxHeartbeats 1000000 in
theorem HA (m n:Nat) (hm:(dd m).length<=10000000) (hn:(dd n).length<=10000000):E4 (dd m) (dd n)=some ((dd (m * n),()),()):=by
 obtain ⟨a,ha⟩:∃ a,a=dd m:=⟨_,rfl⟩
 obtain ⟨b,hb⟩:∃ b,b=dd n:=⟨_,rfl⟩
 have hda:AS a:=ha ▸ B8 m
 have hdb:AS b:=hb ▸ B8 n
 have hapos:0 < a.length:=by rw[ha];exact JH m
 rw[<-ha,<-hb]
 rw[<-ha] at hm
 rw[<-hb] at hn
 have hva:dval a=m:=by rw[ha,Ca]
 have hvb:dval b=n:=by rw[hb,Ca]
 obtain ⟨r,hr,out,rfl,h1,h2,h3⟩:=BJ (step:=Kk) (Q:=fun r=>∃ out,r=(Ex.exit 0,(a,b,out,(a.length:Int),()))/\out.length=a.length+b.length/\Bd out (81 * 100000000000000)/\iv out=(dval a:Int) * dval b)
  (fun k x=>∃ (i:Nat) (out:List Int),k+i=a.length/\x=(a,b,out,(i:Int),())/\out.length=a.length+b.length/\Bd out (81 * ((i * b.length:Nat):Int))/\iv out=(pfx a i:Int) * 10 ^ (a.length - i) * dval b) (by
   rintro k x ⟨i,out,hk,rfl,h1,h2,h3⟩
   have hib:i * b.length<=a.length * b.length:=Nat.mul_le_mul_right _ (by omega)
   have hab:a.length * b.length<=10000000 * b.length:=Nat.mul_le_mul_right _ hm
   by_cases hi:i < a.length
   ·obtain ⟨o2,hin,g1,g2,g3⟩:=AC8 (B:=81 * ((i * b.length:Nat):Int)) hda hdb hi h1 (by omega) (by omega) (by omega) h2
    have hp:=Q8 hi
    refine .inr ⟨k - 1,(a,b,o2,((i+1:Nat):Int),()),?_,by omega,i+1,o2,by omega,rfl,by omega,?_,?_⟩
    ·simp (disch:=(first | omega | (simp only[Ai];omega))) only[Kk,hin,Aj]
     rfl
    ·intro y hy
     have:=g2 y hy
     rw[Nat.add_mul]
     omega
    ·rw[g3,h3,hp,show a.length - i=(a.length - 1 - i)+1 by omega,show a.length - (i+1)=a.length - 1 - i by omega,Int.pow_succ]
     push_cast
     grind
   ·have hia:i=a.length:=by omega
    subst hia
    refine .inl ⟨(Ex.exit 0,(a,b,out,(a.length:Int),())),?_,by simp,out,rfl,h1,?_,?_⟩
    ·simp (disch:=(first | omega | (simp only[Ai];omega))) only[Kk,Aj]
    ·intro y hy;have:=h2 y hy;omega
    ·rw[h3];unfold pfx;rw[List.take_length,Nat.sub_self];simp) a.length (a,b,List.replicate ((((a.length:Int)+b.length)).toNat) 0,0,()) ⟨0,_,by omega,rfl,by simp;omega,by intro y hy;rw[List.eq_of_mem_replicate hy];simp,by rw[iv_zeros];unfold pfx;simp[dval]⟩
 obtain ⟨N,hN⟩:∃ N,N=out.length:=⟨_,rfl⟩
 obtain ⟨r2,hr2,s,rfl,g1,g2,g3⟩:=BJ (step:=Ke) (Q:=fun r=>∃ s:qBs,r=(Ex.exit 4,(out,Cl s,0,-1,()))/\AS s/\s.length=N/\dval s=m * n)
  (fun k x=>∃ (o:List Int) (c:Int) (s:qBs),x=(out,o,c,(k:Int) - 1,())/\k<=N/\o.length=N/\(0<=c/\c<=81 * 100000000000000)/\o.drop k=Cl s/\AS s/\s.length=N - k/\(dval s:Int)+c * 10 ^ (N - k)=iv (out.drop k)) (by
   rintro k x ⟨o,c,s,rfl,hk,hol,hc,hds,hs,hsl,hv⟩
   by_cases h0:k=0
   ·subst h0
    rw[List.drop_zero] at hds hv
    rw[Nat.sub_zero] at hv hsl
    rw[h3] at hv
    have hla:=E6 hda
    have hlb:=E6 hdb
    have hprod:dval a * dval b < 10 ^ N:=by
     rw[hN,h1,Nat.pow_add]
     exact Nat.mul_lt_mul'' hla hlb
    have hc0:c=0:=by
     rcases Int.lt_or_eq_of_le hc.1 with h | h
     ·exfalso
      have e1:1 * (10:Int) ^ N<=c * 10 ^ N:=Int.mul_le_mul_of_nonneg_right (by omega) (by have:(0:Int) < 10 ^ N:=Int.pow_pos (by decide);omega)
      rw[show ((10:Int) ^ N)=((10 ^ N:Nat):Int) by push_cast;rfl] at e1 hv
      rw[<-Int.natCast_mul] at hv
      omega
     ·exact h.symm
    subst hc0
    refine .inl ⟨(Ex.exit 4,(out,Cl s,0,-1,())),?_,by simp,s,rfl,hs,hsl,?_⟩
    ·rw[<-hds]
     simp (disch:=(first | omega | (simp only[Ai];omega))) only[Ke,Aj]
     rfl
    ·rw[Int.zero_mul,Int.add_zero,<-Int.natCast_mul,hva,hvb] at hv;omega
   ·have e:((k:Int) - 1).toNat=k - 1:=by omega
    have hz:=h2.at (by omega) (k - 1)
    obtain ⟨v,hvv⟩:∃ v,v=out.getD (k - 1) 0+c:=⟨_,rfl⟩
    obtain ⟨d,hd1,hd2,hd3⟩:=MX (k:=v % 10) (by omega)
    refine .inr ⟨k - 1,(out,o.set (k - 1) (48+v % 10),v / 10,(k:Int) - 1 - 1,()),?_,by omega,o.set (k - 1) (48+v % 10),v / 10,d::s,?_,by omega,by simpa using hol,by omega,?_,hs.cons hd2,by simp[hsl];omega,?_⟩
    ·rw[hvv]
     simp (disch:=(first | omega | (simp only[Ai];omega))) only[Ke,e,Aj]
    ·rw[show (k:Int) - 1 - 1=((k - 1:Nat):Int) - 1 by omega]
    ·rw[RO (by omega),show k - 1+1=k by omega,hds,<-hd1];rfl
    ·rw[FB,hsl,Int.natCast_add,Int.natCast_mul,hd3,qY6 (show k - 1 < out.length by omega),ND,<-Jj (by omega),show k - 1+1=k by omega,<-hv,List.length_drop,show N - (k - 1)=(N - k)+1 by omega,<-hN,Int.pow_succ]
     have:=Int.emod_add_mul_ediv v 10
     push_cast
     grind) N (out,List.replicate ((out.length:Int)).toNat 0,0,(out.length:Int) - 1,()) ⟨_,0,[],by rw[hN],Nat.le_refl _,by simp;omega,by omega,by rw[List.drop_of_length_le (by simp;omega)];rfl,by simp[AS],by simp,by rw[List.drop_of_length_le (by omega)];simp[dval,iv]⟩
 have ht:=FP g1 (fun e=>by rw[e] at g2;simp at g2;omega) (by omega)
 rw[g3] at ht
 have hlen:out.length=a.length+b.length:=h1
 have hw:qI ((out.length:Int) - 1)=(out.length:Int) - 1:=Aw
 have hw2:qI ((a.length:Int)+b.length)=(a.length:Int)+b.length:=Aw
 unfold E4
 simp only[hw2]
 rw[hr]
 simp only[Ad,AX,Ap,hw]
 rw[hr2]
 simp (disch:=(first | omega | (simp only[Ai];omega))) only[M',ht,Aj]
end Go.AM.Num
end
section
namespace Go.AM.Num
theorem ADl (a:qBs) (q:List Int) (i:Int) (R B:Nat) (hB:B≠0) (hR:(dd R).length<=100000000) (hlt:R < 10 * B) :
 Am JJ (a,dd B,q,dd R,i,48,())=some (Ex.exit 2,(a,dd B,q,dd (R % B),i,48+((R / B:Nat):Int),())):=by
 obtain ⟨r,hr,rfl⟩:=BJ (step:=JJ) (Q:=fun r=>r=(Ex.exit 2,(a,dd B,q,dd (R % B),i,48+((R / B:Nat):Int),())))
  (fun k x=>∃ S d:Nat,x=(a,dd B,q,dd S,i,48+(d:Int),())/\k=S/\S+d * B=R) (by
   rintro k x ⟨S,d,rfl,rfl,h⟩
   obtain ⟨c,hc,hc1,hc2⟩:=YO k B
   by_cases hlt':k < B
   ·have hneg:=hc1.2 hlt'
    have hq:R / B=d:=by rw[<-h,Nat.add_mul_div_right _ _ (by omega),Nat.div_eq_of_lt hlt'];omega
    have hm:R % B=k:=by rw[<-h,Nat.add_mul_mod_self_right,Nat.mod_eq_of_lt hlt']
    refine .inl ⟨(Ex.exit 2,(a,dd B,q,dd k,i,48+(d:Int),())),?_,by simp,by rw[hq,hm]⟩
    simp (disch:=(first | omega | (simp only[Ai];omega))) only[JJ,hc,Aj]
   ·have hge:c>=0:=by
     rcases Int.lt_or_le c 0 with h' | h'
     ·exact absurd (hc1.1 h') hlt'
     ·exact h'
    have hkl:(dd k).length<=100000000:=Nat.le_trans (BL (by rw[<-h];omega)) hR
    have hs:=RU k B hkl (by omega)
    have hd9:d < 9:=by
     have:(d+1) * B<=R:=by rw[Nat.add_mul];omega
     have h2:(d+1) * B < 10 * B:=by omega
     have:=Nat.lt_of_mul_lt_mul_right h2
     omega
    refine .inr ⟨k - B,(a,dd B,q,dd (k - B),i,48+((d+1:Nat):Int),()),?_,by omega,k - B,d+1,rfl,rfl,by rw[Nat.add_mul];omega⟩
    simp (disch:=(first | omega | (simp only[Ai];omega))) only[JJ,hc,hs,Aj]
    congr 7) R (a,dd B,q,dd R,i,48,()) ⟨R,0,by simp,rfl,by omega⟩
 exact hr
theorem AFI {α:Type} {l:List α} {i:Nat} (h:i < l.length) (c:α):(l.set i c).take (i+1)=l.take i++[c]:=by
 rw[List.take_succ_eq_append_getElem (by simpa using h),List.getElem_set_self,List.take_set_of_le (by omega)]
theorem AA0 (s:qBs) (d:UInt8):Cl (s++[d])=Cl s++[(d.toNat:Int)]:=by simp[Cl]
set_option maxHeartbeats 1000000 in
theorem Jb (m n:Nat) (hm:(dd m).length<=10000000) (hn:(dd n).length<=10000000) (h0:n≠0):Ig (dd m) (dd n)=some ((dd (m / n),dd (m % n),()),()):=by
 obtain ⟨a,ha⟩:∃ a,a=dd m:=⟨_,rfl⟩
 have hda:AS a:=ha ▸ B8 m
 have hva:dval a=m:=by rw[ha,Ca]
 have hapos:0 < a.length:=by rw[ha];exact JH m
 rw[<-ha]
 rw[<-ha] at hm
 obtain ⟨r,hr,s,rfl,h1,h2,h3⟩:=BJ (step:=JY) (Q:=fun r=>∃ s:qBs,r=(Ex.exit 0,(a,dd n,Cl s,dd (m % n),(a.length:Int),()))/\AS s/\s.length=a.length/\dval s=m / n)
  (fun k x=>∃ (i:Nat) (q:List Int) (R:Nat) (s:qBs),x=(a,dd n,q,dd R,(i:Int),())/\k+i=a.length/\q.length=a.length/\q.take i=Cl s/\AS s/\s.length=i/\R < n/\pfx a i=dval s * n+R) (by
   rintro k x ⟨i,q,R,s,rfl,hk,hql,hqt,hs,hsl,hR,hv⟩
   by_cases hi:i < a.length
   ·have hp:=Q8 hi
    have hA:=hda a[i] (List.getElem_mem hi)
    have hcut:(a.take (i+1)).drop i=[a[i]]:=by
     rw[List.take_succ_eq_append_getElem hi]
     have hl:(a.take i).length=i:=by rw[List.length_take];omega
     conv=>lhs;arg 1;rw[<-hl]
     exact List.drop_left
    obtain ⟨A,hAe⟩:∃ A,A=a[i]:=⟨_,rfl⟩
    rw[<-hAe] at hp hA hcut
    have hAl:=Qv hA
    have hRl:(dd R).length<=(dd n).length:=BL (by omega)
    have htr:=FP (s:=dd R++[A]) ((B8 R).app (fun c hc=>by rw[List.mem_singleton.1 hc];exact hA)) (by simp) (by simp;omega)
    rw[FJ,Ca] at htr
    obtain ⟨S,hS⟩:∃ S,S=10 * R+dig A:=⟨_,rfl⟩
    rw[<-hS] at htr
    have hSl:(dd S).length<=100000000:=by
     have:S < 10 ^ ((dd n).length+1):=by
      have h1:=Gf n
      rw[Nat.pow_succ];omega
     have:=Ec this (by omega)
     omega
    have hin:=ADl a q (i:Int) S n h0 hSl (by omega)
    have hd9:S / n<=9:=by
     have:S / n < 10:=Nat.div_lt_of_lt_mul (by omega)
     omega
    obtain ⟨d,hd1,hd2,hd3⟩:=MX (k:=((S / n:Nat):Int)) ⟨Int.natCast_nonneg _,by exact_mod_cast Nat.lt_succ_of_le hd9⟩
    have e1:((i:Int)+1).toNat=i+1:=by omega
    have e2:((i:Int)).toNat=i:=by omega
    have g:(dd R).length+([A]:qBs).length<=A6:=by rw[DA];simp;omega
    refine .inr ⟨k - 1,(a,dd n,q.set i (48+((S / n:Nat):Int)),dd (S % n),((i+1:Nat):Int),()),?_,by omega,i+1,_,S % n,s++[d],rfl,by omega,by simpa using hql,?_,?_,by simp[hsl],Nat.mod_lt _ (by omega),?_⟩
    ·simp (disch:=(first | omega | (simp only[Ai];omega))) only[JY,e1,e2,hcut,Ab g,htr,hin,Aj]
     rfl
    ·rw[AFI (by omega),hqt,AA0,hd1]
    ·exact hs.app (fun c hc=>by rw[List.mem_singleton.1 hc];exact hd2)
    ·rw[FJ,hp,hv]
     have h5:dig d=S / n:=by exact_mod_cast hd3
     have h6:=Nat.div_add_mod S n
     rw[h5]
     grind
   ·have hia:i=a.length:=by omega
    subst hia
    rw[List.take_of_length_le (by omega)] at hqt
    have hv':m=dval s * n+R:=by rw[<-hva,<-hv];unfold pfx;rw[List.take_length]
    have hq':m / n=dval s:=by rw[hv',Nat.mul_comm,Nat.mul_add_div (by omega),Nat.div_eq_of_lt hR];omega
    have hm':m % n=R:=by rw[hv',Nat.mul_comm,Nat.mul_add_mod,Nat.mod_eq_of_lt hR]
    refine .inl ⟨(Ex.exit 0,(a,dd n,Cl s,dd (m % n),(a.length:Int),())),?_,by simp,s,rfl,hs,hsl,hq'.symm⟩
    rw[<-hqt,hm']
    simp (disch:=(first | omega | (simp only[Ai];omega))) only[JY,Aj]) a.length (a,dd n,List.replicate ((a.length:Int)).toNat 0,[48],0,()) ⟨0,_,0,[],by rw[BC];rfl,by omega,by simp,by simp[Cl],by simp[AS],rfl,by omega,by unfold pfx;simp[dval]⟩
 have ht:=FP h1 (fun e=>by rw[e] at h2;simp at h2;omega) (by omega)
 rw[h3] at ht
 unfold Ig
 rw[hr]
 simp (disch:=(first | omega | (simp only[Ai];omega))) only[M',ht,Aj]
theorem Xv (m n:Nat) (hm:(dd m).length<=10000000) (hn:(dd n).length<=10000000):Ns (dd m) (dd n)=some ((dd (Nat.gcd m n),()),()):=by
 obtain ⟨r,hr,b,rfl⟩:=BJ (step:=Mr) (Q:=fun r=>∃ b,r=(Ex.exit 0,(dd (Nat.gcd m n),b,())))
  (fun k x=>∃ a b:Nat,x=(dd a,dd b,())/\k=b/\Nat.gcd a b=Nat.gcd m n/\(dd a).length<=10000000/\(dd b).length<=10000000) (by
   rintro k x ⟨a,b,rfl,rfl,hg,ha,hb⟩
   by_cases h0:k=0
   ·subst h0
    refine .inl ⟨(Ex.exit 0,(dd a,dd 0,())),?_,by simp,dd 0,by rw[<-hg,Nat.gcd_zero_right]⟩
    simp (disch:=(first | omega | (simp only[Ai];omega))) only[Mr,Be BC,Aj]
   ·have hne:dd k≠[48]:=fun e=>h0 (by rw[<-BC] at e;exact DR e)
    refine .inr ⟨a % k,_,?_,Nat.mod_lt _ (by omega),k,a % k,rfl,rfl,?_,hb,?_⟩
    ·simp (disch:=(first | omega | (simp only[Ai];omega))) only[Mr,A_ hne,Jb a k ha hb h0,Aj]
    ·rw[Nat.gcd_comm,<-Nat.gcd_rec,Nat.gcd_comm,hg]
    ·exact Nat.le_trans (BL (Nat.le_of_lt (Nat.mod_lt _ (by omega)))) hb) n _ ⟨m,n,rfl,rfl,rfl,hm,hn⟩
 unfold Ns
 rw[hr]
 simp (disch:=(first | omega | (simp only[Ai];omega))) only[Aj]
end Go.AM.Num
end
section
namespace Go.AM.Num
theorem ET (m:Nat):(dd m==[48])=decide (m=0):=by
 by_cases h:m=0
 ·subst h;rw[qZ10 rfl];exact Be BC
 ·rw[qZ9 h];exact A_ (fun e=>h (by rw[<-BC] at e;exact DR e))
theorem TA (m:Nat):(dd m==[49])=decide (m=1):=by
 by_cases h:m=1
 ·subst h;rw[qZ10 rfl];exact Be C1
 ·rw[qZ9 h];exact A_ (fun e=>h (by rw[<-C1] at e;exact DR e))
def rr (neg:Bool) (m d:Nat):Bool×qBs×qBs:=(neg&&decide (m≠0),dd m,dd d)
theorem Qy (neg:Bool) (m d:Nat) (hm:(dd m).length<=100000000) (hd:(dd d).length<=100000000):B5 ((rr neg m d).1,(rr neg m d).2.1,(rr neg m d).2.2)=some ((tx neg m d,()),()):=by
 have h1:([45]:qBs).length+(dd m).length<=A6:=by rw[DA];simp;omega
 have h2:([47]:qBs).length+(dd d).length<=A6:=by rw[DA];simp;omega
 have h3:(([45]:qBs)++dd m).length+(([47]:qBs)++dd d).length<=A6:=by rw[DA];simp;omega
 have h4:(dd m).length+(([47]:qBs)++dd d).length<=A6:=by rw[DA];simp;omega
 have h5:=TA d
 unfold B5 tx rr
 dsimp only
 by_cases hn:neg=true/\m≠0
 ·have e:(neg&&decide (m≠0))=true:=by rw[hn.1,qZ10 hn.2];rfl
  rw[e,if_pos hn]
  by_cases h:d=1
  ·rw[qZ10 h] at h5
   simp (disch:=(first | omega | (simp only[Ai];omega))) only[h5,Ab h1,Aj]
   rw[if_pos h];simp
  ·rw[qZ9 h] at h5
   simp (disch:=(first | omega | (simp only[Ai];omega))) only[h5,Ab h1,Ab h2,Ab h3,Aj]
   rw[if_neg h];rfl
 ·have e:(neg&&decide (m≠0))=false:=by
   cases neg with
   |false=>rfl
   |true=>
    have:m=0:=by simpa using hn
    subst this;rfl
  rw[e,if_neg hn]
  by_cases h:d=1
  ·rw[qZ10 h] at h5
   simp (disch:=(first | omega | (simp only[Ai];omega))) only[h5,Aj]
   rw[if_pos h];simp
  ·rw[qZ9 h] at h5
   simp (disch:=(first | omega | (simp only[Ai];omega))) only[h5,Ab h2,Ab h4,Aj]
   rw[if_neg h];rfl
theorem ZE (neg:Bool) (m d:Nat) (hd:d≠0) (hm:(dd m).length<=10000000) (hdl:(dd d).length<=10000000) :
 DH neg (dd m) (dd d)=some ((rr neg (m / Nat.gcd m d) (d / Nat.gcd m d),()),()):=by
 have hg0:Nat.gcd m d≠0:=fun e=>hd (Nat.gcd_eq_zero_iff.1 e).2
 have hgl:(dd (Nat.gcd m d)).length<=10000000:=Nat.le_trans (BL (Nat.le_of_dvd (by omega) (Nat.gcd_dvd_right m d))) hdl
 have hz:=ET (m / Nat.gcd m d)
 unfold DH rr
 cases neg with
 |false=>
  simp (disch:=(first | omega | (simp only[Ai];omega))) only[Xv m d hm hdl,Jb m _ hm hgl hg0,Jb d _ hdl hgl hg0,Aj]
  rfl
 |true=>
  simp (disch:=(first | omega | (simp only[Ai];omega))) only[Xv m d hm hdl,Jb m _ hm hgl hg0,Jb d _ hdl hgl hg0,hz,Aj]
  simp only[Bool.true_and,ne_eq,decide_not]
theorem Ro (neg:Bool) (m d:Nat) (hd:d≠0) (hm:(dd m).length<=10000000) (hdl:(dd d).length<=10000000) :
 ∃ r,DH neg (dd m) (dd d)=some ((r,()),())/\B5 (r.1,r.2.1,r.2.2)=some ((An (mkRat (sg neg m) d),()),()):=by
 refine ⟨_,ZE neg m d hd hm hdl,?_⟩
 rw[Qy neg _ _ (Nat.le_trans (BL (Nat.div_le_self _ _)) (by omega)) (Nat.le_trans (BL (Nat.div_le_self _ _)) (by omega)),M6 neg m d hd]
def bad:Bool×qBs×qBs:=(false,[],[])
noncomputable def IB (a:qBs) (neg:Bool) (num den:qBs):Option (((Bool×qBs×qBs)×Bool×Unit)×Unit):=
 (EV num).bind fun r2=>
 cond (!r2.1.1)
 (some (((false,([]:qBs),([]:qBs)),false,()),()))
 ((EV den).bind fun r3=>
 cond (!r3.1.1)
 (some (((false,([]:qBs),([]:qBs)),false,()),()))
 (cond (den==([48]:qBs))
 (some (((false,([]:qBs),([]:qBs)),false,()),()))
 ((Dm num).bind fun r4=>
 cond (!(r4.1.1==num))
 (some (((false,([]:qBs),([]:qBs)),false,()),()))
 ((Dm den).bind fun r5=>
 cond (!(r5.1.1==den))
 (some (((false,([]:qBs),([]:qBs)),false,()),()))
 ((DH neg num den).bind fun r6=>
 (B5 (r6.1.1.1,r6.1.1.2.1,r6.1.1.2.2)).bind fun r7=>
 cond (!(r7.1.1==a))
 (some (((false,([]:qBs),([]:qBs)),false,()),()))
 (some (((neg,num,den),true,()),())))))))
theorem T5 (m:Nat):G6 (dd m):=⟨EN m,B8 m⟩
theorem ACf {a:qBs} {neg:Bool} {m d:Nat} (hd:d≠0) (hm:(dd m).length<=10000000) (hdl:(dd d).length<=10000000) (ha:a=An (mkRat (sg neg m) d)) :
 IB a neg (dd m) (dd d)=some (((neg,dd m,dd d),true,()),()):=by
 obtain ⟨r,h1,h2⟩:=Ro neg m d hd hm hdl
 have t1:=FP (B8 m) (EN m) (by omega)
 have t2:=FP (B8 d) (EN d) (by omega)
 rw[Ca] at t1 t2
 have z:=ET d
 rw[qZ9 hd] at z
 unfold IB
 simp (disch:=(first | omega | (simp only[Ai];omega))) only[MC (s:=dd m) (by omega),MC (s:=dd d) (by omega),qZ10 (T5 m),qZ10 (T5 d),z,t1,t2,Be (rfl:dd m=dd m),Be (rfl:dd d=dd d),h1,h2,Be ha.symm,Aj]
theorem AFm {a num den:qBs} {neg:Bool} (hn:num.length<=1000000) (hdl:den.length<=1000000) :
 (∃ m d,num=dd m/\den=dd d/\d≠0/\a=An (mkRat (sg neg m) d)/\IB a neg num den=some (((neg,num,den),true,()),()))\/
 (IB a neg num den=some ((bad,false,()),())/\¬ ∃ m d,num=dd m/\den=dd d/\d≠0/\a=An (mkRat (sg neg m) d)):=by
 by_cases hex:∃ m d,num=dd m/\den=dd d/\d≠0/\a=An (mkRat (sg neg m) d)
 ·obtain ⟨m,d,rfl,rfl,hd,ha⟩:=hex
  exact .inl ⟨m,d,rfl,rfl,hd,ha,ACf hd (by omega) (by omega) ha⟩
 ·refine .inr ⟨?_,hex⟩
  have d1:=MC (s:=num) (by omega)
  have d2:=MC (s:=den) (by omega)
  unfold IB bad
  by_cases f1:G6 num
  ·by_cases f2:G6 den
   ·have t1:=FP f1.2 f1.1 (by omega)
    have t2:=FP f2.2 f2.1 (by omega)
    by_cases z:den=[48]
    ·simp (disch:=(first | omega | (simp only[Ai];omega))) only[d1,d2,qZ10 f1,qZ10 f2,Be z,Aj]
    ·by_cases e1:dd (dval num)=num
     ·by_cases e2:dd (dval den)=den
      ·have hd:dval den≠0:=fun e=>z (by rw[<-e2,e,BC])
       obtain ⟨r,g1,g2⟩:=Ro neg (dval num) (dval den) hd (by rw[e1];omega) (by rw[e2];omega)
       rw[e1,e2] at g1
       have hna:An (mkRat (sg neg (dval num)) (dval den))≠a:=fun e=>hex ⟨_,_,e1.symm,e2.symm,hd,e.symm⟩
       simp (disch:=(first | omega | (simp only[Ai];omega))) only[d1,d2,qZ10 f1,qZ10 f2,A_ z,t1,t2,Be e1,Be e2,g1,g2,A_ hna,Aj]
      ·simp (disch:=(first | omega | (simp only[Ai];omega))) only[d1,d2,qZ10 f1,qZ10 f2,A_ z,t1,t2,Be e1,A_ e2,Aj]
     ·simp (disch:=(first | omega | (simp only[Ai];omega))) only[d1,d2,qZ10 f1,qZ10 f2,A_ z,t1,A_ e1,Aj]
   ·simp (disch:=(first | omega | (simp only[Ai];omega))) only[d1,d2,qZ10 f1,qZ9 f2,Aj]
  ·simp (disch:=(first | omega | (simp only[Ai];omega))) only[d1,qZ9 f1,Aj]
theorem RG (a s:qBs) (t2:Bool×qBs×qBs) (neg:Bool) (hl:s.length<=1000000000) :
 ∃ num den i,Am FD (a,t2,(neg,[],[49]),s,0,())=some (Ex.exit 0,(a,t2,(neg,[],den),num,i,()))/\
  ((s=num/\den=[49]/\(47:UInt8)∉s)\/(s=num++47::den/\(47:UInt8)∉num)):=by
 obtain ⟨r,hr,num,den,i,rfl,hq⟩:=BJ (step:=FD) (Q:=fun r=>∃ num den i,r=(Ex.exit 0,(a,t2,(neg,[],den),num,i,()))/\((s=num/\den=[49]/\(47:UInt8)∉s)\/(s=num++47::den/\(47:UInt8)∉num)))
  (fun m x=>∃ k:Nat,m+k=s.length/\x=(a,t2,(neg,[],[49]),s,(k:Int),())/\(47:UInt8)∉s.take k) (by
   rintro m x ⟨k,hm,rfl,hk⟩
   by_cases h:k < s.length
   ·have hg:=Gj h
    have e:(k:Int).toNat=k:=by omega
    have e1:((k:Int)+1).toNat=k+1:=by omega
    by_cases h47:s[k]=47
    ·have hc:((s[k].toNat:Nat):Int)=47:=by rw[h47];rfl
     refine .inl ⟨(Ex.exit 0,(a,t2,(neg,[],s.drop (k+1)),s.take k,(k:Int),())),?_,by simp,s.take k,s.drop (k+1),(k:Int),rfl,.inr ⟨?_,hk⟩⟩
     ·simp (disch:=(first | omega | (simp only[Ai];omega))) only[FD,e,e1,hg,hc,Aj]
     ·conv=>lhs;rw[<-List.take_append_drop k s,qY6 h,h47]
    ·have hc:((s[k].toNat:Nat):Int)≠47:=fun e=>h47 (UInt8.toNat_inj.1 (by show s[k].toNat=47;omega))
     refine .inr ⟨m - 1,(a,t2,(neg,[],[49]),s,((k+1:Nat):Int),()),?_,by omega,k+1,by omega,rfl,?_⟩
     ·simp (disch:=(first | omega | (simp only[Ai];omega))) only[FD,e,hg,Ag hc,Aj]
      rfl
     ·rw[List.take_succ_eq_append_getElem h]
      intro hm'
      rcases List.mem_append.1 hm' with hm' | hm'
      ·exact hk hm'
      ·exact h47 (List.mem_singleton.1 hm').symm
   ·have hks:k=s.length:=by omega
    subst hks
    refine .inl ⟨(Ex.exit 0,(a,t2,(neg,[],[49]),s,(s.length:Int),())),?_,by simp,s,[49],_,rfl,.inl ⟨rfl,rfl,by simpa using hk⟩⟩
    simp (disch:=(first | omega | (simp only[Ai];omega))) only[FD,Aj]) s.length _ ⟨0,by omega,rfl,by simp⟩
 exact ⟨num,den,i,hr,hq⟩
theorem AIf (a:qBs) (hl:a.length<=1000000000):∃ neg s num den,a=G_ neg++s/\(neg=false->∀ r,s≠45::r)/\((s=num/\den=[49]/\(47:UInt8)∉s)\/(s=num++47::den/\(47:UInt8)∉num))/\CB a=IB a neg num den:=by
 have h00:((0:Int)).toNat=0:=rfl
 have h11:((1:Int)).toNat=1:=rfl
 by_cases h0:a=[]
 ·subst h0
  obtain ⟨num,den,i,hs,hq⟩:=RG [] [] (false,[],[]) false (by simp)
  refine ⟨false,[],num,den,rfl,fun _ r=>by simp,hq,?_⟩
  unfold CB
  simp (disch:=(first | omega | (simp only[Ai];omega))) only[hs,Aj]
  rfl
 ·cases a with
  |nil=>exact absurd rfl h0
  |cons c s=>
   have hne:=A_ h0
   have hg:(c::s:qBs).getD 0 0=c:=rfl
   have hlen:(c::s).length=s.length+1:=rfl
   by_cases hc:c=45
   ·subst hc
    obtain ⟨num,den,i,hs,hq⟩:=RG (45::s) s (false,[],[]) true (by omega)
    have h45:(((45:UInt8).toNat:Nat):Int)=45:=rfl
    refine ⟨true,s,num,den,rfl,(fun h=>by cases h),hq,?_⟩
    have hdrop:(45::s:qBs).drop 1=s:=rfl
    unfold CB
    simp (disch:=(first | omega | (simp only[Ai];omega))) only[hne,h00,hg,h45,h11,hdrop,hs,Aj]
    rfl
   ·have hcn:((c.toNat:Nat):Int)≠45:=fun e=>hc (UInt8.toNat_inj.1 (by show c.toNat=45;omega))
    obtain ⟨num,den,i,hs,hq⟩:=RG (c::s) (c::s) (false,[],[]) false (by omega)
    refine ⟨false,c::s,num,den,rfl,fun _ r h=>hc (by simpa using (List.cons.inj h).1),hq,?_⟩
    unfold CB
    simp (disch:=(first | omega | (simp only[Ai];omega))) only[hne,h00,hg,Ag hcn,hs,Aj]
    rfl
theorem AFn (a:qBs) (hl:a.length<=1000000) :
 (∃ q,a=An q/\CB a=some (((decide (q.num < 0),dd q.num.natAbs,dd q.den),true,()),()))\/(CB a=some ((bad,false,()),())/\rd a=none):=by
 obtain ⟨neg,s,num,den,ha,hs,hq,hp⟩:=AIf a (by omega)
 have hsl:s.length<=1000000:=by rw[ha,qZ6] at hl;omega
 have hnl:num.length<=1000000/\den.length<=1000000:=by
  rcases hq with ⟨rfl,rfl,_⟩ | ⟨rfl,_⟩
  ·exact ⟨hsl,by simp⟩
  ·rw[qZ6,qY11] at hsl;exact ⟨by omega,by omega⟩
 have shp:∀ q,a=An q->neg=decide (q.num < 0)/\num=dd q.num.natAbs/\den=dd q.den:=by
  intro q h
  obtain ⟨e1,e2⟩:=shape hs (ha ▸ h)
  refine ⟨e1,?_⟩
  rcases hq with ⟨rfl,rfl,hx⟩ | ⟨rfl,hx⟩
  ·by_cases hd:q.den=1
   ·rw[if_pos hd,qY4] at e2
    exact ⟨e2,by rw[hd,C1]⟩
   ·rw[if_neg hd] at e2
    exact absurd (by rw[e2];simp) hx
  ·by_cases hd:q.den=1
   ·rw[if_pos hd,qY4] at e2
    exact absurd (show (47:UInt8)∈dd q.num.natAbs by rw[<-e2];simp) GW
   ·rw[if_neg hd] at e2
    exact RL hx GW e2
 rw[hp]
 rcases AFm (a:=a) (neg:=neg) hnl.1 hnl.2 with ⟨m,d,rfl,rfl,hd,hat,hg⟩ | ⟨hg,hno⟩
 ·obtain ⟨e1,e2,e3⟩:=shp _ hat
  refine .inl ⟨_,hat,?_⟩
  rw[hg,<-e1,<-e2,<-e3]
 ·refine .inr ⟨hg,KD fun q h=>hno ?_⟩
  obtain ⟨e1,e2,e3⟩:=shp q h
  refine ⟨q.num.natAbs,q.den,e2,e3,q.den_nz,?_⟩
  rw[e1,GB,Rat.mkRat_self];exact h
end Go.AM.Num
end
section
namespace Go.AM.Num
theorem rp (a:qBs) (hl:a.length<=1000000) :
 (∃ q,a=An q/\rd a=some q/\D q<=1000001/\CB a=some (((decide (q.num < 0),dd q.num.natAbs,dd q.den),true,()),()))\/(rd a=none/\CB a=some ((bad,false,()),())):=by
 rcases AFn a hl with ⟨q,rfl,h⟩ | ⟨h1,h2⟩
 ·exact .inl ⟨q,rfl,Ct q,Nc hl,h⟩
 ·exact .inr ⟨h2,h1⟩
theorem Kf {a:qBs} (ha:a.length<=1000000):D0 a=some (((rd a).isSome,()),()):=by
 unfold D0
 rcases rp a ha with ⟨q,e,hr,_,hp⟩ | ⟨hr,hp⟩
 ·rw[hr];simp (disch:=(first | omega | (simp only[Ai];omega))) only[hp,Aj];rfl
 ·rw[hr];simp (disch:=(first | omega | (simp only[Ai];omega))) only[hp,Aj];rfl
theorem FQ {a:qBs} (ha:a.length<=1000000):B7 a=some ((A2 a,()),()):=by
 unfold B7 A2
 rcases rp a ha with ⟨q,e,hr,_,hp⟩ | ⟨hr,hp⟩
 ·rw[hr]
  simp (disch:=(first | omega | (simp only[Ai];omega))) only[hp,TA,Aj]
  rfl
 ·rw[hr];simp (disch:=(first | omega | (simp only[Ai];omega))) only[hp,Aj]
theorem Oi {a:qBs} (ha:a.length<=1000000):GA a=some ((CH a,()),()):=by
 unfold GA CH
 rcases rp a ha with ⟨q,e,hr,_,hp⟩ | ⟨hr,hp⟩
 ·rw[hr]
  rcases Int.lt_trichotomy q.num 0 with h | h | h
  ·simp (disch:=(first | omega | (simp only[Ai];omega))) only[hp,ET,qZ9 (show ¬ q.num.natAbs=0 by omega),qZ10 h,Aj]
   rw[Int.sign_eq_neg_one_of_neg h]
  ·simp (disch:=(first | omega | (simp only[Ai];omega))) only[hp,ET,qZ10 (show q.num.natAbs=0 by omega),Aj]
   rw[h];rfl
  ·simp (disch:=(first | omega | (simp only[Ai];omega))) only[hp,ET,qZ9 (show ¬ q.num.natAbs=0 by omega),qZ9 (show ¬ q.num < 0 by omega),Aj]
   rw[Int.sign_eq_one_of_pos h]
 ·rw[hr];simp (disch:=(first | omega | (simp only[Ai];omega))) only[hp,Aj]
theorem YQ (neg:Bool) (q:Rat) (h:D q<=1000001):B5 (neg&&decide (q.num.natAbs≠0),dd q.num.natAbs,dd q.den)=some ((tx neg q.num.natAbs q.den,()),()):=
 Qy neg _ _ (by have:=DT q;omega) (by have:=Ey q;omega)
theorem X_ (q:Rat):tx (!decide (q.num < 0)) q.num.natAbs q.den=An (-q):=by
 unfold tx An
 rw[Rat.neg_num,Rat.neg_den,Int.natAbs_neg]
 have:((!decide (q.num < 0))=true/\q.num.natAbs≠0) ↔ -q.num < 0:=by
  constructor
  ·rintro ⟨h1,h2⟩
   have:¬ q.num < 0:=by simpa using h1
   omega
  ·intro h;exact ⟨by rw[qZ9 (by omega)];rfl,by omega⟩
 simp only[this]
theorem O_ {a:qBs} (ha:a.length<=1000000):IS a=some ((un (fun q=>An (-q)) a,()),()):=by
 unfold IS
 rcases rp a ha with ⟨q,e,hr,hD,hp⟩ | ⟨hr,hp⟩
 ·rw[e] at hp ⊢
  rw[GF]
  by_cases h:q.num < 0
  ·have ht:=YQ false q hD
   have e1:=X_ q
   rw[qZ10 h] at e1
   simp only[qY2] at e1
   rw[e1] at ht
   simp (disch:=(first | omega | (simp only[Ai];omega))) only[hp,qZ10 h,Aj]
   simp only[Bool.false_and] at ht
   rw[ht];rfl
  ·have ht:=YQ true q hD
   have e1:=X_ q
   rw[qZ9 h] at e1
   simp only[qY1] at e1
   rw[e1] at ht
   have e2:(!(dd q.num.natAbs==[48]))=(true&&decide (q.num.natAbs≠0)):=by rw[ET];simp
   rw[<-e2] at ht
   simp (disch:=(first | omega | (simp only[Ai];omega))) only[hp,qZ9 h,Aj]
   rw[ht];rfl
 ·rw[Nk hr];simp (disch:=(first | omega | (simp only[Ai];omega))) only[hp,Aj]
theorem J9 (neg:Bool) (m d:Nat) (hd:d≠0) (hm:(dd m).length<=10000000) (hdl:(dd d).length<=10000000) {ρ:Type} (K:qBs->Option ρ) :
 (DH neg (dd m) (dd d)).bind (fun r5=>(B5 (r5.1.1.1,r5.1.1.2.1,r5.1.1.2.2)).bind fun r6=>K r6.1.1)=K (An (mkRat (sg neg m) d)):=by
 obtain ⟨r,h1,h2⟩:=Ro neg m d hd hm hdl
 rw[h1,Ad]
 show (B5 (r.1,r.2.1,r.2.2)).bind _=_
 rw[h2];rfl
theorem YT {a b:qBs} (ha:a.length<=900000) (hb:b.length<=900000):JQ a b=some ((Cr (fun p q=>An (p+q)) a b,()),()):=by
 unfold JQ
 rcases rp a (by omega) with ⟨p,rfl,hr1,hD1,hp1⟩ | ⟨hr1,hp1⟩
 ·rcases rp b (by omega) with ⟨q,rfl,hr2,hD2,hp2⟩ | ⟨hr2,hp2⟩
  ·rw[Ds,Xd]
   have a1:=DT p
   have a2:=Ey p
   have a3:=DT q
   have a4:=Ey q
   have b1:=Cf p.num.natAbs q.den
   have b2:=Cf q.num.natAbs p.den
   have b3:=Cf p.den q.den
   have b4:=I7 (p.num.natAbs * q.den) (q.num.natAbs * p.den)
   have b5:=BL (Nat.sub_le (p.num.natAbs * q.den) (q.num.natAbs * p.den))
   have b6:=BL (Nat.sub_le (q.num.natAbs * p.den) (p.num.natAbs * q.den))
   have m1:=HA p.num.natAbs q.den (by omega) (by omega)
   have m2:=HA q.num.natAbs p.den (by omega) (by omega)
   have m3:=HA p.den q.den (by omega) (by omega)
   have hd0:p.den * q.den≠0:=Nat.mul_ne_zero p.den_nz q.den_nz
   obtain ⟨x,hx⟩:∃ x,x=p.num.natAbs * q.den:=⟨_,rfl⟩
   obtain ⟨y,hy⟩:∃ y,y=q.num.natAbs * p.den:=⟨_,rfl⟩
   rw[<-hx] at b1 b4 b5 b6 m1 ⊢
   rw[<-hy] at b2 b4 b5 b6 m2 ⊢
   obtain ⟨n1,hn1⟩:∃ n,n=decide (p.num < 0):=⟨_,rfl⟩
   obtain ⟨n2,hn2⟩:∃ n,n=decide (q.num < 0):=⟨_,rfl⟩
   rw[<-hn1] at hp1 ⊢
   rw[<-hn2] at hp2 ⊢
   by_cases hs:n1=n2
   ·subst hs
    have e:sg n1 x+sg n1 y=sg n1 (x+y):=by cases n1<;>simp[sg];omega
    rw[e]
    simp (disch:=(first | omega | (simp only[Ai];omega))) only[hp1,hp2,m1,m2,m3,beq_self_eq_true,YD x y (by omega) (by omega),Aj]
    exact J9 n1 (x+y) (p.den * q.den) hd0 (by omega) (by omega) (fun t=>some ((t,()),()))
   ·have hsb:(n1==n2)=false:=by simpa using hs
    obtain ⟨c,hc,hc1,hc2⟩:=YO x y
    by_cases hle:y<=x
    ·have hc0:c>=0:=by
      rcases Int.lt_or_le c 0 with h | h
      ·have:=hc1.1 h;omega
      ·exact h
     have e:sg n1 x+sg n2 y=sg n1 (x - y):=by cases n1<;>cases n2<;>simp_all [sg]<;>omega
     rw[e]
     simp (disch:=(first | omega | (simp only[Ai];omega))) only[hp1,hp2,m1,m2,m3,hsb,hc,RU x y (by omega) hle,Aj]
     exact J9 n1 (x - y) (p.den * q.den) hd0 (by omega) (by omega) (fun t=>some ((t,()),()))
    ·have hc0:¬ c>=0:=by have:=hc1.2 (by omega);omega
     have e:sg n1 x+sg n2 y=sg n2 (y - x):=by cases n1<;>cases n2<;>simp_all [sg]<;>omega
     rw[e]
     simp (disch:=(first | omega | (simp only[Ai];omega))) only[hp1,hp2,m1,m2,m3,hsb,hc,RU y x (by omega) (by omega),Aj]
     exact J9 n2 (y - x) (p.den * q.den) hd0 (by omega) (by omega) (fun t=>some ((t,()),()))
  ·rw[JB hr2];simp (disch:=(first | omega | (simp only[Ai];omega))) only[hp1,hp2,Aj]
 ·rcases rp b (by omega) with ⟨q,rfl,hr2,hD2,hp2⟩ | ⟨hr2,hp2⟩<;>(rw[M4 hr1];simp (disch:=(first | omega | (simp only[Ai];omega))) only[hp1,hp2,Aj])
theorem QB {a b:qBs} (ha:a.length<=900000) (hb:b.length<=900000):Hz a b=some ((Cr (fun p q=>An (p * q)) a b,()),()):=by
 unfold Hz
 rcases rp a (by omega) with ⟨p,rfl,hr1,hD1,hp1⟩ | ⟨hr1,hp1⟩
 ·rcases rp b (by omega) with ⟨q,rfl,hr2,hD2,hp2⟩ | ⟨hr2,hp2⟩
  ·rw[Ds,Rat.mul_def']
   have a1:=DT p
   have a2:=Ey p
   have a3:=DT q
   have a4:=Ey q
   have b1:=Cf p.num.natAbs q.num.natAbs
   have b3:=Cf p.den q.den
   have m1:=HA p.num.natAbs q.num.natAbs (by omega) (by omega)
   have m3:=HA p.den q.den (by omega) (by omega)
   have e:p.num * q.num=sg (decide (p.num < 0) !=decide (q.num < 0)) (p.num.natAbs * q.num.natAbs):=by rw[<-K1,GB,GB]
   rw[e]
   simp (disch:=(first | omega | (simp only[Ai];omega))) only[hp1,hp2,m1,m3,Aj]
   exact J9 _ (p.num.natAbs * q.num.natAbs) (p.den * q.den) (Nat.mul_ne_zero p.den_nz q.den_nz) (by omega) (by omega) (fun t=>some ((t,()),()))
  ·rw[JB hr2];simp (disch:=(first | omega | (simp only[Ai];omega))) only[hp1,hp2,Aj]
 ·rcases rp b (by omega) with ⟨q,rfl,hr2,hD2,hp2⟩ | ⟨hr2,hp2⟩<;>(rw[M4 hr1];simp (disch:=(first | omega | (simp only[Ai];omega))) only[hp1,hp2,Aj])
theorem Vi {a b:qBs} (ha:a.length<=900000) (hb:b.length<=900000):L0 a b=some ((Cr M5 a b,()),()):=by
 unfold L0
 rcases rp a (by omega) with ⟨p,rfl,hr1,hD1,hp1⟩ | ⟨hr1,hp1⟩
 ·rcases rp b (by omega) with ⟨q,rfl,hr2,hD2,hp2⟩ | ⟨hr2,hp2⟩
  ·rw[Ds]
   unfold M5
   by_cases hq:q=0
   ·have hn:q.num.natAbs=0:=by rw[hq];rfl
    rw[if_pos hq]
    simp (disch:=(first | omega | (simp only[Ai];omega))) only[hp1,hp2,ET,qZ10 hn,Aj]
   ·have hn:q.num.natAbs≠0:=fun e=>hq (Rat.num_eq_zero.1 (by omega))
    rw[if_neg hq,Rat.div_def,AKM q hq]
    have a1:=DT p
    have a2:=Ey p
    have a3:=DT q
    have a4:=Ey q
    have b1:=Cf p.num.natAbs q.den
    have b3:=Cf p.den q.num.natAbs
    have m1:=HA p.num.natAbs q.den (by omega) (by omega)
    have m3:=HA p.den q.num.natAbs (by omega) (by omega)
    have e:p * mkRat (sg (decide (q.num < 0)) q.den) q.num.natAbs=mkRat (sg (decide (p.num < 0) !=decide (q.num < 0)) (p.num.natAbs * q.den)) (p.den * q.num.natAbs):=by
     rw[<-K1,<-Rat.mkRat_mul_mkRat,GB,Rat.mkRat_self]
    rw[e]
    simp (disch:=(first | omega | (simp only[Ai];omega))) only[hp1,hp2,ET,qZ9 hn,m1,m3,Aj]
    exact J9 _ (p.num.natAbs * q.den) (p.den * q.num.natAbs) (Nat.mul_ne_zero p.den_nz hn) (by omega) (by omega) (fun t=>some ((t,()),()))
  ·rw[JB hr2];simp (disch:=(first | omega | (simp only[Ai];omega))) only[hp1,hp2,Aj]
 ·rcases rp b (by omega) with ⟨q,rfl,hr2,hD2,hp2⟩ | ⟨hr2,hp2⟩<;>(rw[M4 hr1];simp (disch:=(first | omega | (simp only[Ai];omega))) only[hp1,hp2,Aj])
theorem W_ {a b:qBs} (ha:a.length<=200000) (hb:b.length<=200000):KI a b=some ((Cr (fun p q=>An (p - q)) a b,()),()):=by
 have h1:=Rw (a:=a) (b:=b) (by omega) (by omega)
 unfold LH at h1
 rw[Ve (by omega),Ad] at h1
 dsimp only at h1
 rw[PS (by omega) (by have:=Qt hb;omega),Ad] at h1
 unfold KI
 rw[O_ (by omega),Ad]
 dsimp only
 rw[YT (by omega) (by have:=Qt hb;omega),Ad]
 exact h1
theorem QC {a b:qBs} (ha:a.length<=200000) (hb:b.length<=200000):DP a b=some ((Dc a b,()),()):=by
 have h1:=OR (a:=a) (b:=b) (by omega) (by omega)
 have hl:=Xa (f:=fun p q=>p - q) (fun p q=>by rw[Rat.sub_eq_add_neg];have:=XI p (-q);rw[QT] at this;exact this) ha hb
 unfold Db at h1
 rw[Rw (by omega) (by omega),Ad] at h1
 dsimp only at h1
 rw[N6 (by omega),Ad] at h1
 unfold DP
 have v1:=Kf (a:=a) (by omega)
 have v2:=Kf (a:=b) (by omega)
 cases hr1:rd a with
 |none=>
  have e:Dc a b=0:=by unfold Dc;rw[hr1]
  rw[hr1] at v1
  rw[e];simp (disch:=(first | omega | (simp only[Ai];omega))) only[v1,Option.isSome_none,Aj]
 |some p=>
  rw[hr1] at v1
  cases hr2:rd b with
  |none=>
   have e:Dc a b=0:=by unfold Dc;rw[hr1,hr2]
   rw[hr2] at v2
   rw[e];simp (disch:=(first | omega | (simp only[Ai];omega))) only[v1,v2,Option.isSome_some,Option.isSome_none,Aj]
  |some q=>
   rw[hr2] at v2
   simp (disch:=(first | omega | (simp only[Ai];omega))) only[v1,v2,Option.isSome_some,W_ (a:=a) (b:=b) (by omega) (by omega),Aj]
   rw[Oi (by omega),Ad]
   exact h1
theorem ADk {a:qBs} (ha:a.length<=1000000):MP a=some ((un (fun q=>An (HR q)) a,()),()):=by
 have hs:=Oi ha
 have hv:=Kf ha
 unfold MP Q5
 cases hr:rd a with
 |none=>
  have e:CH a=0:=by unfold CH;rw[hr]
  rw[e] at hs
  rw[hr] at hv
  rw[Nk hr]
  simp (disch:=(first | omega | (simp only[Ai];omega))) only[hs,hv,Option.isSome_none,Aj]
 |some q=>
  have e:CH a=q.num.sign:=by unfold CH;rw[hr]
  rw[e] at hs
  rw[hr] at hv
  have hu:un (fun q=>An (HR q)) a=An (HR q):=by rw[DM hr,GF]
  rw[hu]
  by_cases h:q.num < 0
  ·rw[Int.sign_eq_neg_one_of_neg h] at hs
   have hn:=O_ ha
   have hu2:un (fun q=>An (-q)) a=An (-q):=by rw[DM hr,GF]
   rw[hu2] at hn
   simp (disch:=(first | omega | (simp only[Ai];omega))) only[hs,hn,Aj]
   unfold HR;rw[if_pos h]
  ·have hsn:¬ q.num.sign < 0:=by rw[Int.sign_neg_iff];exact h
   simp (disch:=(first | omega | (simp only[Ai];omega))) only[hs,hv,Option.isSome_some,Aj]
   unfold HR;rw[if_neg h];rw[<-DM hr]
theorem Ra (neg:Bool) (m:Nat) (hm:(dd m).length<=100000000):B5 (neg&&decide (m≠0),dd m,[49])=some ((An ((sg neg m:Int):Rat),()),()):=by
 have:=Qy neg m 1 hm (by rw[C1];decide)
 unfold rr at this
 rw[C1] at this
 rw[<-PM];exact this
theorem ADm {a:qBs} (ha:a.length<=1000000):Ou a=some ((un (fun q=>An ((q.floor:Int):Rat)) a,()),()):=by
 unfold Ou
 rcases rp a ha with ⟨q,rfl,hr,hD,hp⟩ | ⟨hr,hp⟩
 ·rw[GF,Rat.floor_def]
  have a1:=DT q
  have a2:=Ey q
  have hdv:=Jb q.num.natAbs q.den (by omega) (by omega) q.den_nz
  have b1:=BL (Nat.div_le_self q.num.natAbs q.den)
  have b4:=I7 (q.num.natAbs / q.den) 1
  rw[C1] at b4
  have b5:([49]:qBs).length=1:=rfl
  obtain ⟨d1,d2⟩:=PN (decide (q.num < 0)) false q.num.natAbs q.den q.den_nz
  rw[GB] at d1 d2
  have e0:sg false q.den=(q.den:Int):=rfl
  rw[e0,Bool.bne_false] at d1 d2
  obtain ⟨k,hk⟩:∃ k,k=q.num.natAbs / q.den:=⟨_,rfl⟩
  obtain ⟨r,hr'⟩:∃ r,r=q.num.natAbs % q.den:=⟨_,rfl⟩
  rw[<-hk] at hdv b1 b4 d1 d2
  rw[<-hr'] at hdv d1 d2
  have z1:∀ m,(!(dd m==[48]))=(true&&decide (m≠0)):=fun m=>by rw[ET];simp
  by_cases hneg:q.num < 0
  ·rw[qZ10 hneg] at hp d1 d2
   by_cases hr0:r=0
   ·rw[(d1 (by simp[hr0])).1]
    have zr:=ET r
    rw[qZ10 hr0] at zr
    have ht:=Ra true k (by omega)
    rw[<-z1] at ht
    simp (disch:=(first | omega | (simp only[Ai];omega))) only[hp,hdv,zr,ht,Aj]
   ·rw[(d2 ⟨rfl,hr0⟩).1]
    have zr:=ET r
    rw[qZ9 hr0] at zr
    have ht:=Ra true (k+1) (by omega)
    rw[<-z1] at ht
    have hadd:=YD k 1 (by omega) (by rw[C1];decide)
    rw[C1] at hadd
    simp (disch:=(first | omega | (simp only[Ai];omega))) only[hp,hdv,zr,hadd,ht,Aj]
  ·rw[qZ9 hneg] at hp d1
   rw[(d1 (by simp)).1]
   have ht:=Ra false k (by omega)
   rw[Bool.false_and] at ht
   simp (disch:=(first | omega | (simp only[Ai];omega))) only[hp,hdv,ht,Aj]
 ·rw[Nk hr];simp (disch:=(first | omega | (simp only[Ai];omega))) only[hp,Aj]
theorem Sb (x:Int) (n:Nat) (hn:n≠0):(mkRat x n).floor=x / (n:Int):=by
 rw[Rat.floor_def,Rat.num_mkRat,Rat.den_mkRat,if_neg hn,if_neg hn]
 have hg:n.gcd x.natAbs≠0:=fun e=>hn (Nat.gcd_eq_zero_iff.1 e).1
 obtain ⟨k,hk⟩:((n.gcd x.natAbs:Nat):Int) ∣ x:=Int.ofNat_dvd_left.2 (Nat.gcd_dvd_right _ _)
 obtain ⟨l,hl⟩:=Nat.gcd_dvd_left n x.natAbs
 obtain ⟨g,hge⟩:∃ g,g=n.gcd x.natAbs:=⟨_,rfl⟩
 rw[<-hge] at hg hk hl ⊢
 rw[hk,hl,Int.mul_ediv_cancel_left _ (by omega),Nat.mul_div_cancel_left _ (by omega),Int.natCast_mul,Int.mul_ediv_mul_of_pos _ _ (by omega)]
theorem AJg (x:Int) (n:Nat):((x:Rat) / (((n:Int):Int):Rat))=mkRat x n:=by
 rw[Rat.mkRat_eq_div];rfl
theorem TP {a b:qBs} (ha:a.length<=100000) (hb:b.length<=100000):Hn a b=some ((Fc a b,()),()):=by
 have h1:=FQ (a:=a) (by omega)
 have h2:=FQ (a:=b) (by omega)
 unfold Hn Fc
 cases i1:A2 a with
 |false=>rw[i1] at h1;rw[Jc i1];simp (disch:=(first | omega | (simp only[Ai];omega))) only[h1,Aj]
 |true=>
  rw[i1] at h1
  cases i2:A2 b with
  |false=>rw[i2] at h2;rw[JR i2];simp (disch:=(first | omega | (simp only[Ai];omega))) only[h1,h2,Aj]
  |true=>
   rw[i2] at h2
   obtain ⟨x,rfl,_⟩:=DV i1
   obtain ⟨y,rfl,_⟩:=DV i2
   rw[Fq]
   by_cases hy:y=0
   ·subst hy
    have hz:An ((0:Int):Rat)=[48]:=txt_zero
    rw[if_pos rfl]
    simp (disch:=(first | omega | (simp only[Ai];omega))) only[h1,h2,Be hz,Aj]
   ·have hz:An ((y:Int):Rat)≠[48]:=fun e=>hy (by have:=Mp.1 e;simpa using congrArg Rat.num this)
    rw[if_neg hy]
    obtain ⟨a1,a2⟩:=Im ha
    obtain ⟨a3,a4⟩:=Im hb
    have hab:=ADk (a:=An (y:Rat)) (by omega)
    rw[GF,AME] at hab
    have hyl:(An ((y.natAbs:Int):Rat)).length<=100000:=by rw[AEH];omega
    have hdv:=Vi (a:=An (x:Rat)) (b:=An ((y.natAbs:Int):Rat)) (by omega) (by omega)
    have hny:(((y.natAbs:Int):Int):Rat)≠0:=fun e=>hy (by have:=congrArg Rat.num e;simp at this;omega)
    rw[Ds,M5,if_neg hny,AJg] at hdv
    have hD:=PD x y.natAbs (by omega)
    have hl:=BH (mkRat x y.natAbs)
    have hfl:=ADm (a:=An (mkRat x y.natAbs)) (by omega)
    rw[GF,Sb _ _ (by omega)] at hfl
    have hsg:=Oi (a:=An (y:Rat)) (by omega)
    have hse:CH (An (y:Rat))=y.sign:=by
     unfold CH;rw[Ct];show ((y:Rat)).num.sign=_;rw[Rat.num_intCast]
    rw[hse] at hsg
    by_cases hneg:y < 0
    ·rw[Int.sign_eq_neg_one_of_neg hneg] at hsg
     have hfl2:=UM (mkRat x y.natAbs)
     rw[Sb _ _ (by omega)] at hfl2
     have hfl3:=BH ((x / (y.natAbs:Int):Int):Rat)
     have hng:=O_ (a:=An ((x / (y.natAbs:Int):Int):Rat)) (by omega)
     rw[GF] at hng
     simp (disch:=(first | omega | (simp only[Ai];omega))) only[h1,h2,A_ hz,hab,hdv,hfl,hsg,hng,Aj]
     have e:x / y=-(x / (y.natAbs:Int)):=by
      rw[show (y.natAbs:Int)=-y by omega,Int.ediv_neg,Int.neg_neg]
     rw[e,Rat.intCast_neg]
    ·have hsn:¬ y.sign < 0:=by rw[Int.sign_neg_iff];exact hneg
     simp (disch:=(first | omega | (simp only[Ai];omega))) only[h1,h2,A_ hz,hab,hdv,hfl,hsg,Aj]
     rw[show (y.natAbs:Int)=y by omega]
theorem ALz {k:Nat} {a b:qBs} (ha:a.length<=k) (hb:b.length<=k):(Fc a b).length<=k+3:=by
 unfold Fc
 cases i1:A2 a with
 |false=>rw[Jc i1];simp
 |true=>
  cases i2:A2 b with
  |false=>rw[JR i2];simp
  |true=>
   obtain ⟨x,rfl,_⟩:=DV i1
   obtain ⟨y,rfl,_⟩:=DV i2
   rw[Fq]
   by_cases hy:y=0
   ·rw[if_pos hy];simp
   ·rw[if_neg hy]
    have hf:=UM (mkRat x y.natAbs)
    obtain ⟨a1,a2⟩:=Im ha
    have h1:(x / y).natAbs<=x.natAbs:=by
     have hdm:=PN (decide (x < 0)) (decide (y < 0)) x.natAbs y.natAbs (by omega)
     rw[<-Iv x,<-Iv y] at hdm
     by_cases hc:decide (x < 0)=true/\x.natAbs % y.natAbs≠0
     ·rw[(hdm.2 hc).1,DF]
      have h2:x.natAbs / y.natAbs < x.natAbs:=by
       have hy1:y.natAbs≠1:=fun e=>hc.2 (by rw[e,Nat.mod_one])
       have hx0:0 < x.natAbs:=by have:=of_decide_eq_true hc.1;omega
       exact Nat.div_lt_self hx0 (by omega)
      omega
     ·rw[(hdm.1 hc).1,DF]
      exact Nat.div_le_self _ _
    have h2:=BL h1
    have h3:=Rp (n:=x / y)
    omega
theorem ACs {a b:qBs} (ha:a.length<=30000) (hb:b.length<=30000):Me a b=some ((H6 a b,()),()):=by
 have hq:=TP (a:=a) (b:=b) (by omega) (by omega)
 have hql:=ALz (k:=30000) ha hb
 unfold Me
 cases i1:A2 a with
 |false=>
  have e1:Fc a b=[]:=Jc i1
  have e2:H6 a b=[]:=Jc i1
  rw[e1] at hq
  rw[e2]
  simp (disch:=(first | omega | (simp only[Ai];omega))) only[hq,Aj];rfl
 |true=>
  cases i2:A2 b with
  |false=>
   have e1:Fc a b=[]:=JR i2
   have e2:H6 a b=[]:=JR i2
   rw[e1] at hq
   rw[e2]
   simp (disch:=(first | omega | (simp only[Ai];omega))) only[hq,Aj];rfl
  |true=>
   obtain ⟨x,rfl,_⟩:=DV i1
   obtain ⟨y,rfl,_⟩:=DV i2
   have e1:Fc (An (x:Rat)) (An (y:Rat))=if y=0 then [] else An ((x / y:Int):Rat):=Fq _ _ _
   have e2:H6 (An (x:Rat)) (An (y:Rat))=if y=0 then [] else An ((x % y:Int):Rat):=Fq _ _ _
   rw[e1] at hq hql
   rw[e2]
   by_cases hy:y=0
   ·rw[if_pos hy] at hq ⊢
    simp (disch:=(first | omega | (simp only[Ai];omega))) only[hq,Aj];rfl
   ·rw[if_neg hy] at hq hql ⊢
    have hne:An ((x / y:Int):Rat)≠[]:=fun e=>by have:=Ct ((x / y:Int):Rat);rw[e,OZ] at this;cases this
    have hm:=QB (a:=An (y:Rat)) (b:=An ((x / y:Int):Rat)) (by omega) (by omega)
    rw[Ds,<-Rat.intCast_mul] at hm
    have l1:=Rp (n:=y * (x / y))
    have l2:=Cf y.natAbs (x / y).natAbs
    rw[<-Int.natAbs_mul] at l2
    obtain ⟨a1,a2⟩:=Im hb
    obtain ⟨a3,a4⟩:=Im hql
    have hs:=W_ (a:=An (x:Rat)) (b:=An ((y * (x / y):Int):Rat)) (by omega) (by omega)
    rw[Ds,<-Rat.intCast_sub] at hs
    simp (disch:=(first | omega | (simp only[Ai];omega))) only[hq,A_ hne,hm,hs,Aj]
    rw[Int.emod_def]
end Go.AM.Num
end
section
namespace Go.AM.Num
theorem ACA (x:Int):0<=qU x/\qU x<=18446744073709551615:=by
 show 0<=IntKind.wrap .u64 x/\IntKind.wrap .u64 x<=18446744073709551615
 simp[IntKind.wrap,IntKind.bits,IntKind.signed];omega
theorem V7 (v:Int):(v.tmod 10=if v < 0 then -((v.natAbs % 10:Nat):Int) else ((v.natAbs % 10:Nat):Int))/\(v.tdiv 10=if v < 0 then -((v.natAbs / 10:Nat):Int) else ((v.natAbs / 10:Nat):Int)):=by
 by_cases h:v < 0
 ·obtain ⟨u,hu⟩:∃ u:Nat,v=-(u:Int):=⟨v.natAbs,by omega⟩
  rw[if_pos h,if_pos h,hu,Int.neg_tmod,Int.neg_tdiv,tm (by omega),td (by omega)]
  constructor<;>omega
 ·rw[if_neg h,if_neg h,tm (by omega),td (by omega)]
  constructor<;>omega
theorem ADs (n v:Int) (s:qBs) (hv:-9223372036854775808<=v/\v<=9223372036854775807) (hs:s.length<=1000) (h:v≠0\/s=[]) :
 IT (n,s,v,())=some (.normal,(n,UInt8.ofNat (48+v.natAbs % 10)::s,v.tdiv 10,())):=by
 obtain ⟨h1,h2⟩:=V7 v
 have e3:qI (v.tdiv 10)=v.tdiv 10:=Aw (by rw[h2];split<;>omega)
 have e1:v.tmod 10 < 0->IntKind.u8.wrap (qI ((48:Int)+qI (0 - v.tmod 10)))=((48+v.natAbs % 10:Nat):Int):=by
  intro hn
  rw[h1] at hn ⊢
  split at hn
  ·rename_i hv0
   rw[if_pos hv0,show (0:Int) - -((v.natAbs % 10:Nat):Int)=((v.natAbs % 10:Nat):Int) by omega,Aw (x:=((v.natAbs % 10:Nat):Int)) (by omega),Aw,Mo (by omega)];omega
  ·omega
 have e2:¬ v.tmod 10 < 0->IntKind.u8.wrap (qI ((48:Int)+v.tmod 10))=((48+v.natAbs % 10:Nat):Int):=by
  intro hn
  rw[h1] at hn ⊢
  split at hn
  ·rename_i hv0
   rw[if_pos hv0,Aw,Mo (by omega)];omega
  ·rename_i hv0
   rw[if_neg hv0,Aw,Mo (by omega)];omega
 have e4:([((48+v.natAbs % 10:Nat):Int)]:List Int).map (fun n=>UInt8.ofNat n.toNat)=[UInt8.ofNat (48+v.natAbs % 10)]:=rfl
 have e5:([UInt8.ofNat (48+v.natAbs % 10)]:qBs).length+s.length<=A6:=by rw[DA];simp;omega
 simp only[IT]
 by_cases h0:v=0
 ·rcases h with h | h
  ·exact absurd h0 h
  ·rw[Bm h0,Be h,Ap,E0 (by decide)]
   by_cases hn:v.tmod 10 < 0
   ·rw[As hn,e1 hn,e4,Ab e5,E0 (by decide),e3];rfl
   ·rw[Ax hn,e2 hn,e4,Ab e5,E0 (by decide),e3];rfl
 ·rw[Bu h0,E0 (by decide)]
  by_cases hn:v.tmod 10 < 0
  ·rw[As hn,e1 hn,e4,Ab e5,E0 (by decide),e3];rfl
  ·rw[Ax hn,e2 hn,e4,Ab e5,E0 (by decide),e3];rfl
theorem AGh (v:Nat) (s:qBs) (h:v / 10≠0):dd (v / 10)++UInt8.ofNat (48+v % 10)::s=dd v++s:=by
 rw[Ha (n:=v) (by omega)];simp
theorem H8 {n:Int} (h:D6 n):DG n=some ((An (n:Rat),()),()):=by
 have hn:-9223372036854775808<=n/\n<=9223372036854775807:=h
 have hl:(dd n.natAbs).length<=20:=Ec (by have h9:n.natAbs<=9223372036854775808:=(by omega);omega) (by decide)
 obtain ⟨r,hr,v,rfl⟩:=BJ (step:=IT) (Q:=fun r=>∃ v,r=(Ex.exit 0,(n,dd n.natAbs,v,())))
  (fun k x=>∃ v s,x=(n,s,v,())/\(-9223372036854775808<=v/\v<=9223372036854775807)/\((s=[]/\v=n/\k=n.natAbs+1)\/(s≠[]/\k=v.natAbs/\(if v=0 then s else dd v.natAbs++s)=dd n.natAbs))) (by
   rintro k x ⟨v,s,rfl,hv,hI⟩
   obtain ⟨h1,h2⟩:=V7 v
   by_cases hgo:v≠0\/s=[]
   ·have hs:s.length<=1000:=by
     rcases hI with ⟨rfl,_⟩ | ⟨_,_,hc⟩
     ·simp
     ·have:=congrArg List.length hc
      split at this<;>(try rw[qZ6] at this)<;>omega
    refine .inr ⟨v.natAbs / 10,_,ADs n v s hv hs hgo,?_,v.tdiv 10,_,rfl,?_,.inr ⟨by simp,?_,?_⟩⟩
    ·rcases hI with ⟨_,e,rfl⟩ | ⟨hne,rfl,_⟩
     ·rw[e];omega
     ·rcases hgo with hgo | hgo
      ·omega
      ·exact absurd hgo hne
    ·rw[h2];split<;>omega
    ·rw[h2];split<;>omega
    ·have hz:(v.tdiv 10=0) ↔ v.natAbs / 10=0:=by rw[h2];split<;>omega
     have ha:(v.tdiv 10).natAbs=v.natAbs / 10:=by rw[h2];split<;>omega
     have key:(if v.tdiv 10=0 then UInt8.ofNat (48+v.natAbs % 10)::s else dd (v.tdiv 10).natAbs++UInt8.ofNat (48+v.natAbs % 10)::s)=dd v.natAbs++s:=by
      by_cases hq:v.natAbs / 10=0
      ·rw[if_pos (hz.2 hq),FY (n:=v.natAbs) (by omega),show v.natAbs % 10=v.natAbs by omega];rfl
      ·rw[if_neg (fun e=>hq (hz.1 e)),ha,AGh _ _ hq]
     rw[key]
     rcases hI with ⟨rfl,rfl,_⟩ | ⟨hne,_,hc⟩
     ·simp
     ·rcases hgo with hgo | hgo
      ·rw[if_neg hgo] at hc;exact hc
      ·exact absurd hgo hne
   ·have hv0:v=0:=Classical.byContradiction fun e=>hgo (.inl e)
    have hs0:s≠[]:=fun e=>hgo (.inr e)
    rcases hI with ⟨e,_⟩ | ⟨_,_,hc⟩
    ·exact absurd e hs0
    ·rw[if_pos hv0] at hc
     subst hv0
     refine .inl ⟨_,?_,?_,0,rfl⟩
     ·simp only[IT]
      rw[Bm rfl,A_ hs0,AA,hc]
     ·simp) _ (n,[],n,()) ⟨n,[],rfl,hn,.inl ⟨rfl,rfl,rfl⟩⟩
 unfold DG
 rw[hr,Ad]
 simp only
 rw[AX,Ap,LL]
 by_cases h0:n < 0
 ·rw[As h0,if_pos h0,Ab (by rw[DA];simp;omega)]
 ·rw[Ax h0,if_neg h0];rfl
theorem AA1 (v:Int) {n:Int} (h:0 < n/\n<=9223372036854775807):∃ r,ME v n=some ((r,()),())/\0<=r/\r < n:=by
 have hu:=ACA v
 unfold ME
 rw[Je (x:=n) (by omega),E0 (by omega),tm hu.1]
 have h1:=Int.emod_nonneg (qU v) (show n≠0 by omega)
 have h2:=Int.emod_lt_of_pos (qU v) h.1
 exact ⟨_,by rw[Aw],h1,h2⟩
def CI (c:List Int×Int):Prop:=0<=c.2/\c.2<=c.1.length/\c.1.length<=400
theorem TN (l:List Int):∃ c,J' l=some ((c,()),())/\CI c:=by
 unfold J'
 have h:Ga (l.length:Int) 400=((min l.length 400:Nat):Int):=by rw[AGg];split<;>omega
 rw[h,Ak,Ab,Ab]
 exact ⟨_,rfl,by refine ⟨by simp,by simp,?_⟩;simp;omega⟩
theorem Bw {c:List Int×Int} (hc:CI c) {n:Int} (h:0 < n/\n<=9223372036854775807):∃ r c',AW c n=some ((r,()),(c',()))/\CI c'/\0<=r/\r < n:=by
 obtain ⟨h1,h2,h3⟩:=hc
 unfold AW
 by_cases hd:c.2>=(c.1.length:Int)
 ·rw[As hd];exact ⟨_,_,rfl,⟨h1,h2,h3⟩,by omega,by omega⟩
 ·have hw:qI (c.2+1)=c.2+1:=Aw
  have hw2:qI (c.2+1 - 1)=c.2:=by rw[Aw];omega
  rw[Ax hd,hw,hw2,Ak,Ab h1,Ab]
  obtain ⟨r,hr,r1,r2⟩:=AA1 (c.1.getD c.2.toNat 0) h
  rw[hr,Ad]
  exact ⟨r,(c.1,c.2+1),rfl,⟨by simp only;omega,by simp only;omega,h3⟩,r1,r2⟩
theorem Ho {n:Int} (h:n.natAbs < 100000000000000000000):D (n:Rat)<=21:=by
 rw[QQ];have:=Ec (n:=n.natAbs) (k:=20) (by omega) (by decide);omega
theorem UQ {c:List Int×Int} (hc:CI c):∃ (z:Int) (c':List Int×Int),EK c=some ((An (z:Rat),()),(c',()))/\CI c'/\D (z:Rat)<=50:=by
 unfold EK
 obtain ⟨r1,c1,e1,hc1,a1,b1⟩:=Bw hc (n:=8) (by omega)
 have e1':AW (c.1,c.2) 8=some ((r1,()),(c1,())):=e1
 rw[e1',Ad]
 simp only
 by_cases h6:r1=6
 ·rw[Aq h6]
  obtain ⟨r2,c2,e2,hc2,a2,b2⟩:=Bw hc1 (n:=2001) (by omega)
  have e2':AW (c1.1,c1.2) 2001=some ((r2,()),(c2,())):=e2
  rw[e2',Ad]
  simp only
  rw[Aw,H8 (show D6 _ from ⟨by omega,by omega⟩),Ad]
  exact ⟨_,_,rfl,hc2,Nat.le_trans (Ho (by omega)) (by omega)⟩
 ·rw[Ag h6]
  by_cases h7:r1=7
  ·rw[Aq h7]
   obtain ⟨r2,c2,e2,hc2,a2,b2⟩:=Bw hc1 (n:=1099511627776) (by omega)
   have e2':AW (c1.1,c1.2) 1099511627776=some ((r2,()),(c2,())):=e2
   rw[e2',Ad]
   simp only
   rw[Aw,H8 (show D6 _ from ⟨by omega,by omega⟩),Ad]
   obtain ⟨r3,c3,e3,hc3,a3,b3⟩:=Bw hc2 (n:=1099511627776) (by omega)
   have e3':AW (c2.1,c2.2) 1099511627776=some ((r3,()),(c3,())):=e3
   rw[e3',Ad]
   simp only
   rw[H8 (show D6 _ from ⟨by omega,by omega⟩),Ad]
   simp only
   have d1:=Ho (n:=r2 - 549755813888) (by omega)
   have d2:=Ho (n:=r3) (by omega)
   have l1:=BH ((r2 - 549755813888:Int):Rat)
   have l2:=BH ((r3:Int):Rat)
   rw[QB (by omega) (by omega),Ds,Ad]
   have d3:=Wl ((r2 - 549755813888:Int):Rat) ((r3:Int):Rat)
   rw[<-Rat.intCast_mul] at d3 ⊢
   exact ⟨_,_,rfl,hc3,by omega⟩
  ·rw[Ag h7]
   obtain ⟨r2,c2,e2,hc2,a2,b2⟩:=Bw hc1 (n:=9) (by omega)
   have e2':AW (c1.1,c1.2) 9=some ((r2,()),(c2,())):=e2
   rw[e2',Ad]
   simp only
   rw[Aw,H8 (show D6 _ from ⟨by omega,by omega⟩),Ad]
   exact ⟨_,_,rfl,hc2,Nat.le_trans (Ho (by omega)) (by omega)⟩
theorem AFb (p q:Rat):D (p / q)<=D p+D q:=by
 rw[Rat.div_def];have:=Wl p q⁻¹;have:=ZJ q;omega
theorem T1 {c:List Int×Int} (hc:CI c):∃ (q:Rat) (c':List Int×Int),Oe c=some ((An q,()),(c',()))/\CI c'/\D q<=71:=by
 unfold Oe
 obtain ⟨z,c1,e1,hc1,d1⟩:=UQ hc
 have e1':EK (c.1,c.2)=some ((An (z:Rat),()),(c1,())):=e1
 rw[e1',Ad]
 simp only
 obtain ⟨r2,c2,e2,hc2,a2,b2⟩:=Bw hc1 (n:=4) (by omega)
 have e2':AW (c1.1,c1.2) 4=some ((r2,()),(c2,())):=e2
 rw[e2',Ad]
 simp only
 rw[Aw,H8 (show D6 _ from ⟨by omega,by omega⟩),Ad]
 simp only
 have d2:=Ho (n:=1+r2) (by omega)
 have l1:=BH (z:Rat)
 have l2:=BH ((1+r2:Int):Rat)
 rw[Vi (by omega) (by omega),Ds,Ad]
 have hne:((1+r2:Int):Rat)≠0:=fun e=>by have:=congrArg Rat.num e;rw[Rat.num_intCast] at this;simp at this;omega
 rw[M5,if_neg hne]
 exact ⟨_,_,rfl,hc2,Nat.le_trans (AFb _ _) (by omega)⟩
end Go.AM.Num
end
section
namespace Go.AM.Num
theorem ALJ {p q:Rat} (hp:D p<=1000000) (hq:D q<=1000000):JM (An p) (An q)=some ((An (p+q),()),()):=by
 have:=BH p;have:=BH q;rw[PS (by omega) (by omega),Ds]
theorem AAI {p q:Rat} (hp:D p<=1000000) (hq:D q<=1000000):Ks (An p) (An q)=some ((An (p * q),()),()):=by
 have:=BH p;have:=BH q;rw[ADB (by omega) (by omega),Ds]
theorem YN {p q:Rat} (hp:D p<=1000000) (hq:D q<=1000000):Db (An p) (An q)=some (((p - q).num.sign,()),()):=by
 have:=BH p;have:=BH q;rw[OR (by omega) (by omega),Dc,Ct,Ct]
theorem AD3 {x y:Int} (hz:y≠0) (hp:D (x:Rat)<=900000) (hq:D (y:Rat)<=900000):LC (An (x:Rat)) (An (y:Rat))=some ((An ((x / y:Int):Rat),()),()):=by
 have:=BH (x:Rat);have:=BH (y:Rat);rw[AHx (by omega) (by omega),Fc,Fq,if_neg hz]
theorem AAd {x y:Int} (hz:y≠0) (hp:D (x:Rat)<=900000) (hq:D (y:Rat)<=900000):Kn (An (x:Rat)) (An (y:Rat))=some ((An ((x % y:Int):Rat),()),()):=by
 have:=BH (x:Rat);have:=BH (y:Rat);rw[AI0 (by omega) (by omega),H6,Fq,if_neg hz]
theorem t0:([48]:qBs)=An ((0:Int):Rat):=txt_zero.symm
theorem t1:([49]:qBs)=An ((1:Int):Rat):=by rw[LL];simp[C1]
end Go.AM.Num
end
section
namespace Go.AM.Num
theorem AFr {α:Type} {step:α->Option (Ex×α)} (St:Nat->α) (n:Nat) {E:Ex} (hE:E≠.normal) (stop:Nat->Option (Ex×α)) (hs:∀ k r,stop k=some r->r.1≠.normal)
 (h:∀ k,k < n->step (St k)=some ((stop k).getD (.normal,St (k+1)))) (he:step (St n)=some (E,St n)):∀ j k,k+j=n->Am step (St k)=some (((List.range' k j).findSome? stop).getD (E,St n)):=by
 intro j
 induction j with
 |zero=>
  intro k hk;obtain rfl:k=n:=by omega
  exact AY he hE
 |succ j ih=>
  intro k hk
  have h1:=h k (by omega)
  rw[List.range'_succ,List.findSome?_cons]
  cases hst:stop k with
  |none=>
   rw[hst] at h1
   rw[AZ h1,ih (k+1) (by omega)]
  |some r=>
   rw[hst] at h1
   exact AY h1 (hs k r hst)
theorem CN {α:Type} {step:α->Option (Ex×α)} (St bad:Nat->α) (n:Nat) {E B:Ex} (hE:E≠.normal) (hB:B≠.normal) (ok:Nat->Bool)
 (h:∀ k,k < n->step (St k)=some (if ok k then (.normal,St (k+1)) else (B,bad k))) (he:step (St n)=some (E,St n)) :
 ((List.range n).all ok=true/\Am step (St 0)=some (E,St n))\/((List.range n).all ok=false/\∃ k,Am step (St 0)=some (B,bad k)):=by
 have:=AFr St n hE (fun k=>if ok k then none else some (B,bad k)) (fun k r hr=>by
  split at hr
  ·cases hr
  ·cases hr;exact hB) (fun k hk=>by rw[h k hk];split<;>rfl) he n 0 (by omega)
 rw[<-List.range_eq_range'] at this
 cases hf:(List.range n).findSome? (fun k=>if ok k then none else some (B,bad k)) with
 |none=>
  rw[hf] at this
  refine .inl ⟨?_,this⟩
  rw[List.findSome?_eq_none_iff] at hf
  rw[qY3]
  intro k hk
  have:=hf k hk
  split at this
  ·assumption
  ·cases this
 |some r=>
  rw[hf] at this
  obtain ⟨k,hk,hr⟩:=List.exists_of_findSome?_eq_some hf
  split at hr
  ·cases hr
  ·rename_i hn
   cases hr
   refine .inr ⟨?_,k,this⟩
   rw[List.all_eq_false]
   exact ⟨k,hk,hn⟩
structure Short (N:Nat) (v:Ae):Prop where
 num:v.2.2.1.length<=N
 keys:∀ s∈v.2.2.2.1,s.length<=N
 vals:∀ s∈v.2.2.2.2,s.length<=N
 few:v.2.2.2.1.length<=1000000000/\v.2.2.2.2.length<=1000000000
theorem GD {l:List qBs} {k N:Nat} (h:∀ s∈l,s.length<=N):(l.getD k []).length<=N:=by
 rw[qZ4]
 cases hk:l[k]? with
 |none=>simp
 |some s=>exact h s (qY14 hk)
noncomputable def Hu (num:qBs) (ks vs:List qBs) (i:Nat):Bool:=A2 (ks.getD i [])&&A2 (vs.getD i [])&&!(vs.getD i []==num)&&(decide (i=0)||decide (Dc (ks.getD (i - 1) []) (ks.getD i []) < 0))
noncomputable def GR (num:qBs) (ks vs:List qBs):Bool:=(List.range ks.length).all (Hu num ks vs)
def EO (v:Ae):Bool:=decide (v.2.2.2.1.length=0)&&decide (v.2.2.2.2.length=0)
noncomputable def AL (v:Ae):Bool:=
 if v.1=1 then v.2.2.1==[]&&EO v
 else if v.1=2 then !v.2.1&&A2 v.2.2.1&&EO v
 else if v.1=3 then !v.2.1&&(rd v.2.2.1).isSome&&EO v
 else if v.1=4 then !v.2.1&&A2 v.2.2.1&&decide (v.2.2.2.1.length=v.2.2.2.2.length)&&GR v.2.2.1 v.2.2.2.1 v.2.2.2.2
 else false
theorem AMr (v:Ae):Jp v=some ((EO v,()),()):=by
 unfold Jp EO
 by_cases h:v.2.2.2.1.length=0
 ·rw[Aq,qZ10 h,Bool.true_and]
  congr 3
  by_cases h2:v.2.2.2.2.length=0<;>simp[h2]
 ·rw[Ag,qZ9 h,Bool.false_and]
theorem AEZ {N:Nat} (hN:N<=100000) {v:Ae} (hv:Short N v):NC v=some ((decide (v.2.2.2.1.length=v.2.2.2.2.length)&&GR v.2.2.1 v.2.2.2.1 v.2.2.2.2,()),()):=by
 obtain ⟨s,b,num,ks,vs⟩:=v
 have hk:=hv.keys;have hw:=hv.vals;have hf:=hv.few
 simp only at hk hw hf ⊢
 unfold NC
 simp only
 by_cases hl:ks.length=vs.length
 ·rw[Bm,qZ10 hl,Bool.true_and]
  have hik:∀ k,CZ (ks.getD k [])=some ((A2 (ks.getD k []),()),()):=fun k=>Hm (by have:=GD (k:=k) hk;omega)
  have hiv:∀ k,CZ (vs.getD k [])=some ((A2 (vs.getD k []),()),()):=fun k=>Hm (by have:=GD (k:=k) hw;omega)
  have hc:∀ k j,Db (ks.getD k []) (ks.getD j [])=some ((Dc (ks.getD k []) (ks.getD j []),()),()):=fun k j=>OR (by have:=GD (k:=k) hk;omega) (by have:=GD (k:=j) hk;omega)
  have:=CN (step:=Ki) (fun k=>((s,b,num,ks,vs),false,ks,(ks.length:Int),(k:Int),())) (fun k=>((s,b,num,ks,vs),false,ks,(ks.length:Int),(k:Int),())) ks.length (E:=.exit 0) (B:=.ret) (by simp) (by simp) (Hu num ks vs) (fun k hk'=>by
   unfold Ki
   simp only
   rw[As,Ak,Ab,Ab,qZ0,hik,Ad,Ak,Ab,Ab,hiv,Ad,Ak,Ab,Ab]
   unfold Hu
   cases A2 (ks.getD k []) with
   |false=>rfl
   |true=>
    cases A2 (vs.getD k []) with
    |false=>rfl
    |true=>
     cases (vs.getD k []==num) with
     |true=>rfl
     |false=>
      simp only[qY2,qY1,AA,Bool.true_and]
      rw[Aw (x:=(k:Int)+1) (by omega)]
      by_cases h0:k=0
      ·subst h0
       rw[Ax]
       rfl
      ·rw[As,Aw,Ak,Ab,Ab]
       have e:((k:Int) - 1).toNat=k - 1:=by omega
       rw[e,hc,Ad,qZ9 h0,Bool.false_or]
       by_cases hs:Dc (ks.getD (k - 1) []) (ks.getD k []) < 0
       ·rw[Ax (by simp only;omega),if_pos (qZ10 hs)]
        rfl
       ·rw[As (by simp only;omega),if_neg (by rw[qZ9 hs];exact Bool.false_ne_true)]) (by
   unfold Ki
   simp only
   rw[Ax])
  rcases this with ⟨h1,h2⟩ | ⟨h1,k,h2⟩
  ·rw[show ((0:Nat):Int)=0 from rfl] at h2
   rw[h2]
   simp only[Ad,AX,Ap,GR,h1]
  ·rw[show ((0:Nat):Int)=0 from rfl] at h2
   rw[h2]
   simp only[Ad,Bk,Bl,Ap,AA,GR,h1]
 ·rw[Bu,qZ9 hl,Bool.false_and]
theorem Pj {N:Nat} (hN:N<=100000) {v:Ae} (hv:Short N v):Gs v=some ((AL v,()),()):=by
 have h1:CZ v.2.2.1=some ((A2 v.2.2.1,()),()):=Hm (by have:=hv.num;omega)
 have h2:Fl v.2.2.1=some (((rd v.2.2.1).isSome,()),()):=QH (by have:=hv.num;omega)
 unfold Gs AL
 rw[AMr,AEZ hN hv,h1,h2]
 simp only[Ad]
 by_cases e1:v.1=1
 ·rw[Aq e1,if_pos e1];cases (v.2.2.1==([]:qBs))<;>rfl
 ·rw[Ag e1,if_neg e1]
  by_cases e2:v.1=2
  ·rw[Aq e2,if_pos e2];cases v.2.1<;>cases A2 v.2.2.1<;>rfl
  ·rw[Ag e2,if_neg e2]
   by_cases e3:v.1=3
   ·rw[Aq e3,if_pos e3];cases v.2.1<;>cases (rd v.2.2.1).isSome<;>rfl
   ·rw[Ag e3,if_neg e3]
    by_cases e4:v.1=4
    ·rw[Aq e4,if_pos e4];cases v.2.1<;>cases A2 v.2.2.1<;>simp[Ap,AA]
    ·rw[Ag e4,if_neg e4]
theorem AFP {N:Nat} (hN:N<=100000) {v:Ae} (hv:Short N v) (hl:v.2.2.2.1.length=v.2.2.2.2.length) :
 (GR v.2.2.1 v.2.2.2.1 v.2.2.2.2=true/\Am Fe (v,false,0,())=some (.exit 1,v,false,(v.2.2.2.1.length:Int),()))\/(GR v.2.2.1 v.2.2.2.1 v.2.2.2.2=false/\∃ k:Nat,Am Fe (v,false,0,())=some (.ret,v,false,(k:Int),())):=by
 obtain ⟨s,b,num,ks,vs⟩:=v
 have hk:=hv.keys;have hw:=hv.vals;have hf:=hv.few
 simp only at hk hw hf hl ⊢
 have hik:∀ k,B7 (ks.getD k [])=some ((A2 (ks.getD k []),()),()):=fun k=>FQ (by have:=GD (k:=k) hk;omega)
 have hiv:∀ k,B7 (vs.getD k [])=some ((A2 (vs.getD k []),()),()):=fun k=>FQ (by have:=GD (k:=k) hw;omega)
 have hc:∀ k j,DP (ks.getD k []) (ks.getD j [])=some ((Dc (ks.getD k []) (ks.getD j []),()),()):=fun k j=>QC (by have:=GD (k:=k) hk;omega) (by have:=GD (k:=j) hk;omega)
 exact CN (step:=Fe) (fun k=>((s,b,num,ks,vs),false,(k:Int),())) (fun k=>((s,b,num,ks,vs),false,(k:Int),())) ks.length (E:=.exit 1) (B:=.ret) (by simp) (by simp) (Hu num ks vs) (fun k hk'=>by
  unfold Fe
  simp only
  rw[As,Ak,Ab,Ab,qZ0,hik,Ad,Ak,Ab,Ab,hiv,Ad,Ak,Ab,Ab]
  unfold Hu
  cases A2 (ks.getD k []) with
  |false=>rfl
  |true=>
   cases A2 (vs.getD k []) with
   |false=>rfl
   |true=>
    cases (vs.getD k []==num) with
    |true=>rfl
    |false=>
     simp only[qY2,qY1,AA,Bool.true_and]
     rw[Aw (x:=(k:Int)+1) (by omega)]
     by_cases h0:k=0
     ·subst h0
      rw[Ax]
      rfl
     ·rw[As,Aw,Ak,Ab,Ab,Ak,Ab,Ab]
      have e:((k:Int) - 1).toNat=k - 1:=by omega
      rw[e,hc,Ad,qZ9 h0,Bool.false_or]
      by_cases hs:Dc (ks.getD (k - 1) []) (ks.getD k []) < 0
      ·rw[Ax (by simp only;omega),if_pos (qZ10 hs)]
       rfl
      ·rw[As (by simp only;omega),if_neg (by rw[qZ9 hs];exact Bool.false_ne_true)]) (by
  unfold Fe
  simp only
  rw[Ax])
theorem AMG:RX=some ((true,()),()):=by kernel_rfl
def ti (z:Int):qBs:=An (z:Rat)
theorem IY {a b:Int} (h:ti a=ti b):a=b:=by
 have:=txt_inj h
 exact_mod_cast this
abbrev KV:=List (Int×Int)
def lo (i:Int) (P:KV):KV:=P.filter fun p=>decide (p.1 < i)
def hi (i:Int) (P:KV):KV:=P.filter fun p=>decide (i < p.1)
def ER (P:KV):Prop:=P.Pairwise fun a b=>a.1 < b.1
structure Canon (d:Int) (P:KV):Prop where
 incr:ER P
 vals:∀ p∈P,p.2≠d
def CQ (d:Int) (P:KV) (i:Int):Int:=((P.find? fun p=>decide (p.1=i)).map (·.2)).getD d
def Dn (d:Int) (P:KV) (i n:Int):KV:=lo i P++(if n=d then [] else [(i,n)])++hi i P
theorem Jt {i:Int} {P:KV} {p:Int×Int}:p∈lo i P ↔ p∈P/\p.1 < i:=by simp[lo]
theorem Lj {i:Int} {P:KV} {p:Int×Int}:p∈hi i P ↔ p∈P/\i < p.1:=by simp[hi]
theorem XO (i:Int):∀ {P:KV},ER P->∃ m,P=lo i P++m++hi i P/\(m=[]\/∃ w,m=[(i,w)]):=by
 intro P
 induction P with
 |nil=>intro _;exact ⟨[],rfl,.inl rfl⟩
 |cons p P ih=>
  intro h
  obtain ⟨hp,hP⟩:=List.pairwise_cons.1 h
  obtain ⟨m,e,hm⟩:=ih hP
  by_cases h1:p.1 < i
  ·refine ⟨m,?_,hm⟩
   have a1:lo i (p::P)=p::lo i P:=by simp[lo,h1]
   have a2:hi i (p::P)=hi i P:=by simp[hi,show ¬ i < p.1 by omega]
   rw[a1,a2,qY5,qY5,<-e]
  ·have e1:lo i P=[]:=List.filter_eq_nil_iff.2 fun q hq=>by have:=hp q hq;simp;omega
   have e2:hi i P=P:=List.filter_eq_self.2 fun q hq=>by have:=hp q hq;simp;omega
   have a1:lo i (p::P)=[]:=by simp[lo,h1];intro a b hab;have:=hp _ hab;simp at this;omega
   by_cases h2:p.1=i
   ·refine ⟨[p],?_,.inr ⟨p.2,by rw[<-h2]⟩⟩
    have a2:hi i (p::P)=P:=by rw[<-e2];simp[hi,show ¬ i < p.1 by omega]
    rw[a1,a2];rfl
   ·refine ⟨[],?_,.inl rfl⟩
    have a2:hi i (p::P)=p::P:=by
     have:hi i (p::P)=p::hi i P:=by simp[hi,show i < p.1 by omega]
     rw[this,e2]
    rw[a1,a2];rfl
theorem TY {d i:Int} {P:KV} (h:∀ p∈P,p.1≠i):CQ d P i=d:=by
 unfold CQ
 rw[List.find?_eq_none.2 (fun p hp=>by simp[h p hp])]
 rfl
theorem Sp {d i:Int} {P Q:KV} (h:∀ p∈P,p.1≠i):CQ d (P++Q) i=CQ d Q i:=by
 unfold CQ
 rw[List.find?_append,List.find?_eq_none.2 (fun p hp=>by simp[h p hp])]
 rfl
theorem TH {d i w:Int} {Q:KV}:CQ d ((i,w)::Q) i=w:=by simp[CQ]
theorem AL0 {d i:Int} {L m H:KV} (hL:∀ p∈L,p.1 < i) (hH:∀ p∈H,i < p.1) (hm:m=[]\/∃ w,m=[(i,w)]):CQ d (L++m++H) i=(m.head?.map (·.2)).getD d:=by
 rw[qZ1,Sp (fun p hp=>by have:=hL p hp;omega)]
 rcases hm with rfl | ⟨w,rfl⟩
 ·exact TY fun p hp=>by have:=hH p hp;omega
 ·exact TH
theorem RV {d:Int} {P:KV} (h:Canon d P) (i n:Int):Canon d (Dn d P i n):=by
 refine ⟨?_,?_⟩
 ·unfold ER Dn
  rw[List.pairwise_append,List.pairwise_append]
  refine ⟨⟨List.Pairwise.filter _ h.incr,by split<;>simp,fun a ha b hb=>?_⟩,List.Pairwise.filter _ h.incr,fun a ha b hb=>?_⟩
  ·have:=(Jt.1 ha).2
   split at hb
   ·simp at hb
   ·simp at hb;subst hb;exact this
  ·have hb':=(Lj.1 hb).2
   rcases List.mem_append.1 ha with ha | ha
   ·have:=(Jt.1 ha).2;omega
   ·split at ha
    ·simp at ha
    ·simp at ha;subst ha;exact hb'
 ·intro p hp
  unfold Dn at hp
  rcases List.mem_append.1 hp with hp | hp
  ·rcases List.mem_append.1 hp with hp | hp
   ·exact h.vals p (Jt.1 hp).1
   ·split at hp
    ·simp at hp
    ·simp at hp;subst hp;assumption
  ·exact h.vals p (Lj.1 hp).1
def ks (P:KV):List qBs:=P.map fun p=>ti p.1
def vs (P:KV):List qBs:=P.map fun p=>ti p.2
abbrev AI (d:Int) (P:KV):Ae:=(4,false,ti d,ks P,vs P)
theorem Bj (P:KV):(ks P).length=P.length:=by simp[ks]
theorem B_ (P:KV):(vs P).length=P.length:=by simp[vs]
theorem Er {P:KV} {k:Nat} (h:k < P.length):(ks P).getD k []=ti P[k].1:=by simp[ks,qZ4,h]
theorem FG {P:KV} {k:Nat} (h:k < P.length):(vs P).getD k []=ti P[k].2:=by simp[vs,qZ4,h]
theorem MR (a b:Int):Dc (ti a) (ti b)=(a - b).sign:=by
 unfold Dc ti
 rw[Ct,Ct]
 simp only
 rw[<-Rat.intCast_sub,Rat.num_intCast]
theorem Py {x:Int}:x.sign < 0 ↔ x < 0:=by
 rcases Int.lt_trichotomy x 0 with h | h | h
 ·rw[Int.sign_eq_neg_one_of_neg h];omega
 ·subst h;simp
 ·rw[Int.sign_eq_one_of_pos h];omega
theorem AAR {x:Int}:(x.sign==0)=decide (x=0):=by
 rcases Int.lt_trichotomy x 0 with h | h | h
 ·rw[Int.sign_eq_neg_one_of_neg h,qZ9 (by omega)];rfl
 ·subst h;rfl
 ·rw[Int.sign_eq_one_of_pos h,qZ9 (by omega)];rfl
theorem FT (a:Int):A2 (ti a)=true:=TQ a
theorem QD {s:qBs} (h:A2 s=true):∃ z,s=ti z:=by
 obtain ⟨z,h1,_⟩:=DV h
 exact ⟨z,h1⟩
theorem Yx:∀ {l:List qBs},(∀ s∈l,A2 s=true)->∃ zs:List Int,l=zs.map ti:=by
 intro l
 induction l with
 |nil=>intro _;exact ⟨[],rfl⟩
 |cons s l ih=>
  intro h
  obtain ⟨z,hz⟩:=QD (h s (by simp))
  obtain ⟨zs,hzs⟩:=ih fun x hx=>h x (qY13 _ hx)
  exact ⟨z::zs,by rw[hz,hzs];rfl⟩
theorem AJY {P:KV} (h:∀ i (hi:i < P.length),i=0\/(P[i - 1]'(by omega)).1 < P[i].1):ER P:=by
 unfold ER
 rw[List.pairwise_iff_getElem]
 intro i j hi hj hij
 induction j with
 |zero=>omega
 |succ j ih=>
  have h1:P[j].1 < P[j+1].1:=by
   rcases h (j+1) hj with h | h
   ·omega
   ·exact h
  by_cases e:i=j
  ·subst e;exact h1
  ·have:=ih (by omega) (by omega);omega
theorem AB9 {v:Ae} (h:AL v=true) (h4:v.1=4):∃ d P,v=AI d P/\Canon d P:=by
 obtain ⟨s,b,num,k,w⟩:=v
 simp only at h4
 subst h4
 unfold AL at h
 simp only[show ¬ (4:Int)=1 by omega,show ¬ (4:Int)=2 by omega,show ¬ (4:Int)=3 by omega,if_false,if_true,qY0,Bool.not_eq_true',decide_eq_true_eq,GR,qY3,List.mem_range,Hu,Bool.or_eq_true,beq_eq_false_iff_ne] at h
 obtain ⟨⟨⟨hb,hn⟩,hl⟩,he⟩:=h
 subst hb
 obtain ⟨d,rfl⟩:=QD hn
 have hg:∀ (l:List qBs),(∀ i,i < l.length->A2 (l.getD i [])=true)->∀ s∈l,A2 s=true:=by
  intro l hl s hs
  obtain ⟨i,hi,rfl⟩:=List.getElem_of_mem hs
  have:=hl i hi
  simpa [qZ4,hi] using this
 obtain ⟨zs,rfl⟩:=Yx (hg k fun i hi=>(he i hi).1.1.1)
 obtain ⟨ws,rfl⟩:=Yx (hg w fun i hi=>(he i (by omega)).1.1.2)
 simp only[List.length_map] at hl he
 have e1:ks (zs.zip ws)=zs.map ti:=by
  have:(zs.zip ws).map (·.1)=zs:=List.map_fst_zip (by omega)
  conv=>rhs;rw[<-this,List.map_map]
  rfl
 have e2:vs (zs.zip ws)=ws.map ti:=by
  have:(zs.zip ws).map (·.2)=ws:=List.map_snd_zip (by omega)
  conv=>rhs;rw[<-this,List.map_map]
  rfl
 refine ⟨d,zs.zip ws,by unfold AI;rw[e1,e2],AJY fun i hi=>?_,fun p hp=>?_⟩
 ·have hi':i < zs.length:=by simp at hi;omega
  rcases (he i hi').2 with h0 | h1
  ·exact .inl h0
  ·by_cases h0:i=0
   ·exact .inl h0
   ·refine .inr ?_
    rw[<-e1,Er (by simp;omega),Er hi,MR] at h1
    have:=Py.1 h1
    omega
 ·obtain ⟨i,hi,rfl⟩:=List.getElem_of_mem hp
  have hi':i < zs.length:=by simp at hi;omega
  have h1:=(he i hi').1.2
  rw[<-e2,FG hi] at h1
  exact fun e=>h1 (congrArg ti e)
theorem Pa {d:Int} {P:KV} (h:Canon d P):AL (AI d P)=true:=by
 unfold AL AI
 simp only[show ¬ (4:Int)=1 by omega,show ¬ (4:Int)=2 by omega,show ¬ (4:Int)=3 by omega,if_false,if_true,qY0,Bool.not_eq_true',decide_eq_true_eq,GR,qY3,List.mem_range,Hu,Bool.or_eq_true,beq_eq_false_iff_ne,Bj,B_,FT,true_and]
 intro i hi
 rw[Er hi,FG hi]
 refine ⟨⟨⟨FT _,FT _⟩,fun e=>h.vals _ (List.getElem_mem hi) (IY e)⟩,?_⟩
 by_cases h0:i=0
 ·exact .inl h0
 ·refine .inr ?_
  rw[Er (by omega),MR]
  have:=List.pairwise_iff_getElem.1 h.incr (i - 1) i (by omega) hi (by omega)
  rw[Int.sign_eq_neg_one_of_neg (by omega)]
  omega
theorem ACJ {K:List qBs} {t:qBs} {c:Nat} (hl:K.length<=1000000000) (hc:∀ k,k < K.length->∃ s:Int,Db (K.getD k []) t=some ((s,()),())/\(s < 0 ↔ k < c)) :
 ∀ n lo hi:Nat,hi - lo<=n->lo<=c->c<=hi->hi<=K.length->Am Hp (K,t,(),(K.length:Int),(lo:Int),(hi:Int),())=some (.exit 0,(K,t,(),(K.length:Int),(c:Int),(c:Int),())):=by
 have done:∀ lo hi:Nat,lo<=c->c<=hi->¬ lo < hi->Am Hp (K,t,(),(K.length:Int),(lo:Int),(hi:Int),())=some (.exit 0,(K,t,(),(K.length:Int),(c:Int),(c:Int),())):=by
  intro lo hi h1 h2 h3
  obtain rfl:lo=c:=by omega
  obtain rfl:hi=lo:=by omega
  refine AY ?_ (by simp)
  unfold Hp
  simp only
  rw[Ax]
 intro n
 induction n with
 |zero=>intro lo hi h1 h2 h3 h4;exact done lo hi h2 h3 (by omega)
 |succ n ih=>
  intro lo hi h1 h2 h3 h4
  by_cases hlt:lo < hi
  ·have hE:qI ((qU (qI ((lo:Int)+(hi:Int)))).fdiv (2 ^ min (1:Int).toNat IntKind.u64.bits))=(((lo+hi) / 2:Nat):Int):=by
    have e2:(2:Int) ^ min (1:Int).toNat IntKind.u64.bits=2:=by decide
    rw[e2,Aw (x:=(lo:Int)+hi) (by omega),Je (by omega),Int.fdiv_eq_ediv_of_nonneg _ (by omega),Aw]
    omega
   obtain ⟨s,hs,hsc⟩:=hc ((lo+hi) / 2) (by omega)
   have step:Hp (K,t,(),(K.length:Int),(lo:Int),(hi:Int),())=if (lo+hi) / 2 < c then some (.normal,(K,t,(),(K.length:Int),(((lo+hi) / 2+1:Nat):Int),(hi:Int),())) else some (.normal,(K,t,(),(K.length:Int),(lo:Int),(((lo+hi) / 2:Nat):Int),())):=by
    unfold Hp
    simp only
    rw[As,Ab,hE,Ak,Ab,Ab,qZ0,hs,Ad]
    simp only
    by_cases hm:(lo+hi) / 2 < c
    ·rw[As (hsc.2 hm),if_pos hm,Aw];rfl
    ·rw[Ax (fun h=>hm (hsc.1 h)),if_neg hm]
   by_cases hm:(lo+hi) / 2 < c
   ·rw[if_pos hm] at step
    rw[AZ step]
    exact ih _ _ (by omega) (by omega) h3 h4
   ·rw[if_neg hm] at step
    rw[AZ step]
    exact ih _ _ (by omega) h2 (by omega) (by omega)
  ·exact done lo hi h2 h3 hlt
theorem ABy {K:List qBs} {t:qBs} {c:Nat} {f:Bool} (hl:K.length<=1000000000) (hcl:c<=K.length) (hc:∀ k,k < K.length->∃ s:Int,Db (K.getD k []) t=some ((s,()),())/\(s < 0 ↔ k < c))
 (hf:c < K.length->∃ s:Int,Db (K.getD c []) t=some ((s,()),())/\(s==0)=f) (hn:¬ c < K.length->f=false) :
 Kt K t ()=some (((c:Int),f,()),()):=by
 unfold Kt
 have:=ACJ hl hc K.length 0 K.length (by omega) (by omega) hcl (Nat.le_refl _)
 rw[show ((0:Nat):Int)=0 from rfl] at this
 rw[this,Ad]
 simp only[AX,Ap]
 by_cases h:c < K.length
 ·obtain ⟨s,h1,h2⟩:=hf h
  rw[As,Ak,Ab,Ab,qZ0,h1,Ad,h2]
 ·rw[Ax,hn h]
structure Sm (N:Nat) (d:Int) (P:KV):Prop where
 num:(ti d).length<=N
 els:∀ p∈P,(ti p.1).length<=N/\(ti p.2).length<=N
 few:P.length<=1000000000
theorem Sm.short {N:Nat} {d:Int} {P:KV} (h:Sm N d P):Short N (AI d P):=
 ⟨h.num,fun s hs=>by obtain ⟨p,hp,rfl⟩:=List.mem_map.1 hs;exact (h.els p hp).1,fun s hs=>by obtain ⟨p,hp,rfl⟩:=List.mem_map.1 hs;exact (h.els p hp).2,by simp only[AI];rw[Bj,B_];exact ⟨h.few,h.few⟩⟩
theorem AJt {N:Nat} {d:Int} {P:KV} (h:Short N (AI d P)):Sm N d P:=by
 refine ⟨h.num,fun p hp=>⟨h.keys _ (List.mem_map_of_mem hp),h.vals _ (List.mem_map_of_mem hp)⟩,?_⟩
 have:=h.few.1
 simp only[AI] at this
 rwa [Bj] at this
theorem ACK {a b:Int} (ha:(ti a).length<=2000000) (hb:(ti b).length<=2000000):Db (ti a) (ti b)=some (((a - b).sign,()),()):=by rw[OR ha hb,MR]
theorem Ph {a b:Int} (ha:(ti a).length<=200000) (hb:(ti b).length<=200000):DP (ti a) (ti b)=some (((a - b).sign,()),()):=by rw[QC ha hb,MR]
theorem E8 (a b:Int):(ti a==ti b)=decide (a=b):=by
 by_cases h:a=b
 ·subst h;simp
 ·rw[qZ9 h,beq_eq_false_iff_ne];exact fun e=>h (IY e)
structure Parts (i:Int) (L m H:KV):Prop where
 lo:∀ p∈L,p.1 < i
 mid:m=[]\/∃ w,m=[(i,w)]
 hi:∀ p∈H,i < p.1
theorem RN {P:KV} (h:ER P) (i:Int):∃ m,P=lo i P++m++hi i P/\Parts i (lo i P) m (hi i P):=by
 obtain ⟨m,e,hm⟩:=XO i h
 exact ⟨m,e,fun p hp=>(Jt.1 hp).2,hm,fun p hp=>(Lj.1 hp).2⟩
theorem Parts.lt {i:Int} {L m H:KV} (h:Parts i L m H) {k:Nat} (hk:k < (L++m++H).length):(L++m++H)[k].1 < i ↔ k < L.length:=by
 have e:L++m++H=L++(m++H):=qZ1 ..
 simp only[e] at hk ⊢
 by_cases hl:k < L.length
 ·rw[List.getElem_append_left hl]
  exact ⟨fun _=>hl,fun _=>h.lo _ (List.getElem_mem hl)⟩
 ·rw[List.getElem_append_right (by omega)]
  refine ⟨fun hlt=>?_,fun h=>absurd h hl⟩
  have hm:=List.getElem_mem (l:=m++H) (n:=k - L.length) (by simp at hk ⊢;omega)
  rcases List.mem_append.1 hm with hm | hm
  ·rcases h.mid with rfl | ⟨w,rfl⟩
   ·cases hm
   ·have:=congrArg Prod.fst (List.mem_singleton.1 hm);simp only at this;omega
  ·have:=h.hi _ hm;omega
theorem Parts.eq {i:Int} {L m H:KV} (h:Parts i L m H) (hk:L.length < (L++m++H).length):(L++m++H)[L.length].1=i ↔ m≠[]:=by
 have e:L++m++H=L++(m++H):=qZ1 ..
 simp only[e] at hk ⊢
 rw[List.getElem_append_right (by omega)]
 simp only[Nat.sub_self]
 rcases h.mid with rfl | ⟨w,rfl⟩
 ·simp only[qY15,ne_eq,not_true_eq_false,iff_false]
  have:=h.hi _ (List.getElem_mem (l:=H) (n:=0) (by simp at hk;omega))
  omega
 ·simp
theorem Wy {N:Nat} (hN:N<=100000) {d i:Int} {L m H:KV} (h:Parts i L m H) (hs:Sm N d (L++m++H)) (hi:(ti i).length<=N):IQ (AI d (L++m++H)) (ti i)=some (((L.length:Int),decide (m≠[]),()),()):=by
 have hc:∀ k (hk:k < (L++m++H).length),Db ((ks (L++m++H)).getD k []) (ti i)=some ((((L++m++H)[k].1 - i).sign,()),()):=fun k hk=>by
  rw[Er hk]
  exact ACK (by have:=(hs.els _ (List.getElem_mem hk)).1;omega) (by omega)
 have:=ABy (K:=ks (L++m++H)) (t:=ti i) (c:=L.length) (f:=decide (m≠[])) (by rw[Bj];exact hs.few) (by rw[Bj];simp)
  (fun k hk=>by
   rw[Bj] at hk
   refine ⟨_,hc k hk,?_⟩
   rw[Py,<-h.lt hk]
   omega)
  (fun hk=>by
   rw[Bj] at hk
   refine ⟨_,hc _ hk,?_⟩
   rw[AAR]
   have:=h.eq hk
   by_cases hm:m=[]
   ·rw[qZ9 (fun e=>(this.1 (by omega)) hm),qZ9 (fun e=>e hm)]
   ·rw[qZ10 (by have:=this.2 hm;omega),qZ10 hm])
  (fun hk=>by
   rw[Bj] at hk
   refine qZ9 fun hm=>hk ?_
   have:=List.length_pos_iff.2 hm
   simp;omega)
 unfold IQ
 show ((Kt (ks (L++m++H)) (ti i) ()).bind _)=_
 rw[this,Ad]
theorem LY (P Q:KV):ks (P++Q)=ks P++ks Q:=by simp[ks]
theorem F4 (P Q:KV):vs (P++Q)=vs P++vs Q:=by simp[vs]
theorem ALi (L H:KV) (i w:Int):(vs (L++[(i,w)]++H)).getD L.length []=ti w:=by
 rw[FG (by simp)]
 simp
theorem ABS {N:Nat} (hN:N<=100000) {d i:Int} {P:KV} (hP:ER P) (hs:Sm N d P) (hi:(ti i).length<=N):Oh (AI d P) (ti i)=some ((ti (CQ d P i),()),()):=by
 obtain ⟨m,e,hp⟩:=RN hP i
 have hpl:IQ (AI d P) (ti i)=some ((((lo i P).length:Int),decide (m≠[]),()),()):=by
  have:=Wy hN hp (e ▸ hs) hi
  rwa [<-e] at this
 have ha:CQ d P i=(m.head?.map (·.2)).getD d:=by
  have:=AL0 (d:=d) hp.lo hp.hi hp.mid
  rwa [<-e] at this
 unfold Oh
 rw[hpl,Ad,ha]
 rcases hp.mid with rfl | ⟨w,rfl⟩
 ·rfl
 ·have hlt:(lo i P).length < P.length:=by
   have:=congrArg List.length e
   simp at this;omega
  have hg:(vs P).getD (lo i P).length []=ti w:=(congrArg (fun Q=>(vs Q).getD (lo i P).length []) e).trans (ALi ..)
  simp only
  rw[As (by simp),Ak,Ab,Ab (by rw[B_];exact_mod_cast hlt),qZ0,hg]
  rfl
theorem Ls {v:Ae} (h1:v.2.2.2.1.length<=1000000000) (h2:v.2.2.2.2.length<=1000000000):IJ v=some ((v,()),()):=by
 unfold IJ N9
 rw[Ab (by rw[Cx];omega),Ad,Ab (by rw[Cx];omega),Ad]
theorem Y9 {K:List qBs} {A B:List qBs} {x:qBs} (hK:K=A++x::B) (hl:K.length<=1000000000) :
 JZ K (A.length:Int) (qI ((A.length:Int)+1))=some (((A++B).length,()),(A++B++[[]],())):=by
 have hw:qI ((A.length:Int)+1)=((A.length+1:Nat):Int):=by
  have:A.length<=K.length:=by rw[hK];simp
  rw[Aw];rfl
 have hlen:K.length=A.length+B.length+1:=by rw[hK];simp;omega
 unfold JZ
 rw[hw,Ak,Ak,Ab,Ab,Ab,qZ0,qZ0]
 have e1:K.take A.length=A:=by rw[hK];exact List.take_left
 have e2:K.drop (A.length+1)=B:=by rw[hK];simp
 rw[e1,e2,show A.length+1 - A.length=1 by omega,show K.length - 1=(A++B).length by simp;omega]
 rfl
theorem Xq {K A B:List qBs} {x:qBs} (hK:K=A++B) (hl:K.length<=1000000000) :
 HI K (A.length:Int) ([x]:List qBs)=some ((A++[x]++B,()),()):=by
 have hlen:K.length=A.length+B.length:=by rw[hK];simp
 unfold HI
 rw[Ak,Ak,Ak,Ab,Ab,Ab (by rw[Cx];simp;omega),Ab (by simp),qZ0]
 have e1:K.take A.length=A:=by rw[hK];exact List.take_left
 have e2:K.drop A.length=B:=by rw[hK];exact List.drop_left
 rw[e1,e2]
theorem AHy {N:Nat} (hN:N<=100000) {d i n:Int} {L m H:KV} (h:Parts i L m H) (hs:Sm N d (L++m++H)) (hi:(ti i).length<=N) :
 IU (AI d (L++m++H)) (ti i) (ti n)=some ((AI d (L++(if n=d then [] else [(i,n)])++H),()),()):=by
 have hf:=hs.few
 have hp:=Wy hN h hs hi
 have hcl:=Ls (v:=AI d (L++m++H)) (by simp only;rw[Bj];exact hf) (by simp only;rw[B_];exact hf)
 have hkl:=Bj L;have hvl:=B_ L
 unfold IU
 rw[hcl,Ad,hp,Ad]
 simp only[E8]
 rcases h.mid with rfl | ⟨w,rfl⟩
 ·rw[Ax (by simp),Ax (by simp)]
  by_cases hn:n=d
  ·rw[qZ10 hn,if_pos hn];rfl
  ·rw[qZ9 hn,if_neg hn]
   have i1:=Xq (K:=ks (L++[]++H)) (A:=ks L) (B:=ks H) (x:=ti i) (by rw[<-LY];simp) (by rw[Bj];exact hf)
   have i2:=Xq (K:=vs (L++[]++H)) (A:=vs L) (B:=vs H) (x:=ti n) (by rw[<-F4];simp) (by rw[B_];exact hf)
   rw[hkl] at i1;rw[hvl] at i2
   simp only[qY1,Ap]
   rw[i1,Ad,i2,Ad]
   simp only[AI,LY,F4]
   rfl
 ·rw[As (by simp)]
  by_cases hn:n=d
  ·have d1:=Y9 (K:=ks (L++[(i,w)]++H)) (A:=ks L) (B:=ks H) (x:=ti i) (by rw[LY,LY];simp[ks]) (by rw[Bj];exact hf)
   have d2:=Y9 (K:=vs (L++[(i,w)]++H)) (A:=vs L) (B:=vs H) (x:=ti w) (by rw[F4,F4];simp[vs]) (by rw[B_];exact hf)
   rw[hkl] at d1;rw[hvl] at d2
   rw[As hn,d1,Ad,d2,Ad,if_pos hn]
   simp only[List.take_left]
   rw[<-LY,<-F4,qY4]
  ·rw[Ax hn,As (by simp),if_neg hn]
   have hl:((L.length:Nat):Int) < ((vs (L++[(i,w)]++H)).length:Nat):=by rw[B_];simp;omega
   rw[Ak,Ab,Ab hl,Ab (by rw[qZ0];omega),qZ0]
   have e1:ks (L++[(i,w)]++H)=ks (L++[(i,n)]++H):=by simp[ks]
   have e2:(vs (L++[(i,w)]++H)).set L.length (ti n)=vs (L++[(i,n)]++H):=by
    rw[F4,F4,F4,F4,qZ1,<-hvl,List.set_append_right _ _ (Nat.le_refl _),Nat.sub_self,qZ1]
    rfl
   rw[e1,e2]
theorem AIu {N:Nat} (hN:N<=100000) {d i n:Int} {P:KV} (hP:ER P) (hs:Sm N d P) (hi:(ti i).length<=N):IU (AI d P) (ti i) (ti n)=some ((AI d (Dn d P i n),()),()):=by
 obtain ⟨m,e,hp⟩:=RN hP i
 have:=AHy (n:=n) hN hp (e ▸ hs) hi
 rw[<-e] at this
 exact this
theorem Hg {N:Nat} (hN:N<=100000) {v:Ae} (hv:Short N v):Fh v=some ((AL v,()),()):=by
 have h1:B7 v.2.2.1=some ((A2 v.2.2.1,()),()):=FQ (by have:=hv.num;omega)
 have h2:D0 v.2.2.1=some (((rd v.2.2.1).isSome,()),()):=Kf (by have:=hv.num;omega)
 unfold Fh AL EO
 rw[h1,h2]
 simp only[Ad]
 by_cases e4:v.1=4
 ·rw[Bm e4,if_neg (by omega),if_neg (by omega),if_neg (by omega),if_pos e4,Bu]
  cases hb:v.2.1 with
  |true=>rfl
  |false=>
   simp only[AA,qY1,Bool.true_and]
   rw[Ag,Ag,Ag,Aq e4]
   cases hi:A2 v.2.2.1 with
   |false=>rfl
   |true=>
    simp only[qY2,AA,Bool.true_and]
    by_cases hl:v.2.2.2.1.length=v.2.2.2.2.length
    ·rw[Bm,qZ10 hl,Bool.true_and]
     rcases AFP hN hv hl with ⟨a1,a2⟩ | ⟨a1,k,a2⟩
     ·rw[a1,a2];simp only[Ad,AX,Ap]
     ·rw[a1,a2];simp only[Ad,Bk,Bl,Ap,AA]
    ·rw[Bu,qZ9 hl,Bool.false_and]
 ·rw[Bu e4]
  by_cases k1:v.2.2.2.1.length=0
  ·rw[Ax,qZ10 k1,Bool.true_and]
   by_cases k2:v.2.2.2.2.length=0
   ·rw[Ax,qZ10 k2]
    simp only[Bool.and_true]
    by_cases e1:v.1=1
    ·rw[Bm e1,if_pos e1,Aq e1]
    ·rw[Bu e1,if_neg e1]
     by_cases e2:v.1=2
     ·rw[if_pos e2,Ag e1,Aq e2];cases v.2.1<;>rfl
     ·rw[if_neg e2]
      by_cases e3:v.1=3
      ·rw[if_pos e3,Ag e1,Ag e2,Aq e3];cases v.2.1<;>rfl
      ·rw[if_neg e3,if_neg e4,Ag e1,Ag e2,Ag e3,Ag e4];cases v.2.1<;>rfl
   ·rw[As,qZ9 k2]
    simp only[Bool.and_false,if_neg e4,ite_self]
  ·rw[As,qZ9 k1,Bool.false_and]
   simp only[Bool.and_false,if_neg e4,ite_self]
theorem AFc {d i:Int} {P:KV} (hf:P.length<=1000000000) (ret:qBs):∀ n k,k+n=P.length->(∀ j (hj:j < P.length),j < k->P[j].1≠i)->
 ∃ e x,Am Il (ti i,AI d P,ret,(k:Int),())=some (e,x)/\((e=.exit 0/\x.2.1=AI d P/\CQ d P i=d)\/(e=.ret/\x.2.2.1=ti (CQ d P i))):=by
 intro n
 induction n with
 |zero=>
  intro k hk hno
  refine ⟨_,_,AY (e:=.exit 0) (by unfold Il;simp only;rw[Ax (by rw[Bj];omega)]) (by simp),.inl ⟨rfl,rfl,TY fun p hp=>?_⟩⟩
  obtain ⟨j,hj,rfl⟩:=List.getElem_of_mem hp
  exact hno j hj (by omega)
 |succ n ih=>
  intro k hk hno
  have hkl:k < P.length:=by omega
  by_cases he:P[k].1=i
  ·refine ⟨.ret,_,AY (by
    unfold Il
    simp only
    rw[As (by rw[Bj];omega),Ak,Ab,Ab (by rw[Bj];omega),qZ0,Er hkl,E8,qZ10 he,Ap,Ak,Ab,Ab (by rw[B_];omega)]) (by simp),.inr ⟨rfl,?_⟩⟩
   simp only
   rw[FG hkl]
   congr 1
   have e:P=P.take k++P[k]::P.drop (k+1):=by rw[<-qY6 hkl,List.take_append_drop]
   have h2:CQ d (P.take k++P[k]::P.drop (k+1)) i=P[k].2:=by
    rw[Sp (fun p hp=>by
     obtain ⟨j,hj,rfl⟩:=List.getElem_of_mem hp
     rw[List.getElem_take]
     exact hno j _ (by simp at hj;omega))]
    have:P[k]=(i,P[k].2):=Prod.ext he rfl
    rw[this];exact TH
   rw[<-e] at h2
   exact h2.symm
  ·have step:Il (ti i,AI d P,ret,(k:Int),())=some (.normal,(ti i,AI d P,ret,((k+1:Nat):Int),())):=by
    unfold Il
    simp only
    rw[As (by rw[Bj];omega),Ak,Ab,Ab (by rw[Bj];omega),qZ0,Er hkl,E8,qZ9 he,AA,Aw]
    rfl
   rw[AZ step]
   exact ih (k+1) (by omega) fun j hj hlt=>by
    by_cases e:j=k
    ·subst e;exact he
    ·exact hno j hj (by omega)
section
variable {d i n:Int} {P:KV} {t6:Ae}
theorem HD (Q:KV) (p:Int×Int):ks Q++[ti p.1]=ks (Q++[p]):=by simp[ks]
theorem Ib (Q:KV) (p:Int×Int):vs Q++[ti p.2]=vs (Q++[p]):=by simp[vs]
theorem Z1 {Q:KV} {k:Nat} (hf:P.length<=1000000000) (hQ:Q.length<=2000000000) (hk:k < P.length) (hne:P[k].1≠i) :
 Cy (ti i,ti n,AI d P,t6,AI d Q,true,(k:Int),())=some (.normal,(ti i,ti n,AI d P,t6,AI d (Q++[P[k]]),true,((k+1:Nat):Int),())):=by
 have a1:=Bj P;have a2:=B_ P;have a3:=Bj Q;have a4:=B_ Q
 unfold Cy
 simp only
 rw[As]
 simp only[qY2,AA]
 rw[As,Ak,Ab,Ab,qZ0,Er hk,FG hk,E8,qZ9 hne]
 simp only[qY1,Ap]
 rw[Ak,Ab,Ab,Ab (by rw[Cx];simp only[qY11,List.length_nil];omega),Ak,Ab,Ab,Ab (by rw[Cx];simp only[qY11,List.length_nil];omega),Aw,HD,Ib]
 rfl
theorem SM {Q:KV} {b:Bool}:Cy (ti i,ti n,AI d P,t6,AI d Q,b,((P.length+1:Nat):Int),())=some (.exit 0,(ti i,ti n,AI d P,t6,AI d Q,b,((P.length+1:Nat):Int),())):=by
 have a1:=Bj P
 unfold Cy
 simp only
 rw[Ax]
theorem ABL {Q:KV} (hf:P.length<=1000000000) :
 Cy (ti i,ti n,AI d P,t6,AI d Q,true,(P.length:Int),())=some (.normal,(ti i,ti n,AI d P,t6,AI d Q,true,((P.length+1:Nat):Int),())):=by
 have a1:=Bj P
 unfold Cy
 simp only
 rw[As]
 simp only[qY2,AA]
 rw[Ax,Aw]
 rfl
theorem XZ (hf:P.length<=1000000000):∀ (R pre Q:KV),P=pre++R->(∀ p∈R,p.1≠i)->Q.length+R.length<=2000000000->
 Am Cy (ti i,ti n,AI d P,t6,AI d Q,true,(pre.length:Int),())=some (.exit 0,(ti i,ti n,AI d P,t6,AI d (Q++R),true,((P.length+1:Nat):Int),())):=by
 intro R
 induction R with
 |nil=>
  intro pre Q e _ _
  have:pre.length=P.length:=by rw[e];simp
  rw[this,AZ (ABL hf),AY SM (by simp),qY4]
 |cons p R ih=>
  intro pre Q e hne hQ
  have hk:pre.length < P.length:=by rw[e];simp
  have hp:P[pre.length]=p:=by simp[e]
  simp only[qY11] at hQ
  rw[AZ (Z1 hf (by omega) hk (by rw[hp];exact hne p (by simp))),hp]
  have:=ih (pre++[p]) (Q++[p]) (by rw[e];simp) (fun q hq=>hne q (qY13 _ hq)) (by simp;omega)
  rw[qZ1] at this
  simp only[qZ6,qY11,List.length_nil,qY5,qY15] at this
  exact this
theorem ALj {N:Nat} (hN:N<=100000) {Q:KV} {k:Nat} (hs:Sm N d P) (hi:(ti i).length<=N) (hQ:Q.length<=2000000000) (hk:k < P.length) (hlt:P[k].1 < i) :
 Cy (ti i,ti n,AI d P,t6,AI d Q,false,(k:Int),())=some (.normal,(ti i,ti n,AI d P,t6,AI d (Q++[P[k]]),false,((k+1:Nat):Int),())):=by
 have a1:=Bj P;have a2:=B_ P;have a3:=Bj Q;have a4:=B_ Q;have hf:=hs.few
 have hc:DP (ti P[k].1) (ti i)=some (((P[k].1 - i).sign,()),()):=Ph (by have:=(hs.els _ (List.getElem_mem hk)).1;omega) (by omega)
 have hsg:(P[k].1 - i).sign=-1:=Int.sign_eq_neg_one_of_neg (by omega)
 unfold Cy
 simp only
 rw[As]
 simp only[qY1,Ap]
 rw[Ag,Ak,Ab,Ab,qZ0,Er hk,FG hk,hc,Ad,hsg]
 rw[Ax (by simp only;omega),As,Ak,Ab,Ab,E8,qZ9 (by omega)]
 simp only[qY1,Ap]
 rw[Ak,Ab,Ab,Ab (by rw[Cx];simp only[qY11,List.length_nil];omega),Ak,Ab,Ab,Ab (by rw[Cx];simp only[qY11,List.length_nil];omega),Aw,HD,Ib]
 rfl
theorem AKC {N:Nat} (hN:N<=100000) (hs:Sm N d P) (hi:(ti i).length<=N):∀ (R pre Z:KV),P=pre++R++Z->(∀ p∈R,p.1 < i)->
 Am Cy (ti i,ti n,AI d P,t6,AI d pre,false,(pre.length:Int),())=Am Cy (ti i,ti n,AI d P,t6,AI d (pre++R),false,((pre++R).length:Int),()):=by
 intro R
 induction R with
 |nil=>intro pre Z _ _;rw[qY4]
 |cons p R ih=>
  intro pre Z e hlt
  have hk:pre.length < P.length:=by rw[e];simp
  have hp:P[pre.length]=p:=by simp[e]
  have hf:=hs.few
  rw[AZ (ALj hN hs hi (by omega) hk (by rw[hp];exact hlt p (by simp))),hp]
  have:=ih (pre++[p]) Z (by rw[e];simp) (fun q hq=>hlt q (qY13 _ hq))
  rw[qZ1] at this
  simp only[qZ6,qY11,List.length_nil,qY5,qY15] at this ⊢
  exact this
end
def EC (d i n:Int):KV:=if n=d then [] else [(i,n)]
section
variable {d i n:Int} {P:KV} {t6:Ae}
theorem AJs {L:KV} (hf:P.length<=1000000000) (hL:L.length=P.length) :
 Cy (ti i,ti n,AI d P,t6,AI d L,false,(P.length:Int),())=some (.normal,(ti i,ti n,AI d P,t6,AI d (L++EC d i n),true,((P.length+1:Nat):Int),())):=by
 have a1:=Bj P;have a3:=Bj L;have a4:=B_ L
 unfold Cy
 simp only
 rw[As]
 simp only[qY1,Ap]
 rw[Aq,E8]
 unfold EC
 by_cases hn:n=d
 ·rw[qZ10 hn,if_pos hn]
  simp only[qY2,AA]
  rw[Ax,Aw,qY4]
  rfl
 ·rw[qZ9 hn,if_neg hn]
  simp only[qY1,Ap]
  rw[Ab (by rw[Cx];simp only[qY11,List.length_nil];omega),Ab (by rw[Cx];simp only[qY11,List.length_nil];omega),Ax,Aw,HD L (i,n),Ib L (i,n)]
  rfl
theorem ALa {N:Nat} (hN:N<=100000) (hs:Sm N d P) (hi:(ti i).length<=N) {L:KV} (hk:L.length < P.length) (hgt:i < P[L.length].1) :
 Cy (ti i,ti n,AI d P,t6,AI d L,false,(L.length:Int),())=some (.normal,(ti i,ti n,AI d P,t6,AI d (L++EC d i n++[P[L.length]]),true,((L.length+1:Nat):Int),())):=by
 have a1:=Bj P;have a2:=B_ P;have a3:=Bj L;have a4:=B_ L;have hf:=hs.few
 have hc:DP (ti P[L.length].1) (ti i)=some (((P[L.length].1 - i).sign,()),()):=Ph (by have:=(hs.els _ (List.getElem_mem hk)).1;omega) (by omega)
 have hsg:(P[L.length].1 - i).sign=1:=Int.sign_eq_one_of_pos (by omega)
 unfold Cy
 simp only
 rw[As]
 simp only[qY1,Ap]
 rw[Ag,Ak,Ab,Ab,qZ0,Er hk,FG hk,hc,Ad,hsg]
 rw[As (by simp only;omega),E8,E8]
 unfold EC
 by_cases hn:n=d
 ·rw[qZ10 hn,if_pos hn,qY4]
  simp only[qY2,AA]
  rw[As,Ak,Ab,Ab,qZ9 (by omega)]
  simp only[qY1,Ap]
  rw[Ak,Ab,Ab,Ab (by rw[Cx];simp only[qY11,List.length_nil];omega),Ak,Ab,Ab,Ab (by rw[Cx];simp only[qY11,List.length_nil];omega),Aw,HD,Ib]
  rfl
 ·rw[qZ9 hn,if_neg hn]
  simp only[qY1,Ap]
  rw[Ab (by rw[Cx];simp only[qY11,List.length_nil];omega),Ab (by rw[Cx];simp only[qY11,List.length_nil];omega),As,Ak,Ab,Ab,qZ9 (by omega)]
  simp only[qY1,Ap]
  rw[Ak,Ab,Ab,Ab (by rw[Cx];simp only[qZ6,qY11,List.length_nil];omega),Ak,Ab,Ab,Ab (by rw[Cx];simp only[qZ6,qY11,List.length_nil];omega),Aw,HD L (i,n),Ib L (i,n),HD,Ib]
  rfl
theorem AAS {N:Nat} (hN:N<=100000) (hs:Sm N d P) (hi:(ti i).length<=N) {L:KV} (hk:L.length < P.length) (heq:P[L.length].1=i) :
 Cy (ti i,ti n,AI d P,t6,AI d L,false,(L.length:Int),())=some (.normal,(ti i,ti n,AI d P,t6,AI d (L++EC d i n),true,((L.length+1:Nat):Int),())):=by
 have a1:=Bj P;have a2:=B_ P;have a3:=Bj L;have a4:=B_ L;have hf:=hs.few
 have hc:DP (ti P[L.length].1) (ti i)=some (((P[L.length].1 - i).sign,()),()):=Ph (by have:=(hs.els _ (List.getElem_mem hk)).1;omega) (by omega)
 have hsg:(P[L.length].1 - i).sign=0:=by rw[show P[L.length].1 - i=0 by omega];rfl
 unfold Cy
 simp only
 rw[As]
 simp only[qY1,Ap]
 rw[Ag,Ak,Ab,Ab,qZ0,Er hk,FG hk,hc,Ad,hsg]
 rw[As (by simp only;omega),E8,E8]
 unfold EC
 by_cases hn:n=d
 ·rw[qZ10 hn,if_pos hn,qY4]
  simp only[qY2,AA]
  rw[As,Ak,Ab,Ab,qZ10 heq]
  simp only[qY2,AA]
  rw[Aw]
  rfl
 ·rw[qZ9 hn,if_neg hn]
  simp only[qY1,Ap]
  rw[Ab (by rw[Cx];simp only[qY11,List.length_nil];omega),Ab (by rw[Cx];simp only[qY11,List.length_nil];omega),As,Ak,Ab,Ab,qZ10 heq]
  simp only[qY2,AA]
  rw[Aw,HD L (i,n),Ib L (i,n)]
  rfl
theorem AIg {N:Nat} (hN:N<=100000) (hP:ER P) (hs:Sm N d P) (hi:(ti i).length<=N) :
 Am Cy (ti i,ti n,AI d P,t6,AI d [],false,0,())=some (.exit 0,(ti i,ti n,AI d P,t6,AI d (Dn d P i n),true,((P.length+1:Nat):Int),())):=by
 obtain ⟨m,e,hp⟩:=RN hP i
 have hf:=hs.few
 have hd:=AKC (n:=n) (t6:=t6) hN hs hi (lo i P) [] (m++Num.hi i P) (by rw[qY15,<-qZ1];exact e) hp.lo
 simp only[qY15,List.length_nil] at hd
 rw[show ((0:Nat):Int)=0 from rfl] at hd
 rw[hd]
 have hst:Dn d P i n=lo i P++EC d i n++Num.hi i P:=rfl
 have hil:(EC d i n).length<=1:=by unfold EC;split<;>simp
 have hlen:=congrArg List.length e
 simp only[qZ6] at hlen
 rcases hp.mid with rfl | ⟨w,rfl⟩
 ·cases hH:Num.hi i P with
  |nil=>
   have hL:(lo i P).length=P.length:=by rw[hH] at hlen;simp at hlen;omega
   rw[hL,AZ (AJs hf hL),AY SM (by simp),hst,hH,qY4]
  |cons p H'=>
   have hk:(lo i P).length < P.length:=by rw[hH] at hlen;simp at hlen;omega
   have hp0:P[(lo i P).length]=p:=by
    have:P=lo i P++p::H':=by rw[hH,qY4] at e;exact e
    have h2:P[(lo i P).length]?=some p:=(congrArg (fun Q:KV=>Q[(lo i P).length]?) this).trans (by simp)
    rw[qZ5 hk] at h2
    exact Option.some.inj h2
   have hmem:∀ q∈p::H',i < q.1:=fun q hq=>hp.hi q (by show q∈Num.hi i P;rw[hH];exact hq)
   have h1:=ALa (n:=n) (t6:=t6) hN hs hi hk (by rw[hp0];exact hmem p (by simp))
   rw[hp0] at h1
   have h2:=XZ (i:=i) (n:=n) (d:=d) (t6:=t6) hf H' (lo i P++[p]) (lo i P++EC d i n++[p]) (by rw[hH] at e;simpa using e) (fun q hq=>by have:=hmem q (qY13 _ hq);omega)
    (by rw[hH] at hlen;simp at hlen ⊢;omega)
   rw[AZ h1,hst,hH]
   simp only[qZ6,qY11,List.length_nil,qZ1,qY5,qY15] at h2 ⊢
   exact h2
 ·have hk:(lo i P).length < P.length:=by simp at hlen;omega
  have hp0:P[(lo i P).length].1=i:=by
   have h2:P[(lo i P).length]?=some (i,w):=(congrArg (fun Q:KV=>Q[(lo i P).length]?) e).trans (by simp)
   rw[qZ5 hk] at h2
   rw[Option.some.inj h2]
  have h1:=AAS (n:=n) (t6:=t6) hN hs hi hk hp0
  have h2:=XZ (i:=i) (n:=n) (d:=d) (t6:=t6) hf (Num.hi i P) (lo i P++[(i,w)]) (lo i P++EC d i n) e (fun q hq=>by have:=hp.hi q hq;omega)
   (by simp at hlen ⊢;omega)
  rw[AZ h1,hst]
  simp only[qZ6,qY11,List.length_nil] at h2 ⊢
  exact h2
end
theorem O9 {N:Nat} (hN:N<=100000) {d i n:Int} {P:KV} (hP:Canon d P) (hs:Sm N d P) (hi:(ti i).length<=N) (hn:(ti n).length<=N) :
 Jw (AI d P) (ti i) (ti n)=some ((AI d (Dn d P i n),0,()),()):=by
 unfold Jw
 simp only
 rw[Bm,Hg hN hs.short,Ad,Pa hP,FQ (by omega),FQ (by omega),FT,FT]
 simp only[qY2,AA,Ad]
 have:=AIg (n:=n) (t6:=((0:Int),false,([]:qBs),([]:List qBs),([]:List qBs))) hN hP.incr hs hi
 have e:(AI d []:Ae)=(4,false,ti d,([]:List qBs),([]:List qBs)):=rfl
 rw[e] at this
 rw[this,Ad]
 simp only[AX,Ap]
theorem AEX {N:Nat} (hN:N<=100000) {d i:Int} {P:KV} (hP:Canon d P) (hs:Sm N d P) (hi:(ti i).length<=N) :
 Mz (AI d P) (ti i)=some ((ti (CQ d P i),()),()):=by
 unfold Mz
 simp only
 rw[Bm,Hg hN hs.short,Ad,Pa hP,FQ (by omega),FT]
 simp only[qY2,AA,Ad]
 obtain ⟨e,x,h1,h2⟩:=AFc (i:=i) (d:=d) hs.few ([]:qBs) P.length 0 (by omega) (fun j hj h=>by omega)
 rw[show ((0:Nat):Int)=0 from rfl] at h1
 rw[h1,Ad]
 rcases h2 with ⟨rfl,h3,h4⟩ | ⟨rfl,h3⟩
 ·simp only[AX,Ap]
  rw[h3,h4]
 ·simp only[Bk,Bl,Ap,AA]
  rw[h3]
theorem Sg {a b:List qBs} (ha:a.length<=2000000000):LA a b=some ((decide (a=b),()),()):=by
 unfold LA
 by_cases hl:a.length=b.length
 ·rw[Bm]
  have:=CN (step:=LO) (fun k=>(a,b,false,(k:Int),())) (fun k=>(a,b,false,(k:Int),())) a.length (E:=.exit 0) (B:=.ret) (by simp) (by simp) (fun k=>a.getD k []==b.getD k []) (fun k hk=>by
   unfold LO
   simp only
   rw[As,Ak,Ab,Ab,Ak,Ab,Ab,qZ0,Aw]
   cases (a.getD k []==b.getD k [])<;>rfl) (by
   unfold LO
   simp only
   rw[Ax])
  rw[show ((0:Nat):Int)=0 from rfl] at this
  have heq:(List.range a.length).all (fun k=>a.getD k []==b.getD k [])=decide (a=b):=by
   rw[Bool.eq_iff_iff,qY3,decide_eq_true_eq]
   constructor
   ·intro h
    refine List.ext_getElem hl fun k h1 h2=>?_
    have:=h k (List.mem_range.2 h1)
    simpa [qZ4,h1,h2] using this
   ·rintro rfl k _;simp
  rcases this with ⟨h1,h2⟩ | ⟨h1,k,h2⟩
  ·rw[h2,<-heq,h1];simp only[Ad,AX,Ap]
  ·rw[h2,<-heq,h1];simp only[Ad,Bk,Bl,Ap,AA]
 ·rw[Bu,qZ9 (fun e=>hl (by rw[e]))]
theorem II {a b:Ae} (ha:a.2.2.2.1.length<=2000000000) (hb:a.2.2.2.2.length<=2000000000):HC a b=some ((decide (a=b),()),()):=by
 obtain ⟨s,t,u,k,w⟩:=a
 obtain ⟨s',t',u',k',w'⟩:=b
 unfold HC
 simp only at ha hb ⊢
 rw[Sg ha,Sg hb]
 simp only[Ad,Prod.mk.injEq]
 by_cases h1:s=s'
 ·rw[Aq h1]
  by_cases h2:t=t'
  ·rw[h2];simp only[beq_self_eq_true,Ap]
   by_cases h3:u=u'
   ·rw[h3];simp only[beq_self_eq_true,Ap]
    by_cases h4:k=k'
    ·rw[qZ10 h4];simp only[Ap];simp[h1,h4]
    ·rw[qZ9 h4];simp only[AA];simp[h4]
   ·rw[show (u==u')=false from beq_eq_false_iff_ne.2 h3];simp[h3]
  ·rw[show (t==t')=false from beq_eq_false_iff_ne.2 h2];simp[h2]
 ·rw[Ag h1];simp[h1]
theorem QI {d i n:Int} {P:KV} (h:ER P):(Dn d P i n).length<=P.length+1:=by
 obtain ⟨m,e,_⟩:=XO i h
 have:=congrArg List.length e
 unfold Dn
 simp only[qZ6] at this ⊢
 split<;>simp<;>omega
theorem X0 {N:Nat} {d i n:Int} {P:KV} (hP:ER P) (h:Sm N d P) (hi:(ti i).length<=N) (hn:(ti n).length<=N) (hl:P.length < 1000000000):Sm N d (Dn d P i n):=by
 refine ⟨h.num,fun p hp=>?_,by have:=QI (d:=d) (i:=i) (n:=n) hP;omega⟩
 unfold Dn at hp
 rcases List.mem_append.1 hp with hp | hp
 ·rcases List.mem_append.1 hp with hp | hp
  ·exact h.els p (Jt.1 hp).1
  ·split at hp
   ·cases hp
   ·rw[List.mem_singleton.1 hp];exact ⟨hi,hn⟩
 ·exact h.els p (Lj.1 hp).1
theorem It {c:List Int×Int} (hc:CI c):∃ (z:Int) (c':List Int×Int),EK c=some ((ti z,()),(c',()))/\CI c'/\(ti z).length<=52:=by
 obtain ⟨z,c',h1,h2,h3⟩:=UQ hc
 exact ⟨z,c',h1,h2,by have:=BH (z:Rat);unfold ti;omega⟩
theorem ALN {t4:Ae}:∀ (n:Nat) {c:List Int×Int} {d:Int} {P:KV},CI c->Canon d P->Sm 52 d P->P.length+n<=60->
 ∃ c' P',Am Mj (c,t4,AI d P,(n:Int),())=some (.exit 1,(c',t4,AI d P',0,()))/\CI c'/\Canon d P'/\Sm 52 d P'/\P'.length<=60:=by
 intro n
 induction n with
 |zero=>
  intro c d P hc hP hs hl
  exact ⟨c,P,AY (by unfold Mj;simp only;rw[Ax];rfl) (by simp),hc,hP,hs,by omega⟩
 |succ n ih=>
  intro c d P hc hP hs hl
  obtain ⟨i,c1,h1,hc1,hi⟩:=It hc
  obtain ⟨m,c2,h2,hc2,hm⟩:=It hc1
  have h3:=O9 (N:=52) (by omega) hP hs hi hm
  have hlen:=QI (d:=d) (i:=i) (n:=m) hP.incr
  obtain ⟨c',P',g1,g2,g3,g4,g5⟩:=ih hc2 (RV hP i m) (X0 hP.incr hs hi hm (by omega)) (by omega)
  refine ⟨c',P',?_,g2,g3,g4,g5⟩
  rw[AZ (y:=(c2,t4,AI d (Dn d P i m),(n:Int),())) (by
   unfold Mj
   simp only
   rw[As,h1,Ad,h2,Ad,h3,Ad,Aw]
   have e:((n+1:Nat):Int) - 1=(n:Int):=by omega
   rw[e])]
  exact g1
theorem MZ (d:Int):Canon d []:=⟨List.Pairwise.nil,fun _ hp=>absurd hp qY16⟩
theorem QJ {N:Nat} {d:Int} (h:(ti d).length<=N):Sm N d []:=⟨h,fun _ hp=>absurd hp qY16,Nat.zero_le _⟩
theorem ACk {c:List Int×Int} (hc:CI c):∃ d P c',I9 c 4=some ((AI d P,()),(c',()))/\CI c'/\Canon d P/\Sm 52 d P/\P.length<=60:=by
 obtain ⟨d,c1,h1,hc1,hd⟩:=It hc
 obtain ⟨r,c2,h2,hc2,r0,r4⟩:=Bw hc1 (n:=4) (by omega)
 obtain ⟨k,rfl⟩:∃ k:Nat,r=k:=⟨r.toNat,by omega⟩
 obtain ⟨c3,P,h3,hc3,hP,hs,hl⟩:=ALN (t4:=((0:Int),false,([]:qBs),([]:List qBs),([]:List qBs))) k hc2 (MZ d) (QJ hd) (by simp;omega)
 refine ⟨d,P,c3,?_,hc3,hP,hs,hl⟩
 have e:(AI d []:Ae)=(4,false,ti d,([]:List qBs),([]:List qBs)):=rfl
 rw[e] at h3
 unfold I9
 rw[Ag,Aq rfl,h1,Ad,h2,Ad,h3,Ad]
 simp only[AX,Ap]
theorem S0 {a b:List qBs} (ha:a.length<=2000000000):J3 a b=some ((decide (a=b),()),()):=by
 unfold J3
 by_cases hl:a.length=b.length
 ·rw[Bm]
  have:=CN (step:=K4) (fun k=>(a,b,false,(a.length:Int),(k:Int),())) (fun k=>(a,b,false,(a.length:Int),(k:Int),())) a.length (E:=.exit 0) (B:=.ret) (by simp) (by simp) (fun k=>a.getD k []==b.getD k []) (fun k hk=>by
   unfold K4
   simp only
   rw[As,Ak,Ab,Ab,Ak,Ab,Ab,qZ0,Aw]
   cases (a.getD k []==b.getD k [])<;>rfl) (by
   unfold K4
   simp only
   rw[Ax])
  rw[show ((0:Nat):Int)=0 from rfl] at this
  have heq:(List.range a.length).all (fun k=>a.getD k []==b.getD k [])=decide (a=b):=by
   rw[Bool.eq_iff_iff,qY3,decide_eq_true_eq]
   constructor
   ·intro h
    refine List.ext_getElem hl fun k h1 h2=>?_
    have:=h k (List.mem_range.2 h1)
    simpa [qZ4,h1,h2] using this
   ·rintro rfl k _;simp
  rcases this with ⟨h1,h2⟩ | ⟨h1,k,h2⟩
  ·rw[h2,<-heq,h1];simp only[Ad,AX,Ap]
  ·rw[h2,<-heq,h1];simp only[Ad,Bk,Bl,Ap,AA]
 ·rw[Bu,qZ9 (fun e=>hl (by rw[e]))]
theorem Lw {a b:Ae} (ha:a.2.2.2.1.length<=2000000000) (hb:a.2.2.2.2.length<=2000000000):Hk a b=some ((decide (a=b),()),()):=by
 obtain ⟨s,t,u,k,w⟩:=a
 obtain ⟨s',t',u',k',w'⟩:=b
 unfold Hk
 simp only at ha hb ⊢
 rw[S0 ha,S0 hb]
 simp only[Ad,Prod.mk.injEq]
 by_cases h1:s=s'
 ·rw[Aq h1]
  by_cases h2:t=t'
  ·rw[h2];simp only[beq_self_eq_true,Ap]
   by_cases h3:u=u'
   ·rw[h3];simp only[beq_self_eq_true,Ap]
    by_cases h4:k=k'
    ·rw[qZ10 h4];simp only[Ap];simp[h1,h4]
    ·rw[qZ9 h4];simp only[AA];simp[h4]
   ·rw[show (u==u')=false from beq_eq_false_iff_ne.2 h3];simp[h3]
  ·rw[show (t==t')=false from beq_eq_false_iff_ne.2 h2];simp[h2]
 ·rw[Ag h1];simp[h1]
abbrev nOp (n:Ac):Int:=n.1
abbrev A3 (n:Ac):Int:=n.2.1
abbrev Bo (n:Ac):qBs:=n.2.2.1
abbrev Bg (n:Ac):qBs:=n.2.2.2.1
abbrev A7 (n:Ac):Int:=n.2.2.2.2
def letterB (c:UInt8):Bool:=(decide (97<=c)&&decide (c<=122))||(decide (65<=c)&&decide (c<=90))||c==95||c==36||c==33
def FK (c:UInt8):Bool:=letterB c||(decide (48<=c)&&decide (c<=57))||c==46||c==64
def JG:List qBs:=[[97,110,100],[111,114],[110,111,116],[105,116,101],[116,114,117,101],[102,97,108,115,101],[108,101,116],[102,111,114,97,108,108],[101,120,105,115,116,115],
 [100,105,115,116,105,110,99,116],[100,105,118],[109,111,100],[115,101,108,101,99,116],[115,116,111,114,101],[99,111,110,115,116],[66,111,111,108],[73,110,116],[82,101,97,108],[65,114,114,97,121]]
def Fn (s:qBs):Bool:=decide (s.length<=40)&&letterB (s.getD 0 0)&&!(decide (s∈JG))&&s.all FK
noncomputable def Bq (n:Ac):Bool:=
 if nOp n=3 then decide (Bo n=[])&&((decide (A3 n=2)&&A2 (Bg n))||(decide (A3 n=3)&&(rd (Bg n)).isSome))
 else if nOp n=4\/nOp n=5 then decide (1<=A3 n/\A3 n<=4)&&Fn (Bo n)&&decide (Bg n=[])
 else if nOp n=16\/nOp n=17 then decide (A3 n=0)&&decide (Bo n=[])&&A2 (Bg n)&&decide (0 < CH (Bg n))
 else decide (1<=nOp n/\nOp n<=20)&&decide (A3 n=0)&&decide (Bo n=[])&&decide (Bg n=[])
def AH (o k:Int):Bool:=
 if o=1\/o=2\/o=3\/o=4 then decide (k=0)
 else if o=5 then decide (1<=k/\k<=40)
 else if o=6\/o=16\/o=17\/o=20 then decide (k=1)
 else if o=7\/o=8 then decide (0<=k)
 else if o=14 then decide (1<=k)
 else if o=10\/o=19 then decide (k=3)
 else decide (k=2)
theorem OU {o k:Int} (h:AH o k=true):0<=k:=by
 unfold AH at h
 repeat' split at h
 all_goals (simp at h;omega)
noncomputable def Cv (n:Ac):Bool:=Bq n&&AH (nOp n) (A7 n)
def AQ (n:Ac) (first:Int) (ss:List Int):Int:=
 if nOp n=3\/nOp n=4\/nOp n=5 then A3 n
 else if nOp n=1\/nOp n=2\/nOp n=6\/nOp n=7\/nOp n=8\/nOp n=9 then (if ∀ s∈ss,s=1 then 1 else 0)
 else if nOp n=10 then (if ss.getD 0 0=1/\ss.getD 1 0=ss.getD 2 0 then ss.getD 1 0 else 0)
 else if nOp n=11 then (if ss.getD 0 0=ss.getD 1 0 then 1 else 0)
 else if nOp n=12\/nOp n=13 then (if (ss.getD 0 0=2\/ss.getD 0 0=3)/\∀ s∈ss,s=ss.getD 0 0 then 1 else 0)
 else if nOp n=14 then (if (ss.getD 0 0=2\/ss.getD 0 0=3)/\∀ s∈ss,s=ss.getD 0 0 then ss.getD 0 0 else 0)
 else if nOp n=15 then (if first=3/\(ss.getD 0 0=2\/ss.getD 0 0=3)/\∀ s∈ss,s=ss.getD 0 0 then ss.getD 0 0 else 0)
 else if nOp n=16\/nOp n=17 then (if ss.getD 0 0=2 then 2 else 0)
 else if nOp n=18 then (if ss.getD 0 0=4/\ss.getD 1 0=2 then 2 else 0)
 else if nOp n=19 then (if ss.getD 0 0=4/\ss.getD 1 0=2/\ss.getD 2 0=2 then 4 else 0)
 else if nOp n=20 then (if ss.getD 0 0=2 then 4 else 0)
 else 0
inductive Tf where
 |nil
 |cons (n:Ac) (k r:Tf)
namespace Tf
def flat:Tf->List Ac
 |nil=>[]
 |cons n k r=>n::(flat k++flat r)
def len:Tf->Nat
 |nil=>0
 |cons _ _ r=>len r+1
def size:Tf->Nat
 |nil=>0
 |cons _ k r=>size k+size r+1
def app:Tf->Tf->Tf
 |nil,g=>g
 |cons n k r,g=>cons n k (app r g)
def dep:Tf->Nat
 |nil=>0
 |cons _ k r=>max (dep k+1) (dep r)
def op1:Tf->Int
 |nil=>0
 |cons n _ _=>nOp n
def srt:Tf->List Int
 |nil=>[]
 |cons n k r=>(if 0∈srt k then 0 else AQ n (op1 k) (srt k))::srt r
noncomputable def wf:Tf->Bool
 |nil=>true
 |cons n k r=>Cv n&&decide (A7 n=(len k:Int))&&wf k&&wf r
def take:Nat->Tf->Tf
 |0,_=>nil
 |_+1,nil=>nil
 |c+1,cons n k r=>cons n k (take c r)
def drop:Nat->Tf->Tf
 |0,f=>f
 |_+1,nil=>nil
 |c+1,cons _ _ r=>drop c r
theorem BN (f:Tf):f.flat.length=f.size:=by
 induction f with
 |nil=>rfl
 |cons n k r ik ir=>simp only[flat,size,qY11,qZ6];omega
theorem JK (f g:Tf):(f.app g).flat=f.flat++g.flat:=by
 induction f with
 |nil=>rfl
 |cons n k r _ ir=>simp only[app,flat,ir,qY5,qZ1]
theorem Qu (f g:Tf):(f.app g).len=f.len+g.len:=by
 induction f with
 |nil=>simp[app,len]
 |cons n k r _ ir=>simp only[app,len,ir];omega
theorem MI (f g:Tf):(f.app g).size=f.size+g.size:=by
 induction f with
 |nil=>simp[app,size]
 |cons n k r _ ir=>simp only[app,size,ir];omega
theorem Ji (f g:Tf):(f.app g).srt=f.srt++g.srt:=by
 induction f with
 |nil=>rfl
 |cons n k r _ ir=>simp only[app,srt,ir,qY5]
theorem KE (f g:Tf):(f.app g).wf=(f.wf&&g.wf):=by
 induction f with
 |nil=>simp[app,wf]
 |cons n k r _ ir=>simp only[app,wf,ir,Bool.and_assoc]
theorem Qm (f g:Tf):(f.app g).dep=max f.dep g.dep:=by
 induction f with
 |nil=>simp[app,dep]
 |cons n k r _ ir=>simp only[app,dep,ir];omega
theorem AB2 (f:Tf):f.app nil=f:=by
 induction f with
 |nil=>rfl
 |cons n k r _ ir=>simp only[app,ir]
theorem DN (f:Tf):f.srt.length=f.len:=by
 induction f with
 |nil=>rfl
 |cons n k r _ ir=>simp only[srt,len,qY11,ir]
theorem SB:∀ (c:Nat) (f:Tf),(take c f).app (drop c f)=f:=by
 intro c
 induction c with
 |zero=>intro f;cases f<;>rfl
 |succ c ih=>
  intro f
  cases f with
  |nil=>rfl
  |cons n k r=>simp only[take,drop,app,ih]
theorem S4:∀ (c:Nat) (f:Tf),c<=f.len->(take c f).len=c:=by
 intro c
 induction c with
 |zero=>intro f _;cases f<;>rfl
 |succ c ih=>
  intro f h
  cases f with
  |nil=>simp[len] at h
  |cons n k r=>simp only[len] at h;simp only[take,len,ih r (by omega)]
theorem ABV (f g:Tf):take f.len (f.app g)=f:=by
 induction f with
 |nil=>cases g<;>rfl
 |cons n k r _ ir=>simp only[len,app,take,ir]
theorem AK4 (f g:Tf):drop f.len (f.app g)=g:=by
 induction f with
 |nil=>cases g<;>rfl
 |cons n k r _ ir=>simp only[len,app,drop,ir]
theorem Es (f:Tf):f.len<=f.size:=by
 induction f with
 |nil=>simp[len,size]
 |cons n k r _ ir=>simp only[len,size];omega
theorem WO (f:Tf):f.dep<=f.size:=by
 induction f with
 |nil=>simp[dep,size]
 |cons n k r ik ir=>simp only[dep,size];omega
theorem CF {n:Ac} {k r:Tf}:(cons n k r).wf=true ↔ Cv n=true/\A7 n=(len k:Int)/\wf k=true/\wf r=true:=by
 simp only[wf,qY0,decide_eq_true_eq,and_assoc]
theorem EF {n:Ac} {k r:Tf}:(0:Int)∉(cons n k r).srt ↔ (0:Int)∉k.srt/\AQ n (op1 k) k.srt≠0/\(0:Int)∉r.srt:=by
 simp only[srt,qY12,not_or]
 constructor
 ·rintro ⟨h1,h2⟩
  split at h1
  ·exact absurd rfl h1
  ·rename_i h;exact ⟨h,fun e=>h1 e.symm,h2⟩
 ·rintro ⟨h1,h2,h3⟩
  rw[if_neg h1]
  exact ⟨fun e=>h2 e.symm,h3⟩
end Tf
open Tf
noncomputable def bkp:List Ac->Option Tf
 |[]=>some nil
 |n::l=>(bkp l).bind fun f=>if Cv n=true/\A7 n<=(f.len:Int)/\(0:Int)≠AQ n (op1 (take (A7 n).toNat f)) (take (A7 n).toNat f).srt then some (cons n (take (A7 n).toNat f) (drop (A7 n).toNat f)) else none
theorem Qz:∀ {t:List Ac} {f:Tf},bkp t=some f->f.flat=t/\f.wf=true/\(0:Int)∉f.srt:=by
 intro t
 induction t with
 |nil=>intro f h;simp only[bkp,Option.some.injEq] at h;subst h;exact ⟨rfl,rfl,by simp[srt]⟩
 |cons n l ih=>
  intro f h
  simp only[bkp,Option.bind_eq_some_iff] at h
  obtain ⟨g,hg,h⟩:=h
  split at h
  ·rename_i hc
   obtain ⟨h1,h2,h3⟩:=hc
   obtain ⟨i1,i2,i3⟩:=ih hg
   simp only[Option.some.injEq] at h
   subst h
   have e:=SB (A7 n).toNat g
   have hk:0<=A7 n:=by
    unfold Cv at h1
    simp only[qY0] at h1
    exact OU h1.2
   have hl:=S4 (A7 n).toNat g (by omega)
   rw[<-e,KE,qY0] at i2
   rw[<-e,Ji,qZ7,not_or] at i3
   refine ⟨?_,CF.2 ⟨h1,by rw[hl];omega,i2.1,i2.2⟩,EF.2 ⟨i3.1,fun e=>h3 e.symm,i3.2⟩⟩
   rw[<-i1]
   simp only[flat]
   rw[<-JK,e]
  ·cases h
theorem ALp:∀ (N:Nat) (f:Tf),f.size<=N->f.wf=true->(0:Int)∉f.srt->bkp f.flat=some f:=by
 intro N
 induction N with
 |zero=>intro f h _ _;cases f with
  |nil=>rfl
  |cons n k r=>simp[size] at h
 |succ N ih=>
  intro f h hw hs
  cases f with
  |nil=>rfl
  |cons n k r=>
   obtain ⟨h1,h2,h3,h4⟩:=CF.1 hw
   obtain ⟨s1,s2,s3⟩:=EF.1 hs
   simp only[size] at h
   have:=ih (k.app r) (by rw[MI];omega) (by rw[KE,h3,h4];rfl) (by rw[Ji,qZ7];exact fun e=>e.elim s1 s3)
   rw[JK] at this
   simp only[flat,bkp,this,Option.bind_some]
   have e:(A7 n).toNat=k.len:=by omega
   rw[e,ABV,AK4,if_pos ⟨h1,by rw[Qu];omega,fun e=>s2 e.symm⟩]
theorem AEk {t:List Ac} {f:Tf}:bkp t=some f ↔ f.flat=t/\f.wf=true/\(0:Int)∉f.srt:=
 ⟨Qz,fun ⟨h1,h2,h3⟩=>h1 ▸ ALp _ f (Nat.le_refl _) h2 h3⟩
def many (p:List Ac->Option (Tf×List Ac)):Nat->List Ac->Option (Tf×List Ac)
 |0,l=>some (nil,l)
 |c+1,l=>(p l).bind fun x=>(many p c x.2).bind fun y=>some (x.1.app y.1,y.2)
noncomputable def one:Nat->List Ac->Option (Tf×List Ac)
 |0,_=>none
 |_+1,[]=>none
 |d+1,n::l=>if Cv n=true then (many (one d) (A7 n).toNat l).bind fun x=>some (cons n x.1 nil,x.2) else none
theorem VH {d:Nat} (ho:∀ {l l':List Ac} {f:Tf},one d l=some (f,l')->l=f.flat++l'/\f.wf=true/\f.len=1/\f.dep<=d) :
 ∀ (c:Nat) {l l':List Ac} {f:Tf},many (one d) c l=some (f,l')->l=f.flat++l'/\f.wf=true/\f.len=c/\f.dep<=d:=by
 intro c
 induction c with
 |zero=>intro l l' f h;simp only[many,Option.some.injEq,Prod.mk.injEq] at h;obtain ⟨rfl,rfl⟩:=h;exact ⟨rfl,rfl,rfl,Nat.zero_le _⟩
 |succ c ih=>
  intro l l' f h
  simp only[many,Option.bind_eq_some_iff] at h
  obtain ⟨⟨g,l1⟩,h1,⟨g2,l2⟩,h2,h3⟩:=h
  simp only[Option.some.injEq,Prod.mk.injEq] at h3
  obtain ⟨rfl,rfl⟩:=h3
  obtain ⟨e1,w1,n1,d1⟩:=ho h1
  obtain ⟨e2,w2,n2,d2⟩:=ih h2
  simp only at e2
  refine ⟨by rw[e1,e2,JK,qZ1],by rw[KE,w1,w2];rfl,by rw[Qu];omega,by rw[Qm];omega⟩
theorem Oc:∀ (d:Nat) {l l':List Ac} {f:Tf},one d l=some (f,l')->l=f.flat++l'/\f.wf=true/\f.len=1/\f.dep<=d:=by
 intro d
 induction d with
 |zero=>intro l l' f h;simp[one] at h
 |succ d ih=>
  intro l l' f h
  cases l with
  |nil=>simp[one] at h
  |cons n l=>
   simp only[one] at h
   split at h
   ·rename_i hn
    simp only[Option.bind_eq_some_iff] at h
    obtain ⟨⟨g,l1⟩,h1,h2⟩:=h
    simp only[Option.some.injEq,Prod.mk.injEq] at h2
    obtain ⟨rfl,rfl⟩:=h2
    obtain ⟨e1,w1,n1,d1⟩:=VH ih _ h1
    have hk:0<=A7 n:=by
     unfold Cv at hn
     simp only[qY0] at hn
     exact OU hn.2
    refine ⟨by rw[e1];simp only[flat,qY4,qY5],CF.2 ⟨hn,by omega,w1,rfl⟩,rfl,by simp only[dep];omega⟩
   ·cases h
theorem ABB (f:Tf):∀ (d:Nat) (l:List Ac),f.wf=true->f.dep<=d->many (one d) f.len (f.flat++l)=some (f,l):=by
 induction f with
 |nil=>intro d l _ _;rfl
 |cons n k r ik ir=>
  intro d l hw hd
  obtain ⟨h1,h2,h3,h4⟩:=CF.1 hw
  simp only[dep] at hd
  obtain ⟨e,rfl⟩:∃ e,d=e+1:=⟨d - 1,by omega⟩
  have e1:=ik e (r.flat++l) h3 (by omega)
  have e2:=ir (e+1) l h4 (by omega)
  have ek:(A7 n).toNat=k.len:=by omega
  simp only[len,flat,many,qY5,one,qZ1]
  rw[if_pos h1,ek,e1]
  simp only[Option.bind_some]
  rw[e2]
  rfl
theorem SG {f:Tf} {d:Nat} (l:List Ac) (hw:f.wf=true) (hl:f.len=1) (hd:f.dep<=d):one d (f.flat++l)=some (f,l):=by
 have:=ABB f d l hw hd
 rw[hl] at this
 simp only[many,Option.bind_eq_some_iff] at this
 obtain ⟨⟨g,l1⟩,h1,⟨g2,l2⟩,h2,h3⟩:=this
 simp only[Option.some.injEq,Prod.mk.injEq] at h2 h3
 obtain ⟨rfl,rfl⟩:=h2
 obtain ⟨rfl,rfl⟩:=h3
 rw[h1,AB2]
end Go.AM.Num
end
