/- Law ValueArithmetic of the values: a machine of plain values, what the program's functions compute in it, and what that is. No condition beyond what the statement says. -/
import Derived.Test.YtmckcoeongfmhaaGreatDoorValueArithmetic5
import Derived.Lib.SlTrimSet
set_option linter.unusedSimpArgs false
set_option linter.unusedVariables false
section
set_option linter.unusedSimpArgs false
set_option linter.unusedVariables false
namespace Go.AM.Num
def txt (q:Rat):qBs:=(if q.num < 0 then [45] else [])++dd q.num.natAbs++(if q.den=1 then [] else 47::dd q.den)
def sg (neg:Bool) (m:Nat):Int:=if neg then -(m:Int) else m
def tx (neg:Bool) (m d:Nat):qBs:=(if neg=true/\m≠0 then [45] else [])++dd m++(if d=1 then [] else 47::dd d)
theorem qKH (neg:Bool) (m:Nat):(sg neg m).natAbs=m:=by cases neg<;>simp[sg]
theorem qIO (neg:Bool) (m:Nat):sg neg m < 0 ↔ neg=true/\m≠0:=by
 cases neg<;>simp[sg]<;>omega
theorem qPl (a b:Bool) (m n:Nat):sg a m * sg b n=sg (a !=b) (m * n):=by
 cases a<;>cases b<;>simp[sg,Int.neg_mul,Int.mul_neg]
theorem qUW (q:Rat):sg (decide (q.num < 0)) q.num.natAbs=q.num:=by
 unfold sg
 by_cases h:q.num < 0
 ·rw[qZ10 h];simp;omega
 ·rw[qZ9 h];simp;omega
theorem qUar (neg:Bool) (m g:Nat) (h:g ∣ m):sg neg m / (g:Int)=sg neg (m / g):=by
 cases neg with
 |false=>simp[sg]
 |true=>
  simp only[sg,if_true]
  rw[Int.neg_ediv_of_dvd (Int.natCast_dvd_natCast.2 h),<-Int.natCast_ediv]
theorem qXY (neg:Bool) (m d:Nat) (hd:d≠0):tx neg (m / Nat.gcd m d) (d / Nat.gcd m d)=txt (mkRat (sg neg m) d):=by
 have hn:(mkRat (sg neg m) d).num=sg neg (m / Nat.gcd m d):=by
  rw[Rat.num_mkRat,if_neg hd,qKH,Nat.gcd_comm d m,qUar _ _ _ (Nat.gcd_dvd_left m d)]
 have hde:(mkRat (sg neg m) d).den=d / Nat.gcd m d:=by
  rw[Rat.den_mkRat,if_neg hd,qKH,Nat.gcd_comm d m]
 unfold txt tx
 rw[hn,hde,qKH]
 simp only[qIO]
theorem qPU (neg:Bool) (m d:Nat) (hd:d≠0) (hg:Nat.gcd m d=1):tx neg m d=txt (mkRat (sg neg m) d):=by
 have:=qXY neg m d hd
 rwa [hg,Nat.div_one,Nat.div_one] at this
theorem qBc {n:Nat}:(47:UInt8)∉dd n:=fun h=>by have:=(qMd n _ h).1;simp at this
theorem qJar {n:Nat}:(45:UInt8)∉dd n:=fun h=>by have:=(qMd n _ h).1;simp at this
theorem qWk (n:Nat) (r:qBs) (s:qBs):dd n++r≠45::s:=by
 intro h
 cases e:dd n with
 |nil=>exact qTe n e
 |cons c t=>
  rw[e] at h
  simp only[qY5,List.cons.injEq] at h
  have:(45:UInt8)∈dd n:=by rw[e,h.1];simp
  exact qJar this
theorem qSe {a b x y:qBs} (ha:(47:UInt8)∉a) (hx:(47:UInt8)∉x) (h:a++47::b=x++47::y):a=x/\b=y:=by
 induction a generalizing x with
 |nil=>
  cases x with
  |nil=>simpa using h
  |cons c x=>simp only[qY15,qY5,List.cons.injEq] at h;exact absurd (h.1 ▸ List.mem_cons_self) hx
 |cons c a ih=>
  cases x with
  |nil=>simp only[qY15,qY5,List.cons.injEq] at h;exact absurd (h.1 ▸ List.mem_cons_self) ha
  |cons e x=>
   simp only[qY5,List.cons.injEq] at h
   obtain ⟨h1,h2⟩:=ih (fun hm=>ha (qY13 _ hm)) (fun hm=>hx (qY13 _ hm)) h.2
   exact ⟨by rw[h.1,h1],h2⟩
theorem txt_inj {p q:Rat} (h:txt p=txt q):p=q:=by
 unfold txt at h
 have hs:(p.num < 0 ↔ q.num < 0):=by
  by_cases h1:p.num < 0<;>by_cases h2:q.num < 0
  ·simp[h1,h2]
  ·rw[if_pos h1,if_neg h2] at h
   simp only[qY15,qZ1,qY5] at h
   exact absurd h.symm (qWk _ _ _)
  ·rw[if_neg h1,if_pos h2] at h
   simp only[qY15,qZ1,qY5] at h
   exact absurd h (qWk _ _ _)
  ·simp[h1,h2]
 have h':dd p.num.natAbs++(if p.den=1 then [] else 47::dd p.den)=dd q.num.natAbs++(if q.den=1 then [] else 47::dd q.den):=by
  by_cases h1:p.num < 0
  ·rw[if_pos h1,if_pos (hs.1 h1)] at h
   simpa using h
  ·rw[if_neg h1,if_neg (fun h2=>h1 (hs.2 h2))] at h
   simpa using h
 have key:p.num.natAbs=q.num.natAbs/\p.den=q.den:=by
  by_cases h1:p.den=1<;>by_cases h2:q.den=1
  ·rw[if_pos h1,if_pos h2] at h'
   simp only[qY4] at h'
   exact ⟨qVQ h',by omega⟩
  ·rw[if_pos h1,if_neg h2] at h'
   simp only[qY4] at h'
   exact absurd (show (47:UInt8)∈dd p.num.natAbs by rw[h'];simp) qBc
  ·rw[if_neg h1,if_pos h2] at h'
   simp only[qY4] at h'
   exact absurd (show (47:UInt8)∈dd q.num.natAbs by rw[<-h'];simp) qBc
  ·rw[if_neg h1,if_neg h2] at h'
   obtain ⟨e1,e2⟩:=qSe qBc qBc h'
   exact ⟨qVQ e1,qVQ e2⟩
 exact Rat.ext (by omega) key.2
open Classical in
noncomputable def rd (a:qBs):Option Rat:=if h:∃ q,a=txt q then some h.choose else none
theorem qOK (q:Rat):rd (txt q)=some q:=by
 have h:∃ p,txt q=txt p:=⟨q,rfl⟩
 unfold rd
 rw[dif_pos h]
 exact congrArg some (txt_inj h.choose_spec).symm
theorem qWO {a:qBs} {q:Rat} (h:rd a=some q):a=txt q:=by
 unfold rd at h
 split at h
 ·rename_i hh
  have:=hh.choose_spec
  rw[Option.some.inj h] at this
  exact this
 ·cases h
theorem qBf {a:qBs} (h:∀ q,a≠txt q):rd a=none:=by
 cases e:rd a with
 |none=>rfl
 |some q=>exact absurd (qWO e) (h q)
def D (q:Rat):Nat:=(dd q.num.natAbs).length+(dd q.den).length
theorem qJF (q:Rat):(txt q).length<=D q+2:=by
 unfold txt D
 simp only[qZ6]
 have h1:(if q.num < 0 then [(45:UInt8)] else []).length<=1:=by split<;>simp
 have h2:(if q.den=1 then ([]:qBs) else 47::dd q.den).length<=(dd q.den).length+1:=by split<;>simp
 omega
theorem D_le (q:Rat):D q<=(txt q).length+1:=by
 unfold txt D
 simp only[qZ6]
 by_cases h:q.den=1
 ·rw[if_pos h,h,qTS];simp
 ·rw[if_neg h];simp;omega
theorem D_mk (n:Int) (d:Nat) (hd:d≠0):D (mkRat n d)<=(dd n.natAbs).length+(dd d).length:=by
 unfold D
 rw[Rat.num_mkRat,Rat.den_mkRat,if_neg hd,if_neg hd]
 have h1:(n / (d.gcd n.natAbs:Nat)).natAbs<=n.natAbs:=by
  obtain ⟨k,hk⟩:((d.gcd n.natAbs:Nat):Int) ∣ n:=by
   have:=Nat.gcd_dvd_right d n.natAbs
   exact Int.ofNat_dvd_left.2 this
  have hg:((d.gcd n.natAbs:Nat):Int)≠0:=fun e=>hd (Nat.gcd_eq_zero_iff.1 (by exact_mod_cast e)).1
  have e1:n / (d.gcd n.natAbs:Nat)=k:=by
   conv=>lhs;lhs;rw[hk]
   exact Int.mul_ediv_cancel_left _ hg
  rw[e1]
  conv=>rhs;rw[hk,Int.natAbs_mul]
  exact Nat.le_mul_of_pos_left _ (by omega)
 have h2:=Nat.div_le_self d (d.gcd n.natAbs)
 have:=qDB h1
 have:=qDB h2
 omega
theorem qKY (a b:Int):(a+b).natAbs<=a.natAbs+b.natAbs:=by omega
theorem qVaf (p q:Rat):D (p+q)<=2 * (D p+D q)+1:=by
 rw[Rat.add_def']
 refine Nat.le_trans (D_mk _ _ (Nat.mul_ne_zero p.den_nz q.den_nz)) ?_
 have h1:=qDB (qKY (p.num * q.den) (q.num * p.den))
 have h2:=qLR (p.num * q.den).natAbs (q.num * p.den).natAbs
 rw[Int.natAbs_mul,Int.natAbs_mul,Int.natAbs_natCast,Int.natAbs_natCast] at h1 h2
 have h3:=qFC p.num.natAbs q.den
 have h4:=qFC q.num.natAbs p.den
 have h5:=qFC p.den q.den
 unfold D
 omega
theorem qJap (p q:Rat):D (p * q)<=D p+D q:=by
 rw[Rat.mul_def']
 refine Nat.le_trans (D_mk _ _ (Nat.mul_ne_zero p.den_nz q.den_nz)) ?_
 have h1:=qFC p.num.natAbs q.num.natAbs
 have h5:=qFC p.den q.den
 rw[Int.natAbs_mul]
 unfold D
 omega
theorem qVan (q:Rat):D (-q)=D q:=by unfold D;rw[Rat.neg_num,Rat.neg_den,Int.natAbs_neg]
theorem qQas (q:Rat):D q⁻¹<=D q:=by
 unfold D
 rw[Rat.num_inv,Rat.den_inv]
 by_cases h:q.num=0
 ·rw[if_pos h,h];simp[qED,qTS];have:=qLO q.den;omega
 ·rw[if_neg h,Int.natAbs_mul]
  have:(q.num.sign).natAbs=1:=Int.natAbs_sign_of_ne_zero h
  rw[this,Int.natAbs_natCast,Nat.one_mul];omega
theorem qSaq (n:Int):D (n:Rat)=(dd n.natAbs).length+1:=by
 unfold D;rw[Rat.num_intCast,Rat.den_intCast,qTS];rfl
end Go.AM.Num
end
section
set_option linter.unusedSimpArgs false
set_option linter.unusedVariables false
namespace Go.AM.Num
theorem qTai (r:qBs) (c:UInt8):strings_CutPrefix (c::r) [c]=some ((r,true,()),()):=by
 simp[strings_CutPrefix,Lib.trimPrefix,Lib.hasPrefix]
theorem qBan {s:qBs} {c:UInt8} (h:∀ r,s≠c::r):strings_CutPrefix s [c]=some ((s,false,()),()):=by
 have hp:Lib.hasPrefix s [c]=false:=by
  unfold Lib.hasPrefix
  cases s with
  |nil=>rfl
  |cons b t=>
   simp only[List.isPrefixOf,Bool.and_true,beq_eq_false_iff_ne,ne_eq]
   rintro rfl
   exact h t rfl
 simp[strings_CutPrefix,Lib.trimPrefix,hp]
theorem qBad {x y:qBs} {c:UInt8} (hx:c∉x):Lib.index (x++c::y) [c]=x.length:=by
 induction x with
 |nil=>unfold Lib.index;simp[List.isPrefixOf]
 |cons b x ih=>
  have hb:(c==b)=false:=by rw[beq_eq_false_iff_ne];rintro rfl;exact hx List.mem_cons_self
  have:=ih fun h=>hx (qY13 _ h)
  simp only[qY5]
  unfold Lib.index
  simp only[List.isPrefixOf,hb,Bool.false_and,this]
  have h1:((x.length:Int)==-1)=false:=by rw[beq_eq_false_iff_ne];omega
  simp[h1]
theorem qZah {s:qBs} {c:UInt8} (hs:c∉s):Lib.index s [c]=-1:=by
 induction s with
 |nil=>rfl
 |cons b s ih=>
  have hb:(c==b)=false:=by rw[beq_eq_false_iff_ne];rintro rfl;exact hs List.mem_cons_self
  unfold Lib.index
  simp[List.isPrefixOf,hb,ih fun h=>hs (qY13 _ h)]
theorem qTz {x y:qBs} {c:UInt8} (hx:c∉x) (hl:(x++c::y).length<=1000000000):strings_Cut (x++c::y) [c]=some ((x,y,true,()),()):=by
 unfold strings_Cut
 rw[if_pos (by omega)]
 simp[Lib.cut,qBad hx]
theorem qHak {s:qBs} {c:UInt8} (hs:c∉s) (hl:s.length<=1000000000):strings_Cut s [c]=some ((s,[],false,()),()):=by
 unfold strings_Cut
 rw[if_pos (by omega)]
 simp[Lib.cut,qZah hs]
theorem qIu (c:UInt8) (s:qBs):(∃ x y,s=x++c::y/\c∉x)\/c∉s:=by
 induction s with
 |nil=>exact .inr (by simp)
 |cons b s ih=>
  by_cases h:b=c
  ·subst h;exact .inl ⟨[],s,rfl,by simp⟩
  ·rcases ih with ⟨x,y,rfl,hx⟩ | hs
   ·refine .inl ⟨b::x,y,rfl,?_⟩
    intro hm
    rcases List.mem_cons.1 hm with rfl | hm
    ·exact h rfl
    ·exact hx hm
   ·refine .inr ?_
    intro hm
    rcases List.mem_cons.1 hm with rfl | hm
    ·exact h rfl
    ·exact hs hm
theorem qMag {s:qBs} {k:Nat} (h:k < s.length):(s.map (fun b=>(b.toNat:Int))).getD k 0=(s[k].toNat:Int):=by
 rw[qZ4,List.getElem?_map,qZ5 h];rfl
theorem qGn (s:qBs) (hl:s.length<=1000000000) :
 (qLJ s/\qOA qBG (s,false,s.map (fun b=>(b.toNat:Int)),(s.length:Int),0,())=some (Ex.exit 0,(s,false,s.map (fun b=>(b.toNat:Int)),(s.length:Int),(s.length:Int),())))\/
 (¬ qLJ s/\∃ i,qOA qBG (s,false,s.map (fun b=>(b.toNat:Int)),(s.length:Int),0,())=some (Ex.ret,(s,false,s.map (fun b=>(b.toNat:Int)),(s.length:Int),i,()))):=by
 obtain ⟨r,hr,hq⟩:=qTB (step:=qBG) (Q:=fun r=>(qLJ s/\r=(Ex.exit 0,(s,false,s.map (fun b=>(b.toNat:Int)),(s.length:Int),(s.length:Int),())))\/(¬ qLJ s/\∃ i,r=(Ex.ret,(s,false,s.map (fun b=>(b.toNat:Int)),(s.length:Int),i,()))))
  (fun m x=>∃ k:Nat,m+k=s.length/\x=(s,false,s.map (fun b=>(b.toNat:Int)),(s.length:Int),(k:Int),())/\qLJ (s.take k)) (by
   rintro m x ⟨k,hm,rfl,hd⟩
   by_cases hk:k < s.length
   ·have hg:=qMag hk
    have e:(k:Int).toNat=k:=by omega
    have hml:(s.map (fun b=>(b.toNat:Int))).length=s.length:=by simp
    have hmem:s[k]∈s:=List.getElem_mem hk
    by_cases h1:s[k].toNat < 48
    ·refine .inl ⟨_,?_,?_,.inr ⟨fun h=>?_,(k:Int),rfl⟩⟩
     ·simp (disch:=(first | omega | (simp only[lnn];omega))) only[qBG,e,hg,hml,stp]
     ·simp
     ·have:=(h _ hmem).1;omega
    ·by_cases h2:s[k].toNat > 57
     ·refine .inl ⟨_,?_,?_,.inr ⟨fun h=>?_,(k:Int),rfl⟩⟩
      ·simp (disch:=(first | omega | (simp only[lnn];omega))) only[qBG,e,hg,hml,stp]
      ·simp
      ·have:=(h _ hmem).2;omega
     ·refine .inr ⟨m - 1,_,?_,by omega,k+1,by omega,rfl,?_⟩
      ·simp (disch:=(first | omega | (simp only[lnn];omega))) only[qBG,e,hg,hml,stp]
       rfl
      ·rw[List.take_succ_eq_append_getElem hk]
       refine hd.app fun c hc=>?_
       rw[List.mem_singleton.1 hc]
       exact ⟨by omega,by omega⟩
   ·have hks:k=s.length:=by omega
    subst hks
    refine .inl ⟨_,?_,?_,.inl ⟨by simpa using hd,rfl⟩⟩
    ·simp (disch:=(first | omega | (simp only[lnn];omega))) only[qBG,stp]
    ·simp) s.length _ ⟨0,by omega,rfl,by simp[qLJ]⟩
 rcases hq with ⟨h,rfl⟩ | ⟨h,i,rfl⟩
 ·exact .inl ⟨h,hr⟩
 ·exact .inr ⟨h,i,hr⟩
theorem qDD {s t:qBs} (h:s=t):(s==t)=true:=by simpa using h
theorem qWC {s t:qBs} (h:s≠t):(s==t)=false:=by simpa using h
theorem qXA (s:qBs) (hl:s.length<=1000000000):qQJ s=some ((s==dd (dval s),()),()):=by
 unfold qQJ
 have hml:((s.map (fun b=>(b.toNat:Int))).length:Int)=(s.length:Int):=by simp
 rw[hml]
 rcases qGn s hl with ⟨hd,hr⟩ | ⟨hd,i,hr⟩
 ·simp (disch:=(first | omega | (simp only[lnn];omega))) only[hr,stp]
  by_cases h48:s=[48]
  ·subst h48
   rw[qDD rfl]
   have:([48]==dd (dval [48]))=true:=qDD (by rw[show dval [48]=0 from rfl,qED])
   rw[this];rfl
  ·rw[qWC h48]
   cases s with
   |nil=>
    have:([]==dd (dval []))=false:=qWC (fun h=>qTe _ h.symm)
    rw[this];rfl
   |cons c t=>
    have hne:((c::t:qBs)==[])=false:=rfl
    rw[hne]
    simp only[qY1,qPA]
    simp (disch:=(first | omega | (simp only[lnn];omega))) only[stp]
    by_cases hc:c=48
    ·subst hc
     have:((48::t:qBs)==dd (dval (48::t)))=false:=qWC (fun h=>by
      by_cases h0:dval (48::t)=0
      ·rw[h0,qED] at h;exact h48 h
      ·obtain ⟨c',s',e,_,hne'⟩:=qKr h0
       rw[e] at h
       simp only[List.cons.injEq] at h
       exact hne' h.1.symm)
     rw[this];rfl
    ·have:((c::t:qBs)==dd (dval (c::t)))=true:=qDD (qBag hd (by simp) (.inr (by simpa using hc)))
     rw[this]
     have hcn:((c.toNat:Int) !=48)=true:=by
      simp only[bne_iff_ne,ne_eq]
      intro e
      exact hc (UInt8.toNat_inj.1 (by show c.toNat=48;omega))
     show some (((((c::t).getD 0 0).toNat:Int) !=48,()),())=_
     rw[show ((c::t:qBs).getD 0 0)=c from rfl,hcn]
 ·simp (disch:=(first | omega | (simp only[lnn];omega))) only[hr,stp]
  have:(s==dd (dval s))=false:=qWC (fun h=>hd (h ▸ qMd _))
  rw[this]
end Go.AM.Num
end
section
set_option linter.unusedSimpArgs false
set_option linter.unusedVariables false
namespace Go.AM.Num
def rep (q:Rat):Bool×List Int×List Int:=(decide (q.num < 0),limbs q.num.natAbs,limbs q.den)
def sgn (neg:Bool):qBs:=if neg then [45] else []
theorem shape {neg:Bool} {s:qBs} {q:Rat} (hs:neg=false->∀ r,s≠45::r) (h:sgn neg++s=txt q):neg=decide (q.num < 0)/\s=dd q.num.natAbs++(if q.den=1 then [] else 47::dd q.den):=by
 unfold txt sgn at h
 cases neg with
 |true=>
  by_cases hq:q.num < 0
  ·rw[if_pos hq] at h
   simp only[if_true,List.singleton_append,qY5,qZ1,qY15,List.cons.injEq,true_and] at h
   exact ⟨(qZ10 hq).symm,h⟩
  ·rw[if_neg hq] at h
   simp only[if_true,List.singleton_append,qY15] at h
   exact absurd h.symm (qWk _ _ _)
 |false=>
  by_cases hq:q.num < 0
  ·rw[if_pos hq] at h
   simp only[Bool.false_eq_true,if_false,qY15,qY5,qZ1] at h
   exact absurd h (hs rfl _)
  ·rw[if_neg hq] at h
   simp only[Bool.false_eq_true,if_false,qY15] at h
   exact ⟨(qZ9 hq).symm,h⟩
theorem qDj (a:qBs):∃ neg s,strings_CutPrefix a [45]=some ((s,neg,()),())/\a=sgn neg++s/\(neg=false->∀ r,s≠45::r):=by
 by_cases h:∃ r,a=45::r
 ·obtain ⟨r,rfl⟩:=h
  exact ⟨true,r,qTai r 45,rfl,fun h=>by cases h⟩
 ·have h':∀ r,a≠45::r:=fun r e=>h ⟨r,e⟩
  exact ⟨false,a,qBan h',rfl,fun _=>h'⟩
theorem qIb (neg:Bool) (m d:Nat) (hd:d≠0) (hg:Nat.gcd m d=1):(mkRat (sg neg m) d).num=sg neg m/\(mkRat (sg neg m) d).den=d:=by
 rw[Rat.num_mkRat,Rat.den_mkRat,if_neg hd,if_neg hd,qKH,Nat.gcd_comm d m,hg]
 simp
theorem qQl {neg:Bool} {m d:Nat} (h:neg=true->m≠0):sgn neg++(dd m++(if d=1 then [] else 47::dd d))=tx neg m d:=by
 unfold sgn tx
 cases neg with
 |true=>simp[h rfl]
 |false=>simp
theorem qOf {neg:Bool} {m d:Nat} (hd:d≠0) (hg:Nat.gcd m d=1) (h:neg=true->m≠0):rep (mkRat (sg neg m) d)=(neg,limbs m,limbs d):=by
 obtain ⟨h1,h2⟩:=qIb neg m d hd hg
 unfold rep
 rw[h1,h2,qKH]
 congr 1
 cases neg with
 |true=>exact qZ10 ((qIO _ _).2 ⟨rfl,h rfl⟩)
 |false=>exact qZ9 (fun e=>by simpa using ((qIO _ _).1 e).1)
theorem qQZ (a:qBs) (hl:a.length<=10000000) :
 ∃ r ok,qAH a=some ((r,ok,()),())/\((ok=true/\∃ q,a=txt q/\r=rep q)\/(ok=false/\∀ q,a≠txt q)):=by
 obtain ⟨neg,s,hcp,ha,hs⟩:=qDj a
 have hsl:s.length<=10000000:=by rw[ha,qZ6] at hl;omega
 have shp:∀ q,a=txt q->neg=decide (q.num < 0)/\s=dd q.num.natAbs++(if q.den=1 then [] else 47::dd q.den):=fun q h=>shape hs (ha ▸ h)
 have o:∀ n,qNJ (limbs n)=some ((decide (n=1),()),()):=qGf
 rcases qIu 47 s with ⟨x,y,rfl,hx⟩ | hx
 ·have hxl:x.length<=10000000:=by rw[qZ6] at hsl;omega
  have hyl:y.length<=10000000:=by rw[qZ6,qY11] at hsl;omega
  have hcut:=qTz (y:=y) hx (by omega)
  have shp':∀ q,a=txt q->neg=decide (q.num < 0)/\q.den≠1/\x=dd q.num.natAbs/\y=dd q.den:=by
   intro q h
   obtain ⟨h1,h2⟩:=shp q h
   by_cases hd:q.den=1
   ·rw[if_pos hd,qY4] at h2
    exact absurd (show (47:UInt8)∈dd q.num.natAbs by rw[<-h2];simp) qBc
   ·rw[if_neg hd] at h2
    obtain ⟨e1,e2⟩:=qSe hx qBc h2
    exact ⟨h1,hd,e1,e2⟩
  by_cases hnx:x=dd (dval x)
  ·have hox:=qDD hnx
   by_cases h0:x=[48]
   ·refine ⟨(false,[],[]),false,?_,.inr ⟨rfl,fun q h=>?_⟩⟩
    ·unfold qAH
     simp (disch:=(first | omega | (simp only[lnn];omega))) only[hcp,hcut,qXA x (by omega),hox,qDD h0,stp]
     cases neg<;>rfl
    ·obtain ⟨_,h2,h3,_⟩:=shp' q h
     have hq0:q.num.natAbs=0:=qVQ (by rw[<-h3,h0,qED])
     have:Nat.gcd q.num.natAbs q.den=1:=q.reduced
     rw[hq0,Nat.gcd_zero_left] at this
     exact h2 this
   ·have hno:=qVj (s:=x) (hnx ▸ qMd _) (by omega)
    have hm0:dval x≠0:=fun e=>h0 (by rw[hnx,e,qED])
    by_cases hny:y=dd (dval y)
    ·by_cases hy0:y=[48]
     ·refine ⟨(false,[],[]),false,?_,.inr ⟨rfl,fun q h=>?_⟩⟩
      ·unfold qAH
       simp (disch:=(first | omega | (simp only[lnn];omega))) only[hcp,hcut,qXA x (by omega),hox,qWC h0,hno,qXA y (by omega),qDD hny,qDD hy0,stp]
      ·obtain ⟨_,h2,h3,h4⟩:=shp' q h
       exact q.den_nz (qVQ (by rw[<-h4,hy0,qED]))
     ·by_cases hy1:y=[49]
      ·refine ⟨(false,[],[]),false,?_,.inr ⟨rfl,fun q h=>?_⟩⟩
       ·unfold qAH
        simp (disch:=(first | omega | (simp only[lnn];omega))) only[hcp,hcut,qXA x (by omega),hox,qWC h0,hno,qXA y (by omega),qDD hny,qWC hy0,qDD hy1,stp]
       ·obtain ⟨_,h2,h3,h4⟩:=shp' q h
        exact h2 (qVQ (by rw[<-h4,hy1,qTS]))
      ·have hno2:=qVj (s:=y) (hny ▸ qMd _) (by omega)
       have hd0:dval y≠0:=fun e=>hy0 (by rw[hny,e,qED])
       have hd1:dval y≠1:=fun e=>hy1 (by rw[hny,e,qTS])
       have hg:=qJac (dval x) (dval y) (Nat.le_trans (qEH _) (by rw[<-hnx];omega)) (Nat.le_trans (qEH _) (by rw[<-hny];omega))
       refine ⟨(neg,limbs (dval x),limbs (dval y)),decide (Nat.gcd (dval x) (dval y)=1),?_,?_⟩
       ·unfold qAH
        simp (disch:=(first | omega | (simp only[lnn];omega))) only[hcp,hcut,qXA x (by omega),hox,qWC h0,hno,qXA y (by omega),qDD hny,qWC hy0,qWC hy1,hno2,hg,o,stp]
       ·by_cases hg1:Nat.gcd (dval x) (dval y)=1
        ·refine .inl ⟨qZ10 hg1,mkRat (sg neg (dval x)) (dval y),?_,(qOf hd0 hg1 (fun _=>hm0)).symm⟩
         rw[<-qPU neg _ _ hd0 hg1,<-qQl (fun _=>hm0),if_neg hd1,<-hnx,<-hny]
         exact ha
        ·refine .inr ⟨qZ9 hg1,fun q h=>?_⟩
         obtain ⟨_,h2,h3,h4⟩:=shp' q h
         rw[h3,h4,qDF,qDF] at hg1
         exact hg1 q.reduced
    ·refine ⟨(false,[],[]),false,?_,.inr ⟨rfl,fun q h=>?_⟩⟩
     ·unfold qAH
      simp (disch:=(first | omega | (simp only[lnn];omega))) only[hcp,hcut,qXA x (by omega),hox,qWC h0,hno,qXA y (by omega),qWC hny,stp]
     ·obtain ⟨_,h2,h3,h4⟩:=shp' q h
      exact hny (by rw[h4,qDF])
  ·refine ⟨(false,[],[]),false,?_,.inr ⟨rfl,fun q h=>?_⟩⟩
   ·unfold qAH
    simp (disch:=(first | omega | (simp only[lnn];omega))) only[hcp,hcut,qXA x (by omega),qWC hnx,stp]
   ·obtain ⟨_,h2,h3,h4⟩:=shp' q h
    exact hnx (by rw[h3,qDF])
 ·have hcut:=qHak hx (by omega)
  have shp':∀ q,a=txt q->neg=decide (q.num < 0)/\q.den=1/\s=dd q.num.natAbs:=by
   intro q h
   obtain ⟨h1,h2⟩:=shp q h
   by_cases hd:q.den=1
   ·rw[if_pos hd,qY4] at h2
    exact ⟨h1,hd,h2⟩
   ·rw[if_neg hd] at h2
    exact absurd (by rw[h2];simp) hx
  by_cases hnx:s=dd (dval s)
  ·have hox:=qDD hnx
   have hno:=qVj (s:=s) (hnx ▸ qMd _) (by omega)
   have fin:(neg=true->dval s≠0)->a=txt (mkRat (sg neg (dval s)) 1)/\(neg,limbs (dval s),([1]:List Int))=rep (mkRat (sg neg (dval s)) 1):=by
    intro h
    constructor
    ·rw[<-qPU neg _ _ (by decide) (Nat.gcd_one_right _),<-qQl h]
     simp only[if_true,qY4]
     rw[<-hnx];exact ha
    ·rw[qOf (by decide) (Nat.gcd_one_right _) h,qIT]
   by_cases h0:s=[48]
   ·cases hneg:neg with
    |true=>
     subst hneg
     refine ⟨(false,[],[]),false,?_,.inr ⟨rfl,fun q h=>?_⟩⟩
     ·unfold qAH
      simp (disch:=(first | omega | (simp only[lnn];omega))) only[hcp,hcut,qXA s (by omega),hox,qDD h0,stp]
     ·obtain ⟨h1,h2,h3⟩:=shp' q h
      have hq0:q.num.natAbs=0:=qVQ (by rw[<-h3,h0,qED])
      have:=of_decide_eq_true h1.symm
      omega
    |false=>
     subst hneg
     obtain ⟨f1,f2⟩:=fin (fun h=>by cases h)
     refine ⟨_,true,?_,.inl ⟨rfl,_,f1,f2⟩⟩
     unfold qAH
     simp (disch:=(first | omega | (simp only[lnn];omega))) only[hcp,hcut,qXA s (by omega),hox,qDD h0,hno,stp]
   ·have hm0:dval s≠0:=fun e=>h0 (by rw[hnx,e,qED])
    obtain ⟨f1,f2⟩:=fin (fun _=>hm0)
    refine ⟨_,true,?_,.inl ⟨rfl,_,f1,f2⟩⟩
    unfold qAH
    simp (disch:=(first | omega | (simp only[lnn];omega))) only[hcp,hcut,qXA s (by omega),hox,qWC h0,hno,stp]
  ·refine ⟨(false,[],[]),false,?_,.inr ⟨rfl,fun q h=>?_⟩⟩
   ·unfold qAH
    simp (disch:=(first | omega | (simp only[lnn];omega))) only[hcp,hcut,qXA s (by omega),qWC hnx,stp]
   ·obtain ⟨_,h2,h3⟩:=shp' q h
    exact hnx (by rw[h3,qDF])
theorem qTu (q:Rat) (h:D q<=9000000):qAH (txt q)=some ((rep q,true,()),()):=by
 obtain ⟨r,ok,hr,⟨rfl,p,hp,rfl⟩ | ⟨rfl,hn⟩⟩:=qQZ (txt q) (by have:=qJF q;omega)
 ·rw[hr,txt_inj hp]
 ·exact absurd rfl (hn q)
end Go.AM.Num
end
section
set_option linter.unusedSimpArgs false
set_option linter.unusedVariables false
namespace Go.AM.Num
theorem qJo (M:Nat) (hM:1000000000000000000<=M) (s:qBs) (acc:Nat) (hd:qLJ s) (h:acc * 10 ^ s.length+dval s < 1000000000000000000):Lib.parseUintM M acc s=.ok (acc * 10 ^ s.length+dval s):=by
 induction s generalizing acc with
 |nil=>simp[Lib.parseUintM,dval]
 |cons c s ih=>
  have hc:=hd c (by simp)
  have hdc:c.toNat - 48=dig c:=rfl
  rw[qAM,qY11,Nat.pow_succ] at h ⊢
  have hp:1<=10 ^ s.length:=Nat.one_le_pow _ _ (by decide)
  have e:acc * (10 ^ s.length * 10)+(dig c * 10 ^ s.length+dval s)=(acc * 10+dig c) * 10 ^ s.length+dval s:=by grind
  rw[e] at h ⊢
  have h1:(acc * 10+dig c) * 1<=(acc * 10+dig c) * 10 ^ s.length:=Nat.mul_le_mul_left _ hp
  unfold Lib.parseUintM
  rw[if_pos ⟨hc.1,hc.2⟩,if_neg (by omega),hdc,if_neg (by omega)]
  exact ih (acc * 10+dig c) (fun x hx=>hd x (by simp[hx])) h
theorem qGX (n:Nat) (h:n < 1000000000):qCE (dd n) 10 64=some (((n:Int),false,()),()):=by
 have hl:(dd n).length<=9:=qQH (by simpa using h) (by decide)
 have hm:=qJo (2 ^ 64 - 1) (by decide) (dd n) 0 (qMd n) (by rw[qDF];omega)
 rw[qDF,Nat.zero_mul,Nat.zero_add] at hm
 unfold qCE
 rw[if_pos ⟨rfl,rfl,by omega⟩]
 have:Lib.parseIntB 64 (dd n)=.ok (n:Int):=by
  cases e:dd n with
  |nil=>exact absurd e (qTe n)
  |cons c r=>
   have hc:=qMd n c (by rw[e];simp)
   unfold Lib.parseIntB
   have h1:¬ (c.toNat=43\/c.toNat=45):=by have:=hc.1;omega
   have h2:¬ c.toNat=45:=by have:=hc.1;omega
   simp only[if_neg h1]
   unfold Lib.parseUintB
   rw[if_neg (by simp),<-e,hm]
   simp[h2]
   omega
 rw[this]
theorem qNi (m n:Nat):qKP (m:Int) (n:Int)=some ((((Nat.gcd m n:Nat):Int),()),()):=by
 obtain ⟨r,hr,b,rfl⟩:=qTB (step:=qGN) (Q:=fun r=>∃ b,r=(Ex.exit 0,(((Nat.gcd m n:Nat):Int),b,())))
  (fun k x=>∃ a b:Nat,x=((a:Int),(b:Int),())/\k=b/\Nat.gcd a b=Nat.gcd m n) (by
   rintro k x ⟨a,b,rfl,rfl,hg⟩
   by_cases h0:k=0
   ·subst h0
    refine .inl ⟨(Ex.exit 0,((a:Int),0,())),?_,by simp,0,?_⟩
    ·simp (disch:=(first | omega | (simp only[lnn];omega))) only[qGN,stp]
     rfl
    ·rw[<-hg,Nat.gcd_zero_right]
   ·refine .inr ⟨a % k,_,?_,Nat.mod_lt _ (by omega),k,a % k,rfl,rfl,?_⟩
    ·simp (disch:=(first | omega | (simp only[lnn];omega))) only[qGN,stp]
     rw[<-Int.natCast_emod]
    ·rw[Nat.gcd_comm,<-Nat.gcd_rec,Nat.gcd_comm,hg]) n _ ⟨m,n,rfl,rfl,rfl⟩
 unfold qKP
 rw[hr]
 simp (disch:=(first | omega | (simp only[lnn];omega))) only[stp]
def qHj (a:qBs) (r:Int×Int):Prop:=∃ q,a=txt q/\r=(q.num,(q.den:Int))/\q.num.natAbs < 1000000000/\q.den < 1000000000
theorem qNb {n:Nat} (h:(dd n).length<=9):n < 1000000000:=by
 have:=qAN n
 have h2:10 ^ (dd n).length<=10 ^ 9:=Nat.pow_le_pow_right (by decide) h
 omega
theorem qAb (a:qBs) (hl:a.length<=10000000):∃ r ok,qEC a=some ((r,ok,()),())/\(ok=true->qHj a r):=by
 obtain ⟨neg,s,hcp,ha,hs⟩:=qDj a
 have hsl:s.length<=10000000:=by rw[ha,qZ6] at hl;omega
 have nope:∀ (r:Int×Int),qEC a=some ((r,false,()),())->∃ r ok,qEC a=some ((r,ok,()),())/\(ok=true->qHj a r):=fun r h=>⟨r,false,h,fun h=>by cases h⟩
 rcases qIu 47 s with ⟨x,y,rfl,hx⟩ | hx
 ·have hxl:x.length<=10000000:=by rw[qZ6] at hsl;omega
  have hyl:y.length<=10000000:=by rw[qZ6,qY11] at hsl;omega
  have hcut:=qTz (y:=y) hx (by omega)
  by_cases h9:x.length<=9
  ·by_cases hy9:y.length<=9
   ·by_cases hnx:x=dd (dval x)
    ·have hox:=qDD hnx
     by_cases h0:x=[48]
     ·refine nope (0,0) ?_
      unfold qEC
      simp (disch:=(first | omega | (simp only[lnn];omega))) only[hcp,hcut,qXA x (by omega),hox,qDD h0,stp]
      cases neg<;>rfl
     ·have hm0:dval x≠0:=fun e=>h0 (by rw[hnx,e,qED])
      have hmB:dval x < 1000000000:=qNb (by rw[<-hnx];exact h9)
      have hp:=qGX (dval x) hmB
      rw[<-hnx] at hp
      by_cases hny:y=dd (dval y)
      ·have hdB:dval y < 1000000000:=qNb (by rw[<-hny];exact hy9)
       have hpy:=qGX (dval y) hdB
       rw[<-hny] at hpy
       by_cases h2:dval y < 2
       ·refine nope (0,0) ?_
        unfold qEC
        simp (disch:=(first | omega | (simp only[lnn];omega))) only[hcp,hcut,qXA x (by omega),hox,qWC h0,hp,qXA y (by omega),qDD hny,hpy,stp]
       ·have hdv:=qNi (dval x) (dval y)
        by_cases hg:Nat.gcd (dval x) (dval y)=1
        ·have hd0:dval y≠0:=by omega
         obtain ⟨e1,e2⟩:=qIb neg (dval x) (dval y) hd0 hg
         have hsm:qHj a (sg neg (dval x),((dval y:Nat):Int)):=by
          refine ⟨mkRat (sg neg (dval x)) (dval y),?_,by rw[e1,e2],by rw[e1,qKH];exact hmB,by rw[e2];exact hdB⟩
          rw[<-qPU neg _ _ hd0 hg,<-qQl (fun _=>hm0),if_neg (by omega),<-hnx,<-hny]
          exact ha
         rw[hg] at hdv
         cases neg with
         |true=>
          refine ⟨_,true,?_,fun _=>hsm⟩
          unfold qEC
          simp (disch:=(first | omega | (simp only[lnn];omega))) only[hcp,hcut,qXA x (by omega),hox,qWC h0,hp,qXA y (by omega),qDD hny,hpy,hdv,stp]
          simp[sg]
         |false=>
          refine ⟨_,true,?_,fun _=>hsm⟩
          unfold qEC
          simp (disch:=(first | omega | (simp only[lnn];omega))) only[hcp,hcut,qXA x (by omega),hox,qWC h0,hp,qXA y (by omega),qDD hny,hpy,hdv,stp]
          simp[sg]
        ·refine nope (0,0) ?_
         unfold qEC
         simp (disch:=(first | omega | (simp only[lnn];omega))) only[hcp,hcut,qXA x (by omega),hox,qWC h0,hp,qXA y (by omega),qDD hny,hpy,hdv,stp]
      ·refine nope (0,0) ?_
       unfold qEC
       simp (disch:=(first | omega | (simp only[lnn];omega))) only[hcp,hcut,qXA x (by omega),hox,qWC h0,hp,qXA y (by omega),qWC hny,stp]
    ·refine nope (0,0) ?_
     unfold qEC
     simp (disch:=(first | omega | (simp only[lnn];omega))) only[hcp,hcut,qXA x (by omega),qWC hnx,stp]
   ·refine nope (0,0) ?_
    unfold qEC
    simp (disch:=(first | omega | (simp only[lnn];omega))) only[hcp,hcut,stp]
  ·refine nope (0,0) ?_
   unfold qEC
   simp (disch:=(first | omega | (simp only[lnn];omega))) only[hcp,hcut,stp]
 ·have hcut:=qHak hx (by omega)
  have hnil:(([]:qBs).length:Int)=0:=rfl
  by_cases h9:s.length<=9
  ·by_cases hnx:s=dd (dval s)
   ·have hox:=qDD hnx
    have hmB:dval s < 1000000000:=qNb (by rw[<-hnx];exact h9)
    have hp:=qGX (dval s) hmB
    rw[<-hnx] at hp
    have fin:(neg=true->dval s≠0)->qHj a (sg neg (dval s),1):=by
     intro h
     obtain ⟨e1,e2⟩:=qIb neg (dval s) 1 (by decide) (Nat.gcd_one_right _)
     refine ⟨mkRat (sg neg (dval s)) 1,?_,by rw[e1,e2];rfl,by rw[e1,qKH];exact hmB,by rw[e2];decide⟩
     rw[<-qPU neg _ _ (by decide) (Nat.gcd_one_right _),<-qQl h]
     simp only[if_true,qY4]
     rw[<-hnx];exact ha
    by_cases h0:s=[48]
    ·cases neg with
     |true=>
      refine nope (0,0) ?_
      unfold qEC
      simp (disch:=(first | omega | (simp only[lnn];omega))) only[hcp,hcut,hnil,qXA s (by omega),hox,qDD h0,stp]
     |false=>
      refine ⟨_,true,?_,fun _=>fin (fun h=>by cases h)⟩
      unfold qEC
      simp (disch:=(first | omega | (simp only[lnn];omega))) only[hcp,hcut,hnil,qXA s (by omega),hox,qDD h0,hp,stp]
      simp[sg]
    ·have hm0:dval s≠0:=fun e=>h0 (by rw[hnx,e,qED])
     cases neg with
     |true=>
      refine ⟨_,true,?_,fun _=>fin (fun _=>hm0)⟩
      unfold qEC
      simp (disch:=(first | omega | (simp only[lnn];omega))) only[hcp,hcut,hnil,qXA s (by omega),hox,qWC h0,hp,stp]
      simp[sg]
     |false=>
      refine ⟨_,true,?_,fun _=>fin (fun _=>hm0)⟩
      unfold qEC
      simp (disch:=(first | omega | (simp only[lnn];omega))) only[hcp,hcut,hnil,qXA s (by omega),hox,qWC h0,hp,stp]
      simp[sg]
   ·refine nope (0,0) ?_
    unfold qEC
    simp (disch:=(first | omega | (simp only[lnn];omega))) only[hcp,hcut,hnil,qXA s (by omega),qWC hnx,stp]
  ·refine nope (0,0) ?_
   unfold qEC
   simp (disch:=(first | omega | (simp only[lnn];omega))) only[hcp,hcut,stp]
theorem qZal (neg:Bool) (m:Nat):Lib.itoa (sg neg m)=(if neg=true/\m≠0 then [45] else [])++dd m:=by
 unfold Lib.itoa
 by_cases h:sg neg m < 0
 ·rw[if_pos h,if_pos ((qIO _ _).1 h),qKH];rfl
 ·rw[if_neg h,if_neg (fun e=>h ((qIO _ _).2 e))]
  have:(sg neg m).toNat=m:=by have:=qKH neg m;omega
  rw[this];rfl
theorem qIx {n:Int} (h:n.natAbs < 9000000000000000000):qVu n:=⟨by omega,by omega⟩
theorem qUaj (neg:Bool) (m:Nat) (h:m < 9000000000000000000):qSC (sg neg m) 10=some (((if neg=true/\m≠0 then [45] else [])++dd m,()),()):=by
 unfold qSC
 rw[if_pos ⟨qIx (by rw[qKH];exact h),rfl⟩,qZal]
theorem qTam (m:Nat) (h:m < 9000000000000000000):qSC (m:Int) 10=some ((dd m,()),()):=by
 have:=qUaj false m h
 simpa [sg] using this
theorem qEam (neg:Bool) (m g:Nat):(sg neg m).tdiv (g:Int)=sg neg (m / g):=by
 cases neg with
 |false=>simp only[sg,Bool.false_eq_true,if_false];rw[Int.tdiv_eq_ediv_of_nonneg (by omega),Int.natCast_ediv]
 |true=>simp only[sg,if_true];rw[Int.neg_tdiv,Int.tdiv_eq_ediv_of_nonneg (by omega),Int.natCast_ediv]
theorem qCaj (n:Int):qPa n (0 - n)=(n.natAbs:Int):=by rw[qOd];split<;>omega
theorem qXs (neg:Bool) (m:Nat):-(m:Int)<=sg neg m/\sg neg m<=m:=by cases neg<;>simp[sg]<;>omega
theorem qPaj (n:Int):n=sg (decide (n < 0)) n.natAbs:=by
 unfold sg
 by_cases h:n < 0
 ·rw[qZ10 h];simp;omega
 ·rw[qZ9 h];simp;omega
theorem qDL:qWN=1152921504606846976:=rfl
theorem qFaq (p:Prop) [Decidable p]:(if p then [(45:UInt8)] else []).length<=1:=by split<;>simp
theorem qRt (neg:Bool) (m d:Nat) (hd:d≠0) (hm:m < 9000000000000000000) (hdB:d < 9000000000000000000) :
 qGM (sg neg m) (d:Int)=some ((txt (mkRat (sg neg m) d),()),()):=by
 have hg0:Nat.gcd m d≠0:=fun e=>hd (Nat.gcd_eq_zero_iff.1 e).2
 have hdv:=qNi m d
 obtain ⟨b1,b2⟩:=qXs neg m
 have hmx:qPa (sg neg m) (0 - sg neg m)=(m:Int):=by rw[qCaj,qKH]
 have hn1:=Nat.div_le_self m (Nat.gcd m d)
 have hn2:=Nat.div_le_self d (Nat.gcd m d)
 obtain ⟨c1,c2⟩:=qXs neg (m / Nat.gcd m d)
 have f1:=qUaj neg (m / Nat.gcd m d) (by omega)
 have f2:=qTam (d / Nat.gcd m d) (by omega)
 have hdt:((d:Int)).tdiv ((Nat.gcd m d:Nat):Int)=((d / Nat.gcd m d:Nat):Int):=by rw[Int.tdiv_eq_ediv_of_nonneg (by omega),Int.natCast_ediv]
 have hdt2:(d:Int) / ((Nat.gcd m d:Nat):Int)=((d / Nat.gcd m d:Nat):Int):=(Int.natCast_ediv _ _).symm
 have hl1:(dd (m / Nat.gcd m d)).length<=19:=qQH (by omega) (by decide)
 have hl2:(dd (d / Nat.gcd m d)).length<=19:=qQH (by omega) (by decide)
 rw[<-qXY neg m d hd]
 unfold tx
 have hnum:=qEam neg m (Nat.gcd m d)
 obtain ⟨pre,hpre⟩:∃ pre:qBs,pre=(if neg=true/\m / Nat.gcd m d≠0 then [45] else []):=⟨_,rfl⟩
 have hprel:pre.length<=1:=by rw[hpre];exact qFaq _
 rw[<-hpre] at f1 ⊢
 unfold qGM
 by_cases h1:d / Nat.gcd m d=1
 ·rw[if_pos h1]
  rw[h1] at hdt hdt2
  simp (disch:=(first | omega | (simp only[lnn];omega))) only[hmx,hdv,hnum,f1,hdt,hdt2,stp]
  simp
 ·have hq0:0 < d / Nat.gcd m d:=Nat.div_pos (Nat.le_of_dvd (by omega) (Nat.gcd_dvd_right m d)) (by omega)
  rw[if_neg h1]
  have g1:([47]:qBs).length+(dd (d / Nat.gcd m d)).length<=qWN:=by rw[qDL];simp;omega
  have g2:(pre++dd (m / Nat.gcd m d)).length+(([47]:qBs)++dd (d / Nat.gcd m d)).length<=qWN:=by rw[qDL];simp;omega
  simp (disch:=(first | omega | (simp only[lnn];omega))) only[hmx,hdv,hnum,f1,hdt,hdt2,f2,qBA g1,qBA g2,stp]
  simp
theorem qHab (n d:Int) (hd:d≠0) (hn:n.natAbs < 9000000000000000000) (hdB:d.natAbs < 9000000000000000000) :
 qGM n d=some ((txt (Rat.divInt n d),()),()):=by
 by_cases h:d < 0
 ·have h1:=qRt (decide (-n < 0)) n.natAbs d.natAbs (by omega) hn hdB
  have e1:sg (decide (-n < 0)) n.natAbs=-n:=by have:=qPaj (-n);rw[Int.natAbs_neg] at this;exact this.symm
  rw[e1] at h1
  have e2:(d.natAbs:Int)=-d:=by omega
  rw[e2] at h1
  have e3:Rat.divInt n d=mkRat (-n) d.natAbs:=by rw[<-Rat.neg_divInt_neg,<-e2,Rat.divInt_ofNat]
  rw[e3,<-h1]
  have w1:qI (0 - n)=0 - n:=w64 (by omega)
  have w2:qI (0 - d)=0 - d:=w64 (by omega)
  unfold qGM
  rw[w1,w2,show (0:Int) - n=-n by omega,show (0:Int) - d=-d by omega,qIA h,qNA (by omega)]
 ·have h1:=qRt (decide (n < 0)) n.natAbs d.natAbs (by omega) hn hdB
  rw[<-qPaj n] at h1
  have e2:(d.natAbs:Int)=d:=by omega
  rw[<-Rat.divInt_ofNat,e2] at h1
  exact h1
end Go.AM.Num
end
section
set_option linter.unusedSimpArgs false
set_option linter.unusedVariables false
namespace Go.AM.Num
theorem qLs (neg:Bool) (m d:Nat) (hm:(dd m).length<=100000000) (hd:(dd d).length<=100000000):qGK (neg,limbs m,limbs d)=some ((tx neg m d,()),()):=by
 have tm':=qPz m (by have:=qEH m;omega)
 have td':=qPz d (by have:=qEH d;omega)
 have o:=qGf d
 have h1:([45]:qBs).length+(dd m).length<=qWN:=by rw[qDL];simp;omega
 have h2:([47]:qBs).length+(dd d).length<=qWN:=by rw[qDL];simp;omega
 have h3:(([45]:qBs)++dd m).length+(([47]:qBs)++dd d).length<=qWN:=by rw[qDL];simp;omega
 have h4:(dd m).length+(([47]:qBs)++dd d).length<=qWN:=by rw[qDL];simp;omega
 have hl0:¬ ((limbs 0).length:Int) > 0:=by rw[limbs_zero];simp
 unfold qGK tx
 cases neg with
 |true=>
  by_cases hm0:m=0
  ·subst hm0
   by_cases h:d=1
   ·subst h
    simp (disch:=(first | omega | (simp only[lnn];omega))) only[tm',td',qGf 1,qNA hl0,decide_true,stp]
    simp
   ·simp (disch:=(first | omega | (simp only[lnn];omega))) only[tm',td',o,qNA hl0,qZ9 h,qBA h2,qBA h4,stp]
    simp[h]
  ·have hl:((limbs m).length:Int) > 0:=by
    have:(limbs m).length≠0:=fun e=>hm0 (limbs_nil.1 (List.eq_nil_of_length_eq_zero e))
    omega
   by_cases h:d=1
   ·subst h
    simp (disch:=(first | omega | (simp only[lnn];omega))) only[tm',td',qGf 1,qIA hl,decide_true,qBA h1,stp]
    simp[hm0]
   ·simp (disch:=(first | omega | (simp only[lnn];omega))) only[tm',td',o,qIA hl,qZ9 h,qBA h1,qBA h2,qBA h3,stp]
    simp[h,hm0]
 |false=>
  by_cases h:d=1
  ·subst h
   simp (disch:=(first | omega | (simp only[lnn];omega))) only[tm',td',qGf 1,decide_true,stp]
   simp
  ·simp (disch:=(first | omega | (simp only[lnn];omega))) only[tm',td',o,qZ9 h,qBA h2,qBA h4,stp]
   simp[h]
def Is (r:Bool×List Int×List Int) (q:Rat):Prop:=∃ neg m d,r=(neg,limbs m,limbs d)/\tx neg m d=txt q/\(dd m).length<=100000000/\(dd d).length<=100000000
theorem Is.text {r:Bool×List Int×List Int} {q:Rat} (h:Is r q):qGK (r.1,r.2.1,r.2.2)=some ((txt q,()),()):=by
 obtain ⟨neg,m,d,rfl,h1,h2,h3⟩:=h
 rw[qLs neg m d h2 h3,h1]
theorem qVY (neg:Bool) (m d:Nat) (hd:d≠0) (hm:(dd m).length<=100000000) (hdl:(dd d).length<=100000000) :
 ∃ r,qCQ neg (limbs m) (limbs d)=some ((r,()),())/\Is r (mkRat (sg neg m) d):=
 ⟨_,qLz neg m d hd (Nat.le_trans (qEH _) hm) (Nat.le_trans (qEH _) hdl),neg,_,_,rfl,qXY neg m d hd,
  Nat.le_trans (qDB (Nat.div_le_self _ _)) hm,Nat.le_trans (qDB (Nat.div_le_self _ _)) hdl⟩
theorem qAP (q:Rat):(dd q.num.natAbs).length<=D q:=by unfold D;omega
theorem qJP (q:Rat):(dd q.den).length<=D q:=by unfold D;omega
theorem qEu (p q:Rat):p+q=mkRat (sg (decide (p.num < 0)) (p.num.natAbs * q.den)+sg (decide (q.num < 0)) (q.num.natAbs * p.den)) (p.den * q.den):=by
 rw[Rat.add_def']
 congr 1
 have h1:=qPl (decide (p.num < 0)) false p.num.natAbs q.den
 have h2:=qPl (decide (q.num < 0)) false q.num.natAbs p.den
 rw[qUW] at h1 h2
 simp only[Bool.bne_false] at h1 h2
 rw[<-h1,<-h2];rfl
theorem radd (p q:Rat) (h:D p+D q<=10000000):∃ r,qOX (rep p) (rep q)=some ((r,()),())/\Is r (p+q):=by
 have a1:=qAP p
 have a2:=qJP p
 have a3:=qAP q
 have a4:=qJP q
 have b1:=qFC p.num.natAbs q.den
 have b2:=qFC q.num.natAbs p.den
 have b3:=qFC p.den q.den
 have b4:=qLR (p.num.natAbs * q.den) (q.num.natAbs * p.den)
 have b5:=qDB (Nat.sub_le (p.num.natAbs * q.den) (q.num.natAbs * p.den))
 have b6:=qDB (Nat.sub_le (q.num.natAbs * p.den) (p.num.natAbs * q.den))
 have L:=qEH
 have m1:=qIm p.num.natAbs q.den (by have:=L p.num.natAbs;omega) (by have:=L q.den;omega)
 have m2:=qIm q.num.natAbs p.den (by have:=L q.num.natAbs;omega) (by have:=L p.den;omega)
 have m3:=qIm p.den q.den (by have:=L p.den;omega) (by have:=L q.den;omega)
 have hd0:p.den * q.den≠0:=Nat.mul_ne_zero p.den_nz q.den_nz
 obtain ⟨x,hx⟩:∃ x,x=p.num.natAbs * q.den:=⟨_,rfl⟩
 obtain ⟨y,hy⟩:∃ y,y=q.num.natAbs * p.den:=⟨_,rfl⟩
 have hf:=qEu p q
 rw[<-hx] at b1 b4 b5 b6 m1 hf
 rw[<-hy] at b2 b4 b5 b6 m2 hf
 have Lx:=L x
 have Ly:=L y
 rw[hf]
 obtain ⟨n1,hn1⟩:∃ n,n=decide (p.num < 0):=⟨_,rfl⟩
 obtain ⟨n2,hn2⟩:∃ n,n=decide (q.num < 0):=⟨_,rfl⟩
 unfold qOX rep
 rw[<-hn1,<-hn2]
 by_cases hs:n1=n2
 ·subst hs
  have e:sg n1 x+sg n1 y=sg n1 (x+y):=by cases n1<;>simp[sg];omega
  rw[e]
  obtain ⟨r,hr,hi⟩:=qVY n1 (x+y) (p.den * q.den) hd0 (by omega) (by omega)
  refine ⟨r,?_,hi⟩
  simp (disch:=(first | omega | (simp only[lnn];omega))) only[m1,m2,m3,qEak x y (by omega) (by omega),hr,beq_self_eq_true,stp]
 ·have hsb:(n1==n2)=false:=by simpa using hs
  obtain ⟨c,hc,hc1,hc2⟩:=qGak x y (by omega) (by omega)
  by_cases hle:y<=x
  ·have hc0:c>=0:=by
    rcases Int.lt_or_le c 0 with h | h
    ·have:=hc1.1 h;omega
    ·exact h
   have e:sg n1 x+sg n2 y=sg n1 (x - y):=by cases n1<;>cases n2<;>simp_all [sg]<;>omega
   rw[e]
   obtain ⟨r,hr,hi⟩:=qVY n1 (x - y) (p.den * q.den) hd0 (by omega) (by omega)
   refine ⟨r,?_,hi⟩
   simp (disch:=(first | omega | (simp only[lnn];omega))) only[m1,m2,m3,hsb,hc,qGz x y (by omega) hle,hr,stp]
  ·have hc0:¬ c>=0:=by have:=hc1.2 (by omega);omega
   have e:sg n1 x+sg n2 y=sg n2 (y - x):=by cases n1<;>cases n2<;>simp_all [sg]<;>omega
   rw[e]
   obtain ⟨r,hr,hi⟩:=qVY n2 (y - x) (p.den * q.den) hd0 (by omega) (by omega)
   refine ⟨r,?_,hi⟩
   simp (disch:=(first | omega | (simp only[lnn];omega))) only[m1,m2,m3,hsb,hc,qGz y x (by omega) (by omega),hr,stp]
theorem qVas (n1 n2:Bool) (m1 d1 m2 d2:Nat) (h1:d1≠0) (h2:d2≠0) (a1:(dd m1).length<=10000000) (a2:(dd d1).length<=10000000) (a3:(dd m2).length<=10000000) (a4:(dd d2).length<=10000000) :
 ∃ r,qEU (n1,limbs m1,limbs d1) (n2,limbs m2,limbs d2)=some ((r,()),())/\Is r (mkRat (sg n1 m1 * sg n2 m2) (d1 * d2)):=by
 have b1:=qFC m1 m2
 have b2:=qFC d1 d2
 have L:=qEH
 have e1:=qIm m1 m2 (by have:=L m1;omega) (by have:=L m2;omega)
 have e2:=qIm d1 d2 (by have:=L d1;omega) (by have:=L d2;omega)
 obtain ⟨r,hr,hi⟩:=qVY (n1 !=n2) (m1 * m2) (d1 * d2) (Nat.mul_ne_zero h1 h2) (by omega) (by omega)
 rw[<-qPl] at hi
 refine ⟨r,?_,hi⟩
 have e3:(!(n1==n2))=(n1 !=n2):=rfl
 unfold qEU
 simp (disch:=(first | omega | (simp only[lnn];omega))) only[e1,e2,e3,hr,stp]
theorem rmul (p q:Rat) (h:D p+D q<=10000000):∃ r,qEU (rep p) (rep q)=some ((r,()),())/\Is r (p * q):=by
 have:=qVas (decide (p.num < 0)) (decide (q.num < 0)) p.num.natAbs p.den q.num.natAbs q.den p.den_nz q.den_nz (by have:=qAP p;omega) (by have:=qJP p;omega) (by have:=qAP q;omega) (by have:=qJP q;omega)
 rw[qUW,qUW,<-Rat.mul_def'] at this
 exact this
theorem qYah (q:Rat) (h:q≠0):q⁻¹=mkRat (sg (decide (q.num < 0)) q.den) q.num.natAbs:=by
 have hn:q.num≠0:=fun e=>h (Rat.num_eq_zero.1 e)
 rw[Rat.inv_def]
 by_cases hs:q.num < 0
 ·rw[qZ10 hs,<-Rat.neg_divInt_neg]
  have e:-q.num=(q.num.natAbs:Int):=by omega
  rw[e,Rat.divInt_ofNat];rfl
 ·rw[qZ9 hs]
  have e:q.num=(q.num.natAbs:Int):=by omega
  conv=>lhs;rw[e]
  rw[Rat.divInt_ofNat];rfl
end Go.AM.Num
end
section
set_option linter.unusedSimpArgs false
set_option linter.unusedVariables false
namespace Go.AM.Num
noncomputable def bin (f:Rat->Rat->qBs) (a b:qBs):qBs:=
 match rd a,rd b with
 |some p,some q=>f p q
 |_,_=>[]
theorem qPQ (f:Rat->Rat->qBs) (p q:Rat):bin f (txt p) (txt q)=f p q:=by unfold bin;rw[qOK,qOK]
theorem qZag {f:Rat->Rat->qBs} {a b:qBs} (h:rd a=none):bin f a b=[]:=by unfold bin;rw[h]
theorem qIv {f:Rat->Rat->qBs} {a b:qBs} (h:rd b=none):bin f a b=[]:=by
 unfold bin;rw[h];cases rd a<;>rfl
theorem qKd {q:Rat} {n:Nat} (h:(txt q).length<=n):D q<=n+1:=by have:=D_le q;omega
theorem qCR {a b:Nat} (ha:a < 1000000000) (hb:b < 1000000000):a * b<=999999998000000001:=by
 have h1:a * b<=999999999 * b:=Nat.mul_le_mul_right _ (by omega)
 omega
section
variable {a b:qBs}
theorem qSan (p q:Rat) (h1:p.num.natAbs < 1000000000) (h2:p.den < 1000000000) (h3:q.num.natAbs < 1000000000) (h4:q.den < 1000000000) :
 qJf (p.num,(p.den:Int)) (q.num,(q.den:Int))=some ((txt (p+q),()),()):=by
 have e1:=qCR h1 h4
 have e2:=qCR h3 h2
 have e3:=qCR h2 h4
 have f1:(p.num * q.den).natAbs=p.num.natAbs * q.den:=by rw[Int.natAbs_mul,Int.natAbs_natCast]
 have f2:(q.num * p.den).natAbs=q.num.natAbs * p.den:=by rw[Int.natAbs_mul,Int.natAbs_natCast]
 have f3:((p.den:Int) * q.den).natAbs=p.den * q.den:=by rw[Int.natAbs_mul,Int.natAbs_natCast,Int.natAbs_natCast]
 have hd:p.den * q.den≠0:=Nat.mul_ne_zero p.den_nz q.den_nz
 have hfr:=qHab (p.num * q.den+q.num * p.den) ((p.den:Int) * q.den) (by omega) (by omega) (by omega)
 rw[<-Int.natCast_mul,Rat.divInt_ofNat,<-Rat.add_def',Int.natCast_mul] at hfr
 unfold qJf
 simp (disch:=(first | omega | (simp only[lnn];omega))) only[hfr,stp]
theorem qKal (p q:Rat) (h1:p.num.natAbs < 1000000000) (h2:p.den < 1000000000) (h3:q.num.natAbs < 1000000000) (h4:q.den < 1000000000) :
 qCg (p.num,(p.den:Int)) (q.num,(q.den:Int))=some ((txt (p * q),()),()):=by
 have e1:=qCR h1 h3
 have e3:=qCR h2 h4
 have f1:(p.num * q.num).natAbs=p.num.natAbs * q.num.natAbs:=Int.natAbs_mul _ _
 have f3:((p.den:Int) * q.den).natAbs=p.den * q.den:=by rw[Int.natAbs_mul,Int.natAbs_natCast,Int.natAbs_natCast]
 have hd:p.den * q.den≠0:=Nat.mul_ne_zero p.den_nz q.den_nz
 have hfr:=qHab (p.num * q.num) ((p.den:Int) * q.den) (by omega) (by omega) (by omega)
 rw[<-Int.natCast_mul,Rat.divInt_ofNat,<-Rat.mul_def',Int.natCast_mul] at hfr
 unfold qCg
 simp (disch:=(first | omega | (simp only[lnn];omega))) only[hfr,stp]
theorem qJae {f:Rat->Rat->Rat} {F1:Int×Int->Int×Int->Option ((qBs×Unit)×Unit)} {F2:Bool×List Int×List Int->Bool×List Int×List Int->Option ((qBs×Unit)×Unit)}
 {two:qBs->qBs->Unit->Unit->Option ((qBs×Unit)×Unit)}
 (htwo:∀ a b r1 k1 r2 k2,qEC a=some ((r1,k1,()),())->qEC b=some ((r2,k2,()),())->
  (k1=true->k2=true->∀ t,F1 r1 r2=some ((t,()),())->two a b () ()=some ((t,()),()))/\
  ((k1=false\/k2=false)->∀ s1 o1 s2 o2,qAH a=some ((s1,o1,()),())->qAH b=some ((s2,o2,()),())->
   ((o1=false\/o2=false)->two a b () ()=some (([],()),()))/\(o1=true->o2=true->∀ t,F2 s1 s2=some ((t,()),())->two a b () ()=some ((t,()),()))))
 (ok:Rat->Prop)
 (h1:∀ p q:Rat,ok q->p.num.natAbs < 1000000000->p.den < 1000000000->q.num.natAbs < 1000000000->q.den < 1000000000->F1 (p.num,(p.den:Int)) (q.num,(q.den:Int))=some ((txt (f p q),()),()))
 (h2:∀ p q:Rat,ok q->D p+D q<=10000000->F2 (rep p) (rep q)=some ((txt (f p q),()),()))
 (ha:a.length<=3000000) (hb:b.length<=3000000) (hok:∀ q,b=txt q->ok q):two a b () ()=some ((bin (fun p q=>txt (f p q)) a b,()),()):=by
 obtain ⟨r1,k1,e1,s1⟩:=qAb a (by omega)
 obtain ⟨r2,k2,e2,s2⟩:=qAb b (by omega)
 obtain ⟨t1,t2⟩:=htwo a b r1 k1 r2 k2 e1 e2
 by_cases hk:k1=true/\k2=true
 ·obtain ⟨p,rfl,rfl,b1,b2⟩:=s1 hk.1
  obtain ⟨q,rfl,rfl,b3,b4⟩:=s2 hk.2
  rw[qPQ]
  exact t1 hk.1 hk.2 _ (h1 p q (hok q rfl) b1 b2 b3 b4)
 ·obtain ⟨r,o1,e3,q1⟩:=qQZ a (by omega)
  obtain ⟨r',o2,e4,q2⟩:=qQZ b (by omega)
  have hk':k1=false\/k2=false:=by
   rcases Bool.eq_false_or_eq_true k1 with h | h
   ·rcases Bool.eq_false_or_eq_true k2 with h' | h'
    ·exact absurd ⟨h,h'⟩ hk
    ·exact .inr h'
   ·exact .inl h
  obtain ⟨u1,u2⟩:=t2 hk' r o1 r' o2 e3 e4
  rcases q1 with ⟨rfl,p,rfl,rfl⟩ | ⟨rfl,hn⟩
  ·rcases q2 with ⟨rfl,q,rfl,rfl⟩ | ⟨rfl,hn⟩
   ·rw[qPQ]
    exact u2 rfl rfl _ (h2 p q (hok q rfl) (by have:=qKd ha;have:=qKd hb;omega))
   ·rw[qIv (qBf hn)]
    exact u1 (.inr rfl)
  ·rw[qZag (qBf hn)]
   exact u1 (.inl rfl)
theorem qVz (ha:a.length<=3000000) (hb:b.length<=3000000):qOp a b=some ((bin (fun p q=>txt (p+q)) a b,()),()):=by
 have:=qJae (f:=(·+·)) (F1:=qJf) (F2:=qHf) (two:=qHD) (a:=a) (b:=b) (by
  intro a b r1 k1 r2 k2 e1 e2
  constructor
  ·rintro rfl rfl t ht
   unfold qHD
   simp (disch:=(first | omega | (simp only[lnn];omega))) only[e1,e2,ht,stp]
  ·intro hk s1 o1 s2 o2 e3 e4
   constructor
   ·intro ho
    unfold qHD
    cases k1<;>cases k2<;>cases o1<;>cases o2<;>simp_all [cond]
   ·rintro rfl rfl t ht
    unfold qHD
    cases k1<;>cases k2<;>simp_all [cond]) (fun _=>True) (fun p q _=>qSan p q) (fun p q _ h=>by
  obtain ⟨r,hr,hi⟩:=radd p q h
  unfold qHf
  simp (disch:=(first | omega | (simp only[lnn];omega))) only[hr,hi.text,stp]) ha hb (fun _ _=>trivial)
 unfold qOp
 rw[this];rfl
theorem qNap (ha:a.length<=3000000) (hb:b.length<=3000000):qLx a b=some ((bin (fun p q=>txt (p * q)) a b,()),()):=by
 have:=qJae (f:=(· * ·)) (F1:=qCg) (F2:=qKf) (two:=qID) (a:=a) (b:=b) (by
  intro a b r1 k1 r2 k2 e1 e2
  constructor
  ·rintro rfl rfl t ht
   unfold qID
   simp (disch:=(first | omega | (simp only[lnn];omega))) only[e1,e2,ht,stp]
  ·intro hk s1 o1 s2 o2 e3 e4
   constructor
   ·intro ho
    unfold qID
    cases k1<;>cases k2<;>cases o1<;>cases o2<;>simp_all [cond]
   ·rintro rfl rfl t ht
    unfold qID
    cases k1<;>cases k2<;>simp_all [cond]) (fun _=>True) (fun p q _=>qKal p q) (fun p q _ h=>by
  obtain ⟨r,hr,hi⟩:=rmul p q h
  unfold qKf
  simp (disch:=(first | omega | (simp only[lnn];omega))) only[hr,hi.text,stp]) ha hb (fun _ _=>trivial)
 unfold qLx
 rw[this];rfl
theorem txt_zero:txt 0=[48]:=by unfold txt;simp[qED]
noncomputable def qdiv (p q:Rat):qBs:=if q=0 then [] else txt (p / q)
end
theorem qFk {a:qBs} (ha:a.length<=10000000):qLQ a=some (((rd a).isSome,()),()):=by
 obtain ⟨r1,k1,e1,s1⟩:=qAb a ha
 unfold qLQ
 cases k1 with
 |true=>
  obtain ⟨p,rfl,rfl,b1,b2⟩:=s1 rfl
  simp (disch:=(first | omega | (simp only[lnn];omega))) only[e1,stp]
  rw[qOK];rfl
 |false=>
  obtain ⟨r,o1,e3,q1⟩:=qQZ a ha
  rcases q1 with ⟨rfl,p,rfl,rfl⟩ | ⟨rfl,hn⟩
  ·simp (disch:=(first | omega | (simp only[lnn];omega))) only[e1,e3,stp]
   rw[qOK];rfl
  ·simp (disch:=(first | omega | (simp only[lnn];omega))) only[e1,e3,stp]
   rw[qBf hn];rfl
noncomputable def qSW (a:qBs):Int:=match rd a with | some q=>q.num.sign | none=>0
theorem qXt (q:Rat):(q.num < 0->∃ s,txt q=45::s)/\(0 < q.num->∃ c s,txt q=c::s/\c≠45):=by
 unfold txt
 constructor
 ·intro h;rw[if_pos h];exact ⟨_,rfl⟩
 ·intro h
  rw[if_neg (by omega)]
  obtain ⟨c,s,e,hc,_⟩:=qKr (n:=q.num.natAbs) (by omega)
  refine ⟨c,_,by rw[e];rfl,?_⟩
  rintro rfl
  have:=hc.1;simp at this
theorem qVR {q:Rat}:txt q=[48] ↔ q=0:=by
 constructor
 ·intro h;rw[<-txt_zero] at h;exact txt_inj h
 ·rintro rfl;exact txt_zero
theorem qBl {a:qBs} (ha:a.length<=10000000):qTY a=some ((qSW a,()),()):=by
 have hv:=qFk ha
 unfold qTY qSW
 cases hr:rd a with
 |none=>rw[hr] at hv;simp (disch:=(first | omega | (simp only[lnn];omega))) only[hv,Option.isSome_none,stp]
 |some q=>
  rw[hr] at hv
  have hq:=qWO hr
  rcases Int.lt_trichotomy q.num 0 with h | h | h
  ·obtain ⟨s,e⟩:=(qXt q).1 h
   have hne:a≠[48]:=by rw[hq,e];simp
   have e2:((a.getD 0 0).toNat:Int)=45:=by rw[hq,e];rfl
   have hal:0 < a.length:=by rw[hq,e];simp
   have h00:((0:Int)).toNat=0:=rfl
   simp (disch:=(first | omega | (simp only[lnn];omega))) only[hv,Option.isSome_some,qWC hne,h00,e2,stp]
   rw[Int.sign_eq_neg_one_of_neg h]
  ·have hz:a=[48]:=by rw[hq];exact qVR.2 (Rat.num_eq_zero.1 h)
   simp (disch:=(first | omega | (simp only[lnn];omega))) only[hv,Option.isSome_some,qDD hz,stp]
   rw[h];rfl
  ·obtain ⟨c,s,e,hc⟩:=(qXt q).2 h
   have hne:a≠[48]:=fun e0=>by
    rw[hq,qVR] at e0;rw[e0] at h;simp at h
   have e2:((a.getD 0 0).toNat:Int)≠45:=by
    rw[hq,e]
    show ((c.toNat:Nat):Int)≠45
    intro h45
    exact hc (UInt8.toNat_inj.1 (by show c.toNat=45;omega))
   have hal:0 < a.length:=by rw[hq,e];simp
   have h00:((0:Int)).toNat=0:=rfl
   simp (disch:=(first | omega | (simp only[lnn];omega))) only[hv,Option.isSome_some,qWC hne,h00,qDA e2,stp]
   rw[Int.sign_eq_one_of_pos h]
noncomputable def un (f:Rat->qBs) (a:qBs):qBs:=match rd a with | some q=>f q | none=>[]
theorem qBak (f:Rat->qBs) (q:Rat):un f (txt q)=f q:=by unfold un;rw[qOK]
theorem qBab {f:Rat->qBs} {a:qBs} (h:rd a=none):un f a=[]:=by unfold un;rw[h]
theorem qVV {q:Rat} (h:q.num < 0):txt q=45::txt (-q):=by
 unfold txt
 rw[if_pos h,Rat.neg_num,Rat.neg_den,if_neg (show ¬ (-q.num < 0) by omega),Int.natAbs_neg];rfl
theorem qCad:rd []=none:=qBf fun q h=>by
 unfold txt at h
 have:=qTe q.num.natAbs
 simp at h
 exact this h.2.1
theorem qCal {a:qBs} (ha:a.length<=10000000):qTad a=some ((un (fun q=>txt (-q)) a,()),()):=by
 have hs:=qBl ha
 unfold qTad
 cases hr:rd a with
 |none=>
  have hne:a≠[48]:=fun e=>by rw[e,<-txt_zero,qOK] at hr;cases hr
  have e:qSW a=0:=by unfold qSW;rw[hr]
  rw[e] at hs
  rw[qBab hr]
  simp (disch:=(first | omega | (simp only[lnn];omega))) only[hs,qWC hne,stp]
 |some q=>
  have hq:=qWO hr
  have e:qSW a=q.num.sign:=by unfold qSW;rw[hr]
  rw[e] at hs
  have hu:un (fun q=>txt (-q)) a=txt (-q):=by rw[hq,qBak]
  rw[hu]
  rcases Int.lt_trichotomy q.num 0 with h | h | h
  ·rw[Int.sign_eq_neg_one_of_neg h] at hs
   have ht:=qVV h
   have hal:1<=a.length:=by rw[hq,ht];simp
   have h11:((1:Int)).toNat=1:=rfl
   simp (disch:=(first | omega | (simp only[lnn];omega))) only[hs,h11,stp]
   rw[hq,ht];rfl
  ·have hq0:q=0:=Rat.num_eq_zero.1 h
   have hz:a=[48]:=by rw[hq];exact qVR.2 hq0
   rw[h,Int.sign_zero] at hs
   simp (disch:=(first | omega | (simp only[lnn];omega))) only[hs,qDD hz,stp]
   rw[hz,hq0,Rat.neg_zero,txt_zero]
  ·rw[Int.sign_eq_one_of_pos h] at hs
   have ht:=qVV (q:=-q) (by rw[Rat.neg_num];omega)
   rw[Rat.neg_neg] at ht
   have g:([45]:qBs).length+a.length<=qWN:=by rw[qDL];simp;omega
   simp (disch:=(first | omega | (simp only[lnn];omega))) only[hs,qBA g,stp]
   rw[ht,hq];rfl
theorem qXap {f:Rat->Rat} {k:Nat} (hf:∀ q,D (f q)<=D q) {a:qBs} (ha:a.length<=k):(un (fun q=>txt (f q)) a).length<=k+3:=by
 unfold un
 cases hr:rd a with
 |none=>simp
 |some q=>
  have hq:=qWO hr
  have h1:=qJF (f q)
  have h2:=hf q
  have h3:=D_le q
  rw[<-hq] at h3
  show (txt (f q)).length<=k+3
  omega
theorem qNr {k:Nat} {a:qBs} (ha:a.length<=k):(un (fun q=>txt (-q)) a).length<=k+3:=qXap (fun q=>by rw[qVan];exact Nat.le_refl _) ha
theorem qNae {f:Rat->Rat->Rat} {k:Nat} (hf:∀ p q,D (f p q)<=2 * (D p+D q)+1) {a b:qBs} (ha:a.length<=k) (hb:b.length<=k):(bin (fun p q=>txt (f p q)) a b).length<=4 * k+8:=by
 unfold bin
 cases hr:rd a with
 |none=>simp
 |some p=>
  cases hr2:rd b with
  |none=>simp
  |some q=>
   have h1:=qJF (f p q)
   have h2:=hf p q
   have h3:=D_le p
   have h4:=D_le q
   rw[<-qWO hr] at h3
   rw[<-qWO hr2] at h4
   show (txt (f p q)).length<=_
   omega
theorem qPp {a b:qBs} (ha:a.length<=2000000) (hb:b.length<=2000000):qAz a b=some ((bin (fun p q=>txt (p - q)) a b,()),()):=by
 unfold qAz
 rw[qCal (by omega),qAA]
 dsimp only
 rw[qVz (by omega) (by have:=qNr hb;omega),qAA]
 congr 3
 unfold un
 cases hr:rd b with
 |none=>rw[qIv qCad,qIv hr]
 |some q=>
  have hq:=qWO hr
  unfold bin
  rw[qOK,hr]
  cases rd a with
  |none=>rfl
  |some p=>simp only[Rat.sub_eq_add_neg]
noncomputable def qBp (a b:qBs):Int:=
 match rd a,rd b with
 |some p,some q=>(p - q).num.sign
 |_,_=>0
theorem qOk {a b:qBs} (ha:a.length<=2000000) (hb:b.length<=2000000):qAT a b=some ((qBp a b,()),()):=by
 unfold qAT
 have hl:=qNae (f:=fun p q=>p - q) (fun p q=>by rw[Rat.sub_eq_add_neg];have:=qVaf p (-q);rw[qVan] at this;exact this) ha hb
 rw[qPp ha hb,qAA]
 dsimp only
 rw[qBl (by omega),qAA]
 congr 3
 unfold qSW qBp bin
 cases hr:rd a with
 |none=>simp only[qCad]
 |some p=>
  cases hr2:rd b with
  |none=>simp only[qCad]
  |some q=>simp only[qOK]
end Go.AM.Num
end
section
set_option linter.unusedSimpArgs false
set_option linter.unusedVariables false
namespace Go.AM.Num
theorem qNk (n:Int):txt (n:Rat)=(if n < 0 then [45] else [])++dd n.natAbs:=by
 unfold txt
 rw[Rat.num_intCast,Rat.den_intCast];simp
theorem qMak (neg:Bool) (m:Nat):tx neg m 1=txt ((sg neg m:Int):Rat):=by
 rw[qNk,qKH]
 unfold tx
 simp only[qIO];simp
theorem qDk {q:Rat} (h:q.den=1):q=((q.num:Int):Rat):=Rat.ext (by rw[Rat.num_intCast]) (by rw[Rat.den_intCast,h])
noncomputable def isI (a:qBs):Bool:=match rd a with | some q=>q.den==1 | none=>false
theorem qIao (q:Rat):isI (txt q)=(q.den==1):=by unfold isI;rw[qOK]
theorem qNR {a:qBs} (h:isI a=true):∃ n:Int,a=txt (n:Rat)/\rd a=some (n:Rat):=by
 unfold isI at h
 cases hr:rd a with
 |none=>rw[hr] at h;cases h
 |some q=>
  rw[hr] at h
  have hd:q.den=1:=by simpa using h
  exact ⟨q.num,by rw[<-qDk hd];exact qWO hr,by rw[<-qDk hd]⟩
theorem qUab (n:Int):isI (txt (n:Rat))=true:=by rw[qIao,Rat.den_intCast];rfl
theorem qBS {a:qBs} (ha:a.length<=10000000):qUH a=some ((isI a,()),()):=by
 obtain ⟨neg,s,hcp,has,hs⟩:=qDj a
 have hsl:s.length<=10000000:=by rw[has,qZ6] at ha;omega
 have hn:=qXA s (by omega)
 unfold qUH
 by_cases hd:s=dd (dval s)
 ·have good:(neg=true->dval s≠0)->isI a=true:=by
   intro h
   have:a=txt ((sg neg (dval s):Int):Rat):=by
    have e:=qQl (neg:=neg) (m:=dval s) (d:=1) h
    rw[if_pos rfl,qY4,<-hd] at e
    rw[has,e,qMak]
   rw[this];exact qUab _
  by_cases h0:s=[48]
  ·cases neg with
   |true=>
    have hb:isI a=false:=by
     cases hi:isI a with
     |false=>rfl
     |true=>
      obtain ⟨n,hn1,_⟩:=qNR hi
      obtain ⟨e1,e2⟩:=shape hs (has ▸ hn1)
      rw[Rat.den_intCast,if_pos rfl,qY4,Rat.num_intCast,h0,<-qED] at e2
      rw[Rat.num_intCast] at e1
      have:=of_decide_eq_true e1.symm
      have:=qVQ e2
      omega
    rw[hb]
    simp (disch:=(first | omega | (simp only[lnn];omega))) only[hcp,hn,qDD hd,qDD h0,stp]
   |false=>
    rw[good (fun h=>by cases h)]
    simp (disch:=(first | omega | (simp only[lnn];omega))) only[hcp,hn,qDD hd,stp]
  ·have hm0:dval s≠0:=fun e=>h0 (by rw[hd,e,qED])
   rw[good (fun _=>hm0)]
   cases neg with
   |true=>simp (disch:=(first | omega | (simp only[lnn];omega))) only[hcp,hn,qDD hd,qWC h0,stp]
   |false=>simp (disch:=(first | omega | (simp only[lnn];omega))) only[hcp,hn,qDD hd,stp]
 ·have hb:isI a=false:=by
   cases hi:isI a with
   |false=>rfl
   |true=>
    obtain ⟨n,hn1,_⟩:=qNR hi
    obtain ⟨e1,e2⟩:=shape hs (has ▸ hn1)
    rw[Rat.den_intCast,if_pos rfl,qY4] at e2
    exact absurd (by rw[e2,qDF]) hd
  rw[hb]
  simp (disch:=(first | omega | (simp only[lnn];omega))) only[hcp,hn,qWC hd,stp]
theorem qMX {x Y Q R:Int} (hY:0 < Y) (h:R+Y * Q=x) (h0:0<=R) (h1:R < Y):x / Y=Q/\x % Y=R:=(Int.ediv_emod_unique hY).2 ⟨h,h0,h1⟩
theorem qWac (n1 n2:Bool) (X Y:Nat) (hY:Y≠0) :
 (¬ (n1=true/\X % Y≠0)->sg n1 X / sg n2 Y=sg (n1 !=n2) (X / Y)/\sg n1 X % sg n2 Y=((X % Y:Nat):Int))/\
 ((n1=true/\X % Y≠0)->sg n1 X / sg n2 Y=sg (n1 !=n2) (X / Y+1)/\sg n1 X % sg n2 Y=((Y - X % Y:Nat):Int)):=by
 have hY0:(0:Int) < Y:=by omega
 have hdm:=Nat.div_add_mod X Y
 have hml:=Nat.mod_lt X (show 0 < Y by omega)
 obtain ⟨k,hk⟩:∃ k,k=X / Y:=⟨_,rfl⟩
 obtain ⟨r,hr⟩:∃ r,r=X % Y:=⟨_,rfl⟩
 rw[<-hk,<-hr] at hdm ⊢
 rw[<-hr] at hml
 have hX:(X:Int)=Y * k+r:=by rw[<-hdm];simp
 have pos:(¬ (n1=true/\r≠0)->sg n1 X / (Y:Int)=sg n1 k/\sg n1 X % (Y:Int)=((r:Nat):Int))/\
  ((n1=true/\r≠0)->sg n1 X / (Y:Int)=sg n1 (k+1)/\sg n1 X % (Y:Int)=((Y - r:Nat):Int)):=by
  constructor
  ·intro h
   apply qMX hY0 _ (by omega) (by omega)
   cases n1 with
   |false=>simp only[sg,Bool.false_eq_true,if_false];omega
   |true=>
    have:r=0:=by simpa using h
    subst this
    simp only[sg,if_true]
    rw[Int.mul_neg];omega
  ·rintro ⟨rfl,h⟩
   apply qMX hY0 _ (by omega) (by omega)
   simp only[sg,if_true]
   rw[Int.mul_neg,Int.natCast_add,Int.mul_add]
   omega
 cases n2 with
 |false=>
  have e:sg false Y=(Y:Int):=rfl
  rw[e]
  simpa using pos
 |true=>
  have e:sg true Y=-(Y:Int):=rfl
  rw[e,Int.ediv_neg,Int.emod_neg]
  have hns:∀ m,-sg n1 m=sg (n1 !=true) m:=by intro m;cases n1<;>simp[sg]
  constructor
  ·intro h
   obtain ⟨a1,a2⟩:=pos.1 h
   rw[a1,a2,hns];exact ⟨rfl,rfl⟩
  ·intro h
   obtain ⟨a1,a2⟩:=pos.2 h
   rw[a1,a2,hns];exact ⟨rfl,rfl⟩
theorem qUz (x:Int):rep (x:Rat)=(decide (x < 0),limbs x.natAbs,[1]):=by
 unfold rep;rw[Rat.num_intCast,Rat.den_intCast,qIT]
theorem qCu {neg:Bool} {m:Nat} (hm:(dd m).length<=100000000):Is (neg,limbs m,[1]) ((sg neg m:Int):Rat):=⟨neg,m,1,by rw[qIT],qMak neg m,hm,by rw[qTS];decide⟩
theorem rquo (x y:Int) (hy:y≠0) (hx:(dd x.natAbs).length<=10000000) (hyl:(dd y.natAbs).length<=10000000) :
 ∃ r1 r2,qHQ (rep (x:Rat)) (rep (y:Rat))=some ((r1,r2,()),())/\Is r1 ((x / y:Int):Rat)/\Is r2 ((x % y:Int):Rat):=by
 obtain ⟨X,hX⟩:∃ X,X=x.natAbs:=⟨_,rfl⟩
 obtain ⟨Y,hY⟩:∃ Y,Y=y.natAbs:=⟨_,rfl⟩
 obtain ⟨n1,h1⟩:∃ n,n=decide (x < 0):=⟨_,rfl⟩
 obtain ⟨n2,h2⟩:∃ n,n=decide (y < 0):=⟨_,rfl⟩
 have ex:x=sg n1 X:=by rw[h1,hX];exact qPaj x
 have ey:y=sg n2 Y:=by rw[h2,hY];exact qPaj y
 rw[qUz,qUz,<-h1,<-h2,<-hX,<-hY]
 rw[<-hX] at hx
 rw[<-hY] at hyl
 have hY0:Y≠0:=by rw[hY];omega
 have L:=qEH
 have hq:=qCY X Y (by have:=L X;omega) (by have:=L Y;omega) hY0
 have b1:=qDB (Nat.div_le_self X Y)
 have b2:=qDB (Nat.le_of_lt (Nat.mod_lt X (show 0 < Y by omega)))
 have b3:=qDB (Nat.sub_le Y (X % Y))
 have b4:=qLR (X / Y) 1
 rw[qTS] at b4
 have b5:([49]:qBs).length=1:=rfl
 obtain ⟨d1,d2⟩:=qWac n1 n2 X Y hY0
 rw[<-ex,<-ey] at d1 d2
 have e3:(!(n1==n2))=(n1 !=n2):=rfl
 unfold qHQ
 by_cases hc:n1=true/\X % Y≠0
 ·obtain ⟨q1,q2⟩:=d2 hc
  obtain ⟨rfl,hr⟩:=hc
  have hl:((limbs (X % Y)).length:Int) > 0:=by
   have:(limbs (X % Y)).length≠0:=fun e=>hr (limbs_nil.1 (List.eq_nil_of_length_eq_zero e))
   omega
  have ha:=qEak (X / Y) 1 (by have:=L (X / Y);omega) (by rw[qIT];decide)
  rw[qIT] at ha
  have hs:=qGz Y (X % Y) (by have:=L Y;omega) (Nat.le_of_lt (Nat.mod_lt X (by omega)))
  refine ⟨(true !=n2,limbs (X / Y+1),[1]),(false,limbs (Y - X % Y),[1]),?_,?_,?_⟩
  ·simp (disch:=(first | omega | (simp only[lnn];omega))) only[hq,qIA hl,ha,hs,stp]
   rfl
  ·rw[q1];exact qCu (by omega)
  ·rw[q2];exact qCu (neg:=false) (by omega)
 ·obtain ⟨q1,q2⟩:=d1 hc
  refine ⟨(n1 !=n2,limbs (X / Y),[1]),(false,limbs (X % Y),[1]),?_,?_,?_⟩
  ·cases n1 with
   |false=>simp (disch:=(first | omega | (simp only[lnn];omega))) only[hq,stp];rfl
   |true=>
    have hr:X % Y=0:=by simpa using hc
    have hl:¬ ((limbs (X % Y)).length:Int) > 0:=by rw[hr,limbs_zero];simp
    simp (disch:=(first | omega | (simp only[lnn];omega))) only[hq,qNA hl,stp]
    rfl
  ·rw[q1];exact qCu (by omega)
  ·rw[q2];exact qCu (neg:=false) (by omega)
noncomputable def ibin (f:Int->Int->qBs):qBs->qBs->qBs:=bin fun p q=>if p.den=1/\q.den=1 then f p.num q.num else []
theorem qXc (f:Int->Int->qBs) (x y:Int):ibin f (txt (x:Rat)) (txt (y:Rat))=f x y:=by
 unfold ibin;rw[qPQ,if_pos ⟨Rat.den_intCast x,Rat.den_intCast y⟩,Rat.num_intCast,Rat.num_intCast]
theorem qVaj {f:Int->Int->qBs} {a b:qBs} (h:isI a=false):ibin f a b=[]:=by
 unfold ibin bin isI at *
 cases hr:rd a with
 |none=>rfl
 |some p=>
  rw[hr] at h
  have:p.den≠1:=by simpa using h
  cases rd b<;>simp[this]
theorem qFak {f:Int->Int->qBs} {a b:qBs} (h:isI b=false):ibin f a b=[]:=by
 unfold ibin bin isI at *
 cases hr:rd b with
 |none=>cases rd a<;>rfl
 |some p=>
  rw[hr] at h
  have:p.den≠1:=by simpa using h
  cases rd a<;>simp[this]
theorem qZak {n:Int} {k:Nat} (h:(txt (n:Rat)).length<=k):D (n:Rat)<=k+1/\(dd n.natAbs).length<=k:=by
 have h1:=qKd h
 have h2:=qSaq n
 omega
theorem qLi {a b:qBs} (ha:a.length<=3000000) (hb:b.length<=3000000) :
 qLX a b=some ((ibin (fun x y=>if y=0 then [] else txt ((x / y:Int):Rat)) a b,ibin (fun x y=>if y=0 then [] else txt ((x % y:Int):Rat)) a b,()),()):=by
 have h1:=qBS (a:=a) (by omega)
 have h2:=qBS (a:=b) (by omega)
 unfold qLX
 cases i1:isI a with
 |false=>rw[i1] at h1;rw[qVaj i1,qVaj i1];simp (disch:=(first | omega | (simp only[lnn];omega))) only[h1,stp]
 |true=>
  rw[i1] at h1
  cases i2:isI b with
  |false=>rw[i2] at h2;rw[qFak i2,qFak i2];simp (disch:=(first | omega | (simp only[lnn];omega))) only[h1,h2,stp]
  |true=>
   rw[i2] at h2
   obtain ⟨x,rfl,_⟩:=qNR i1
   obtain ⟨y,rfl,_⟩:=qNR i2
   rw[qXc,qXc]
   by_cases hy:y=0
   ·subst hy
    have hz:txt ((0:Int):Rat)=[48]:=txt_zero
    rw[if_pos rfl,if_pos rfl]
    simp (disch:=(first | omega | (simp only[lnn];omega))) only[h1,h2,qDD hz,stp]
   ·have hz:txt ((y:Int):Rat)≠[48]:=fun e=>hy (by have:=qVR.1 e;simpa using congrArg Rat.num this)
    obtain ⟨a1,a2⟩:=qZak ha
    obtain ⟨a3,a4⟩:=qZak hb
    obtain ⟨r1,r2,hr,g1,g2⟩:=rquo x y hy (by omega) (by omega)
    rw[if_neg hy,if_neg hy]
    simp (disch:=(first | omega | (simp only[lnn];omega))) only[h1,h2,qWC hz,qTu (x:Rat) (by omega),qTu (y:Rat) (by omega),hr,g1.text,g2.text,stp]
noncomputable def sQuo:qBs->qBs->qBs:=ibin fun x y=>if y=0 then [] else txt ((x / y:Int):Rat)
noncomputable def sRem:qBs->qBs->qBs:=ibin fun x y=>if y=0 then [] else txt ((x % y:Int):Rat)
theorem qNaq {a b:qBs} (ha:a.length<=3000000) (hb:b.length<=3000000):qQw a b=some ((sQuo a b,()),()):=by
 unfold qQw;rw[qLi ha hb];rfl
theorem qIaq {a b:qBs} (ha:a.length<=3000000) (hb:b.length<=3000000):qXu a b=some ((sRem a b,()),()):=by
 unfold qXu;rw[qLi ha hb];rfl
end Go.AM.Num
end
section
set_option linter.unusedSimpArgs false
set_option linter.unusedVariables false
namespace Go.AM.Num
theorem qCy {n:Int}:(txt (n:Rat)).length<=(dd n.natAbs).length+1:=by
 rw[qNk]
 have h1:(if n < 0 then [(45:UInt8)] else []).length<=1:=by split<;>simp
 rw[qZ6];omega
def figs (s:qBs):Prop:=s≠[]/\qLJ s
instance (s:qBs):Decidable (qLJ s):=by unfold qLJ isD;infer_instance
instance (s:qBs):Decidable (figs s):=by unfold figs;infer_instance
inductive DecParts:qBs->Bool->qBs->Option qBs->Prop
 |mk {a s:qBs} {neg:Bool} (h:a=sgn neg++s) (hs:neg=false->∀ r,s≠45::r) {x:qBs} {y:Option qBs}
  (hxy:(y=none/\s=x/\(46:UInt8)∉s)\/(∃ z,y=some z/\s=x++46::z/\(46:UInt8)∉x)):DecParts a neg x y
end Go.AM.Num
end
section
set_option linter.unusedSimpArgs false
set_option linter.unusedVariables false
namespace Go.AM.Num
theorem qOR {s:qBs} (hl:s.length<=1000000000):qXL s=some ((decide (figs s),()),()):=by
 obtain ⟨r,hr,hq⟩:=qTB (step:=qDK) (Q:=fun r=>(qLJ s/\r=(Ex.exit 0,(s,false,(s.length:Int),())))\/(¬ qLJ s/\∃ i,r=(Ex.ret,(s,false,i,()))))
  (fun m x=>∃ k:Nat,m+k=s.length/\x=(s,false,(k:Int),())/\qLJ (s.take k)) (by
   rintro m x ⟨k,hm,rfl,hd⟩
   by_cases hk:k < s.length
   ·have hg:s.getD k 0=s[k]:=by rw[qZ4,qZ5 hk];rfl
    have e:(k:Int).toNat=k:=by omega
    have hmem:s[k]∈s:=List.getElem_mem hk
    by_cases h1:s[k].toNat < 48
    ·refine .inl ⟨_,?_,?_,.inr ⟨fun h=>?_,(k:Int),rfl⟩⟩
     ·simp (disch:=(first | omega | (simp only[lnn];omega))) only[qDK,e,hg,stp]
     ·simp
     ·have:=(h _ hmem).1;omega
    ·by_cases h2:s[k].toNat > 57
     ·refine .inl ⟨_,?_,?_,.inr ⟨fun h=>?_,(k:Int),rfl⟩⟩
      ·simp (disch:=(first | omega | (simp only[lnn];omega))) only[qDK,e,hg,stp]
      ·simp
      ·have:=(h _ hmem).2;omega
     ·refine .inr ⟨m - 1,_,?_,by omega,k+1,by omega,rfl,?_⟩
      ·simp (disch:=(first | omega | (simp only[lnn];omega))) only[qDK,e,hg,stp]
       rfl
      ·rw[List.take_succ_eq_append_getElem hk]
       refine hd.app fun c hc=>?_
       rw[List.mem_singleton.1 hc]
       exact ⟨by omega,by omega⟩
   ·have hks:k=s.length:=by omega
    subst hks
    refine .inl ⟨_,?_,?_,.inl ⟨by simpa using hd,rfl⟩⟩
    ·simp (disch:=(first | omega | (simp only[lnn];omega))) only[qDK,stp]
    ·simp) s.length (s,false,0,()) ⟨0,by omega,rfl,by simp[qLJ]⟩
 unfold qXL
 rw[hr]
 rcases hq with ⟨hd,rfl⟩ | ⟨hd,i,rfl⟩
 ·simp (disch:=(first | omega | (simp only[lnn];omega))) only[stp]
  by_cases h0:s=[]
  ·subst h0
   have:decide (figs [])=false:=qZ9 (fun h=>h.1 rfl)
   rw[this];rfl
  ·rw[qWC h0,qZ10 (show figs s from ⟨h0,hd⟩)];rfl
 ·simp (disch:=(first | omega | (simp only[lnn];omega))) only[stp]
  rw[qZ9 (fun h=>hd h.2)]
theorem qSL {s:qBs} (hd:qLJ s) (hne:s≠[]) (hl:s.length<=1000000000):qTN s=some ((dd (dval s),()),()):=by
 obtain ⟨r,hr,rfl⟩:=qTB (step:=qUQ) (Q:=fun r=>r=(Ex.exit 0,(dd (dval s),())))
  (fun m x=>∃ t:qBs,x=(t,())/\m=t.length/\qLJ t/\t≠[]/\dval t=dval s/\t.length<=1000000000) (by
   rintro m x ⟨t,rfl,hm,h1,h2,h3,h4⟩
   cases t with
   |nil=>exact absurd rfl h2
   |cons c t=>
    have h00:((0:Int)).toNat=0:=rfl
    have h11:((1:Int)).toNat=1:=rfl
    have hg:(c::t:qBs).getD 0 0=c:=rfl
    have hlen:(c::t).length=t.length+1:=rfl
    by_cases ht:t=[]
    ·subst ht
     refine .inl ⟨(Ex.exit 0,([c],())),?_,by simp,?_⟩
     ·simp only[qUQ]
      rw[qNA (by simp)]
     ·rw[<-h3,<-qBag h1 h2 (by
       by_cases hc:c=48
       ·left;rw[hc]
       ·right;simpa using hc)]
    ·have hpos:0 < t.length:=List.length_pos_iff.2 ht
     by_cases hc:c=48
     ·subst hc
      refine .inr ⟨t.length,(t,()),?_,by omega,t,rfl,rfl,fun x hx=>h1 x (by simp[hx]),ht,?_,by omega⟩
      ·have h48:(((48:UInt8).toNat:Nat):Int)=48:=rfl
       simp only[qUQ]
       rw[qIA (by omega),qEA,qBA (by omega),qBA (by omega),h00,hg,h48]
       rw[qHA rfl,qEA,qBA (by omega),qBA (by omega),h11];rfl
      ·rw[<-h3,qAM];simp[dig]
     ·refine .inl ⟨(Ex.exit 0,(c::t,())),?_,by simp,?_⟩
      ·have hne':((c.toNat:Nat):Int)≠48:=fun e=>hc (UInt8.toNat_inj.1 (by show c.toNat=48;omega))
       simp only[qUQ]
       rw[qIA (by omega),qEA,qBA (by omega),qBA (by omega),h00,hg,qDA hne']
      ·rw[<-h3,<-qBag h1 h2 (.inr (by simpa using hc))]) s.length (s,()) ⟨s,rfl,rfl,hd,hne,rfl,hl⟩
 unfold qTN
 rw[hr]
 simp (disch:=(first | omega | (simp only[lnn];omega))) only[stp]
theorem qTg {a b:qBs} (ha:qLJ a) (hb:qLJ b) (hl:a.length=b.length):qQr a b=decide (dval a < dval b):=by
 unfold qQr
 induction a generalizing b with
 |nil=>
  cases b with
  |nil=>simp[Op.bytesLess,dval]
  |cons c b=>simp at hl
 |cons x a ih=>
  cases b with
  |nil=>simp at hl
  |cons y b=>
   have hx:=ha x (by simp)
   have hy:=hb y (by simp)
   have hA:qLJ a:=fun c hc=>ha c (by simp[hc])
   have hB:qLJ b:=fun c hc=>hb c (by simp[hc])
   have hl':a.length=b.length:=by simpa using hl
   have la:=qQQ hA
   have lb:=qQQ hB
   rw[qAM,qAM,hl']
   rw[hl'] at la
   have ih':=ih hA hB hl'
   have hdx:dig x=x.toNat - 48:=rfl
   have hdy:dig y=y.toNat - 48:=rfl
   have:=hx.1
   have:=hy.1
   rcases Nat.lt_trichotomy x.toNat y.toNat with h | h | h
   ·have h1:(dig x+1) * 10 ^ b.length<=dig y * 10 ^ b.length:=Nat.mul_le_mul_right _ (by omega)
    rw[Nat.add_mul] at h1
    rw[qZ10 (by omega)]
    unfold Op.bytesLess
    have:x < y:=UInt8.lt_iff_toNat_lt.2 h
    simp[this]
   ·have hxy:x=y:=UInt8.toNat_inj.1 h
    subst hxy
    unfold Op.bytesLess
    have h1:¬ x < x:=fun e=>Nat.lt_irrefl _ (UInt8.lt_iff_toNat_lt.1 e)
    simp only[h1,if_false]
    rw[ih']
    simp
   ·have h1:(dig y+1) * 10 ^ b.length<=dig x * 10 ^ b.length:=Nat.mul_le_mul_right _ (by omega)
    rw[Nat.add_mul] at h1
    rw[qZ9 (by omega)]
    unfold Op.bytesLess
    have h2:¬ x < y:=fun e=>by have:=UInt8.lt_iff_toNat_lt.1 e;omega
    have h3:x≠y:=fun e=>by rw[e] at h;omega
    simp[h2,h3]
theorem qRu (m n:Nat):∃ c,qBZ (dd m) (dd n)=some ((c,()),())/\(c < 0 ↔ m < n)/\(c=0 ↔ m=n):=by
 unfold qBZ
 rcases Nat.lt_trichotomy (dd m).length (dd n).length with h | h | h
 ·have hlt:m < n:=by
   rcases Nat.lt_or_ge m n with h' | h'
   ·exact h'
   ·have:=qDB h';omega
  refine ⟨-1,?_,by omega,by omega⟩
  simp (disch:=(first | omega | (simp only[lnn];omega))) only[stp]
 ·have hs:=qTg (qMd m) (qMd n) h
  rw[qDF,qDF] at hs
  rcases Nat.lt_trichotomy m n with h' | h' | h'
  ·refine ⟨-1,?_,by omega,by omega⟩
   simp (disch:=(first | omega | (simp only[lnn];omega))) only[hs,qZ10 h',stp]
  ·subst h'
   refine ⟨0,?_,by omega,by omega⟩
   simp (disch:=(first | omega | (simp only[lnn];omega))) only[hs,qZ9 (Nat.lt_irrefl m),qDD rfl,stp]
  ·refine ⟨1,?_,by omega,by omega⟩
   have hne:dd m≠dd n:=fun e=>by have:=qVQ e;omega
   simp (disch:=(first | omega | (simp only[lnn];omega))) only[hs,qZ9 (show ¬ m < n by omega),qWC hne,stp]
 ·have hlt:n < m:=by
   rcases Nat.lt_or_ge n m with h' | h'
   ·exact h'
   ·have:=qDB h';omega
  have hne:dd m≠dd n:=fun e=>by have:=qVQ e;omega
  refine ⟨1,?_,by omega,by omega⟩
  simp (disch:=(first | omega | (simp only[lnn];omega))) only[qWC hne,stp]
def sfx (a:qBs) (i:Nat):Nat:=dval (a.drop (a.length - i))
theorem qBd (a:qBs):sfx a 0=0:=by unfold sfx;rw[Nat.sub_zero,List.drop_length];rfl
theorem qPN {a:qBs} {i:Nat} (h:a.length<=i):sfx a i=dval a:=by unfold sfx;rw[Nat.sub_eq_zero_of_le h,List.drop_zero]
theorem qLZ {a:qBs} {i:Nat} (h:i < a.length):sfx a (i+1)=dig (a[a.length - 1 - i]'(by omega)) * 10 ^ i+sfx a i:=by
 unfold sfx
 rw[show a.length - (i+1)=a.length - 1 - i by omega,qY6 (by omega),qAM,List.length_drop,show a.length - 1 - i+1=a.length - i by omega,show a.length - (a.length - i)=i by omega]
theorem qJj {α:Type} {l:List α} {i:Nat} (h:i < l.length) (c:α):(l.set i c).drop i=c::l.drop (i+1):=by
 rw[qY6 (by simpa using h),List.getElem_set_self,List.drop_set_of_lt (by omega)]
def qVP (s:qBs):List Int:=s.map fun b=>(b.toNat:Int)
theorem qIV (s:qBs):(qVP s).map (fun n=>UInt8.ofNat n.toNat)=s:=by
 unfold qVP
 rw[List.map_map]
 conv=>rhs;rw[<-List.map_id s]
 apply List.map_congr_left
 intro b _
 simp
theorem qEl {k:Int} (h:0<=k/\k < 10):∃ c:UInt8,(c.toNat:Int)=48+k/\isD c/\(dig c:Int)=k:=by
 obtain ⟨n,rfl⟩:∃ n:Nat,k=n:=⟨k.toNat,by omega⟩
 obtain ⟨h1,h2⟩:=dig_of (k:=n) (by omega)
 refine ⟨UInt8.ofNat (48+n),?_,h2,by rw[h1]⟩
 have h3:=h2.1
 have h4:dig (UInt8.ofNat (48+n))=(UInt8.ofNat (48+n)).toNat - 48:=rfl
 omega
theorem qLJ.cons {c:UInt8} {s:qBs} (h:isD c) (hs:qLJ s):qLJ (c::s):=fun x hx=>(List.mem_cons.1 hx).elim (fun e=>e ▸ h) (hs x)
theorem qVT {s:qBs} {k:Nat} (h:k < s.length):s.getD k 0=s[k]:=by rw[qZ4,qZ5 h];rfl
set_option maxHeartbeats 2000000 in
theorem qGah (m n:Nat) (hm:(dd m).length<=100000000) (hn:(dd n).length<=100000000):qHd (dd m) (dd n)=some ((dd (m+n),()),()):=by
 obtain ⟨a,ha⟩:∃ a,a=dd m:=⟨_,rfl⟩
 obtain ⟨b,hb⟩:∃ b,b=dd n:=⟨_,rfl⟩
 have hda:qLJ a:=ha ▸ qMd m
 have hdb:qLJ b:=hb ▸ qMd n
 rw[<-ha,<-hb]
 rw[<-ha] at hm
 rw[<-hb] at hn
 obtain ⟨N,hN⟩:∃ N,N=max a.length b.length+1:=⟨_,rfl⟩
 have hmx:=qDu a.length b.length
 have hw:qI (qPa (a.length:Int) (b.length:Int)+1)=(N:Int):=by rw[hmx,w64 (by omega)];omega
 obtain ⟨r,hr,s,rfl,h1,h2,h3⟩:=qTB (step:=qGG) (Q:=fun r=>∃ s:qBs,r=(Ex.exit 0,(a,b,(N:Int),qVP s,0,(N:Int),()))/\qLJ s/\s.length=N/\dval s=dval a+dval b)
  (fun k x=>∃ (i:Nat) (out:List Int) (c:Int) (s:qBs),x=(a,b,(N:Int),out,c,(i:Int),())/\k+i=N/\out.length=N/\(0<=c/\c<=1)/\out.drop (N - i)=qVP s/\qLJ s/\s.length=i/\(dval s:Int)+c * 10 ^ i=(sfx a i:Int)+sfx b i) (by
   rintro k x ⟨i,out,c,s,rfl,hk,hol,hc,hds,hs,hsl,hv⟩
   by_cases hi:i < N
   ·have hix:((N:Int) - 1 - i).toNat=N - 1 - i:=by omega
    have hax:((a.length:Int) - 1 - i).toNat=a.length - 1 - i:=by omega
    have hbx:((b.length:Int) - 1 - i).toNat=b.length - 1 - i:=by omega
    have go:∀ v:Int,(0<=v/\v < 20)->(v * 10 ^ i+((sfx a i:Int)+sfx b i)=c * 10 ^ i+((sfx a (i+1):Int)+sfx b (i+1)))->
     qGG (a,b,(N:Int),out,c,(i:Int),())=some (Ex.normal,(a,b,(N:Int),out.set (N - 1 - i) (48+v % 10),v / 10,(i:Int)+1,()))->
     ∃ m y,qGG (a,b,(N:Int),out,c,(i:Int),())=some (Ex.normal,y)/\m < k/\∃ (i:Nat) (out:List Int) (c:Int) (s:qBs),y=(a,b,(N:Int),out,c,(i:Int),())/\m+i=N/\out.length=N/\(0<=c/\c<=1)/\out.drop (N - i)=qVP s/\qLJ s/\s.length=i/\(dval s:Int)+c * 10 ^ i=(sfx a i:Int)+sfx b i:=by
     intro v hv1 hv2 hst
     obtain ⟨d,hd1,hd2,hd3⟩:=qEl (k:=v % 10) (by omega)
     refine ⟨k - 1,_,hst,by omega,i+1,_,_,d::s,rfl,by omega,by simpa using hol,by omega,?_,hs.cons hd2,by simp[hsl],?_⟩
     ·rw[show N - (i+1)=N - 1 - i by omega,qJj (by omega),show N - 1 - i+1=N - i by omega,hds,<-hd1];rfl
     ·rw[qAM,hsl,Int.natCast_add,Int.natCast_mul,hd3,Int.pow_succ]
      have:=Int.emod_add_mul_ediv v 10
      push_cast
      grind
    by_cases hia:i < a.length
    ·have hga:=qVT (s:=a) (k:=a.length - 1 - i) (by omega)
     have hdA:=hda (a[a.length - 1 - i]'(by omega)) (List.getElem_mem _)
     have hsa:=qLZ hia
     obtain ⟨A,hA⟩:∃ A,A=a[a.length - 1 - i]'(by omega):=⟨_,rfl⟩
     rw[<-hA] at hga hdA hsa
     have hA1:=hdA.1
     have hA2:=hdA.2
     have hAd:(dig A:Int)=(A.toNat:Int) - 48:=by unfold dig;omega
     by_cases hib:i < b.length
     ·have hgb:=qVT (s:=b) (k:=b.length - 1 - i) (by omega)
      have hdB:=hdb (b[b.length - 1 - i]'(by omega)) (List.getElem_mem _)
      have hsb:=qLZ hib
      obtain ⟨B,hB⟩:∃ B,B=b[b.length - 1 - i]'(by omega):=⟨_,rfl⟩
      rw[<-hB] at hgb hdB hsb
      have hB1:=hdB.1
      have hB2:=hdB.2
      have hBd:(dig B:Int)=(B.toNat:Int) - 48:=by unfold dig;omega
      refine .inr (go (c+((A.toNat:Int) - 48)+((B.toNat:Int) - 48)) (by omega) (by rw[hsa,hsb];push_cast;rw[hAd,hBd];grind) ?_)
      simp (disch:=(first | omega | (simp only[lnn];omega))) only[qGG,hix,hax,hbx,hga,hgb,stp]
     ·have hsb:sfx b (i+1)=sfx b i:=by rw[qPN (by omega),qPN (by omega)]
      refine .inr (go (c+((A.toNat:Int) - 48)) (by omega) (by rw[hsa,hsb];push_cast;rw[hAd];grind) ?_)
      simp (disch:=(first | omega | (simp only[lnn];omega))) only[qGG,hix,hax,hga,stp]
    ·have hsa:sfx a (i+1)=sfx a i:=by rw[qPN (by omega),qPN (by omega)]
     by_cases hib:i < b.length
     ·have hgb:=qVT (s:=b) (k:=b.length - 1 - i) (by omega)
      have hdB:=hdb (b[b.length - 1 - i]'(by omega)) (List.getElem_mem _)
      have hsb:=qLZ hib
      obtain ⟨B,hB⟩:∃ B,B=b[b.length - 1 - i]'(by omega):=⟨_,rfl⟩
      rw[<-hB] at hgb hdB hsb
      have hB1:=hdB.1
      have hB2:=hdB.2
      have hBd:(dig B:Int)=(B.toNat:Int) - 48:=by unfold dig;omega
      refine .inr (go (c+((B.toNat:Int) - 48)) (by omega) (by rw[hsa,hsb];push_cast;rw[hBd];grind) ?_)
      simp (disch:=(first | omega | (simp only[lnn];omega))) only[qGG,hix,hbx,hgb,stp]
     ·have hsb:sfx b (i+1)=sfx b i:=by rw[qPN (by omega),qPN (by omega)]
      refine .inr (go c (by omega) (by rw[hsa,hsb]) ?_)
      simp (disch:=(first | omega | (simp only[lnn];omega))) only[qGG,hix,stp]
   ·have hiN:i=N:=by omega
    subst hiN
    rw[Nat.sub_self,List.drop_zero] at hds
    rw[qPN (by omega),qPN (by omega)] at hv
    have hla:=qQQ hda
    have hlb:=qQQ hdb
    have hp1:10 ^ a.length<=10 ^ (max a.length b.length):=Nat.pow_le_pow_right (by decide) (by omega)
    have hp2:10 ^ b.length<=10 ^ (max a.length b.length):=Nat.pow_le_pow_right (by decide) (by omega)
    have hpN:10 ^ i=10 * 10 ^ (max a.length b.length):=by rw[hN,Nat.pow_succ,Nat.mul_comm]
    have hc0:c=0:=by
     rcases (show c=0\/c=1 by omega) with h | h
     ·exact h
     ·exfalso
      rw[h,show ((10:Int) ^ i)=((10 ^ i:Nat):Int) by push_cast;rfl] at hv
      omega
    subst hc0
    refine .inl ⟨(Ex.exit 0,(a,b,(i:Int),qVP s,0,(i:Int),())),?_,by simp,s,rfl,hs,hsl,by omega⟩
    rw[<-hds]
    simp (disch:=(first | omega | (simp only[lnn];omega))) only[qGG,stp]) N (a,b,(N:Int),List.replicate ((N:Int)).toNat 0,0,0,()) ⟨0,_,0,[],rfl,by omega,by simp,by omega,by simp[qVP],by simp[qLJ],rfl,by rw[qBd,qBd];simp[dval]⟩
 have ht:=qSL h1 (fun e=>by rw[e] at h2;simp at h2;omega) (by omega)
 rw[h3] at ht
 have hva:dval a=m:=by rw[ha,qDF]
 have hvb:dval b=n:=by rw[hb,qDF]
 rw[hva,hvb] at ht
 unfold qHd
 simp only[hw]
 rw[hr]
 simp (disch:=(first | omega | (simp only[lnn];omega))) only[qIV,ht,stp]
end Go.AM.Num
end
section
set_option linter.unusedSimpArgs false
set_option linter.unusedVariables false
namespace Go.AM.Num
set_option maxHeartbeats 2000000 in
theorem qGl (m n:Nat) (hm:(dd m).length<=100000000) (hle:n<=m):qGV (dd m) (dd n)=some ((dd (m - n),()),()):=by
 obtain ⟨a,ha⟩:∃ a,a=dd m:=⟨_,rfl⟩
 obtain ⟨b,hb⟩:∃ b,b=dd n:=⟨_,rfl⟩
 have hda:qLJ a:=ha ▸ qMd m
 have hdb:qLJ b:=hb ▸ qMd n
 have hbl:b.length<=a.length:=by rw[ha,hb];exact qDB hle
 have hane:a≠[]:=ha ▸ qTe m
 rw[<-ha,<-hb]
 rw[<-ha] at hm
 have hva:dval a=m:=by rw[ha,qDF]
 have hvb:dval b=n:=by rw[hb,qDF]
 obtain ⟨N,hN⟩:∃ N,N=a.length:=⟨_,rfl⟩
 obtain ⟨r,hr,s,rfl,h1,h2,h3⟩:=qTB (step:=qFG) (Q:=fun r=>∃ s:qBs,r=(Ex.exit 0,(a,b,qVP s,0,(N:Int),()))/\qLJ s/\s.length=N/\dval s=m - n)
  (fun k x=>∃ (i:Nat) (out:List Int) (c:Int) (s:qBs),x=(a,b,out,c,(i:Int),())/\k+i=N/\out.length=N/\(0<=c/\c<=1)/\out.drop (N - i)=qVP s/\qLJ s/\s.length=i/\(dval s:Int)+sfx b i=(sfx a i:Int)+c * 10 ^ i) (by
   rintro k x ⟨i,out,c,s,rfl,hk,hol,hc,hds,hs,hsl,hv⟩
   by_cases hi:i < N
   ·have hax:((a.length:Int) - 1 - i).toNat=a.length - 1 - i:=by omega
    have hbx:((b.length:Int) - 1 - i).toNat=b.length - 1 - i:=by omega
    have go:∀ v c':Int,(0<=v/\v < 10)->(0<=c'/\c'<=1)->((sfx a (i+1):Int)+c' * (10 ^ i * 10) - sfx b (i+1)=v * 10 ^ i+((sfx a i:Int)+c * 10 ^ i - sfx b i))->
     qFG (a,b,out,c,(i:Int),())=some (Ex.normal,(a,b,out.set (a.length - 1 - i) (48+v),c',(i:Int)+1,()))->
     ∃ m y,qFG (a,b,out,c,(i:Int),())=some (Ex.normal,y)/\m < k/\∃ (i:Nat) (out:List Int) (c:Int) (s:qBs),y=(a,b,out,c,(i:Int),())/\m+i=N/\out.length=N/\(0<=c/\c<=1)/\out.drop (N - i)=qVP s/\qLJ s/\s.length=i/\(dval s:Int)+sfx b i=(sfx a i:Int)+c * 10 ^ i:=by
     intro v c' hv1 hc' hv2 hst
     obtain ⟨d,hd1,hd2,hd3⟩:=qEl (k:=v) (by omega)
     refine ⟨k - 1,_,hst,by omega,i+1,_,_,d::s,rfl,by omega,by simpa using hol,by omega,?_,hs.cons hd2,by simp[hsl],?_⟩
     ·rw[show N - (i+1)=a.length - 1 - i by omega,qJj (by omega),show a.length - 1 - i+1=N - i by omega,hds,<-hd1];rfl
     ·rw[qAM,hsl,Int.natCast_add,Int.natCast_mul,hd3,Int.pow_succ]
      push_cast
      grind
    have hia:i < a.length:=by omega
    have hga:=qVT (s:=a) (k:=a.length - 1 - i) (by omega)
    have hdA:=hda (a[a.length - 1 - i]'(by omega)) (List.getElem_mem _)
    have hsa:=qLZ hia
    obtain ⟨A,hA⟩:∃ A,A=a[a.length - 1 - i]'(by omega):=⟨_,rfl⟩
    rw[<-hA] at hga hdA hsa
    have hA1:=hdA.1
    have hA2:=hdA.2
    have hAd:(dig A:Int)=(A.toNat:Int) - 48:=by unfold dig;omega
    by_cases hib:i < b.length
    ·have hgb:=qVT (s:=b) (k:=b.length - 1 - i) (by omega)
     have hdB:=hdb (b[b.length - 1 - i]'(by omega)) (List.getElem_mem _)
     have hsb:=qLZ hib
     obtain ⟨B,hB⟩:∃ B,B=b[b.length - 1 - i]'(by omega):=⟨_,rfl⟩
     rw[<-hB] at hgb hdB hsb
     have hB1:=hdB.1
     have hB2:=hdB.2
     have hBd:(dig B:Int)=(B.toNat:Int) - 48:=by unfold dig;omega
     by_cases hneg:(A.toNat:Int) - 48 - c - ((B.toNat:Int) - 48) < 0
     ·refine .inr (go ((A.toNat:Int) - 48 - c - ((B.toNat:Int) - 48)+10) 1 (by omega) (by omega) (by rw[hsa,hsb];push_cast;rw[hAd,hBd];grind) ?_)
      simp (disch:=(first | omega | (simp only[lnn];omega))) only[qFG,hax,hbx,hga,hgb,stp]
     ·refine .inr (go ((A.toNat:Int) - 48 - c - ((B.toNat:Int) - 48)) 0 (by omega) (by omega) (by rw[hsa,hsb];push_cast;rw[hAd,hBd];grind) ?_)
      simp (disch:=(first | omega | (simp only[lnn];omega))) only[qFG,hax,hbx,hga,hgb,stp]
    ·have hsb:sfx b (i+1)=sfx b i:=by rw[qPN (by omega),qPN (by omega)]
     by_cases hneg:(A.toNat:Int) - 48 - c < 0
     ·refine .inr (go ((A.toNat:Int) - 48 - c+10) 1 (by omega) (by omega) (by rw[hsa,hsb];push_cast;rw[hAd];grind) ?_)
      simp (disch:=(first | omega | (simp only[lnn];omega))) only[qFG,hax,hga,stp]
     ·refine .inr (go ((A.toNat:Int) - 48 - c) 0 (by omega) (by omega) (by rw[hsa,hsb];push_cast;rw[hAd];grind) ?_)
      simp (disch:=(first | omega | (simp only[lnn];omega))) only[qFG,hax,hga,stp]
   ·have hiN:i=N:=by omega
    subst hiN
    rw[Nat.sub_self,List.drop_zero] at hds
    rw[qPN (by omega),qPN (by omega),hva,hvb] at hv
    have hls:=qQQ hs
    rw[hsl] at hls
    have hc0:c=0:=by
     rcases (show c=0\/c=1 by omega) with h | h
     ·exact h
     ·exfalso
      rw[h,show ((10:Int) ^ i)=((10 ^ i:Nat):Int) by push_cast;rfl] at hv
      omega
    subst hc0
    refine .inl ⟨(Ex.exit 0,(a,b,qVP s,0,(i:Int),())),?_,by simp,s,rfl,hs,hsl,by omega⟩
    rw[<-hds]
    simp (disch:=(first | omega | (simp only[lnn];omega))) only[qFG,stp]) N (a,b,List.replicate ((a.length:Int)).toNat 0,0,0,()) ⟨0,_,0,[],rfl,by omega,by simp;omega,by omega,by simp[qVP];omega,by simp[qLJ],rfl,by rw[qBd,qBd];simp[dval]⟩
 have hapos:0 < a.length:=List.length_pos_iff.2 hane
 have ht:=qSL h1 (fun e=>by rw[e] at h2;simp at h2;omega) (by omega)
 rw[h3] at ht
 unfold qGV
 rw[hr]
 simp (disch:=(first | omega | (simp only[lnn];omega))) only[qIV,ht,stp]
def iv (l:List Int):Int:=l.foldl (fun v x=>10 * v+x) 0
theorem qIaj (l:List Int) (v:Int):l.foldl (fun v x=>10 * v+x) v=v * 10 ^ l.length+iv l:=by
 induction l generalizing v with
 |nil=>simp[iv]
 |cons c s ih=>
  simp only[List.foldl_cons,iv,qY11,Int.pow_succ]
  rw[ih (10 * v+c),ih (10 * 0+c)]
  grind
theorem qJl (x:Int) (l:List Int):iv (x::l)=x * 10 ^ l.length+iv l:=by
 show (x::l).foldl (fun v x=>10 * v+x) 0=_
 rw[List.foldl_cons,qIaj];simp
theorem qLap {l:List Int} {k:Nat} (h:k < l.length) (x:Int):iv (l.set k x)=iv l+(x - l.getD k 0) * 10 ^ (l.length - 1 - k):=by
 induction l generalizing k with
 |nil=>simp at h
 |cons y l ih=>
  cases k with
  |zero=>
   simp only[List.set_cons_zero,qJl,qZ3,qY11]
   rw[show l.length+1 - 1 - 0=l.length by omega]
   grind
  |succ k=>
   simp only[List.set_cons_succ,qJl,qZ2,qY11,List.length_set]
   rw[ih (by simpa using h),show l.length+1 - 1 - (k+1)=l.length - 1 - k by omega]
   omega
theorem iv_zeros (n:Nat):iv (List.replicate n 0)=0:=by
 induction n with
 |zero=>rfl
 |succ n ih=>rw[List.replicate_succ,qJl,ih];simp
def pfx (a:qBs) (i:Nat):Nat:=dval (a.take i)
theorem qTk {a:qBs} {i:Nat} (h:i < a.length):pfx a (i+1)=10 * pfx a i+dig a[i]:=by
 unfold pfx
 rw[List.take_succ_eq_append_getElem h,qIL]
def Bd (l:List Int) (B:Int):Prop:=∀ x∈l,0<=x/\x<=B
theorem Bd.at {l:List Int} {B:Int} (h:Bd l B) (hB:0<=B) (k:Nat):0<=l.getD k 0/\l.getD k 0<=B:=by
 by_cases hk:k < l.length
 ·rw[qOa hk];exact h _ (List.getElem_mem hk)
 ·rw[qVk (by omega)];omega
theorem Bd.set {l:List Int} {B B':Int} (h:Bd l B) (hB:B<=B') {k:Nat} {x:Int} (hx:0<=x/\x<=B'):Bd (l.set k x) B':=by
 intro y hy
 rcases List.mem_or_eq_of_mem_set hy with hy | rfl
 ·have:=h y hy;omega
 ·exact hx
theorem qCs {a b:qBs} {out0:List Int} {i:Nat} {B:Int} (hda:qLJ a) (hdb:qLJ b) (hi:i < a.length) (hol:out0.length=a.length+b.length) (hbl:b.length<=100000000) (hal:a.length<=100000000)
 (hB:0<=B/\B<=1000000000000000000) (hb0:Bd out0 B) :
 ∃ out,qOA qEM (a,b,out0,(i:Int),0,())=some (Ex.exit 2,(a,b,out,(i:Int),(b.length:Int),()))/\out.length=out0.length/\Bd out (B+81 * b.length)/\
  iv out=iv out0+(dig a[i]:Int) * 10 ^ (a.length - 1 - i) * dval b:=by
 have hA:=hda a[i] (List.getElem_mem hi)
 obtain ⟨A,hAe⟩:∃ A,A=a[i]:=⟨_,rfl⟩
 rw[<-hAe] at hA ⊢
 have hga:a.getD i 0=A:=by rw[qVT hi,hAe]
 have hA1:=hA.1
 have hA2:=hA.2
 have hAd:(dig A:Int)=(A.toNat:Int) - 48:=by unfold dig;omega
 obtain ⟨r,hr,out,rfl,h1,h2,h3⟩:=qTB (step:=qEM) (Q:=fun r=>∃ out,r=(Ex.exit 2,(a,b,out,(i:Int),(b.length:Int),()))/\out.length=out0.length/\Bd out (B+81 * b.length)/\
  iv out=iv out0+(dig A:Int) * 10 ^ (a.length - 1 - i) * dval b)
  (fun k x=>∃ (j:Nat) (out:List Int),k+j=b.length/\x=(a,b,out,(i:Int),(j:Int),())/\out.length=out0.length/\Bd out (B+81 * j)/\
   iv out=iv out0+(dig A:Int) * 10 ^ (a.length - 1 - i) * ((pfx b j:Int) * 10 ^ (b.length - j))) (by
   rintro k x ⟨j,out,hk,rfl,h1,h2,h3⟩
   by_cases hj:j < b.length
   ·have hgb:=qVT hj
    have hBd:=hdb b[j] (List.getElem_mem hj)
    have hp:=qTk hj
    obtain ⟨C,hC⟩:∃ C,C=b[j]:=⟨_,rfl⟩
    rw[<-hC] at hgb hBd hp
    have hC1:=hBd.1
    have hC2:=hBd.2
    have hCd:(dig C:Int)=(C.toNat:Int) - 48:=by unfold dig;omega
    have e1:(i:Int).toNat=i:=by omega
    have e2:(j:Int).toNat=j:=by omega
    have e3:((i:Int)+j+1).toNat=i+j+1:=by omega
    have hz:=h2.at (by omega) (i+j+1)
    obtain ⟨P,hP⟩:∃ P,P=((A.toNat:Int) - 48) * ((C.toNat:Int) - 48):=⟨_,rfl⟩
    have hP0:0<=P:=by rw[hP];exact Int.mul_nonneg (by omega) (by omega)
    have hP1:P<=81:=by
     rw[hP]
     have:((A.toNat:Int) - 48) * ((C.toNat:Int) - 48)<=9 * ((C.toNat:Int) - 48):=Int.mul_le_mul_of_nonneg_right (by omega) (by omega)
     omega
    refine .inr ⟨k - 1,(a,b,out.set (i+j+1) (out.getD (i+j+1) 0+P),(i:Int),((j+1:Nat):Int),()),?_,by omega,j+1,_,by omega,rfl,by simpa using h1,h2.set (by omega) (by omega),?_⟩
    ·rw[hP]
     rw[hP] at hP0 hP1
     simp (disch:=(first | omega | (simp only[lnn];omega))) only[qEM,e1,e2,e3,hga,hgb,stp]
     rfl
    ·rw[qLap (by omega),h3,hp]
     have ex:out.length - 1 - (i+j+1)=(a.length - 1 - i)+(b.length - (j+1)):=by omega
     have ey:b.length - j=(b.length - (j+1))+1:=by omega
     rw[ex,ey,Int.pow_add,Int.pow_succ,hP,<-hAd,<-hCd]
     push_cast
     grind
   ·have hjb:j=b.length:=by omega
    subst hjb
    refine .inl ⟨(Ex.exit 2,(a,b,out,(i:Int),(b.length:Int),())),?_,by simp,out,rfl,h1,h2,?_⟩
    ·simp (disch:=(first | omega | (simp only[lnn];omega))) only[qEM,stp]
    ·rw[h3];unfold pfx;rw[List.take_length,Nat.sub_self];simp) b.length _ ⟨0,out0,by omega,rfl,rfl,by simpa using hb0,by unfold pfx;simp[dval]⟩
 exact ⟨out,hr,h1,h2,h3⟩
set_option maxHeartbeats 1000000 in
theorem qTR (m n:Nat) (hm:(dd m).length<=10000000) (hn:(dd n).length<=10000000):qKM (dd m) (dd n)=some ((dd (m * n),()),()):=by
 obtain ⟨a,ha⟩:∃ a,a=dd m:=⟨_,rfl⟩
 obtain ⟨b,hb⟩:∃ b,b=dd n:=⟨_,rfl⟩
 have hda:qLJ a:=ha ▸ qMd m
 have hdb:qLJ b:=hb ▸ qMd n
 have hapos:0 < a.length:=by rw[ha];exact qLO m
 rw[<-ha,<-hb]
 rw[<-ha] at hm
 rw[<-hb] at hn
 have hva:dval a=m:=by rw[ha,qDF]
 have hvb:dval b=n:=by rw[hb,qDF]
 obtain ⟨r,hr,out,rfl,h1,h2,h3⟩:=qTB (step:=qVO) (Q:=fun r=>∃ out,r=(Ex.exit 0,(a,b,out,(a.length:Int),()))/\out.length=a.length+b.length/\Bd out (81 * 100000000000000)/\iv out=(dval a:Int) * dval b)
  (fun k x=>∃ (i:Nat) (out:List Int),k+i=a.length/\x=(a,b,out,(i:Int),())/\out.length=a.length+b.length/\Bd out (81 * ((i * b.length:Nat):Int))/\iv out=(pfx a i:Int) * 10 ^ (a.length - i) * dval b) (by
   rintro k x ⟨i,out,hk,rfl,h1,h2,h3⟩
   have hib:i * b.length<=a.length * b.length:=Nat.mul_le_mul_right _ (by omega)
   have hab:a.length * b.length<=10000000 * b.length:=Nat.mul_le_mul_right _ hm
   by_cases hi:i < a.length
   ·obtain ⟨o2,hin,g1,g2,g3⟩:=qCs (B:=81 * ((i * b.length:Nat):Int)) hda hdb hi h1 (by omega) (by omega) (by omega) h2
    have hp:=qTk hi
    refine .inr ⟨k - 1,(a,b,o2,((i+1:Nat):Int),()),?_,by omega,i+1,o2,by omega,rfl,by omega,?_,?_⟩
    ·simp (disch:=(first | omega | (simp only[lnn];omega))) only[qVO,hin,stp]
     rfl
    ·intro y hy
     have:=g2 y hy
     rw[Nat.add_mul]
     omega
    ·rw[g3,h3,hp,show a.length - i=(a.length - 1 - i)+1 by omega,show a.length - (i+1)=a.length - 1 - i by omega,Int.pow_succ]
     push_cast
     grind
   ·have hia:i=a.length:=by omega
    subst hia
    refine .inl ⟨(Ex.exit 0,(a,b,out,(a.length:Int),())),?_,by simp,out,rfl,h1,?_,?_⟩
    ·simp (disch:=(first | omega | (simp only[lnn];omega))) only[qVO,stp]
    ·intro y hy;have:=h2 y hy;omega
    ·rw[h3];unfold pfx;rw[List.take_length,Nat.sub_self];simp) a.length (a,b,List.replicate ((((a.length:Int)+b.length)).toNat) 0,0,()) ⟨0,_,by omega,rfl,by simp;omega,by intro y hy;rw[List.eq_of_mem_replicate hy];simp,by rw[iv_zeros];unfold pfx;simp[dval]⟩
 obtain ⟨N,hN⟩:∃ N,N=out.length:=⟨_,rfl⟩
 obtain ⟨r2,hr2,s,rfl,g1,g2,g3⟩:=qTB (step:=qVM) (Q:=fun r=>∃ s:qBs,r=(Ex.exit 4,(out,qVP s,0,-1,()))/\qLJ s/\s.length=N/\dval s=m * n)
  (fun k x=>∃ (o:List Int) (c:Int) (s:qBs),x=(out,o,c,(k:Int) - 1,())/\k<=N/\o.length=N/\(0<=c/\c<=81 * 100000000000000)/\o.drop k=qVP s/\qLJ s/\s.length=N - k/\(dval s:Int)+c * 10 ^ (N - k)=iv (out.drop k)) (by
   rintro k x ⟨o,c,s,rfl,hk,hol,hc,hds,hs,hsl,hv⟩
   by_cases h0:k=0
   ·subst h0
    rw[List.drop_zero] at hds hv
    rw[Nat.sub_zero] at hv hsl
    rw[h3] at hv
    have hla:=qQQ hda
    have hlb:=qQQ hdb
    have hprod:dval a * dval b < 10 ^ N:=by
     rw[hN,h1,Nat.pow_add]
     exact Nat.mul_lt_mul'' hla hlb
    have hc0:c=0:=by
     rcases Int.lt_or_eq_of_le hc.1 with h | h
     ·exfalso
      have e1:1 * (10:Int) ^ N<=c * 10 ^ N:=Int.mul_le_mul_of_nonneg_right (by omega) (by have:(0:Int) < 10 ^ N:=Int.pow_pos (by decide);omega)
      rw[show ((10:Int) ^ N)=((10 ^ N:Nat):Int) by push_cast;rfl] at e1 hv
      rw[<-Int.natCast_mul] at hv
      omega
     ·exact h.symm
    subst hc0
    refine .inl ⟨(Ex.exit 4,(out,qVP s,0,-1,())),?_,by simp,s,rfl,hs,hsl,?_⟩
    ·rw[<-hds]
     simp (disch:=(first | omega | (simp only[lnn];omega))) only[qVM,stp]
     rfl
    ·rw[Int.zero_mul,Int.add_zero,<-Int.natCast_mul,hva,hvb] at hv;omega
   ·have e:((k:Int) - 1).toNat=k - 1:=by omega
    have hz:=h2.at (by omega) (k - 1)
    obtain ⟨v,hvv⟩:∃ v,v=out.getD (k - 1) 0+c:=⟨_,rfl⟩
    obtain ⟨d,hd1,hd2,hd3⟩:=qEl (k:=v % 10) (by omega)
    refine .inr ⟨k - 1,(out,o.set (k - 1) (48+v % 10),v / 10,(k:Int) - 1 - 1,()),?_,by omega,o.set (k - 1) (48+v % 10),v / 10,d::s,?_,by omega,by simpa using hol,by omega,?_,hs.cons hd2,by simp[hsl];omega,?_⟩
    ·rw[hvv]
     simp (disch:=(first | omega | (simp only[lnn];omega))) only[qVM,e,stp]
    ·rw[show (k:Int) - 1 - 1=((k - 1:Nat):Int) - 1 by omega]
    ·rw[qJj (by omega),show k - 1+1=k by omega,hds,<-hd1];rfl
    ·rw[qAM,hsl,Int.natCast_add,Int.natCast_mul,hd3,qY6 (show k - 1 < out.length by omega),qJl,<-qOa (by omega),show k - 1+1=k by omega,<-hv,List.length_drop,show N - (k - 1)=(N - k)+1 by omega,<-hN,Int.pow_succ]
     have:=Int.emod_add_mul_ediv v 10
     push_cast
     grind) N (out,List.replicate ((out.length:Int)).toNat 0,0,(out.length:Int) - 1,()) ⟨_,0,[],by rw[hN],Nat.le_refl _,by simp;omega,by omega,by rw[List.drop_of_length_le (by simp;omega)];rfl,by simp[qLJ],by simp,by rw[List.drop_of_length_le (by omega)];simp[dval,iv]⟩
 have ht:=qSL g1 (fun e=>by rw[e] at g2;simp at g2;omega) (by omega)
 rw[g3] at ht
 have hlen:out.length=a.length+b.length:=h1
 have hw:qI ((out.length:Int) - 1)=(out.length:Int) - 1:=w64 (by omega)
 have hw2:qI ((a.length:Int)+b.length)=(a.length:Int)+b.length:=w64 (by omega)
 unfold qKM
 simp only[hw2]
 rw[hr]
 simp only[qAA,qDC,qPA,hw]
 rw[hr2]
 simp (disch:=(first | omega | (simp only[lnn];omega))) only[qIV,ht,stp]
end Go.AM.Num
end
section
set_option linter.unusedSimpArgs false
set_option linter.unusedVariables false
namespace Go.AM.Num
theorem qVp (a:qBs) (q:List Int) (i:Int) (R B:Nat) (hB:B≠0) (hR:(dd R).length<=100000000) (hlt:R < 10 * B) :
 qOA qHM (a,dd B,q,dd R,i,48,())=some (Ex.exit 2,(a,dd B,q,dd (R % B),i,48+((R / B:Nat):Int),())):=by
 obtain ⟨r,hr,rfl⟩:=qTB (step:=qHM) (Q:=fun r=>r=(Ex.exit 2,(a,dd B,q,dd (R % B),i,48+((R / B:Nat):Int),())))
  (fun k x=>∃ S d:Nat,x=(a,dd B,q,dd S,i,48+(d:Int),())/\k=S/\S+d * B=R) (by
   rintro k x ⟨S,d,rfl,rfl,h⟩
   obtain ⟨c,hc,hc1,hc2⟩:=qRu k B
   by_cases hlt':k < B
   ·have hneg:=hc1.2 hlt'
    have hq:R / B=d:=by rw[<-h,Nat.add_mul_div_right _ _ (by omega),Nat.div_eq_of_lt hlt'];omega
    have hm:R % B=k:=by rw[<-h,Nat.add_mul_mod_self_right,Nat.mod_eq_of_lt hlt']
    refine .inl ⟨(Ex.exit 2,(a,dd B,q,dd k,i,48+(d:Int),())),?_,by simp,by rw[hq,hm]⟩
    simp (disch:=(first | omega | (simp only[lnn];omega))) only[qHM,hc,stp]
   ·have hge:c>=0:=by
     rcases Int.lt_or_le c 0 with h' | h'
     ·exact absurd (hc1.1 h') hlt'
     ·exact h'
    have hkl:(dd k).length<=100000000:=Nat.le_trans (qDB (by rw[<-h];omega)) hR
    have hs:=qGl k B hkl (by omega)
    have hd9:d < 9:=by
     have:(d+1) * B<=R:=by rw[Nat.add_mul];omega
     have h2:(d+1) * B < 10 * B:=by omega
     have:=Nat.lt_of_mul_lt_mul_right h2
     omega
    refine .inr ⟨k - B,(a,dd B,q,dd (k - B),i,48+((d+1:Nat):Int),()),?_,by omega,k - B,d+1,rfl,rfl,by rw[Nat.add_mul];omega⟩
    simp (disch:=(first | omega | (simp only[lnn];omega))) only[qHM,hc,hs,stp]
    congr 7) R (a,dd B,q,dd R,i,48,()) ⟨R,0,by simp,rfl,by omega⟩
 exact hr
theorem qRaf {α:Type} {l:List α} {i:Nat} (h:i < l.length) (c:α):(l.set i c).take (i+1)=l.take i++[c]:=by
 rw[List.take_succ_eq_append_getElem (by simpa using h),List.getElem_set_self,List.take_set_of_le (by omega)]
theorem qUv (s:qBs) (d:UInt8):qVP (s++[d])=qVP s++[(d.toNat:Int)]:=by simp[qVP]
set_option maxHeartbeats 1000000 in
theorem qEZ (m n:Nat) (hm:(dd m).length<=10000000) (hn:(dd n).length<=10000000) (h0:n≠0):qUU (dd m) (dd n)=some ((dd (m / n),dd (m % n),()),()):=by
 obtain ⟨a,ha⟩:∃ a,a=dd m:=⟨_,rfl⟩
 have hda:qLJ a:=ha ▸ qMd m
 have hva:dval a=m:=by rw[ha,qDF]
 have hapos:0 < a.length:=by rw[ha];exact qLO m
 rw[<-ha]
 rw[<-ha] at hm
 obtain ⟨r,hr,s,rfl,h1,h2,h3⟩:=qTB (step:=qQP) (Q:=fun r=>∃ s:qBs,r=(Ex.exit 0,(a,dd n,qVP s,dd (m % n),(a.length:Int),()))/\qLJ s/\s.length=a.length/\dval s=m / n)
  (fun k x=>∃ (i:Nat) (q:List Int) (R:Nat) (s:qBs),x=(a,dd n,q,dd R,(i:Int),())/\k+i=a.length/\q.length=a.length/\q.take i=qVP s/\qLJ s/\s.length=i/\R < n/\pfx a i=dval s * n+R) (by
   rintro k x ⟨i,q,R,s,rfl,hk,hql,hqt,hs,hsl,hR,hv⟩
   by_cases hi:i < a.length
   ·have hp:=qTk hi
    have hA:=hda a[i] (List.getElem_mem hi)
    have hcut:(a.take (i+1)).drop i=[a[i]]:=by
     rw[List.take_succ_eq_append_getElem hi]
     have hl:(a.take i).length=i:=by rw[List.length_take];omega
     conv=>lhs;arg 1;rw[<-hl]
     exact List.drop_left
    obtain ⟨A,hAe⟩:∃ A,A=a[i]:=⟨_,rfl⟩
    rw[<-hAe] at hp hA hcut
    have hAl:=qSac hA
    have hRl:(dd R).length<=(dd n).length:=qDB (by omega)
    have htr:=qSL (s:=dd R++[A]) ((qMd R).app (fun c hc=>by rw[List.mem_singleton.1 hc];exact hA)) (by simp) (by simp;omega)
    rw[qIL,qDF] at htr
    obtain ⟨S,hS⟩:∃ S,S=10 * R+dig A:=⟨_,rfl⟩
    rw[<-hS] at htr
    have hSl:(dd S).length<=100000000:=by
     have:S < 10 ^ ((dd n).length+1):=by
      have h1:=qAN n
      rw[Nat.pow_succ];omega
     have:=qQH this (by omega)
     omega
    have hin:=qVp a q (i:Int) S n h0 hSl (by omega)
    have hd9:S / n<=9:=by
     have:S / n < 10:=Nat.div_lt_of_lt_mul (by omega)
     omega
    obtain ⟨d,hd1,hd2,hd3⟩:=qEl (k:=((S / n:Nat):Int)) ⟨Int.natCast_nonneg _,by exact_mod_cast Nat.lt_succ_of_le hd9⟩
    have e1:((i:Int)+1).toNat=i+1:=by omega
    have e2:((i:Int)).toNat=i:=by omega
    have g:(dd R).length+([A]:qBs).length<=qWN:=by rw[qDL];simp;omega
    refine .inr ⟨k - 1,(a,dd n,q.set i (48+((S / n:Nat):Int)),dd (S % n),((i+1:Nat):Int),()),?_,by omega,i+1,_,S % n,s++[d],rfl,by omega,by simpa using hql,?_,?_,by simp[hsl],Nat.mod_lt _ (by omega),?_⟩
    ·simp (disch:=(first | omega | (simp only[lnn];omega))) only[qQP,e1,e2,hcut,qBA g,htr,hin,stp]
     rfl
    ·rw[qRaf (by omega),hqt,qUv,hd1]
    ·exact hs.app (fun c hc=>by rw[List.mem_singleton.1 hc];exact hd2)
    ·rw[qIL,hp,hv]
     have h5:dig d=S / n:=by exact_mod_cast hd3
     have h6:=Nat.div_add_mod S n
     rw[h5]
     grind
   ·have hia:i=a.length:=by omega
    subst hia
    rw[List.take_of_length_le (by omega)] at hqt
    have hv':m=dval s * n+R:=by rw[<-hva,<-hv];unfold pfx;rw[List.take_length]
    have hq':m / n=dval s:=by rw[hv',Nat.mul_comm,Nat.mul_add_div (by omega),Nat.div_eq_of_lt hR];omega
    have hm':m % n=R:=by rw[hv',Nat.mul_comm,Nat.mul_add_mod,Nat.mod_eq_of_lt hR]
    refine .inl ⟨(Ex.exit 0,(a,dd n,qVP s,dd (m % n),(a.length:Int),())),?_,by simp,s,rfl,hs,hsl,hq'.symm⟩
    rw[<-hqt,hm']
    simp (disch:=(first | omega | (simp only[lnn];omega))) only[qQP,stp]) a.length (a,dd n,List.replicate ((a.length:Int)).toNat 0,[48],0,()) ⟨0,_,0,[],by rw[qED];rfl,by omega,by simp,by simp[qVP],by simp[qLJ],rfl,by omega,by unfold pfx;simp[dval]⟩
 have ht:=qSL h1 (fun e=>by rw[e] at h2;simp at h2;omega) (by omega)
 rw[h3] at ht
 unfold qUU
 rw[hr]
 simp (disch:=(first | omega | (simp only[lnn];omega))) only[qIV,ht,stp]
theorem qJu (m n:Nat) (hm:(dd m).length<=10000000) (hn:(dd n).length<=10000000):qPd (dd m) (dd n)=some ((dd (Nat.gcd m n),()),()):=by
 obtain ⟨r,hr,b,rfl⟩:=qTB (step:=qRP) (Q:=fun r=>∃ b,r=(Ex.exit 0,(dd (Nat.gcd m n),b,())))
  (fun k x=>∃ a b:Nat,x=(dd a,dd b,())/\k=b/\Nat.gcd a b=Nat.gcd m n/\(dd a).length<=10000000/\(dd b).length<=10000000) (by
   rintro k x ⟨a,b,rfl,rfl,hg,ha,hb⟩
   by_cases h0:k=0
   ·subst h0
    refine .inl ⟨(Ex.exit 0,(dd a,dd 0,())),?_,by simp,dd 0,by rw[<-hg,Nat.gcd_zero_right]⟩
    simp (disch:=(first | omega | (simp only[lnn];omega))) only[qRP,qDD qED,stp]
   ·have hne:dd k≠[48]:=fun e=>h0 (by rw[<-qED] at e;exact qVQ e)
    refine .inr ⟨a % k,_,?_,Nat.mod_lt _ (by omega),k,a % k,rfl,rfl,?_,hb,?_⟩
    ·simp (disch:=(first | omega | (simp only[lnn];omega))) only[qRP,qWC hne,qEZ a k ha hb h0,stp]
    ·rw[Nat.gcd_comm,<-Nat.gcd_rec,Nat.gcd_comm,hg]
    ·exact Nat.le_trans (qDB (Nat.le_of_lt (Nat.mod_lt _ (by omega)))) hb) n _ ⟨m,n,rfl,rfl,rfl,hm,hn⟩
 unfold qPd
 rw[hr]
 simp (disch:=(first | omega | (simp only[lnn];omega))) only[stp]
end Go.AM.Num
end
section
set_option linter.unusedSimpArgs false
set_option linter.unusedVariables false
namespace Go.AM.Num
theorem qOI (m:Nat):(dd m==[48])=decide (m=0):=by
 by_cases h:m=0
 ·subst h;rw[qZ10 rfl];exact qDD qED
 ·rw[qZ9 h];exact qWC (fun e=>h (by rw[<-qED] at e;exact qVQ e))
theorem qAi (m:Nat):(dd m==[49])=decide (m=1):=by
 by_cases h:m=1
 ·subst h;rw[qZ10 rfl];exact qDD qTS
 ·rw[qZ9 h];exact qWC (fun e=>h (by rw[<-qTS] at e;exact qVQ e))
def rr (neg:Bool) (m d:Nat):Bool×qBs×qBs:=(neg&&decide (m≠0),dd m,dd d)
theorem qOn (neg:Bool) (m d:Nat) (hm:(dd m).length<=100000000) (hd:(dd d).length<=100000000):qXB ((rr neg m d).1,(rr neg m d).2.1,(rr neg m d).2.2)=some ((tx neg m d,()),()):=by
 have h1:([45]:qBs).length+(dd m).length<=qWN:=by rw[qDL];simp;omega
 have h2:([47]:qBs).length+(dd d).length<=qWN:=by rw[qDL];simp;omega
 have h3:(([45]:qBs)++dd m).length+(([47]:qBs)++dd d).length<=qWN:=by rw[qDL];simp;omega
 have h4:(dd m).length+(([47]:qBs)++dd d).length<=qWN:=by rw[qDL];simp;omega
 have h5:=qAi d
 unfold qXB tx rr
 dsimp only
 by_cases hn:neg=true/\m≠0
 ·have e:(neg&&decide (m≠0))=true:=by rw[hn.1,qZ10 hn.2];rfl
  rw[e,if_pos hn]
  by_cases h:d=1
  ·rw[qZ10 h] at h5
   simp (disch:=(first | omega | (simp only[lnn];omega))) only[h5,qBA h1,stp]
   rw[if_pos h];simp
  ·rw[qZ9 h] at h5
   simp (disch:=(first | omega | (simp only[lnn];omega))) only[h5,qBA h1,qBA h2,qBA h3,stp]
   rw[if_neg h];rfl
 ·have e:(neg&&decide (m≠0))=false:=by
   cases neg with
   |false=>rfl
   |true=>
    have:m=0:=by simpa using hn
    subst this;rfl
  rw[e,if_neg hn]
  by_cases h:d=1
  ·rw[qZ10 h] at h5
   simp (disch:=(first | omega | (simp only[lnn];omega))) only[h5,stp]
   rw[if_pos h];simp
  ·rw[qZ9 h] at h5
   simp (disch:=(first | omega | (simp only[lnn];omega))) only[h5,qBA h2,qBA h4,stp]
   rw[if_neg h];rfl
theorem qJp (neg:Bool) (m d:Nat) (hd:d≠0) (hm:(dd m).length<=10000000) (hdl:(dd d).length<=10000000) :
 qXH neg (dd m) (dd d)=some ((rr neg (m / Nat.gcd m d) (d / Nat.gcd m d),()),()):=by
 have hg0:Nat.gcd m d≠0:=fun e=>hd (Nat.gcd_eq_zero_iff.1 e).2
 have hgl:(dd (Nat.gcd m d)).length<=10000000:=Nat.le_trans (qDB (Nat.le_of_dvd (by omega) (Nat.gcd_dvd_right m d))) hdl
 have hz:=qOI (m / Nat.gcd m d)
 unfold qXH rr
 cases neg with
 |false=>
  simp (disch:=(first | omega | (simp only[lnn];omega))) only[qJu m d hm hdl,qEZ m _ hm hgl hg0,qEZ d _ hdl hgl hg0,stp]
  rfl
 |true=>
  simp (disch:=(first | omega | (simp only[lnn];omega))) only[qJu m d hm hdl,qEZ m _ hm hgl hg0,qEZ d _ hdl hgl hg0,hz,stp]
  simp only[Bool.true_and,ne_eq,decide_not]
theorem qJam (neg:Bool) (m d:Nat) (hd:d≠0) (hm:(dd m).length<=10000000) (hdl:(dd d).length<=10000000) :
 ∃ r,qXH neg (dd m) (dd d)=some ((r,()),())/\qXB (r.1,r.2.1,r.2.2)=some ((txt (mkRat (sg neg m) d),()),()):=by
 refine ⟨_,qJp neg m d hd hm hdl,?_⟩
 rw[qOn neg _ _ (Nat.le_trans (qDB (Nat.div_le_self _ _)) (by omega)) (Nat.le_trans (qDB (Nat.div_le_self _ _)) (by omega)),qXY neg m d hd]
def bad:Bool×qBs×qBs:=(false,[],[])
noncomputable def qWw (a:qBs) (neg:Bool) (num den:qBs):Option (((Bool×qBs×qBs)×Bool×Unit)×Unit):=
 (qXL num).bind fun r2=>
 cond (!r2.1.1)
 (some (((false,([]:qBs),([]:qBs)),false,()),()))
 ((qXL den).bind fun r3=>
 cond (!r3.1.1)
 (some (((false,([]:qBs),([]:qBs)),false,()),()))
 (cond (den==([48]:qBs))
 (some (((false,([]:qBs),([]:qBs)),false,()),()))
 ((qTN num).bind fun r4=>
 cond (!(r4.1.1==num))
 (some (((false,([]:qBs),([]:qBs)),false,()),()))
 ((qTN den).bind fun r5=>
 cond (!(r5.1.1==den))
 (some (((false,([]:qBs),([]:qBs)),false,()),()))
 ((qXH neg num den).bind fun r6=>
 (qXB (r6.1.1.1,r6.1.1.2.1,r6.1.1.2.2)).bind fun r7=>
 cond (!(r7.1.1==a))
 (some (((false,([]:qBs),([]:qBs)),false,()),()))
 (some (((neg,num,den),true,()),())))))))
theorem qOac (m:Nat):figs (dd m):=⟨qTe m,qMd m⟩
theorem qTv {a:qBs} {neg:Bool} {m d:Nat} (hd:d≠0) (hm:(dd m).length<=10000000) (hdl:(dd d).length<=10000000) (ha:a=txt (mkRat (sg neg m) d)) :
 qWw a neg (dd m) (dd d)=some (((neg,dd m,dd d),true,()),()):=by
 obtain ⟨r,h1,h2⟩:=qJam neg m d hd hm hdl
 have t1:=qSL (qMd m) (qTe m) (by omega)
 have t2:=qSL (qMd d) (qTe d) (by omega)
 rw[qDF] at t1 t2
 have z:=qOI d
 rw[qZ9 hd] at z
 unfold qWw
 simp (disch:=(first | omega | (simp only[lnn];omega))) only[qOR (s:=dd m) (by omega),qOR (s:=dd d) (by omega),qZ10 (qOac m),qZ10 (qOac d),z,t1,t2,qDD (rfl:dd m=dd m),qDD (rfl:dd d=dd d),h1,h2,qDD ha.symm,stp]
theorem qQx {a num den:qBs} {neg:Bool} (hn:num.length<=1000000) (hdl:den.length<=1000000) :
 (∃ m d,num=dd m/\den=dd d/\d≠0/\a=txt (mkRat (sg neg m) d)/\qWw a neg num den=some (((neg,num,den),true,()),()))\/
 (qWw a neg num den=some ((bad,false,()),())/\¬ ∃ m d,num=dd m/\den=dd d/\d≠0/\a=txt (mkRat (sg neg m) d)):=by
 by_cases hex:∃ m d,num=dd m/\den=dd d/\d≠0/\a=txt (mkRat (sg neg m) d)
 ·obtain ⟨m,d,rfl,rfl,hd,ha⟩:=hex
  exact .inl ⟨m,d,rfl,rfl,hd,ha,qTv hd (by omega) (by omega) ha⟩
 ·refine .inr ⟨?_,hex⟩
  have d1:=qOR (s:=num) (by omega)
  have d2:=qOR (s:=den) (by omega)
  unfold qWw bad
  by_cases f1:figs num
  ·by_cases f2:figs den
   ·have t1:=qSL f1.2 f1.1 (by omega)
    have t2:=qSL f2.2 f2.1 (by omega)
    by_cases z:den=[48]
    ·simp (disch:=(first | omega | (simp only[lnn];omega))) only[d1,d2,qZ10 f1,qZ10 f2,qDD z,stp]
    ·by_cases e1:dd (dval num)=num
     ·by_cases e2:dd (dval den)=den
      ·have hd:dval den≠0:=fun e=>z (by rw[<-e2,e,qED])
       obtain ⟨r,g1,g2⟩:=qJam neg (dval num) (dval den) hd (by rw[e1];omega) (by rw[e2];omega)
       rw[e1,e2] at g1
       have hna:txt (mkRat (sg neg (dval num)) (dval den))≠a:=fun e=>hex ⟨_,_,e1.symm,e2.symm,hd,e.symm⟩
       simp (disch:=(first | omega | (simp only[lnn];omega))) only[d1,d2,qZ10 f1,qZ10 f2,qWC z,t1,t2,qDD e1,qDD e2,g1,g2,qWC hna,stp]
      ·simp (disch:=(first | omega | (simp only[lnn];omega))) only[d1,d2,qZ10 f1,qZ10 f2,qWC z,t1,t2,qDD e1,qWC e2,stp]
     ·simp (disch:=(first | omega | (simp only[lnn];omega))) only[d1,d2,qZ10 f1,qZ10 f2,qWC z,t1,qWC e1,stp]
   ·simp (disch:=(first | omega | (simp only[lnn];omega))) only[d1,d2,qZ10 f1,qZ9 f2,stp]
  ·simp (disch:=(first | omega | (simp only[lnn];omega))) only[d1,qZ9 f1,stp]
theorem qWan (a s:qBs) (t2:Bool×qBs×qBs) (neg:Bool) (hl:s.length<=1000000000) :
 ∃ num den i,qOA qXI (a,t2,(neg,[],[49]),s,0,())=some (Ex.exit 0,(a,t2,(neg,[],den),num,i,()))/\
  ((s=num/\den=[49]/\(47:UInt8)∉s)\/(s=num++47::den/\(47:UInt8)∉num)):=by
 obtain ⟨r,hr,num,den,i,rfl,hq⟩:=qTB (step:=qXI) (Q:=fun r=>∃ num den i,r=(Ex.exit 0,(a,t2,(neg,[],den),num,i,()))/\((s=num/\den=[49]/\(47:UInt8)∉s)\/(s=num++47::den/\(47:UInt8)∉num)))
  (fun m x=>∃ k:Nat,m+k=s.length/\x=(a,t2,(neg,[],[49]),s,(k:Int),())/\(47:UInt8)∉s.take k) (by
   rintro m x ⟨k,hm,rfl,hk⟩
   by_cases h:k < s.length
   ·have hg:=qVT h
    have e:(k:Int).toNat=k:=by omega
    have e1:((k:Int)+1).toNat=k+1:=by omega
    by_cases h47:s[k]=47
    ·have hc:((s[k].toNat:Nat):Int)=47:=by rw[h47];rfl
     refine .inl ⟨(Ex.exit 0,(a,t2,(neg,[],s.drop (k+1)),s.take k,(k:Int),())),?_,by simp,s.take k,s.drop (k+1),(k:Int),rfl,.inr ⟨?_,hk⟩⟩
     ·simp (disch:=(first | omega | (simp only[lnn];omega))) only[qXI,e,e1,hg,hc,stp]
     ·conv=>lhs;rw[<-List.take_append_drop k s,qY6 h,h47]
    ·have hc:((s[k].toNat:Nat):Int)≠47:=fun e=>h47 (UInt8.toNat_inj.1 (by show s[k].toNat=47;omega))
     refine .inr ⟨m - 1,(a,t2,(neg,[],[49]),s,((k+1:Nat):Int),()),?_,by omega,k+1,by omega,rfl,?_⟩
     ·simp (disch:=(first | omega | (simp only[lnn];omega))) only[qXI,e,hg,qDA hc,stp]
      rfl
     ·rw[List.take_succ_eq_append_getElem h]
      intro hm'
      rcases List.mem_append.1 hm' with hm' | hm'
      ·exact hk hm'
      ·exact h47 (List.mem_singleton.1 hm').symm
   ·have hks:k=s.length:=by omega
    subst hks
    refine .inl ⟨(Ex.exit 0,(a,t2,(neg,[],[49]),s,(s.length:Int),())),?_,by simp,s,[49],_,rfl,.inl ⟨rfl,rfl,by simpa using hk⟩⟩
    simp (disch:=(first | omega | (simp only[lnn];omega))) only[qXI,stp]) s.length _ ⟨0,by omega,rfl,by simp⟩
 exact ⟨num,den,i,hr,hq⟩
theorem qAr (a:qBs) (hl:a.length<=1000000000):∃ neg s num den,a=sgn neg++s/\(neg=false->∀ r,s≠45::r)/\((s=num/\den=[49]/\(47:UInt8)∉s)\/(s=num++47::den/\(47:UInt8)∉num))/\qHH a=qWw a neg num den:=by
 have h00:((0:Int)).toNat=0:=rfl
 have h11:((1:Int)).toNat=1:=rfl
 by_cases h0:a=[]
 ·subst h0
  obtain ⟨num,den,i,hs,hq⟩:=qWan [] [] (false,[],[]) false (by simp)
  refine ⟨false,[],num,den,rfl,fun _ r=>by simp,hq,?_⟩
  unfold qHH
  simp (disch:=(first | omega | (simp only[lnn];omega))) only[hs,stp]
  rfl
 ·cases a with
  |nil=>exact absurd rfl h0
  |cons c s=>
   have hne:=qWC h0
   have hg:(c::s:qBs).getD 0 0=c:=rfl
   have hlen:(c::s).length=s.length+1:=rfl
   by_cases hc:c=45
   ·subst hc
    obtain ⟨num,den,i,hs,hq⟩:=qWan (45::s) s (false,[],[]) true (by omega)
    have h45:(((45:UInt8).toNat:Nat):Int)=45:=rfl
    refine ⟨true,s,num,den,rfl,(fun h=>by cases h),hq,?_⟩
    have hdrop:(45::s:qBs).drop 1=s:=rfl
    unfold qHH
    simp (disch:=(first | omega | (simp only[lnn];omega))) only[hne,h00,hg,h45,h11,hdrop,hs,stp]
    rfl
   ·have hcn:((c.toNat:Nat):Int)≠45:=fun e=>hc (UInt8.toNat_inj.1 (by show c.toNat=45;omega))
    obtain ⟨num,den,i,hs,hq⟩:=qWan (c::s) (c::s) (false,[],[]) false (by omega)
    refine ⟨false,c::s,num,den,rfl,fun _ r h=>hc (by simpa using (List.cons.inj h).1),hq,?_⟩
    unfold qHH
    simp (disch:=(first | omega | (simp only[lnn];omega))) only[hne,h00,hg,qDA hcn,hs,stp]
    rfl
theorem qRl (a:qBs) (hl:a.length<=1000000) :
 (∃ q,a=txt q/\qHH a=some (((decide (q.num < 0),dd q.num.natAbs,dd q.den),true,()),()))\/(qHH a=some ((bad,false,()),())/\rd a=none):=by
 obtain ⟨neg,s,num,den,ha,hs,hq,hp⟩:=qAr a (by omega)
 have hsl:s.length<=1000000:=by rw[ha,qZ6] at hl;omega
 have hnl:num.length<=1000000/\den.length<=1000000:=by
  rcases hq with ⟨rfl,rfl,_⟩ | ⟨rfl,_⟩
  ·exact ⟨hsl,by simp⟩
  ·rw[qZ6,qY11] at hsl;exact ⟨by omega,by omega⟩
 have shp:∀ q,a=txt q->neg=decide (q.num < 0)/\num=dd q.num.natAbs/\den=dd q.den:=by
  intro q h
  obtain ⟨e1,e2⟩:=shape hs (ha ▸ h)
  refine ⟨e1,?_⟩
  rcases hq with ⟨rfl,rfl,hx⟩ | ⟨rfl,hx⟩
  ·by_cases hd:q.den=1
   ·rw[if_pos hd,qY4] at e2
    exact ⟨e2,by rw[hd,qTS]⟩
   ·rw[if_neg hd] at e2
    exact absurd (by rw[e2];simp) hx
  ·by_cases hd:q.den=1
   ·rw[if_pos hd,qY4] at e2
    exact absurd (show (47:UInt8)∈dd q.num.natAbs by rw[<-e2];simp) qBc
   ·rw[if_neg hd] at e2
    exact qSe hx qBc e2
 rw[hp]
 rcases qQx (a:=a) (neg:=neg) hnl.1 hnl.2 with ⟨m,d,rfl,rfl,hd,hat,hg⟩ | ⟨hg,hno⟩
 ·obtain ⟨e1,e2,e3⟩:=shp _ hat
  refine .inl ⟨_,hat,?_⟩
  rw[hg,<-e1,<-e2,<-e3]
 ·refine .inr ⟨hg,qBf fun q h=>hno ?_⟩
  obtain ⟨e1,e2,e3⟩:=shp q h
  refine ⟨q.num.natAbs,q.den,e2,e3,q.den_nz,?_⟩
  rw[e1,qUW,Rat.mkRat_self];exact h
end Go.AM.Num
end
section
set_option linter.unusedSimpArgs false
set_option linter.unusedVariables false
namespace Go.AM.Num
theorem rp (a:qBs) (hl:a.length<=1000000) :
 (∃ q,a=txt q/\rd a=some q/\D q<=1000001/\qHH a=some (((decide (q.num < 0),dd q.num.natAbs,dd q.den),true,()),()))\/(rd a=none/\qHH a=some ((bad,false,()),())):=by
 rcases qRl a hl with ⟨q,rfl,h⟩ | ⟨h1,h2⟩
 ·exact .inl ⟨q,rfl,qOK q,qKd hl,h⟩
 ·exact .inr ⟨h2,h1⟩
theorem qTU {a:qBs} (ha:a.length<=1000000):qSN a=some (((rd a).isSome,()),()):=by
 unfold qSN
 rcases rp a ha with ⟨q,e,hr,_,hp⟩ | ⟨hr,hp⟩
 ·rw[hr];simp (disch:=(first | omega | (simp only[lnn];omega))) only[hp,stp];rfl
 ·rw[hr];simp (disch:=(first | omega | (simp only[lnn];omega))) only[hp,stp];rfl
theorem qOO {a:qBs} (ha:a.length<=1000000):qHG a=some ((isI a,()),()):=by
 unfold qHG isI
 rcases rp a ha with ⟨q,e,hr,_,hp⟩ | ⟨hr,hp⟩
 ·rw[hr]
  simp (disch:=(first | omega | (simp only[lnn];omega))) only[hp,qAi,stp]
  rfl
 ·rw[hr];simp (disch:=(first | omega | (simp only[lnn];omega))) only[hp,stp]
theorem qSl {a:qBs} (ha:a.length<=1000000):qIi a=some ((qSW a,()),()):=by
 unfold qIi qSW
 rcases rp a ha with ⟨q,e,hr,_,hp⟩ | ⟨hr,hp⟩
 ·rw[hr]
  rcases Int.lt_trichotomy q.num 0 with h | h | h
  ·simp (disch:=(first | omega | (simp only[lnn];omega))) only[hp,qOI,qZ9 (show ¬ q.num.natAbs=0 by omega),qZ10 h,stp]
   rw[Int.sign_eq_neg_one_of_neg h]
  ·simp (disch:=(first | omega | (simp only[lnn];omega))) only[hp,qOI,qZ10 (show q.num.natAbs=0 by omega),stp]
   rw[h];rfl
  ·simp (disch:=(first | omega | (simp only[lnn];omega))) only[hp,qOI,qZ9 (show ¬ q.num.natAbs=0 by omega),qZ9 (show ¬ q.num < 0 by omega),stp]
   rw[Int.sign_eq_one_of_pos h]
 ·rw[hr];simp (disch:=(first | omega | (simp only[lnn];omega))) only[hp,stp]
theorem qNu (neg:Bool) (q:Rat) (h:D q<=1000001):qXB (neg&&decide (q.num.natAbs≠0),dd q.num.natAbs,dd q.den)=some ((tx neg q.num.natAbs q.den,()),()):=
 qOn neg _ _ (by have:=qAP q;omega) (by have:=qJP q;omega)
theorem qYak (q:Rat):tx (!decide (q.num < 0)) q.num.natAbs q.den=txt (-q):=by
 unfold tx txt
 rw[Rat.neg_num,Rat.neg_den,Int.natAbs_neg]
 have:((!decide (q.num < 0))=true/\q.num.natAbs≠0) ↔ -q.num < 0:=by
  constructor
  ·rintro ⟨h1,h2⟩
   have:¬ q.num < 0:=by simpa using h1
   omega
  ·intro h;exact ⟨by rw[qZ9 (by omega)];rfl,by omega⟩
 simp only[this]
theorem qOaf {a:qBs} (ha:a.length<=1000000):qGai a=some ((un (fun q=>txt (-q)) a,()),()):=by
 unfold qGai
 rcases rp a ha with ⟨q,e,hr,hD,hp⟩ | ⟨hr,hp⟩
 ·rw[e] at hp ⊢
  rw[qBak]
  by_cases h:q.num < 0
  ·have ht:=qNu false q hD
   have e1:=qYak q
   rw[qZ10 h] at e1
   simp only[qY2] at e1
   rw[e1] at ht
   simp (disch:=(first | omega | (simp only[lnn];omega))) only[hp,qZ10 h,stp]
   simp only[Bool.false_and] at ht
   rw[ht];rfl
  ·have ht:=qNu true q hD
   have e1:=qYak q
   rw[qZ9 h] at e1
   simp only[qY1] at e1
   rw[e1] at ht
   have e2:(!(dd q.num.natAbs==[48]))=(true&&decide (q.num.natAbs≠0)):=by rw[qOI];simp
   rw[<-e2] at ht
   simp (disch:=(first | omega | (simp only[lnn];omega))) only[hp,qZ9 h,stp]
   rw[ht];rfl
 ·rw[qBab hr];simp (disch:=(first | omega | (simp only[lnn];omega))) only[hp,stp]
theorem qXae (neg:Bool) (m d:Nat) (hd:d≠0) (hm:(dd m).length<=10000000) (hdl:(dd d).length<=10000000) {ρ:Type} (K:qBs->Option ρ) :
 (qXH neg (dd m) (dd d)).bind (fun r5=>(qXB (r5.1.1.1,r5.1.1.2.1,r5.1.1.2.2)).bind fun r6=>K r6.1.1)=K (txt (mkRat (sg neg m) d)):=by
 obtain ⟨r,h1,h2⟩:=qJam neg m d hd hm hdl
 rw[h1,qAA]
 show (qXB (r.1,r.2.1,r.2.2)).bind _=_
 rw[h2];rfl
theorem qVy {a b:qBs} (ha:a.length<=900000) (hb:b.length<=900000):qRah a b=some ((bin (fun p q=>txt (p+q)) a b,()),()):=by
 unfold qRah
 rcases rp a (by omega) with ⟨p,rfl,hr1,hD1,hp1⟩ | ⟨hr1,hp1⟩
 ·rcases rp b (by omega) with ⟨q,rfl,hr2,hD2,hp2⟩ | ⟨hr2,hp2⟩
  ·rw[qPQ,qEu]
   have a1:=qAP p
   have a2:=qJP p
   have a3:=qAP q
   have a4:=qJP q
   have b1:=qFC p.num.natAbs q.den
   have b2:=qFC q.num.natAbs p.den
   have b3:=qFC p.den q.den
   have b4:=qLR (p.num.natAbs * q.den) (q.num.natAbs * p.den)
   have b5:=qDB (Nat.sub_le (p.num.natAbs * q.den) (q.num.natAbs * p.den))
   have b6:=qDB (Nat.sub_le (q.num.natAbs * p.den) (p.num.natAbs * q.den))
   have m1:=qTR p.num.natAbs q.den (by omega) (by omega)
   have m2:=qTR q.num.natAbs p.den (by omega) (by omega)
   have m3:=qTR p.den q.den (by omega) (by omega)
   have hd0:p.den * q.den≠0:=Nat.mul_ne_zero p.den_nz q.den_nz
   obtain ⟨x,hx⟩:∃ x,x=p.num.natAbs * q.den:=⟨_,rfl⟩
   obtain ⟨y,hy⟩:∃ y,y=q.num.natAbs * p.den:=⟨_,rfl⟩
   rw[<-hx] at b1 b4 b5 b6 m1 ⊢
   rw[<-hy] at b2 b4 b5 b6 m2 ⊢
   obtain ⟨n1,hn1⟩:∃ n,n=decide (p.num < 0):=⟨_,rfl⟩
   obtain ⟨n2,hn2⟩:∃ n,n=decide (q.num < 0):=⟨_,rfl⟩
   rw[<-hn1] at hp1 ⊢
   rw[<-hn2] at hp2 ⊢
   by_cases hs:n1=n2
   ·subst hs
    have e:sg n1 x+sg n1 y=sg n1 (x+y):=by cases n1<;>simp[sg];omega
    rw[e]
    simp (disch:=(first | omega | (simp only[lnn];omega))) only[hp1,hp2,m1,m2,m3,beq_self_eq_true,qGah x y (by omega) (by omega),stp]
    exact qXae n1 (x+y) (p.den * q.den) hd0 (by omega) (by omega) (fun t=>some ((t,()),()))
   ·have hsb:(n1==n2)=false:=by simpa using hs
    obtain ⟨c,hc,hc1,hc2⟩:=qRu x y
    by_cases hle:y<=x
    ·have hc0:c>=0:=by
      rcases Int.lt_or_le c 0 with h | h
      ·have:=hc1.1 h;omega
      ·exact h
     have e:sg n1 x+sg n2 y=sg n1 (x - y):=by cases n1<;>cases n2<;>simp_all [sg]<;>omega
     rw[e]
     simp (disch:=(first | omega | (simp only[lnn];omega))) only[hp1,hp2,m1,m2,m3,hsb,hc,qGl x y (by omega) hle,stp]
     exact qXae n1 (x - y) (p.den * q.den) hd0 (by omega) (by omega) (fun t=>some ((t,()),()))
    ·have hc0:¬ c>=0:=by have:=hc1.2 (by omega);omega
     have e:sg n1 x+sg n2 y=sg n2 (y - x):=by cases n1<;>cases n2<;>simp_all [sg]<;>omega
     rw[e]
     simp (disch:=(first | omega | (simp only[lnn];omega))) only[hp1,hp2,m1,m2,m3,hsb,hc,qGl y x (by omega) (by omega),stp]
     exact qXae n2 (y - x) (p.den * q.den) hd0 (by omega) (by omega) (fun t=>some ((t,()),()))
  ·rw[qIv hr2];simp (disch:=(first | omega | (simp only[lnn];omega))) only[hp1,hp2,stp]
 ·rcases rp b (by omega) with ⟨q,rfl,hr2,hD2,hp2⟩ | ⟨hr2,hp2⟩<;>(rw[qZag hr1];simp (disch:=(first | omega | (simp only[lnn];omega))) only[hp1,hp2,stp])
theorem qMad {a b:qBs} (ha:a.length<=900000) (hb:b.length<=900000):qDaj a b=some ((bin (fun p q=>txt (p * q)) a b,()),()):=by
 unfold qDaj
 rcases rp a (by omega) with ⟨p,rfl,hr1,hD1,hp1⟩ | ⟨hr1,hp1⟩
 ·rcases rp b (by omega) with ⟨q,rfl,hr2,hD2,hp2⟩ | ⟨hr2,hp2⟩
  ·rw[qPQ,Rat.mul_def']
   have a1:=qAP p
   have a2:=qJP p
   have a3:=qAP q
   have a4:=qJP q
   have b1:=qFC p.num.natAbs q.num.natAbs
   have b3:=qFC p.den q.den
   have m1:=qTR p.num.natAbs q.num.natAbs (by omega) (by omega)
   have m3:=qTR p.den q.den (by omega) (by omega)
   have e:p.num * q.num=sg (decide (p.num < 0) !=decide (q.num < 0)) (p.num.natAbs * q.num.natAbs):=by rw[<-qPl,qUW,qUW]
   rw[e]
   simp (disch:=(first | omega | (simp only[lnn];omega))) only[hp1,hp2,m1,m3,stp]
   exact qXae _ (p.num.natAbs * q.num.natAbs) (p.den * q.den) (Nat.mul_ne_zero p.den_nz q.den_nz) (by omega) (by omega) (fun t=>some ((t,()),()))
  ·rw[qIv hr2];simp (disch:=(first | omega | (simp only[lnn];omega))) only[hp1,hp2,stp]
 ·rcases rp b (by omega) with ⟨q,rfl,hr2,hD2,hp2⟩ | ⟨hr2,hp2⟩<;>(rw[qZag hr1];simp (disch:=(first | omega | (simp only[lnn];omega))) only[hp1,hp2,stp])
theorem qVaa {a b:qBs} (ha:a.length<=900000) (hb:b.length<=900000):qUag a b=some ((bin qdiv a b,()),()):=by
 unfold qUag
 rcases rp a (by omega) with ⟨p,rfl,hr1,hD1,hp1⟩ | ⟨hr1,hp1⟩
 ·rcases rp b (by omega) with ⟨q,rfl,hr2,hD2,hp2⟩ | ⟨hr2,hp2⟩
  ·rw[qPQ]
   unfold qdiv
   by_cases hq:q=0
   ·have hn:q.num.natAbs=0:=by rw[hq];rfl
    rw[if_pos hq]
    simp (disch:=(first | omega | (simp only[lnn];omega))) only[hp1,hp2,qOI,qZ10 hn,stp]
   ·have hn:q.num.natAbs≠0:=fun e=>hq (Rat.num_eq_zero.1 (by omega))
    rw[if_neg hq,Rat.div_def,qYah q hq]
    have a1:=qAP p
    have a2:=qJP p
    have a3:=qAP q
    have a4:=qJP q
    have b1:=qFC p.num.natAbs q.den
    have b3:=qFC p.den q.num.natAbs
    have m1:=qTR p.num.natAbs q.den (by omega) (by omega)
    have m3:=qTR p.den q.num.natAbs (by omega) (by omega)
    have e:p * mkRat (sg (decide (q.num < 0)) q.den) q.num.natAbs=mkRat (sg (decide (p.num < 0) !=decide (q.num < 0)) (p.num.natAbs * q.den)) (p.den * q.num.natAbs):=by
     rw[<-qPl,<-Rat.mkRat_mul_mkRat,qUW,Rat.mkRat_self]
    rw[e]
    simp (disch:=(first | omega | (simp only[lnn];omega))) only[hp1,hp2,qOI,qZ9 hn,m1,m3,stp]
    exact qXae _ (p.num.natAbs * q.den) (p.den * q.num.natAbs) (Nat.mul_ne_zero p.den_nz hn) (by omega) (by omega) (fun t=>some ((t,()),()))
  ·rw[qIv hr2];simp (disch:=(first | omega | (simp only[lnn];omega))) only[hp1,hp2,stp]
 ·rcases rp b (by omega) with ⟨q,rfl,hr2,hD2,hp2⟩ | ⟨hr2,hp2⟩<;>(rw[qZag hr1];simp (disch:=(first | omega | (simp only[lnn];omega))) only[hp1,hp2,stp])
theorem qBae {a b:qBs} (ha:a.length<=200000) (hb:b.length<=200000):qPah a b=some ((bin (fun p q=>txt (p - q)) a b,()),()):=by
 have h1:=qPp (a:=a) (b:=b) (by omega) (by omega)
 unfold qAz at h1
 rw[qCal (by omega),qAA] at h1
 dsimp only at h1
 rw[qVz (by omega) (by have:=qNr hb;omega),qAA] at h1
 unfold qPah
 rw[qOaf (by omega),qAA]
 dsimp only
 rw[qVy (by omega) (by have:=qNr hb;omega),qAA]
 exact h1
theorem qBo {a b:qBs} (ha:a.length<=200000) (hb:b.length<=200000):qLh a b=some ((qBp a b,()),()):=by
 have h1:=qOk (a:=a) (b:=b) (by omega) (by omega)
 have hl:=qNae (f:=fun p q=>p - q) (fun p q=>by rw[Rat.sub_eq_add_neg];have:=qVaf p (-q);rw[qVan] at this;exact this) ha hb
 unfold qAT at h1
 rw[qPp (by omega) (by omega),qAA] at h1
 dsimp only at h1
 rw[qBl (by omega),qAA] at h1
 unfold qLh
 have v1:=qTU (a:=a) (by omega)
 have v2:=qTU (a:=b) (by omega)
 cases hr1:rd a with
 |none=>
  have e:qBp a b=0:=by unfold qBp;rw[hr1]
  rw[hr1] at v1
  rw[e];simp (disch:=(first | omega | (simp only[lnn];omega))) only[v1,Option.isSome_none,stp]
 |some p=>
  rw[hr1] at v1
  cases hr2:rd b with
  |none=>
   have e:qBp a b=0:=by unfold qBp;rw[hr1,hr2]
   rw[hr2] at v2
   rw[e];simp (disch:=(first | omega | (simp only[lnn];omega))) only[v1,v2,Option.isSome_some,Option.isSome_none,stp]
  |some q=>
   rw[hr2] at v2
   simp (disch:=(first | omega | (simp only[lnn];omega))) only[v1,v2,Option.isSome_some,qBae (a:=a) (b:=b) (by omega) (by omega),stp]
   rw[qSl (by omega),qAA]
   exact h1
end Go.AM.Num
end
section
set_option linter.unusedSimpArgs false
set_option linter.unusedVariables false
namespace Go.AM.Num
theorem qRab (x:Int):0<=qU x/\qU x<=18446744073709551615:=by
 show 0<=IntKind.wrap .u64 x/\IntKind.wrap .u64 x<=18446744073709551615
 simp[IntKind.wrap,IntKind.bits,IntKind.signed];omega
theorem tdm (v:Int):(v.tmod 10=if v < 0 then -((v.natAbs % 10:Nat):Int) else ((v.natAbs % 10:Nat):Int))/\(v.tdiv 10=if v < 0 then -((v.natAbs / 10:Nat):Int) else ((v.natAbs / 10:Nat):Int)):=by
 by_cases h:v < 0
 ·obtain ⟨u,hu⟩:∃ u:Nat,v=-(u:Int):=⟨v.natAbs,by omega⟩
  rw[if_pos h,if_pos h,hu,Int.neg_tmod,Int.neg_tdiv,tm (by omega),td (by omega)]
  constructor<;>omega
 ·rw[if_neg h,if_neg h,tm (by omega),td (by omega)]
  constructor<;>omega
theorem qXan (n v:Int) (s:qBs) (hv:-9223372036854775808<=v/\v<=9223372036854775807) (hs:s.length<=1000) (h:v≠0\/s=[]) :
 qMK (n,s,v,())=some (.normal,(n,UInt8.ofNat (48+v.natAbs % 10)::s,v.tdiv 10,())):=by
 obtain ⟨h1,h2⟩:=tdm v
 have e3:qI (v.tdiv 10)=v.tdiv 10:=w64 (by rw[h2];split<;>omega)
 have e1:v.tmod 10 < 0->IntKind.u8.wrap (qI ((48:Int)+qI (0 - v.tmod 10)))=((48+v.natAbs % 10:Nat):Int):=by
  intro hn
  rw[h1] at hn ⊢
  split at hn
  ·rename_i hv0
   rw[if_pos hv0,show (0:Int) - -((v.natAbs % 10:Nat):Int)=((v.natAbs % 10:Nat):Int) by omega,w64 (x:=((v.natAbs % 10:Nat):Int)) (by omega),w64 (by omega),wu8 (by omega)];omega
  ·omega
 have e2:¬ v.tmod 10 < 0->IntKind.u8.wrap (qI ((48:Int)+v.tmod 10))=((48+v.natAbs % 10:Nat):Int):=by
  intro hn
  rw[h1] at hn ⊢
  split at hn
  ·rename_i hv0
   rw[if_pos hv0,w64 (by omega),wu8 (by omega)];omega
  ·rename_i hv0
   rw[if_neg hv0,w64 (by omega),wu8 (by omega)];omega
 have e4:([((48+v.natAbs % 10:Nat):Int)]:List Int).map (fun n=>UInt8.ofNat n.toNat)=[UInt8.ofNat (48+v.natAbs % 10)]:=rfl
 have e5:([UInt8.ofNat (48+v.natAbs % 10)]:qBs).length+s.length<=qWN:=by rw[qDL];simp;omega
 simp only[qMK]
 by_cases h0:v=0
 ·rcases h with h | h
  ·exact absurd h0 h
  ·rw[qDE h0,qDD h,qPA,qBW (by decide)]
   by_cases hn:v.tmod 10 < 0
   ·rw[qIA hn,e1 hn,e4,qBA e5,qBW (by decide),e3];rfl
   ·rw[qNA hn,e2 hn,e4,qBA e5,qBW (by decide),e3];rfl
 ·rw[qVE h0,qBW (by decide)]
  by_cases hn:v.tmod 10 < 0
  ·rw[qIA hn,e1 hn,e4,qBA e5,qBW (by decide),e3];rfl
  ·rw[qNA hn,e2 hn,e4,qBA e5,qBW (by decide),e3];rfl
theorem qRaq (v:Nat) (s:qBs) (h:v / 10≠0):dd (v / 10)++UInt8.ofNat (48+v % 10)::s=dd v++s:=by
 rw[qTd (n:=v) (by omega)];simp
theorem qVG {n:Int} (h:qVu n):qKF n=some ((txt (n:Rat),()),()):=by
 have hn:-9223372036854775808<=n/\n<=9223372036854775807:=h
 have hl:(dd n.natAbs).length<=20:=qQH (by have h9:n.natAbs<=9223372036854775808:=(by omega);omega) (by decide)
 obtain ⟨r,hr,v,rfl⟩:=qTB (step:=qMK) (Q:=fun r=>∃ v,r=(Ex.exit 0,(n,dd n.natAbs,v,())))
  (fun k x=>∃ v s,x=(n,s,v,())/\(-9223372036854775808<=v/\v<=9223372036854775807)/\((s=[]/\v=n/\k=n.natAbs+1)\/(s≠[]/\k=v.natAbs/\(if v=0 then s else dd v.natAbs++s)=dd n.natAbs))) (by
   rintro k x ⟨v,s,rfl,hv,hI⟩
   obtain ⟨h1,h2⟩:=tdm v
   by_cases hgo:v≠0\/s=[]
   ·have hs:s.length<=1000:=by
     rcases hI with ⟨rfl,_⟩ | ⟨_,_,hc⟩
     ·simp
     ·have:=congrArg List.length hc
      split at this<;>(try rw[qZ6] at this)<;>omega
    refine .inr ⟨v.natAbs / 10,_,qXan n v s hv hs hgo,?_,v.tdiv 10,_,rfl,?_,.inr ⟨by simp,?_,?_⟩⟩
    ·rcases hI with ⟨_,e,rfl⟩ | ⟨hne,rfl,_⟩
     ·rw[e];omega
     ·rcases hgo with hgo | hgo
      ·omega
      ·exact absurd hgo hne
    ·rw[h2];split<;>omega
    ·rw[h2];split<;>omega
    ·have hz:(v.tdiv 10=0) ↔ v.natAbs / 10=0:=by rw[h2];split<;>omega
     have ha:(v.tdiv 10).natAbs=v.natAbs / 10:=by rw[h2];split<;>omega
     have key:(if v.tdiv 10=0 then UInt8.ofNat (48+v.natAbs % 10)::s else dd (v.tdiv 10).natAbs++UInt8.ofNat (48+v.natAbs % 10)::s)=dd v.natAbs++s:=by
      by_cases hq:v.natAbs / 10=0
      ·rw[if_pos (hz.2 hq),qBO (n:=v.natAbs) (by omega),show v.natAbs % 10=v.natAbs by omega];rfl
      ·rw[if_neg (fun e=>hq (hz.1 e)),ha,qRaq _ _ hq]
     rw[key]
     rcases hI with ⟨rfl,rfl,_⟩ | ⟨hne,_,hc⟩
     ·simp
     ·rcases hgo with hgo | hgo
      ·rw[if_neg hgo] at hc;exact hc
      ·exact absurd hgo hne
   ·have hv0:v=0:=Classical.byContradiction fun e=>hgo (.inl e)
    have hs0:s≠[]:=fun e=>hgo (.inr e)
    rcases hI with ⟨e,_⟩ | ⟨_,_,hc⟩
    ·exact absurd e hs0
    ·rw[if_pos hv0] at hc
     subst hv0
     refine .inl ⟨_,?_,?_,0,rfl⟩
     ·simp only[qMK]
      rw[qDE rfl,qWC hs0,qBB,hc]
     ·simp) _ (n,[],n,()) ⟨n,[],rfl,hn,.inl ⟨rfl,rfl,rfl⟩⟩
 unfold qKF
 rw[hr,qAA]
 simp only
 rw[qDC,qPA,qNk]
 by_cases h0:n < 0
 ·rw[qIA h0,if_pos h0,qBA (by rw[qDL];simp;omega)]
 ·rw[qNA h0,if_neg h0];rfl
theorem qNah (v:Int) {n:Int} (h:0 < n/\n<=9223372036854775807):∃ r,qVai v n=some ((r,()),())/\0<=r/\r < n:=by
 have hu:=qRab v
 unfold qVai
 rw[wu64 (x:=n) (by omega),qBW (by omega),tm hu.1]
 have h1:=Int.emod_nonneg (qU v) (show n≠0 by omega)
 have h2:=Int.emod_lt_of_pos (qU v) h.1
 exact ⟨_,by rw[w64 (by omega)],h1,h2⟩
def CI (c:List Int×Int):Prop:=0<=c.2/\c.2<=c.1.length/\c.1.length<=400
theorem qRs (l:List Int):∃ c,qMae l=some ((c,()),())/\CI c:=by
 unfold qMae
 have h:minA (l.length:Int) 400=((min l.length 400:Nat):Int):=by rw[qZaf];split<;>omega
 rw[h,qEA,qBA (by omega),qBA (by omega)]
 exact ⟨_,rfl,by refine ⟨by simp,by simp,?_⟩;simp;omega⟩
theorem qWB {c:List Int×Int} (hc:CI c) {n:Int} (h:0 < n/\n<=9223372036854775807):∃ r c',qFA c n=some ((r,()),(c',()))/\CI c'/\0<=r/\r < n:=by
 obtain ⟨h1,h2,h3⟩:=hc
 unfold qFA
 by_cases hd:c.2>=(c.1.length:Int)
 ·rw[qIA hd];exact ⟨_,_,rfl,⟨h1,h2,h3⟩,by omega,by omega⟩
 ·have hw:qI (c.2+1)=c.2+1:=w64 (by omega)
  have hw2:qI (c.2+1 - 1)=c.2:=by rw[w64 (by omega)];omega
  rw[qNA hd,hw,hw2,qEA,qBA h1,qBA (by omega)]
  obtain ⟨r,hr,r1,r2⟩:=qNah (c.1.getD c.2.toNat 0) h
  rw[hr,qAA]
  exact ⟨r,(c.1,c.2+1),rfl,⟨by simp only;omega,by simp only;omega,h3⟩,r1,r2⟩
theorem qWR {n:Int} (h:n.natAbs < 100000000000000000000):D (n:Rat)<=21:=by
 rw[qSaq];have:=qQH (n:=n.natAbs) (k:=20) (by omega) (by decide);omega
theorem qGc {c:List Int×Int} (hc:CI c):∃ (z:Int) (c':List Int×Int),qBC c=some ((txt (z:Rat),()),(c',()))/\CI c'/\D (z:Rat)<=50:=by
 unfold qBC
 obtain ⟨r1,c1,e1,hc1,a1,b1⟩:=qWB hc (n:=8) (by omega)
 have e1':qFA (c.1,c.2) 8=some ((r1,()),(c1,())):=e1
 rw[e1',qAA]
 simp only
 by_cases h6:r1=6
 ·rw[qHA h6]
  obtain ⟨r2,c2,e2,hc2,a2,b2⟩:=qWB hc1 (n:=2001) (by omega)
  have e2':qFA (c1.1,c1.2) 2001=some ((r2,()),(c2,())):=e2
  rw[e2',qAA]
  simp only
  rw[w64 (by omega),qVG (show qVu _ from ⟨by omega,by omega⟩),qAA]
  exact ⟨_,_,rfl,hc2,Nat.le_trans (qWR (by omega)) (by omega)⟩
 ·rw[qDA h6]
  by_cases h7:r1=7
  ·rw[qHA h7]
   obtain ⟨r2,c2,e2,hc2,a2,b2⟩:=qWB hc1 (n:=1099511627776) (by omega)
   have e2':qFA (c1.1,c1.2) 1099511627776=some ((r2,()),(c2,())):=e2
   rw[e2',qAA]
   simp only
   rw[w64 (by omega),qVG (show qVu _ from ⟨by omega,by omega⟩),qAA]
   obtain ⟨r3,c3,e3,hc3,a3,b3⟩:=qWB hc2 (n:=1099511627776) (by omega)
   have e3':qFA (c2.1,c2.2) 1099511627776=some ((r3,()),(c3,())):=e3
   rw[e3',qAA]
   simp only
   rw[qVG (show qVu _ from ⟨by omega,by omega⟩),qAA]
   simp only
   have d1:=qWR (n:=r2 - 549755813888) (by omega)
   have d2:=qWR (n:=r3) (by omega)
   have l1:=qJF ((r2 - 549755813888:Int):Rat)
   have l2:=qJF ((r3:Int):Rat)
   rw[qMad (by omega) (by omega),qPQ,qAA]
   have d3:=qJap ((r2 - 549755813888:Int):Rat) ((r3:Int):Rat)
   rw[<-Rat.intCast_mul] at d3 ⊢
   exact ⟨_,_,rfl,hc3,by omega⟩
  ·rw[qDA h7]
   obtain ⟨r2,c2,e2,hc2,a2,b2⟩:=qWB hc1 (n:=9) (by omega)
   have e2':qFA (c1.1,c1.2) 9=some ((r2,()),(c2,())):=e2
   rw[e2',qAA]
   simp only
   rw[w64 (by omega),qVG (show qVu _ from ⟨by omega,by omega⟩),qAA]
   exact ⟨_,_,rfl,hc2,Nat.le_trans (qWR (by omega)) (by omega)⟩
theorem qUas (p q:Rat):D (p / q)<=D p+D q:=by
 rw[Rat.div_def];have:=qJap p q⁻¹;have:=qQas q;omega
theorem qEf {c:List Int×Int} (hc:CI c):∃ (q:Rat) (c':List Int×Int),qRJ c=some ((txt q,()),(c',()))/\CI c'/\D q<=71:=by
 unfold qRJ
 obtain ⟨z,c1,e1,hc1,d1⟩:=qGc hc
 have e1':qBC (c.1,c.2)=some ((txt (z:Rat),()),(c1,())):=e1
 rw[e1',qAA]
 simp only
 obtain ⟨r2,c2,e2,hc2,a2,b2⟩:=qWB hc1 (n:=4) (by omega)
 have e2':qFA (c1.1,c1.2) 4=some ((r2,()),(c2,())):=e2
 rw[e2',qAA]
 simp only
 rw[w64 (by omega),qVG (show qVu _ from ⟨by omega,by omega⟩),qAA]
 simp only
 have d2:=qWR (n:=1+r2) (by omega)
 have l1:=qJF (z:Rat)
 have l2:=qJF ((1+r2:Int):Rat)
 rw[qVaa (by omega) (by omega),qPQ,qAA]
 have hne:((1+r2:Int):Rat)≠0:=fun e=>by have:=congrArg Rat.num e;rw[Rat.num_intCast] at this;simp at this;omega
 rw[qdiv,if_neg hne]
 exact ⟨_,_,rfl,hc2,Nat.le_trans (qUas _ _) (by omega)⟩
end Go.AM.Num
end
section
set_option linter.unusedSimpArgs false
set_option linter.unusedVariables false
namespace Go.AM.Num
theorem qBaj {p q:Rat} (hp:D p<=1000000) (hq:D q<=1000000):qOp (txt p) (txt q)=some ((txt (p+q),()),()):=by
 have:=qJF p;have:=qJF q;rw[qVz (by omega) (by omega),qPQ]
theorem qFar {p q:Rat} (hp:D p<=1000000) (hq:D q<=1000000):qLx (txt p) (txt q)=some ((txt (p * q),()),()):=by
 have:=qJF p;have:=qJF q;rw[qNap (by omega) (by omega),qPQ]
theorem qEao {p q:Rat} (hp:D p<=1000000) (hq:D q<=1000000):qAT (txt p) (txt q)=some (((p - q).num.sign,()),()):=by
 have:=qJF p;have:=qJF q;rw[qOk (by omega) (by omega),qBp,qOK,qOK]
theorem qLaq {x y:Int} (hz:y≠0) (hp:D (x:Rat)<=900000) (hq:D (y:Rat)<=900000):qQw (txt (x:Rat)) (txt (y:Rat))=some ((txt ((x / y:Int):Rat),()),()):=by
 have:=qJF (x:Rat);have:=qJF (y:Rat);rw[qNaq (by omega) (by omega),sQuo,qXc,if_neg hz]
theorem qQaq {x y:Int} (hz:y≠0) (hp:D (x:Rat)<=900000) (hq:D (y:Rat)<=900000):qXu (txt (x:Rat)) (txt (y:Rat))=some ((txt ((x % y:Int):Rat),()),()):=by
 have:=qJF (x:Rat);have:=qJF (y:Rat);rw[qIaq (by omega) (by omega),sRem,qXc,if_neg hz]
theorem t0:([48]:qBs)=txt ((0:Int):Rat):=txt_zero.symm
theorem t1:([49]:qBs)=txt ((1:Int):Rat):=by rw[qNk];simp[qTS]
theorem qUap:D ((0:Int):Rat)<=21:=qWR (by decide)
end Go.AM.Num
end
section
namespace Go.AM.Num
theorem qKab {α:Type} {step:α->Option (Ex×α)} (St:Nat->α) (n:Nat) {E:Ex} (hE:E≠.normal) (stop:Nat->Option (Ex×α)) (hs:∀ k r,stop k=some r->r.1≠.normal)
 (h:∀ k,k < n->step (St k)=some ((stop k).getD (.normal,St (k+1)))) (he:step (St n)=some (E,St n)):∀ j k,k+j=n->qOA step (St k)=some (((List.range' k j).findSome? stop).getD (E,St n)):=by
 intro j
 induction j with
 |zero=>
  intro k hk;obtain rfl:k=n:=by omega
  exact qWA he hE
 |succ j ih=>
  intro k hk
  have h1:=h k (by omega)
  rw[List.range'_succ,List.findSome?_cons]
  cases hst:stop k with
  |none=>
   rw[hst] at h1
   rw[qAB h1,ih (k+1) (by omega)]
  |some r=>
   rw[hst] at h1
   exact qWA h1 (hs k r hst)
theorem qOL {α:Type} {step:α->Option (Ex×α)} (St bad:Nat->α) (n:Nat) {E B:Ex} (hE:E≠.normal) (hB:B≠.normal) (ok:Nat->Bool)
 (h:∀ k,k < n->step (St k)=some (if ok k then (.normal,St (k+1)) else (B,bad k))) (he:step (St n)=some (E,St n)) :
 ((List.range n).all ok=true/\qOA step (St 0)=some (E,St n))\/((List.range n).all ok=false/\∃ k,qOA step (St 0)=some (B,bad k)):=by
 have:=qKab St n hE (fun k=>if ok k then none else some (B,bad k)) (fun k r hr=>by
  split at hr
  ·cases hr
  ·cases hr;exact hB) (fun k hk=>by rw[h k hk];split<;>rfl) he n 0 (by omega)
 rw[<-List.range_eq_range'] at this
 cases hf:(List.range n).findSome? (fun k=>if ok k then none else some (B,bad k)) with
 |none=>
  rw[hf] at this
  refine .inl ⟨?_,this⟩
  rw[List.findSome?_eq_none_iff] at hf
  rw[qY3]
  intro k hk
  have:=hf k hk
  split at this
  ·assumption
  ·cases this
 |some r=>
  rw[hf] at this
  obtain ⟨k,hk,hr⟩:=List.exists_of_findSome?_eq_some hf
  split at hr
  ·cases hr
  ·rename_i hn
   cases hr
   refine .inr ⟨?_,k,this⟩
   rw[List.all_eq_false]
   exact ⟨k,hk,hn⟩
structure Short (N:Nat) (v:Val):Prop where
 num:v.2.2.1.length<=N
 keys:∀ s∈v.2.2.2.1,s.length<=N
 vals:∀ s∈v.2.2.2.2,s.length<=N
 few:v.2.2.2.1.length<=1000000000/\v.2.2.2.2.length<=1000000000
theorem qEQ {l:List qBs} {k N:Nat} (h:∀ s∈l,s.length<=N):(l.getD k []).length<=N:=by
 rw[qZ4]
 cases hk:l[k]? with
 |none=>simp
 |some s=>exact h s (qY14 hk)
noncomputable def okAt (num:qBs) (ks vs:List qBs) (i:Nat):Bool:=isI (ks.getD i [])&&isI (vs.getD i [])&&!(vs.getD i []==num)&&(decide (i=0)||decide (qBp (ks.getD (i - 1) []) (ks.getD i []) < 0))
noncomputable def qEc (num:qBs) (ks vs:List qBs):Bool:=(List.range ks.length).all (okAt num ks vs)
def qLP (v:Val):Bool:=decide (v.2.2.2.1.length=0)&&decide (v.2.2.2.2.length=0)
noncomputable def qNG (v:Val):Bool:=
 if v.1=1 then v.2.2.1==[]&&qLP v
 else if v.1=2 then !v.2.1&&isI v.2.2.1&&qLP v
 else if v.1=3 then !v.2.1&&(rd v.2.2.1).isSome&&qLP v
 else if v.1=4 then !v.2.1&&isI v.2.2.1&&decide (v.2.2.2.1.length=v.2.2.2.2.length)&&qEc v.2.2.1 v.2.2.2.1 v.2.2.2.2
 else false
theorem qMr (v:Val):qMU v=some ((qLP v,()),()):=by
 unfold qMU qLP
 by_cases h:v.2.2.2.1.length=0
 ·rw[qHA (by omega),qZ10 h,Bool.true_and]
  congr 3
  by_cases h2:v.2.2.2.2.length=0<;>simp[h2]
 ·rw[qDA (by omega),qZ9 h,Bool.false_and]
theorem qFj {N:Nat} (hN:N<=100000) {v:Val} (hv:Short N v):qVU v=some ((decide (v.2.2.2.1.length=v.2.2.2.2.length)&&qEc v.2.2.1 v.2.2.2.1 v.2.2.2.2,()),()):=by
 obtain ⟨s,b,num,ks,vs⟩:=v
 have hk:=hv.keys;have hw:=hv.vals;have hf:=hv.few
 simp only at hk hw hf ⊢
 unfold qVU
 simp only
 by_cases hl:ks.length=vs.length
 ·rw[qDE (by omega),qZ10 hl,Bool.true_and]
  have hik:∀ k,qUH (ks.getD k [])=some ((isI (ks.getD k []),()),()):=fun k=>qBS (by have:=qEQ (k:=k) hk;omega)
  have hiv:∀ k,qUH (vs.getD k [])=some ((isI (vs.getD k []),()),()):=fun k=>qBS (by have:=qEQ (k:=k) hw;omega)
  have hc:∀ k j,qAT (ks.getD k []) (ks.getD j [])=some ((qBp (ks.getD k []) (ks.getD j []),()),()):=fun k j=>qOk (by have:=qEQ (k:=k) hk;omega) (by have:=qEQ (k:=j) hk;omega)
  have:=qOL (step:=qFL) (fun k=>((s,b,num,ks,vs),false,ks,(ks.length:Int),(k:Int),())) (fun k=>((s,b,num,ks,vs),false,ks,(ks.length:Int),(k:Int),())) ks.length (E:=.exit 0) (B:=.ret) (by simp) (by simp) (okAt num ks vs) (fun k hk'=>by
   unfold qFL
   simp only
   rw[qIA (by omega),qEA,qBA (by omega),qBA (by omega),qZ0,hik,qAA,qEA,qBA (by omega),qBA (by omega),hiv,qAA,qEA,qBA (by omega),qBA (by omega)]
   unfold okAt
   cases isI (ks.getD k []) with
   |false=>rfl
   |true=>
    cases isI (vs.getD k []) with
    |false=>rfl
    |true=>
     cases (vs.getD k []==num) with
     |true=>rfl
     |false=>
      simp only[qY2,qY1,qBB,Bool.true_and]
      rw[w64 (x:=(k:Int)+1) (by omega)]
      by_cases h0:k=0
      ·subst h0
       rw[qNA (by omega)]
       rfl
      ·rw[qIA (by omega),w64 (by omega),qEA,qBA (by omega),qBA (by omega)]
       have e:((k:Int) - 1).toNat=k - 1:=by omega
       rw[e,hc,qAA,qZ9 h0,Bool.false_or]
       by_cases hs:qBp (ks.getD (k - 1) []) (ks.getD k []) < 0
       ·rw[qNA (by simp only;omega),if_pos (qZ10 hs)]
        rfl
       ·rw[qIA (by simp only;omega),if_neg (by rw[qZ9 hs];exact Bool.false_ne_true)]) (by
   unfold qFL
   simp only
   rw[qNA (by omega)])
  rcases this with ⟨h1,h2⟩ | ⟨h1,k,h2⟩
  ·rw[show ((0:Nat):Int)=0 from rfl] at h2
   rw[h2]
   simp only[qAA,qDC,qPA,qEc,h1]
  ·rw[show ((0:Nat):Int)=0 from rfl] at h2
   rw[h2]
   simp only[qAA,qCF,qBF,qPA,qBB,qEc,h1]
 ·rw[qVE (by omega),qZ9 hl,Bool.false_and]
theorem qJv {N:Nat} (hN:N<=100000) {v:Val} (hv:Short N v):qPT v=some ((qNG v,()),()):=by
 have h1:qUH v.2.2.1=some ((isI v.2.2.1,()),()):=qBS (by have:=hv.num;omega)
 have h2:qLQ v.2.2.1=some (((rd v.2.2.1).isSome,()),()):=qFk (by have:=hv.num;omega)
 unfold qPT qNG
 rw[qMr,qFj hN hv,h1,h2]
 simp only[qAA]
 by_cases e1:v.1=1
 ·rw[qHA e1,if_pos e1];cases (v.2.2.1==([]:qBs))<;>rfl
 ·rw[qDA e1,if_neg e1]
  by_cases e2:v.1=2
  ·rw[qHA e2,if_pos e2];cases v.2.1<;>cases isI v.2.2.1<;>rfl
  ·rw[qDA e2,if_neg e2]
   by_cases e3:v.1=3
   ·rw[qHA e3,if_pos e3];cases v.2.1<;>cases (rd v.2.2.1).isSome<;>rfl
   ·rw[qDA e3,if_neg e3]
    by_cases e4:v.1=4
    ·rw[qHA e4,if_pos e4];cases v.2.1<;>cases isI v.2.2.1<;>simp[qPA,qBB]
    ·rw[qDA e4,if_neg e4]
theorem qFv {N:Nat} (hN:N<=100000) {v:Val} (hv:Short N v) (hl:v.2.2.2.1.length=v.2.2.2.2.length) :
 (qEc v.2.2.1 v.2.2.2.1 v.2.2.2.2=true/\qOA qPC (v,false,0,())=some (.exit 1,v,false,(v.2.2.2.1.length:Int),()))\/(qEc v.2.2.1 v.2.2.2.1 v.2.2.2.2=false/\∃ k:Nat,qOA qPC (v,false,0,())=some (.ret,v,false,(k:Int),())):=by
 obtain ⟨s,b,num,ks,vs⟩:=v
 have hk:=hv.keys;have hw:=hv.vals;have hf:=hv.few
 simp only at hk hw hf hl ⊢
 have hik:∀ k,qHG (ks.getD k [])=some ((isI (ks.getD k []),()),()):=fun k=>qOO (by have:=qEQ (k:=k) hk;omega)
 have hiv:∀ k,qHG (vs.getD k [])=some ((isI (vs.getD k []),()),()):=fun k=>qOO (by have:=qEQ (k:=k) hw;omega)
 have hc:∀ k j,qLh (ks.getD k []) (ks.getD j [])=some ((qBp (ks.getD k []) (ks.getD j []),()),()):=fun k j=>qBo (by have:=qEQ (k:=k) hk;omega) (by have:=qEQ (k:=j) hk;omega)
 exact qOL (step:=qPC) (fun k=>((s,b,num,ks,vs),false,(k:Int),())) (fun k=>((s,b,num,ks,vs),false,(k:Int),())) ks.length (E:=.exit 1) (B:=.ret) (by simp) (by simp) (okAt num ks vs) (fun k hk'=>by
  unfold qPC
  simp only
  rw[qIA (by omega),qEA,qBA (by omega),qBA (by omega),qZ0,hik,qAA,qEA,qBA (by omega),qBA (by omega),hiv,qAA,qEA,qBA (by omega),qBA (by omega)]
  unfold okAt
  cases isI (ks.getD k []) with
  |false=>rfl
  |true=>
   cases isI (vs.getD k []) with
   |false=>rfl
   |true=>
    cases (vs.getD k []==num) with
    |true=>rfl
    |false=>
     simp only[qY2,qY1,qBB,Bool.true_and]
     rw[w64 (x:=(k:Int)+1) (by omega)]
     by_cases h0:k=0
     ·subst h0
      rw[qNA (by omega)]
      rfl
     ·rw[qIA (by omega),w64 (by omega),qEA,qBA (by omega),qBA (by omega),qEA,qBA (by omega),qBA (by omega)]
      have e:((k:Int) - 1).toNat=k - 1:=by omega
      rw[e,hc,qAA,qZ9 h0,Bool.false_or]
      by_cases hs:qBp (ks.getD (k - 1) []) (ks.getD k []) < 0
      ·rw[qNA (by simp only;omega),if_pos (qZ10 hs)]
       rfl
      ·rw[qIA (by simp only;omega),if_neg (by rw[qZ9 hs];exact Bool.false_ne_true)]) (by
  unfold qPC
  simp only
  rw[qNA (by omega)])
end Go.AM.Num
end
section
namespace Go.AM.Num
theorem qGy:qFs=some ((true,()),()):=by kernel_rfl
end Go.AM.Num
end
section
namespace Go.AM.Num
def ti (z:Int):qBs:=txt (z:Rat)
theorem qCj {a b:Int} (h:ti a=ti b):a=b:=by
 have:=txt_inj h
 exact_mod_cast this
abbrev KV:=List (Int×Int)
def lo (i:Int) (P:KV):KV:=P.filter fun p=>decide (p.1 < i)
def hi (i:Int) (P:KV):KV:=P.filter fun p=>decide (i < p.1)
def Incr (P:KV):Prop:=P.Pairwise fun a b=>a.1 < b.1
structure Canon (d:Int) (P:KV):Prop where
 incr:Incr P
 vals:∀ p∈P,p.2≠d
def atP (d:Int) (P:KV) (i:Int):Int:=((P.find? fun p=>decide (p.1=i)).map (·.2)).getD d
def stP (d:Int) (P:KV) (i n:Int):KV:=lo i P++(if n=d then [] else [(i,n)])++hi i P
theorem qSi {i:Int} {P:KV} {p:Int×Int}:p∈lo i P ↔ p∈P/\p.1 < i:=by simp[lo]
theorem qTl {i:Int} {P:KV} {p:Int×Int}:p∈hi i P ↔ p∈P/\i < p.1:=by simp[hi]
theorem qNak (i:Int):∀ {P:KV},Incr P->∃ m,P=lo i P++m++hi i P/\(m=[]\/∃ w,m=[(i,w)]):=by
 intro P
 induction P with
 |nil=>intro _;exact ⟨[],rfl,.inl rfl⟩
 |cons p P ih=>
  intro h
  obtain ⟨hp,hP⟩:=List.pairwise_cons.1 h
  obtain ⟨m,e,hm⟩:=ih hP
  by_cases h1:p.1 < i
  ·refine ⟨m,?_,hm⟩
   have a1:lo i (p::P)=p::lo i P:=by simp[lo,h1]
   have a2:hi i (p::P)=hi i P:=by simp[hi,show ¬ i < p.1 by omega]
   rw[a1,a2,qY5,qY5,<-e]
  ·have e1:lo i P=[]:=List.filter_eq_nil_iff.2 fun q hq=>by have:=hp q hq;simp;omega
   have e2:hi i P=P:=List.filter_eq_self.2 fun q hq=>by have:=hp q hq;simp;omega
   have a1:lo i (p::P)=[]:=by simp[lo,h1];intro a b hab;have:=hp _ hab;simp at this;omega
   by_cases h2:p.1=i
   ·refine ⟨[p],?_,.inr ⟨p.2,by rw[<-h2]⟩⟩
    have a2:hi i (p::P)=P:=by rw[<-e2];simp[hi,show ¬ i < p.1 by omega]
    rw[a1,a2];rfl
   ·refine ⟨[],?_,.inl rfl⟩
    have a2:hi i (p::P)=p::P:=by
     have:hi i (p::P)=p::hi i P:=by simp[hi,show i < p.1 by omega]
     rw[this,e2]
    rw[a1,a2];rfl
theorem qJan {d i:Int} {P:KV} (h:∀ p∈P,p.1≠i):atP d P i=d:=by
 unfold atP
 rw[List.find?_eq_none.2 (fun p hp=>by simp[h p hp])]
 rfl
theorem qJao {d i:Int} {P Q:KV} (h:∀ p∈P,p.1≠i):atP d (P++Q) i=atP d Q i:=by
 unfold atP
 rw[List.find?_append,List.find?_eq_none.2 (fun p hp=>by simp[h p hp])]
 rfl
theorem qAao {d i w:Int} {Q:KV}:atP d ((i,w)::Q) i=w:=by simp[atP]
theorem qRaa {d i:Int} {L m H:KV} (hL:∀ p∈L,p.1 < i) (hH:∀ p∈H,i < p.1) (hm:m=[]\/∃ w,m=[(i,w)]):atP d (L++m++H) i=(m.head?.map (·.2)).getD d:=by
 rw[qZ1,qJao (fun p hp=>by have:=hL p hp;omega)]
 rcases hm with rfl | ⟨w,rfl⟩
 ·exact qJan fun p hp=>by have:=hH p hp;omega
 ·exact qAao
theorem qLf {d:Int} {P:KV} (h:Canon d P) (i n:Int):Canon d (stP d P i n):=by
 refine ⟨?_,?_⟩
 ·unfold Incr stP
  rw[List.pairwise_append,List.pairwise_append]
  refine ⟨⟨List.Pairwise.filter _ h.incr,by split<;>simp,fun a ha b hb=>?_⟩,List.Pairwise.filter _ h.incr,fun a ha b hb=>?_⟩
  ·have:=(qSi.1 ha).2
   split at hb
   ·simp at hb
   ·simp at hb;subst hb;exact this
  ·have hb':=(qTl.1 hb).2
   rcases List.mem_append.1 ha with ha | ha
   ·have:=(qSi.1 ha).2;omega
   ·split at ha
    ·simp at ha
    ·simp at ha;subst ha;exact hb'
 ·intro p hp
  unfold stP at hp
  rcases List.mem_append.1 hp with hp | hp
  ·rcases List.mem_append.1 hp with hp | hp
   ·exact h.vals p (qSi.1 hp).1
   ·split at hp
    ·simp at hp
    ·simp at hp;subst hp;assumption
  ·exact h.vals p (qTl.1 hp).1
end Go.AM.Num
end
section
namespace Go.AM.Num
def ks (P:KV):List qBs:=P.map fun p=>ti p.1
def vs (P:KV):List qBs:=P.map fun p=>ti p.2
abbrev qTH (d:Int) (P:KV):Val:=(4,false,ti d,ks P,vs P)
theorem qNF (P:KV):(ks P).length=P.length:=by simp[ks]
theorem qJK (P:KV):(vs P).length=P.length:=by simp[vs]
theorem qAW {P:KV} {k:Nat} (h:k < P.length):(ks P).getD k []=ti P[k].1:=by simp[ks,qZ4,h]
theorem qPb {P:KV} {k:Nat} (h:k < P.length):(vs P).getD k []=ti P[k].2:=by simp[vs,qZ4,h]
theorem qPk (a b:Int):qBp (ti a) (ti b)=(a - b).sign:=by
 unfold qBp ti
 rw[qOK,qOK]
 simp only
 rw[<-Rat.intCast_sub,Rat.num_intCast]
theorem qXq {x:Int}:x.sign < 0 ↔ x < 0:=by
 rcases Int.lt_trichotomy x 0 with h | h | h
 ·rw[Int.sign_eq_neg_one_of_neg h];omega
 ·subst h;simp
 ·rw[Int.sign_eq_one_of_pos h];omega
theorem qEap {x:Int}:(x.sign==0)=decide (x=0):=by
 rcases Int.lt_trichotomy x 0 with h | h | h
 ·rw[Int.sign_eq_neg_one_of_neg h,qZ9 (by omega)];rfl
 ·subst h;rfl
 ·rw[Int.sign_eq_one_of_pos h,qZ9 (by omega)];rfl
theorem qUV (a:Int):isI (ti a)=true:=qUab a
theorem qHaf {s:qBs} (h:isI s=true):∃ z,s=ti z:=by
 obtain ⟨z,h1,_⟩:=qNR h
 exact ⟨z,h1⟩
theorem qAak:∀ {l:List qBs},(∀ s∈l,isI s=true)->∃ zs:List Int,l=zs.map ti:=by
 intro l
 induction l with
 |nil=>intro _;exact ⟨[],rfl⟩
 |cons s l ih=>
  intro h
  obtain ⟨z,hz⟩:=qHaf (h s (by simp))
  obtain ⟨zs,hzs⟩:=ih fun x hx=>h x (qY13 _ hx)
  exact ⟨z::zs,by rw[hz,hzs];rfl⟩
theorem qXao {P:KV} (h:∀ i (hi:i < P.length),i=0\/(P[i - 1]'(by omega)).1 < P[i].1):Incr P:=by
 unfold Incr
 rw[List.pairwise_iff_getElem]
 intro i j hi hj hij
 induction j with
 |zero=>omega
 |succ j ih=>
  have h1:P[j].1 < P[j+1].1:=by
   rcases h (j+1) hj with h | h
   ·omega
   ·exact h
  by_cases e:i=j
  ·subst e;exact h1
  ·have:=ih (by omega) (by omega);omega
theorem qZad {v:Val} (h:qNG v=true) (h4:v.1=4):∃ d P,v=qTH d P/\Canon d P:=by
 obtain ⟨s,b,num,k,w⟩:=v
 simp only at h4
 subst h4
 unfold qNG at h
 simp only[show ¬ (4:Int)=1 by omega,show ¬ (4:Int)=2 by omega,show ¬ (4:Int)=3 by omega,if_false,if_true,qY0,Bool.not_eq_true',decide_eq_true_eq,qEc,qY3,List.mem_range,okAt,Bool.or_eq_true,beq_eq_false_iff_ne] at h
 obtain ⟨⟨⟨hb,hn⟩,hl⟩,he⟩:=h
 subst hb
 obtain ⟨d,rfl⟩:=qHaf hn
 have hg:∀ (l:List qBs),(∀ i,i < l.length->isI (l.getD i [])=true)->∀ s∈l,isI s=true:=by
  intro l hl s hs
  obtain ⟨i,hi,rfl⟩:=List.getElem_of_mem hs
  have:=hl i hi
  simpa [qZ4,hi] using this
 obtain ⟨zs,rfl⟩:=qAak (hg k fun i hi=>(he i hi).1.1.1)
 obtain ⟨ws,rfl⟩:=qAak (hg w fun i hi=>(he i (by omega)).1.1.2)
 simp only[List.length_map] at hl he
 have e1:ks (zs.zip ws)=zs.map ti:=by
  have:(zs.zip ws).map (·.1)=zs:=List.map_fst_zip (by omega)
  conv=>rhs;rw[<-this,List.map_map]
  rfl
 have e2:vs (zs.zip ws)=ws.map ti:=by
  have:(zs.zip ws).map (·.2)=ws:=List.map_snd_zip (by omega)
  conv=>rhs;rw[<-this,List.map_map]
  rfl
 refine ⟨d,zs.zip ws,by unfold qTH;rw[e1,e2],qXao fun i hi=>?_,fun p hp=>?_⟩
 ·have hi':i < zs.length:=by simp at hi;omega
  rcases (he i hi').2 with h0 | h1
  ·exact .inl h0
  ·by_cases h0:i=0
   ·exact .inl h0
   ·refine .inr ?_
    rw[<-e1,qAW (by simp;omega),qAW hi,qPk] at h1
    have:=qXq.1 h1
    omega
 ·obtain ⟨i,hi,rfl⟩:=List.getElem_of_mem hp
  have hi':i < zs.length:=by simp at hi;omega
  have h1:=(he i hi').1.2
  rw[<-e2,qPb hi] at h1
  exact fun e=>h1 (congrArg ti e)
theorem qIn {d:Int} {P:KV} (h:Canon d P):qNG (qTH d P)=true:=by
 unfold qNG qTH
 simp only[show ¬ (4:Int)=1 by omega,show ¬ (4:Int)=2 by omega,show ¬ (4:Int)=3 by omega,if_false,if_true,qY0,Bool.not_eq_true',decide_eq_true_eq,qEc,qY3,List.mem_range,okAt,Bool.or_eq_true,beq_eq_false_iff_ne,qNF,qJK,qUV,true_and]
 intro i hi
 rw[qAW hi,qPb hi]
 refine ⟨⟨⟨qUV _,qUV _⟩,fun e=>h.vals _ (List.getElem_mem hi) (qCj e)⟩,?_⟩
 by_cases h0:i=0
 ·exact .inl h0
 ·refine .inr ?_
  rw[qAW (by omega),qPk]
  have:=List.pairwise_iff_getElem.1 h.incr (i - 1) i (by omega) hi (by omega)
  rw[Int.sign_eq_neg_one_of_neg (by omega)]
  omega
theorem qQal {K:List qBs} {t:qBs} {c:Nat} (hl:K.length<=1000000000) (hc:∀ k,k < K.length->∃ s:Int,qAT (K.getD k []) t=some ((s,()),())/\(s < 0 ↔ k < c)) :
 ∀ n lo hi:Nat,hi - lo<=n->lo<=c->c<=hi->hi<=K.length->qOA qJA (K,t,(),(K.length:Int),(lo:Int),(hi:Int),())=some (.exit 0,(K,t,(),(K.length:Int),(c:Int),(c:Int),())):=by
 have done:∀ lo hi:Nat,lo<=c->c<=hi->¬ lo < hi->qOA qJA (K,t,(),(K.length:Int),(lo:Int),(hi:Int),())=some (.exit 0,(K,t,(),(K.length:Int),(c:Int),(c:Int),())):=by
  intro lo hi h1 h2 h3
  obtain rfl:lo=c:=by omega
  obtain rfl:hi=lo:=by omega
  refine qWA ?_ (by simp)
  unfold qJA
  simp only
  rw[qNA (by omega)]
 intro n
 induction n with
 |zero=>intro lo hi h1 h2 h3 h4;exact done lo hi h2 h3 (by omega)
 |succ n ih=>
  intro lo hi h1 h2 h3 h4
  by_cases hlt:lo < hi
  ·have hE:qI ((qU (qI ((lo:Int)+(hi:Int)))).fdiv (2 ^ min (1:Int).toNat IntKind.u64.bits))=(((lo+hi) / 2:Nat):Int):=by
    have e2:(2:Int) ^ min (1:Int).toNat IntKind.u64.bits=2:=by decide
    rw[e2,w64 (x:=(lo:Int)+hi) (by omega),wu64 (by omega),Int.fdiv_eq_ediv_of_nonneg _ (by omega),w64 (by omega)]
    omega
   obtain ⟨s,hs,hsc⟩:=hc ((lo+hi) / 2) (by omega)
   have step:qJA (K,t,(),(K.length:Int),(lo:Int),(hi:Int),())=if (lo+hi) / 2 < c then some (.normal,(K,t,(),(K.length:Int),(((lo+hi) / 2+1:Nat):Int),(hi:Int),())) else some (.normal,(K,t,(),(K.length:Int),(lo:Int),(((lo+hi) / 2:Nat):Int),())):=by
    unfold qJA
    simp only
    rw[qIA (by omega),qBA (by omega),hE,qEA,qBA (by omega),qBA (by omega),qZ0,hs,qAA]
    simp only
    by_cases hm:(lo+hi) / 2 < c
    ·rw[qIA (hsc.2 hm),if_pos hm,w64 (by omega)];rfl
    ·rw[qNA (fun h=>hm (hsc.1 h)),if_neg hm]
   by_cases hm:(lo+hi) / 2 < c
   ·rw[if_pos hm] at step
    rw[qAB step]
    exact ih _ _ (by omega) (by omega) h3 h4
   ·rw[if_neg hm] at step
    rw[qAB step]
    exact ih _ _ (by omega) h2 (by omega) (by omega)
  ·exact done lo hi h2 h3 hlt
theorem qCat {K:List qBs} {t:qBs} {c:Nat} {f:Bool} (hl:K.length<=1000000000) (hcl:c<=K.length) (hc:∀ k,k < K.length->∃ s:Int,qAT (K.getD k []) t=some ((s,()),())/\(s < 0 ↔ k < c))
 (hf:c < K.length->∃ s:Int,qAT (K.getD c []) t=some ((s,()),())/\(s==0)=f) (hn:¬ c < K.length->f=false) :
 qSA K t ()=some (((c:Int),f,()),()):=by
 unfold qSA
 have:=qQal hl hc K.length 0 K.length (by omega) (by omega) hcl (Nat.le_refl _)
 rw[show ((0:Nat):Int)=0 from rfl] at this
 rw[this,qAA]
 simp only[qDC,qPA]
 by_cases h:c < K.length
 ·obtain ⟨s,h1,h2⟩:=hf h
  rw[qIA (by omega),qEA,qBA (by omega),qBA (by omega),qZ0,h1,qAA,h2]
 ·rw[qNA (by omega),hn h]
end Go.AM.Num
end
section
namespace Go.AM.Num
structure Sm (N:Nat) (d:Int) (P:KV):Prop where
 num:(ti d).length<=N
 els:∀ p∈P,(ti p.1).length<=N/\(ti p.2).length<=N
 few:P.length<=1000000000
theorem Sm.short {N:Nat} {d:Int} {P:KV} (h:Sm N d P):Short N (qTH d P):=
 ⟨h.num,fun s hs=>by obtain ⟨p,hp,rfl⟩:=List.mem_map.1 hs;exact (h.els p hp).1,fun s hs=>by obtain ⟨p,hp,rfl⟩:=List.mem_map.1 hs;exact (h.els p hp).2,by simp only[qTH];rw[qNF,qJK];exact ⟨h.few,h.few⟩⟩
theorem qBat {N:Nat} {d:Int} {P:KV} (h:Short N (qTH d P)):Sm N d P:=by
 refine ⟨h.num,fun p hp=>⟨h.keys _ (List.mem_map_of_mem hp),h.vals _ (List.mem_map_of_mem hp)⟩,?_⟩
 have:=h.few.1
 simp only[qTH] at this
 rwa [qNF] at this
theorem qRar {a b:Int} (ha:(ti a).length<=2000000) (hb:(ti b).length<=2000000):qAT (ti a) (ti b)=some (((a - b).sign,()),()):=by rw[qOk ha hb,qPk]
theorem qVr {a b:Int} (ha:(ti a).length<=200000) (hb:(ti b).length<=200000):qLh (ti a) (ti b)=some (((a - b).sign,()),()):=by rw[qBo ha hb,qPk]
theorem qDc (a b:Int):(ti a==ti b)=decide (a=b):=by
 by_cases h:a=b
 ·subst h;simp
 ·rw[qZ9 h,beq_eq_false_iff_ne];exact fun e=>h (qCj e)
structure Parts (i:Int) (L m H:KV):Prop where
 lo:∀ p∈L,p.1 < i
 mid:m=[]\/∃ w,m=[(i,w)]
 hi:∀ p∈H,i < p.1
theorem qRk {P:KV} (h:Incr P) (i:Int):∃ m,P=lo i P++m++hi i P/\Parts i (lo i P) m (hi i P):=by
 obtain ⟨m,e,hm⟩:=qNak i h
 exact ⟨m,e,fun p hp=>(qSi.1 hp).2,hm,fun p hp=>(qTl.1 hp).2⟩
theorem Parts.lt {i:Int} {L m H:KV} (h:Parts i L m H) {k:Nat} (hk:k < (L++m++H).length):(L++m++H)[k].1 < i ↔ k < L.length:=by
 have e:L++m++H=L++(m++H):=qZ1 ..
 simp only[e] at hk ⊢
 by_cases hl:k < L.length
 ·rw[List.getElem_append_left hl]
  exact ⟨fun _=>hl,fun _=>h.lo _ (List.getElem_mem hl)⟩
 ·rw[List.getElem_append_right (by omega)]
  refine ⟨fun hlt=>?_,fun h=>absurd h hl⟩
  have hm:=List.getElem_mem (l:=m++H) (n:=k - L.length) (by simp at hk ⊢;omega)
  rcases List.mem_append.1 hm with hm | hm
  ·rcases h.mid with rfl | ⟨w,rfl⟩
   ·cases hm
   ·have:=congrArg Prod.fst (List.mem_singleton.1 hm);simp only at this;omega
  ·have:=h.hi _ hm;omega
theorem Parts.eq {i:Int} {L m H:KV} (h:Parts i L m H) (hk:L.length < (L++m++H).length):(L++m++H)[L.length].1=i ↔ m≠[]:=by
 have e:L++m++H=L++(m++H):=qZ1 ..
 simp only[e] at hk ⊢
 rw[List.getElem_append_right (by omega)]
 simp only[Nat.sub_self]
 rcases h.mid with rfl | ⟨w,rfl⟩
 ·simp only[qY15,ne_eq,not_true_eq_false,iff_false]
  have:=h.hi _ (List.getElem_mem (l:=H) (n:=0) (by simp at hk;omega))
  omega
 ·simp
theorem qUt {N:Nat} (hN:N<=100000) {d i:Int} {L m H:KV} (h:Parts i L m H) (hs:Sm N d (L++m++H)) (hi:(ti i).length<=N):qFb (qTH d (L++m++H)) (ti i)=some (((L.length:Int),decide (m≠[]),()),()):=by
 have hc:∀ k (hk:k < (L++m++H).length),qAT ((ks (L++m++H)).getD k []) (ti i)=some ((((L++m++H)[k].1 - i).sign,()),()):=fun k hk=>by
  rw[qAW hk]
  exact qRar (by have:=(hs.els _ (List.getElem_mem hk)).1;omega) (by omega)
 have:=qCat (K:=ks (L++m++H)) (t:=ti i) (c:=L.length) (f:=decide (m≠[])) (by rw[qNF];exact hs.few) (by rw[qNF];simp)
  (fun k hk=>by
   rw[qNF] at hk
   refine ⟨_,hc k hk,?_⟩
   rw[qXq,<-h.lt hk]
   omega)
  (fun hk=>by
   rw[qNF] at hk
   refine ⟨_,hc _ hk,?_⟩
   rw[qEap]
   have:=h.eq hk
   by_cases hm:m=[]
   ·rw[qZ9 (fun e=>(this.1 (by omega)) hm),qZ9 (fun e=>e hm)]
   ·rw[qZ10 (by have:=this.2 hm;omega),qZ10 hm])
  (fun hk=>by
   rw[qNF] at hk
   refine qZ9 fun hm=>hk ?_
   have:=List.length_pos_iff.2 hm
   simp;omega)
 unfold qFb
 show ((qSA (ks (L++m++H)) (ti i) ()).bind _)=_
 rw[this,qAA]
theorem qJm (P Q:KV):ks (P++Q)=ks P++ks Q:=by simp[ks]
theorem qPX (P Q:KV):vs (P++Q)=vs P++vs Q:=by simp[vs]
theorem qZaq (L H:KV) (i w:Int):(vs (L++[(i,w)]++H)).getD L.length []=ti w:=by
 rw[qPb (by simp)]
 simp
theorem qEar {N:Nat} (hN:N<=100000) {d i:Int} {P:KV} (hP:Incr P) (hs:Sm N d P) (hi:(ti i).length<=N):v_at (qTH d P) (ti i)=some ((ti (atP d P i),()),()):=by
 obtain ⟨m,e,hp⟩:=qRk hP i
 have hpl:qFb (qTH d P) (ti i)=some ((((lo i P).length:Int),decide (m≠[]),()),()):=by
  have:=qUt hN hp (e ▸ hs) hi
  rwa [<-e] at this
 have ha:atP d P i=(m.head?.map (·.2)).getD d:=by
  have:=qRaa (d:=d) hp.lo hp.hi hp.mid
  rwa [<-e] at this
 unfold v_at
 rw[hpl,qAA,ha]
 rcases hp.mid with rfl | ⟨w,rfl⟩
 ·rfl
 ·have hlt:(lo i P).length < P.length:=by
   have:=congrArg List.length e
   simp at this;omega
  have hg:(vs P).getD (lo i P).length []=ti w:=(congrArg (fun Q=>(vs Q).getD (lo i P).length []) e).trans (qZaq ..)
  simp only
  rw[qIA (by simp),qEA,qBA (by omega),qBA (by rw[qJK];exact_mod_cast hlt),qZ0,hg]
  rfl
end Go.AM.Num
end
section
namespace Go.AM.Num
theorem qPZ {v:Val} (h1:v.2.2.2.1.length<=1000000000) (h2:v.2.2.2.2.length<=1000000000):qCb v=some ((v,()),()):=by
 unfold qCb qFE
 rw[qBA (by rw[qRG];omega),qAA,qBA (by rw[qRG];omega),qAA]
theorem qCae {K:List qBs} {A B:List qBs} {x:qBs} (hK:K=A++x::B) (hl:K.length<=1000000000) :
 qOC K (A.length:Int) (qI ((A.length:Int)+1))=some (((A++B).length,()),(A++B++[[]],())):=by
 have hw:qI ((A.length:Int)+1)=((A.length+1:Nat):Int):=by
  have:A.length<=K.length:=by rw[hK];simp
  rw[w64 (by omega)];rfl
 have hlen:K.length=A.length+B.length+1:=by rw[hK];simp;omega
 unfold qOC
 rw[hw,qEA,qEA,qBA (by omega),qBA (by omega),qBA (by omega),qZ0,qZ0]
 have e1:K.take A.length=A:=by rw[hK];exact List.take_left
 have e2:K.drop (A.length+1)=B:=by rw[hK];simp
 rw[e1,e2,show A.length+1 - A.length=1 by omega,show K.length - 1=(A++B).length by simp;omega]
 rfl
theorem qPad {K A B:List qBs} {x:qBs} (hK:K=A++B) (hl:K.length<=1000000000) :
 qMB K (A.length:Int) ([x]:List qBs)=some ((A++[x]++B,()),()):=by
 have hlen:K.length=A.length+B.length:=by rw[hK];simp
 unfold qMB
 rw[qEA,qEA,qEA,qBA (by omega),qBA (by omega),qBA (by rw[qRG];simp;omega),qBA (by simp),qZ0]
 have e1:K.take A.length=A:=by rw[hK];exact List.take_left
 have e2:K.drop A.length=B:=by rw[hK];exact List.drop_left
 rw[e1,e2]
theorem qWr {N:Nat} (hN:N<=100000) {d i n:Int} {L m H:KV} (h:Parts i L m H) (hs:Sm N d (L++m++H)) (hi:(ti i).length<=N) :
 qRa (qTH d (L++m++H)) (ti i) (ti n)=some ((qTH d (L++(if n=d then [] else [(i,n)])++H),()),()):=by
 have hf:=hs.few
 have hp:=qUt hN h hs hi
 have hcl:=qPZ (v:=qTH d (L++m++H)) (by simp only;rw[qNF];exact hf) (by simp only;rw[qJK];exact hf)
 have hkl:=qNF L;have hvl:=qJK L
 unfold qRa
 rw[hcl,qAA,hp,qAA]
 simp only[qDc]
 rcases h.mid with rfl | ⟨w,rfl⟩
 ·rw[qNA (by simp),qNA (by simp)]
  by_cases hn:n=d
  ·rw[qZ10 hn,if_pos hn];rfl
  ·rw[qZ9 hn,if_neg hn]
   have i1:=qPad (K:=ks (L++[]++H)) (A:=ks L) (B:=ks H) (x:=ti i) (by rw[<-qJm];simp) (by rw[qNF];exact hf)
   have i2:=qPad (K:=vs (L++[]++H)) (A:=vs L) (B:=vs H) (x:=ti n) (by rw[<-qPX];simp) (by rw[qJK];exact hf)
   rw[hkl] at i1;rw[hvl] at i2
   simp only[qY1,qPA]
   rw[i1,qAA,i2,qAA]
   simp only[qTH,qJm,qPX]
   rfl
 ·rw[qIA (by simp)]
  by_cases hn:n=d
  ·have d1:=qCae (K:=ks (L++[(i,w)]++H)) (A:=ks L) (B:=ks H) (x:=ti i) (by rw[qJm,qJm];simp[ks]) (by rw[qNF];exact hf)
   have d2:=qCae (K:=vs (L++[(i,w)]++H)) (A:=vs L) (B:=vs H) (x:=ti w) (by rw[qPX,qPX];simp[vs]) (by rw[qJK];exact hf)
   rw[hkl] at d1;rw[hvl] at d2
   rw[qIA hn,d1,qAA,d2,qAA,if_pos hn]
   simp only[List.take_left]
   rw[<-qJm,<-qPX,qY4]
  ·rw[qNA hn,qIA (by simp),if_neg hn]
   have hl:((L.length:Nat):Int) < ((vs (L++[(i,w)]++H)).length:Nat):=by rw[qJK];simp;omega
   rw[qEA,qBA (by omega),qBA hl,qBA (by rw[qZ0];omega),qZ0]
   have e1:ks (L++[(i,w)]++H)=ks (L++[(i,n)]++H):=by simp[ks]
   have e2:(vs (L++[(i,w)]++H)).set L.length (ti n)=vs (L++[(i,n)]++H):=by
    rw[qPX,qPX,qPX,qPX,qZ1,<-hvl,List.set_append_right _ _ (Nat.le_refl _),Nat.sub_self,qZ1]
    rfl
   rw[e1,e2]
theorem qJah {N:Nat} (hN:N<=100000) {d i n:Int} {P:KV} (hP:Incr P) (hs:Sm N d P) (hi:(ti i).length<=N):qRa (qTH d P) (ti i) (ti n)=some ((qTH d (stP d P i n),()),()):=by
 obtain ⟨m,e,hp⟩:=qRk hP i
 have:=qWr (n:=n) hN hp (e ▸ hs) hi
 rw[<-e] at this
 exact this
end Go.AM.Num
end
section
namespace Go.AM.Num
theorem qXf {N:Nat} (hN:N<=100000) {v:Val} (hv:Short N v):qUM v=some ((qNG v,()),()):=by
 have h1:qHG v.2.2.1=some ((isI v.2.2.1,()),()):=qOO (by have:=hv.num;omega)
 have h2:qSN v.2.2.1=some (((rd v.2.2.1).isSome,()),()):=qTU (by have:=hv.num;omega)
 unfold qUM qNG qLP
 rw[h1,h2]
 simp only[qAA]
 by_cases e4:v.1=4
 ·rw[qDE e4,if_neg (by omega),if_neg (by omega),if_neg (by omega),if_pos e4,qVE (by omega)]
  cases hb:v.2.1 with
  |true=>rfl
  |false=>
   simp only[qBB,qY1,Bool.true_and]
   rw[qDA (by omega),qDA (by omega),qDA (by omega),qHA e4]
   cases hi:isI v.2.2.1 with
   |false=>rfl
   |true=>
    simp only[qY2,qBB,Bool.true_and]
    by_cases hl:v.2.2.2.1.length=v.2.2.2.2.length
    ·rw[qDE (by omega),qZ10 hl,Bool.true_and]
     rcases qFv hN hv hl with ⟨a1,a2⟩ | ⟨a1,k,a2⟩
     ·rw[a1,a2];simp only[qAA,qDC,qPA]
     ·rw[a1,a2];simp only[qAA,qCF,qBF,qPA,qBB]
    ·rw[qVE (by omega),qZ9 hl,Bool.false_and]
 ·rw[qVE e4]
  by_cases k1:v.2.2.2.1.length=0
  ·rw[qNA (by omega),qZ10 k1,Bool.true_and]
   by_cases k2:v.2.2.2.2.length=0
   ·rw[qNA (by omega),qZ10 k2]
    simp only[Bool.and_true]
    by_cases e1:v.1=1
    ·rw[qDE e1,if_pos e1,qHA e1]
    ·rw[qVE e1,if_neg e1]
     by_cases e2:v.1=2
     ·rw[if_pos e2,qDA e1,qHA e2];cases v.2.1<;>rfl
     ·rw[if_neg e2]
      by_cases e3:v.1=3
      ·rw[if_pos e3,qDA e1,qDA e2,qHA e3];cases v.2.1<;>rfl
      ·rw[if_neg e3,if_neg e4,qDA e1,qDA e2,qDA e3,qDA e4];cases v.2.1<;>rfl
   ·rw[qIA (by omega),qZ9 k2]
    simp only[Bool.and_false,if_neg e4,ite_self]
  ·rw[qIA (by omega),qZ9 k1,Bool.false_and]
   simp only[Bool.and_false,if_neg e4,ite_self]
end Go.AM.Num
end
section
namespace Go.AM.Num
section
variable {d i n:Int} {P:KV} {t6:Val}
theorem qHX (Q:KV) (p:Int×Int):ks Q++[ti p.1]=ks (Q++[p]):=by simp[ks]
theorem qNW (Q:KV) (p:Int×Int):vs Q++[ti p.2]=vs (Q++[p]):=by simp[vs]
theorem qOao {Q:KV} {k:Nat} (hf:P.length<=1000000000) (hQ:Q.length<=2000000000) (hk:k < P.length) (hne:P[k].1≠i) :
 qMC (ti i,ti n,qTH d P,t6,qTH d Q,true,(k:Int),())=some (.normal,(ti i,ti n,qTH d P,t6,qTH d (Q++[P[k]]),true,((k+1:Nat):Int),())):=by
 have a1:=qNF P;have a2:=qJK P;have a3:=qNF Q;have a4:=qJK Q
 unfold qMC
 simp only
 rw[qIA (by omega)]
 simp only[qY2,qBB]
 rw[qIA (by omega),qEA,qBA (by omega),qBA (by omega),qZ0,qAW hk,qPb hk,qDc,qZ9 hne]
 simp only[qY1,qPA]
 rw[qEA,qBA (by omega),qBA (by omega),qBA (by rw[qRG];simp only[qY11,List.length_nil];omega),qEA,qBA (by omega),qBA (by omega),qBA (by rw[qRG];simp only[qY11,List.length_nil];omega),w64 (by omega),qHX,qNW]
 rfl
theorem qRak {Q:KV} {b:Bool}:qMC (ti i,ti n,qTH d P,t6,qTH d Q,b,((P.length+1:Nat):Int),())=some (.exit 0,(ti i,ti n,qTH d P,t6,qTH d Q,b,((P.length+1:Nat):Int),())):=by
 have a1:=qNF P
 unfold qMC
 simp only
 rw[qNA (by omega)]
theorem qCan {Q:KV} (hf:P.length<=1000000000) :
 qMC (ti i,ti n,qTH d P,t6,qTH d Q,true,(P.length:Int),())=some (.normal,(ti i,ti n,qTH d P,t6,qTH d Q,true,((P.length+1:Nat):Int),())):=by
 have a1:=qNF P
 unfold qMC
 simp only
 rw[qIA (by omega)]
 simp only[qY2,qBB]
 rw[qNA (by omega),w64 (by omega)]
 rfl
theorem qQz (hf:P.length<=1000000000):∀ (R pre Q:KV),P=pre++R->(∀ p∈R,p.1≠i)->Q.length+R.length<=2000000000->
 qOA qMC (ti i,ti n,qTH d P,t6,qTH d Q,true,(pre.length:Int),())=some (.exit 0,(ti i,ti n,qTH d P,t6,qTH d (Q++R),true,((P.length+1:Nat):Int),())):=by
 intro R
 induction R with
 |nil=>
  intro pre Q e _ _
  have:pre.length=P.length:=by rw[e];simp
  rw[this,qAB (qCan hf),qWA qRak (by simp),qY4]
 |cons p R ih=>
  intro pre Q e hne hQ
  have hk:pre.length < P.length:=by rw[e];simp
  have hp:P[pre.length]=p:=by simp[e]
  simp only[qY11] at hQ
  rw[qAB (qOao hf (by omega) hk (by rw[hp];exact hne p (by simp))),hp]
  have:=ih (pre++[p]) (Q++[p]) (by rw[e];simp) (fun q hq=>hne q (qY13 _ hq)) (by simp;omega)
  rw[qZ1] at this
  simp only[qZ6,qY11,List.length_nil,qY5,qY15] at this
  exact this
theorem qWap {N:Nat} (hN:N<=100000) {Q:KV} {k:Nat} (hs:Sm N d P) (hi:(ti i).length<=N) (hQ:Q.length<=2000000000) (hk:k < P.length) (hlt:P[k].1 < i) :
 qMC (ti i,ti n,qTH d P,t6,qTH d Q,false,(k:Int),())=some (.normal,(ti i,ti n,qTH d P,t6,qTH d (Q++[P[k]]),false,((k+1:Nat):Int),())):=by
 have a1:=qNF P;have a2:=qJK P;have a3:=qNF Q;have a4:=qJK Q;have hf:=hs.few
 have hc:qLh (ti P[k].1) (ti i)=some (((P[k].1 - i).sign,()),()):=qVr (by have:=(hs.els _ (List.getElem_mem hk)).1;omega) (by omega)
 have hsg:(P[k].1 - i).sign=-1:=Int.sign_eq_neg_one_of_neg (by omega)
 unfold qMC
 simp only
 rw[qIA (by omega)]
 simp only[qY1,qPA]
 rw[qDA (by omega),qEA,qBA (by omega),qBA (by omega),qZ0,qAW hk,qPb hk,hc,qAA,hsg]
 rw[qNA (by simp only;omega),qIA (by omega),qEA,qBA (by omega),qBA (by omega),qDc,qZ9 (by omega)]
 simp only[qY1,qPA]
 rw[qEA,qBA (by omega),qBA (by omega),qBA (by rw[qRG];simp only[qY11,List.length_nil];omega),qEA,qBA (by omega),qBA (by omega),qBA (by rw[qRG];simp only[qY11,List.length_nil];omega),w64 (by omega),qHX,qNW]
 rfl
theorem qPan {N:Nat} (hN:N<=100000) (hs:Sm N d P) (hi:(ti i).length<=N):∀ (R pre Z:KV),P=pre++R++Z->(∀ p∈R,p.1 < i)->
 qOA qMC (ti i,ti n,qTH d P,t6,qTH d pre,false,(pre.length:Int),())=qOA qMC (ti i,ti n,qTH d P,t6,qTH d (pre++R),false,((pre++R).length:Int),()):=by
 intro R
 induction R with
 |nil=>intro pre Z _ _;rw[qY4]
 |cons p R ih=>
  intro pre Z e hlt
  have hk:pre.length < P.length:=by rw[e];simp
  have hp:P[pre.length]=p:=by simp[e]
  have hf:=hs.few
  rw[qAB (qWap hN hs hi (by omega) hk (by rw[hp];exact hlt p (by simp))),hp]
  have:=ih (pre++[p]) Z (by rw[e];simp) (fun q hq=>hlt q (qY13 _ hq))
  rw[qZ1] at this
  simp only[qZ6,qY11,List.length_nil,qY5,qY15] at this ⊢
  exact this
end
end Go.AM.Num
end
section
namespace Go.AM.Num
def ins (d i n:Int):KV:=if n=d then [] else [(i,n)]
section
variable {d i n:Int} {P:KV} {t6:Val}
theorem qVx {L:KV} (hf:P.length<=1000000000) (hL:L.length=P.length) :
 qMC (ti i,ti n,qTH d P,t6,qTH d L,false,(P.length:Int),())=some (.normal,(ti i,ti n,qTH d P,t6,qTH d (L++ins d i n),true,((P.length+1:Nat):Int),())):=by
 have a1:=qNF P;have a3:=qNF L;have a4:=qJK L
 unfold qMC
 simp only
 rw[qIA (by omega)]
 simp only[qY1,qPA]
 rw[qHA (by omega),qDc]
 unfold ins
 by_cases hn:n=d
 ·rw[qZ10 hn,if_pos hn]
  simp only[qY2,qBB]
  rw[qNA (by omega),w64 (by omega),qY4]
  rfl
 ·rw[qZ9 hn,if_neg hn]
  simp only[qY1,qPA]
  rw[qBA (by rw[qRG];simp only[qY11,List.length_nil];omega),qBA (by rw[qRG];simp only[qY11,List.length_nil];omega),qNA (by omega),w64 (by omega),qHX L (i,n),qNW L (i,n)]
  rfl
theorem qEx {N:Nat} (hN:N<=100000) (hs:Sm N d P) (hi:(ti i).length<=N) {L:KV} (hk:L.length < P.length) (hgt:i < P[L.length].1) :
 qMC (ti i,ti n,qTH d P,t6,qTH d L,false,(L.length:Int),())=some (.normal,(ti i,ti n,qTH d P,t6,qTH d (L++ins d i n++[P[L.length]]),true,((L.length+1:Nat):Int),())):=by
 have a1:=qNF P;have a2:=qJK P;have a3:=qNF L;have a4:=qJK L;have hf:=hs.few
 have hc:qLh (ti P[L.length].1) (ti i)=some (((P[L.length].1 - i).sign,()),()):=qVr (by have:=(hs.els _ (List.getElem_mem hk)).1;omega) (by omega)
 have hsg:(P[L.length].1 - i).sign=1:=Int.sign_eq_one_of_pos (by omega)
 unfold qMC
 simp only
 rw[qIA (by omega)]
 simp only[qY1,qPA]
 rw[qDA (by omega),qEA,qBA (by omega),qBA (by omega),qZ0,qAW hk,qPb hk,hc,qAA,hsg]
 rw[qIA (by simp only;omega),qDc,qDc]
 unfold ins
 by_cases hn:n=d
 ·rw[qZ10 hn,if_pos hn,qY4]
  simp only[qY2,qBB]
  rw[qIA (by omega),qEA,qBA (by omega),qBA (by omega),qZ9 (by omega)]
  simp only[qY1,qPA]
  rw[qEA,qBA (by omega),qBA (by omega),qBA (by rw[qRG];simp only[qY11,List.length_nil];omega),qEA,qBA (by omega),qBA (by omega),qBA (by rw[qRG];simp only[qY11,List.length_nil];omega),w64 (by omega),qHX,qNW]
  rfl
 ·rw[qZ9 hn,if_neg hn]
  simp only[qY1,qPA]
  rw[qBA (by rw[qRG];simp only[qY11,List.length_nil];omega),qBA (by rw[qRG];simp only[qY11,List.length_nil];omega),qIA (by omega),qEA,qBA (by omega),qBA (by omega),qZ9 (by omega)]
  simp only[qY1,qPA]
  rw[qEA,qBA (by omega),qBA (by omega),qBA (by rw[qRG];simp only[qZ6,qY11,List.length_nil];omega),qEA,qBA (by omega),qBA (by omega),qBA (by rw[qRG];simp only[qZ6,qY11,List.length_nil];omega),w64 (by omega),qHX L (i,n),qNW L (i,n),qHX,qNW]
  rfl
theorem qNw {N:Nat} (hN:N<=100000) (hs:Sm N d P) (hi:(ti i).length<=N) {L:KV} (hk:L.length < P.length) (heq:P[L.length].1=i) :
 qMC (ti i,ti n,qTH d P,t6,qTH d L,false,(L.length:Int),())=some (.normal,(ti i,ti n,qTH d P,t6,qTH d (L++ins d i n),true,((L.length+1:Nat):Int),())):=by
 have a1:=qNF P;have a2:=qJK P;have a3:=qNF L;have a4:=qJK L;have hf:=hs.few
 have hc:qLh (ti P[L.length].1) (ti i)=some (((P[L.length].1 - i).sign,()),()):=qVr (by have:=(hs.els _ (List.getElem_mem hk)).1;omega) (by omega)
 have hsg:(P[L.length].1 - i).sign=0:=by rw[show P[L.length].1 - i=0 by omega];rfl
 unfold qMC
 simp only
 rw[qIA (by omega)]
 simp only[qY1,qPA]
 rw[qDA (by omega),qEA,qBA (by omega),qBA (by omega),qZ0,qAW hk,qPb hk,hc,qAA,hsg]
 rw[qIA (by simp only;omega),qDc,qDc]
 unfold ins
 by_cases hn:n=d
 ·rw[qZ10 hn,if_pos hn,qY4]
  simp only[qY2,qBB]
  rw[qIA (by omega),qEA,qBA (by omega),qBA (by omega),qZ10 heq]
  simp only[qY2,qBB]
  rw[w64 (by omega)]
  rfl
 ·rw[qZ9 hn,if_neg hn]
  simp only[qY1,qPA]
  rw[qBA (by rw[qRG];simp only[qY11,List.length_nil];omega),qBA (by rw[qRG];simp only[qY11,List.length_nil];omega),qIA (by omega),qEA,qBA (by omega),qBA (by omega),qZ10 heq]
  simp only[qY2,qBB]
  rw[w64 (by omega),qHX L (i,n),qNW L (i,n)]
  rfl
theorem qWao {N:Nat} (hN:N<=100000) (hP:Incr P) (hs:Sm N d P) (hi:(ti i).length<=N) :
 qOA qMC (ti i,ti n,qTH d P,t6,qTH d [],false,0,())=some (.exit 0,(ti i,ti n,qTH d P,t6,qTH d (stP d P i n),true,((P.length+1:Nat):Int),())):=by
 obtain ⟨m,e,hp⟩:=qRk hP i
 have hf:=hs.few
 have hd:=qPan (n:=n) (t6:=t6) hN hs hi (lo i P) [] (m++Num.hi i P) (by rw[qY15,<-qZ1];exact e) hp.lo
 simp only[qY15,List.length_nil] at hd
 rw[show ((0:Nat):Int)=0 from rfl] at hd
 rw[hd]
 have hst:stP d P i n=lo i P++ins d i n++Num.hi i P:=rfl
 have hil:(ins d i n).length<=1:=by unfold ins;split<;>simp
 have hlen:=congrArg List.length e
 simp only[qZ6] at hlen
 rcases hp.mid with rfl | ⟨w,rfl⟩
 ·cases hH:Num.hi i P with
  |nil=>
   have hL:(lo i P).length=P.length:=by rw[hH] at hlen;simp at hlen;omega
   rw[hL,qAB (qVx hf hL),qWA qRak (by simp),hst,hH,qY4]
  |cons p H'=>
   have hk:(lo i P).length < P.length:=by rw[hH] at hlen;simp at hlen;omega
   have hp0:P[(lo i P).length]=p:=by
    have:P=lo i P++p::H':=by rw[hH,qY4] at e;exact e
    have h2:P[(lo i P).length]?=some p:=(congrArg (fun Q:KV=>Q[(lo i P).length]?) this).trans (by simp)
    rw[qZ5 hk] at h2
    exact Option.some.inj h2
   have hmem:∀ q∈p::H',i < q.1:=fun q hq=>hp.hi q (by show q∈Num.hi i P;rw[hH];exact hq)
   have h1:=qEx (n:=n) (t6:=t6) hN hs hi hk (by rw[hp0];exact hmem p (by simp))
   rw[hp0] at h1
   have h2:=qQz (i:=i) (n:=n) (d:=d) (t6:=t6) hf H' (lo i P++[p]) (lo i P++ins d i n++[p]) (by rw[hH] at e;simpa using e) (fun q hq=>by have:=hmem q (qY13 _ hq);omega)
    (by rw[hH] at hlen;simp at hlen ⊢;omega)
   rw[qAB h1,hst,hH]
   simp only[qZ6,qY11,List.length_nil,qZ1,qY5,qY15] at h2 ⊢
   exact h2
 ·have hk:(lo i P).length < P.length:=by simp at hlen;omega
  have hp0:P[(lo i P).length].1=i:=by
   have h2:P[(lo i P).length]?=some (i,w):=(congrArg (fun Q:KV=>Q[(lo i P).length]?) e).trans (by simp)
   rw[qZ5 hk] at h2
   rw[Option.some.inj h2]
  have h1:=qNw (n:=n) (t6:=t6) hN hs hi hk hp0
  have h2:=qQz (i:=i) (n:=n) (d:=d) (t6:=t6) hf (Num.hi i P) (lo i P++[(i,w)]) (lo i P++ins d i n) e (fun q hq=>by have:=hp.hi q hq;omega)
   (by simp at hlen ⊢;omega)
  rw[qAB h1,hst]
  simp only[qZ6,qY11,List.length_nil] at h2 ⊢
  exact h2
end
end Go.AM.Num
end
section
namespace Go.AM.Num
theorem qRm {N:Nat} (hN:N<=100000) {d i n:Int} {P:KV} (hP:Canon d P) (hs:Sm N d P) (hi:(ti i).length<=N) (hn:(ti n).length<=N) :
 qMf (qTH d P) (ti i) (ti n)=some ((qTH d (stP d P i n),0,()),()):=by
 unfold qMf
 simp only
 rw[qDE (by omega),qXf hN hs.short,qAA,qIn hP,qOO (by omega),qOO (by omega),qUV,qUV]
 simp only[qY2,qBB,qAA]
 have:=qWao (n:=n) (t6:=((0:Int),false,([]:qBs),([]:List qBs),([]:List qBs))) hN hP.incr hs hi
 have e:(qTH d []:Val)=(4,false,ti d,([]:List qBs),([]:List qBs)):=rfl
 rw[e] at this
 rw[this,qAA]
 simp only[qDC,qPA]
end Go.AM.Num
end
section
namespace Go.AM.Num
theorem qEq {d i n:Int} {P:KV} (h:Incr P):(stP d P i n).length<=P.length+1:=by
 obtain ⟨m,e,_⟩:=qNak i h
 have:=congrArg List.length e
 unfold stP
 simp only[qZ6] at this ⊢
 split<;>simp<;>omega
theorem qBal {N:Nat} {d i n:Int} {P:KV} (hP:Incr P) (h:Sm N d P) (hi:(ti i).length<=N) (hn:(ti n).length<=N) (hl:P.length < 1000000000):Sm N d (stP d P i n):=by
 refine ⟨h.num,fun p hp=>?_,by have:=qEq (d:=d) (i:=i) (n:=n) hP;omega⟩
 unfold stP at hp
 rcases List.mem_append.1 hp with hp | hp
 ·rcases List.mem_append.1 hp with hp | hp
  ·exact h.els p (qSi.1 hp).1
  ·split at hp
   ·cases hp
   ·rw[List.mem_singleton.1 hp];exact ⟨hi,hn⟩
 ·exact h.els p (qTl.1 hp).1
theorem qCV {c:List Int×Int} (hc:CI c):∃ (z:Int) (c':List Int×Int),qBC c=some ((ti z,()),(c',()))/\CI c'/\(ti z).length<=52:=by
 obtain ⟨z,c',h1,h2,h3⟩:=qGc hc
 exact ⟨z,c',h1,h2,by have:=qJF (z:Rat);unfold ti;omega⟩
theorem qDan {t4:Val}:∀ (n:Nat) {c:List Int×Int} {d:Int} {P:KV},CI c->Canon d P->Sm 52 d P->P.length+n<=60->
 ∃ c' P',qOA qDG (c,t4,qTH d P,(n:Int),())=some (.exit 1,(c',t4,qTH d P',0,()))/\CI c'/\Canon d P'/\Sm 52 d P'/\P'.length<=60:=by
 intro n
 induction n with
 |zero=>
  intro c d P hc hP hs hl
  exact ⟨c,P,qWA (by unfold qDG;simp only;rw[qNA (by omega)];rfl) (by simp),hc,hP,hs,by omega⟩
 |succ n ih=>
  intro c d P hc hP hs hl
  obtain ⟨i,c1,h1,hc1,hi⟩:=qCV hc
  obtain ⟨m,c2,h2,hc2,hm⟩:=qCV hc1
  have h3:=qRm (N:=52) (by omega) hP hs hi hm
  have hlen:=qEq (d:=d) (i:=i) (n:=m) hP.incr
  obtain ⟨c',P',g1,g2,g3,g4,g5⟩:=ih hc2 (qLf hP i m) (qBal hP.incr hs hi hm (by omega)) (by omega)
  refine ⟨c',P',?_,g2,g3,g4,g5⟩
  rw[qAB (y:=(c2,t4,qTH d (stP d P i m),(n:Int),())) (by
   unfold qDG
   simp only
   rw[qIA (by omega),h1,qAA,h2,qAA,h3,qAA,w64 (by omega)]
   have e:((n+1:Nat):Int) - 1=(n:Int):=by omega
   rw[e])]
  exact g1
theorem qEY (d:Int):Canon d []:=⟨List.Pairwise.nil,fun _ hp=>absurd hp qY16⟩
theorem qSz {N:Nat} {d:Int} (h:(ti d).length<=N):Sm N d []:=⟨h,fun _ hp=>absurd hp qY16,Nat.zero_le _⟩
theorem qKy {c:List Int×Int} (hc:CI c):∃ d P c',qSG c 4=some ((qTH d P,()),(c',()))/\CI c'/\Canon d P/\Sm 52 d P/\P.length<=60:=by
 obtain ⟨d,c1,h1,hc1,hd⟩:=qCV hc
 obtain ⟨r,c2,h2,hc2,r0,r4⟩:=qWB hc1 (n:=4) (by omega)
 obtain ⟨k,rfl⟩:∃ k:Nat,r=k:=⟨r.toNat,by omega⟩
 obtain ⟨c3,P,h3,hc3,hP,hs,hl⟩:=qDan (t4:=((0:Int),false,([]:qBs),([]:List qBs),([]:List qBs))) k hc2 (qEY d) (qSz hd) (by simp;omega)
 refine ⟨d,P,c3,?_,hc3,hP,hs,hl⟩
 have e:(qTH d []:Val)=(4,false,ti d,([]:List qBs),([]:List qBs)):=rfl
 rw[e] at h3
 unfold qSG
 rw[qDA (by omega),qHA rfl,h1,qAA,h2,qAA,h3,qAA]
 simp only[qDC,qPA]
end Go.AM.Num
end
section
namespace Go.AM.Num
theorem qXh {a b:List qBs} (ha:a.length<=2000000000):qUC a b=some ((decide (a=b),()),()):=by
 unfold qUC
 by_cases hl:a.length=b.length
 ·rw[qDE (by omega)]
  have:=qOL (step:=qHC) (fun k=>(a,b,false,(a.length:Int),(k:Int),())) (fun k=>(a,b,false,(a.length:Int),(k:Int),())) a.length (E:=.exit 0) (B:=.ret) (by simp) (by simp) (fun k=>a.getD k []==b.getD k []) (fun k hk=>by
   unfold qHC
   simp only
   rw[qIA (by omega),qEA,qBA (by omega),qBA (by omega),qEA,qBA (by omega),qBA (by omega),qZ0,w64 (by omega)]
   cases (a.getD k []==b.getD k [])<;>rfl) (by
   unfold qHC
   simp only
   rw[qNA (by omega)])
  rw[show ((0:Nat):Int)=0 from rfl] at this
  have heq:(List.range a.length).all (fun k=>a.getD k []==b.getD k [])=decide (a=b):=by
   rw[Bool.eq_iff_iff,qY3,decide_eq_true_eq]
   constructor
   ·intro h
    refine List.ext_getElem hl fun k h1 h2=>?_
    have:=h k (List.mem_range.2 h1)
    simpa [qZ4,h1,h2] using this
   ·rintro rfl k _;simp
  rcases this with ⟨h1,h2⟩ | ⟨h1,k,h2⟩
  ·rw[h2,<-heq,h1];simp only[qAA,qDC,qPA]
  ·rw[h2,<-heq,h1];simp only[qAA,qCF,qBF,qPA,qBB]
 ·rw[qVE (by omega),qZ9 (fun e=>hl (by rw[e]))]
theorem qFV {a b:Val} (ha:a.2.2.2.1.length<=2000000000) (hb:a.2.2.2.2.length<=2000000000):qQW a b=some ((decide (a=b),()),()):=by
 obtain ⟨s,t,u,k,w⟩:=a
 obtain ⟨s',t',u',k',w'⟩:=b
 unfold qQW
 simp only at ha hb ⊢
 rw[qXh ha,qXh hb]
 simp only[qAA,Prod.mk.injEq]
 by_cases h1:s=s'
 ·rw[qHA h1]
  by_cases h2:t=t'
  ·rw[h2];simp only[beq_self_eq_true,qPA]
   by_cases h3:u=u'
   ·rw[h3];simp only[beq_self_eq_true,qPA]
    by_cases h4:k=k'
    ·rw[qZ10 h4];simp only[qPA];simp[h1,h4]
    ·rw[qZ9 h4];simp only[qBB];simp[h4]
   ·rw[show (u==u')=false from beq_eq_false_iff_ne.2 h3];simp[h3]
  ·rw[show (t==t')=false from beq_eq_false_iff_ne.2 h2];simp[h2]
 ·rw[qDA h1];simp[h1]
end Go.AM.Num
end
section
namespace Go.AM.Num
abbrev nOp (n:Nod):Int:=n.1
abbrev qQF (n:Nod):Int:=n.2.1
abbrev qAO (n:Nod):qBs:=n.2.2.1
abbrev qSQ (n:Nod):qBs:=n.2.2.2.1
abbrev qEF (n:Nod):Int:=n.2.2.2.2
def letterB (c:UInt8):Bool:=(decide (97<=c)&&decide (c<=122))||(decide (65<=c)&&decide (c<=90))||c==95||c==36||c==33
def qKj (c:UInt8):Bool:=letterB c||(decide (48<=c)&&decide (c<=57))||c==46||c==64
def qTi:List qBs:=[[97,110,100],[111,114],[110,111,116],[105,116,101],[116,114,117,101],[102,97,108,115,101],[108,101,116],[102,111,114,97,108,108],[101,120,105,115,116,115],
 [100,105,115,116,105,110,99,116],[100,105,118],[109,111,100],[115,101,108,101,99,116],[115,116,111,114,101],[99,111,110,115,116],[66,111,111,108],[73,110,116],[82,101,97,108],[65,114,114,97,121]]
def qTh (s:qBs):Bool:=decide (s.length<=40)&&letterB (s.getD 0 0)&&!(decide (s∈qTi))&&s.all qKj
noncomputable def qLC (n:Nod):Bool:=
 if nOp n=3 then decide (qAO n=[])&&((decide (qQF n=2)&&isI (qSQ n))||(decide (qQF n=3)&&(rd (qSQ n)).isSome))
 else if nOp n=4\/nOp n=5 then decide (1<=qQF n/\qQF n<=4)&&qTh (qAO n)&&decide (qSQ n=[])
 else if nOp n=16\/nOp n=17 then decide (qQF n=0)&&decide (qAO n=[])&&isI (qSQ n)&&decide (0 < qSW (qSQ n))
 else decide (1<=nOp n/\nOp n<=20)&&decide (qQF n=0)&&decide (qAO n=[])&&decide (qSQ n=[])
def qHB (o k:Int):Bool:=
 if o=1\/o=2\/o=3\/o=4 then decide (k=0)
 else if o=5 then decide (1<=k/\k<=40)
 else if o=6\/o=16\/o=17\/o=20 then decide (k=1)
 else if o=7\/o=8 then decide (0<=k)
 else if o=14 then decide (1<=k)
 else if o=10\/o=19 then decide (k=3)
 else decide (k=2)
theorem qWP {o k:Int} (h:qHB o k=true):0<=k:=by
 unfold qHB at h
 repeat' split at h
 all_goals (simp at h;omega)
noncomputable def okN (n:Nod):Bool:=qLC n&&qHB (nOp n) (qEF n)
def qTC (n:Nod) (first:Int) (ss:List Int):Int:=
 if nOp n=3\/nOp n=4\/nOp n=5 then qQF n
 else if nOp n=1\/nOp n=2\/nOp n=6\/nOp n=7\/nOp n=8\/nOp n=9 then (if ∀ s∈ss,s=1 then 1 else 0)
 else if nOp n=10 then (if ss.getD 0 0=1/\ss.getD 1 0=ss.getD 2 0 then ss.getD 1 0 else 0)
 else if nOp n=11 then (if ss.getD 0 0=ss.getD 1 0 then 1 else 0)
 else if nOp n=12\/nOp n=13 then (if (ss.getD 0 0=2\/ss.getD 0 0=3)/\∀ s∈ss,s=ss.getD 0 0 then 1 else 0)
 else if nOp n=14 then (if (ss.getD 0 0=2\/ss.getD 0 0=3)/\∀ s∈ss,s=ss.getD 0 0 then ss.getD 0 0 else 0)
 else if nOp n=15 then (if first=3/\(ss.getD 0 0=2\/ss.getD 0 0=3)/\∀ s∈ss,s=ss.getD 0 0 then ss.getD 0 0 else 0)
 else if nOp n=16\/nOp n=17 then (if ss.getD 0 0=2 then 2 else 0)
 else if nOp n=18 then (if ss.getD 0 0=4/\ss.getD 1 0=2 then 2 else 0)
 else if nOp n=19 then (if ss.getD 0 0=4/\ss.getD 1 0=2/\ss.getD 2 0=2 then 4 else 0)
 else if nOp n=20 then (if ss.getD 0 0=2 then 4 else 0)
 else 0
inductive Tf where
 |nil
 |cons (n:Nod) (k r:Tf)
namespace Tf
def flat:Tf->List Nod
 |nil=>[]
 |cons n k r=>n::(flat k++flat r)
def len:Tf->Nat
 |nil=>0
 |cons _ _ r=>len r+1
def size:Tf->Nat
 |nil=>0
 |cons _ k r=>size k+size r+1
def app:Tf->Tf->Tf
 |nil,g=>g
 |cons n k r,g=>cons n k (app r g)
def dep:Tf->Nat
 |nil=>0
 |cons _ k r=>max (dep k+1) (dep r)
def op1:Tf->Int
 |nil=>0
 |cons n _ _=>nOp n
def srt:Tf->List Int
 |nil=>[]
 |cons n k r=>(if 0∈srt k then 0 else qTC n (op1 k) (srt k))::srt r
noncomputable def wf:Tf->Bool
 |nil=>true
 |cons n k r=>okN n&&decide (qEF n=(len k:Int))&&wf k&&wf r
def take:Nat->Tf->Tf
 |0,_=>nil
 |_+1,nil=>nil
 |c+1,cons n k r=>cons n k (take c r)
def drop:Nat->Tf->Tf
 |0,f=>f
 |_+1,nil=>nil
 |c+1,cons _ _ r=>drop c r
theorem qXD (f:Tf):f.flat.length=f.size:=by
 induction f with
 |nil=>rfl
 |cons n k r ik ir=>simp only[flat,size,qY11,qZ6];omega
theorem qWU (f g:Tf):(f.app g).flat=f.flat++g.flat:=by
 induction f with
 |nil=>rfl
 |cons n k r _ ir=>simp only[app,flat,ir,qY5,qZ1]
theorem qLp (f g:Tf):(f.app g).len=f.len+g.len:=by
 induction f with
 |nil=>simp[app,len]
 |cons n k r _ ir=>simp only[app,len,ir];omega
theorem qVc (f g:Tf):(f.app g).size=f.size+g.size:=by
 induction f with
 |nil=>simp[app,size]
 |cons n k r _ ir=>simp only[app,size,ir];omega
theorem qVa (f g:Tf):(f.app g).srt=f.srt++g.srt:=by
 induction f with
 |nil=>rfl
 |cons n k r _ ir=>simp only[app,srt,ir,qY5]
theorem qNn (f g:Tf):(f.app g).wf=(f.wf&&g.wf):=by
 induction f with
 |nil=>simp[app,wf]
 |cons n k r _ ir=>simp only[app,wf,ir,Bool.and_assoc]
theorem qCr (f g:Tf):(f.app g).dep=max f.dep g.dep:=by
 induction f with
 |nil=>simp[app,dep]
 |cons n k r _ ir=>simp only[app,dep,ir];omega
theorem qZan (f:Tf):f.app nil=f:=by
 induction f with
 |nil=>rfl
 |cons n k r _ ir=>simp only[app,ir]
theorem qDM (f:Tf):f.srt.length=f.len:=by
 induction f with
 |nil=>rfl
 |cons n k r _ ir=>simp only[srt,len,qY11,ir]
theorem qDo:∀ (c:Nat) (f:Tf),(take c f).app (drop c f)=f:=by
 intro c
 induction c with
 |zero=>intro f;cases f<;>rfl
 |succ c ih=>
  intro f
  cases f with
  |nil=>rfl
  |cons n k r=>simp only[take,drop,app,ih]
theorem qBt:∀ (c:Nat) (f:Tf),c<=f.len->(take c f).len=c:=by
 intro c
 induction c with
 |zero=>intro f _;cases f<;>rfl
 |succ c ih=>
  intro f h
  cases f with
  |nil=>simp[len] at h
  |cons n k r=>simp only[len] at h;simp only[take,len,ih r (by omega)]
theorem qSai (f g:Tf):take f.len (f.app g)=f:=by
 induction f with
 |nil=>cases g<;>rfl
 |cons n k r _ ir=>simp only[len,app,take,ir]
theorem qYaf (f g:Tf):drop f.len (f.app g)=g:=by
 induction f with
 |nil=>cases g<;>rfl
 |cons n k r _ ir=>simp only[len,app,drop,ir]
theorem qBL (f:Tf):f.len<=f.size:=by
 induction f with
 |nil=>simp[len,size]
 |cons n k r _ ir=>simp only[len,size];omega
theorem qGu (f:Tf):f.dep<=f.size:=by
 induction f with
 |nil=>simp[dep,size]
 |cons n k r ik ir=>simp only[dep,size];omega
theorem qFJ {n:Nod} {k r:Tf}:(cons n k r).wf=true ↔ okN n=true/\qEF n=(len k:Int)/\wf k=true/\wf r=true:=by
 simp only[wf,qY0,decide_eq_true_eq,and_assoc]
theorem qWM {n:Nod} {k r:Tf}:(0:Int)∉(cons n k r).srt ↔ (0:Int)∉k.srt/\qTC n (op1 k) k.srt≠0/\(0:Int)∉r.srt:=by
 simp only[srt,qY12,not_or]
 constructor
 ·rintro ⟨h1,h2⟩
  split at h1
  ·exact absurd rfl h1
  ·rename_i h;exact ⟨h,fun e=>h1 e.symm,h2⟩
 ·rintro ⟨h1,h2,h3⟩
  rw[if_neg h1]
  exact ⟨fun e=>h2 e.symm,h3⟩
end Tf
open Tf
noncomputable def bkp:List Nod->Option Tf
 |[]=>some nil
 |n::l=>(bkp l).bind fun f=>if okN n=true/\qEF n<=(f.len:Int)/\(0:Int)≠qTC n (op1 (take (qEF n).toNat f)) (take (qEF n).toNat f).srt then some (cons n (take (qEF n).toNat f) (drop (qEF n).toNat f)) else none
theorem qEe:∀ {t:List Nod} {f:Tf},bkp t=some f->f.flat=t/\f.wf=true/\(0:Int)∉f.srt:=by
 intro t
 induction t with
 |nil=>intro f h;simp only[bkp,Option.some.injEq] at h;subst h;exact ⟨rfl,rfl,by simp[srt]⟩
 |cons n l ih=>
  intro f h
  simp only[bkp,Option.bind_eq_some_iff] at h
  obtain ⟨g,hg,h⟩:=h
  split at h
  ·rename_i hc
   obtain ⟨h1,h2,h3⟩:=hc
   obtain ⟨i1,i2,i3⟩:=ih hg
   simp only[Option.some.injEq] at h
   subst h
   have e:=qDo (qEF n).toNat g
   have hk:0<=qEF n:=by
    unfold okN at h1
    simp only[qY0] at h1
    exact qWP h1.2
   have hl:=qBt (qEF n).toNat g (by omega)
   rw[<-e,qNn,qY0] at i2
   rw[<-e,qVa,qZ7,not_or] at i3
   refine ⟨?_,qFJ.2 ⟨h1,by rw[hl];omega,i2.1,i2.2⟩,qWM.2 ⟨i3.1,fun e=>h3 e.symm,i3.2⟩⟩
   rw[<-i1]
   simp only[flat]
   rw[<-qWU,e]
  ·cases h
theorem qQaj:∀ (N:Nat) (f:Tf),f.size<=N->f.wf=true->(0:Int)∉f.srt->bkp f.flat=some f:=by
 intro N
 induction N with
 |zero=>intro f h _ _;cases f with
  |nil=>rfl
  |cons n k r=>simp[size] at h
 |succ N ih=>
  intro f h hw hs
  cases f with
  |nil=>rfl
  |cons n k r=>
   obtain ⟨h1,h2,h3,h4⟩:=qFJ.1 hw
   obtain ⟨s1,s2,s3⟩:=qWM.1 hs
   simp only[size] at h
   have:=ih (k.app r) (by rw[qVc];omega) (by rw[qNn,h3,h4];rfl) (by rw[qVa,qZ7];exact fun e=>e.elim s1 s3)
   rw[qWU] at this
   simp only[flat,bkp,this,Option.bind_some]
   have e:(qEF n).toNat=k.len:=by omega
   rw[e,qSai,qYaf,if_pos ⟨h1,by rw[qLp];omega,fun e=>s2 e.symm⟩]
theorem qLal {t:List Nod} {f:Tf}:bkp t=some f ↔ f.flat=t/\f.wf=true/\(0:Int)∉f.srt:=
 ⟨qEe,fun ⟨h1,h2,h3⟩=>h1 ▸ qQaj _ f (Nat.le_refl _) h2 h3⟩
def many (p:List Nod->Option (Tf×List Nod)):Nat->List Nod->Option (Tf×List Nod)
 |0,l=>some (nil,l)
 |c+1,l=>(p l).bind fun x=>(many p c x.2).bind fun y=>some (x.1.app y.1,y.2)
noncomputable def one:Nat->List Nod->Option (Tf×List Nod)
 |0,_=>none
 |_+1,[]=>none
 |d+1,n::l=>if okN n=true then (many (one d) (qEF n).toNat l).bind fun x=>some (cons n x.1 nil,x.2) else none
theorem qRi {d:Nat} (ho:∀ {l l':List Nod} {f:Tf},one d l=some (f,l')->l=f.flat++l'/\f.wf=true/\f.len=1/\f.dep<=d) :
 ∀ (c:Nat) {l l':List Nod} {f:Tf},many (one d) c l=some (f,l')->l=f.flat++l'/\f.wf=true/\f.len=c/\f.dep<=d:=by
 intro c
 induction c with
 |zero=>intro l l' f h;simp only[many,Option.some.injEq,Prod.mk.injEq] at h;obtain ⟨rfl,rfl⟩:=h;exact ⟨rfl,rfl,rfl,Nat.zero_le _⟩
 |succ c ih=>
  intro l l' f h
  simp only[many,Option.bind_eq_some_iff] at h
  obtain ⟨⟨g,l1⟩,h1,⟨g2,l2⟩,h2,h3⟩:=h
  simp only[Option.some.injEq,Prod.mk.injEq] at h3
  obtain ⟨rfl,rfl⟩:=h3
  obtain ⟨e1,w1,n1,d1⟩:=ho h1
  obtain ⟨e2,w2,n2,d2⟩:=ih h2
  simp only at e2
  refine ⟨by rw[e1,e2,qWU,qZ1],by rw[qNn,w1,w2];rfl,by rw[qLp];omega,by rw[qCr];omega⟩
theorem qRY:∀ (d:Nat) {l l':List Nod} {f:Tf},one d l=some (f,l')->l=f.flat++l'/\f.wf=true/\f.len=1/\f.dep<=d:=by
 intro d
 induction d with
 |zero=>intro l l' f h;simp[one] at h
 |succ d ih=>
  intro l l' f h
  cases l with
  |nil=>simp[one] at h
  |cons n l=>
   simp only[one] at h
   split at h
   ·rename_i hn
    simp only[Option.bind_eq_some_iff] at h
    obtain ⟨⟨g,l1⟩,h1,h2⟩:=h
    simp only[Option.some.injEq,Prod.mk.injEq] at h2
    obtain ⟨rfl,rfl⟩:=h2
    obtain ⟨e1,w1,n1,d1⟩:=qRi ih _ h1
    have hk:0<=qEF n:=by
     unfold okN at hn
     simp only[qY0] at hn
     exact qWP hn.2
    refine ⟨by rw[e1];simp only[flat,qY4,qY5],qFJ.2 ⟨hn,by omega,w1,rfl⟩,rfl,by simp only[dep];omega⟩
   ·cases h
theorem qIab (f:Tf):∀ (d:Nat) (l:List Nod),f.wf=true->f.dep<=d->many (one d) f.len (f.flat++l)=some (f,l):=by
 induction f with
 |nil=>intro d l _ _;rfl
 |cons n k r ik ir=>
  intro d l hw hd
  obtain ⟨h1,h2,h3,h4⟩:=qFJ.1 hw
  simp only[dep] at hd
  obtain ⟨e,rfl⟩:∃ e,d=e+1:=⟨d - 1,by omega⟩
  have e1:=ik e (r.flat++l) h3 (by omega)
  have e2:=ir (e+1) l h4 (by omega)
  have ek:(qEF n).toNat=k.len:=by omega
  simp only[len,flat,many,qY5,one,qZ1]
  rw[if_pos h1,ek,e1]
  simp only[Option.bind_some]
  rw[e2]
  rfl
theorem qKt {f:Tf} {d:Nat} (l:List Nod) (hw:f.wf=true) (hl:f.len=1) (hd:f.dep<=d):one d (f.flat++l)=some (f,l):=by
 have:=qIab f d l hw hd
 rw[hl] at this
 simp only[many,Option.bind_eq_some_iff] at this
 obtain ⟨⟨g,l1⟩,h1,⟨g2,l2⟩,h2,h3⟩:=this
 simp only[Option.some.injEq,Prod.mk.injEq] at h2 h3
 obtain ⟨rfl,rfl⟩:=h2
 obtain ⟨rfl,rfl⟩:=h3
 rw[h1,qZan]
end Go.AM.Num
end
section
namespace Go.AM.Num
theorem qMT {P:UInt8->Prop} (h:∀ n:Fin 256,P (UInt8.ofNat n.val)) (c:UInt8):P c:=by
 have:=h ⟨c.toNat,c.toNat_lt⟩
 simpa using this
theorem qNf (c:UInt8):qIZ (c.toNat:Int)=some ((letterB c,()),()):=by
 refine qMT (P:=fun c=>qIZ (c.toNat:Int)=some ((letterB c,()),())) ?_ c
 decide +kernel
theorem qWas (c:UInt8):decide ((c.toNat:Int)>=48)=decide (48<=c):=by
 refine qMT (P:=fun c=>decide ((c.toNat:Int)>=48)=decide (48<=c)) ?_ c
 decide +kernel
theorem qKas (c:UInt8):decide ((c.toNat:Int)<=57)=decide (c<=57):=by
 refine qMT (P:=fun c=>decide ((c.toNat:Int)<=57)=decide (c<=57)) ?_ c
 decide +kernel
theorem qTar (c:UInt8):((c.toNat:Int) !=46)=!(c==46):=by
 refine qMT (P:=fun c=>((c.toNat:Int) !=46)=!(c==46)) ?_ c
 decide +kernel
theorem qJaq (c:UInt8):((c.toNat:Int) !=64)=!(c==64):=by
 refine qMT (P:=fun c=>((c.toNat:Int) !=64)=!(c==64)) ?_ c
 decide +kernel
theorem qIR {α:Type} (l:List α) (d:α) (p:α->Bool):(List.range l.length).all (fun k=>p (l.getD k d))=l.all p:=by
 rw[Bool.eq_iff_iff,qY3,qY3]
 constructor
 ·intro h x hx
  obtain ⟨i,hi⟩:=List.getElem?_of_mem hx
  have:=h i (by simp only[List.mem_range];exact (List.getElem?_eq_some_iff.1 hi).1)
  simpa [qZ4,hi] using this
 ·intro h k hk
  simp only[List.mem_range] at hk
  simpa [qZ4,hk] using h _ (List.getElem_mem hk)
theorem qAy (s:qBs) (l:List qBs):l.foldr (fun w k=>cond (s==w) (some ((true,()),())) k) (some ((false,()),()))=some ((decide (s∈l),()),()):=by
 induction l with
 |nil=>simp
 |cons w l ih=>
  simp only[List.foldr_cons,ih,qY12]
  by_cases h:s=w
  ·rw[show (s==w)=true by simpa using h];simp[h]
  ·rw[show (s==w)=false by simpa using h];simp[h]
theorem qLad (s:qBs):qHaa s=some ((decide (s∈qTi),()),()):=by
 have:=qAy s qTi
 exact this
theorem qTab (s:qBs):(s==[])=decide (s=[]):=by
 cases s<;>simp
theorem qGr (s:qBs):qJZ s=some ((qTh s,()),()):=by
 unfold qJZ
 by_cases h0:s=[]
 ·subst h0;decide
 ·rw[show (s==([]:qBs))=false by simpa using h0,qBB]
  have hl:0 < s.length:=List.length_pos_iff.2 h0
  unfold qTh
  by_cases h1:s.length<=40
  ·rw[qNA (by omega),qZ10 h1,qEA,qBA (by omega),qBA (by omega),qNf,qAA,qLad,qAA]
   have e:(0:Int).toNat=0:=rfl
   rw[e]
   simp only
   cases letterB (s.getD 0 0) with
   |false=>rfl
   |true=>
    simp only[qY2,qBB,Bool.true_and]
    cases decide (s∈qTi) with
    |true=>rfl
    |false=>
     rw[qBB]
     have key:=qOL (step:=qQO) (fun k=>(s,false,(s.length:Int),(k:Int),())) (fun k=>(s,false,(s.length:Int),(k:Int),())) s.length (E:=.exit 0) (B:=.ret) (by simp) (by simp) (fun k=>qKj (s.getD k 0)) (fun k hk=>by
      unfold qQO
      simp only
      rw[qIA (by omega),qEA,qBA (by omega),qBA (by omega),qZ0,qNf,qAA,qWas,qKas,qTar,qJaq,w64 (x:=(k:Int)+1) (by omega)]
      unfold qKj
      generalize letterB (s.getD k 0)=a
      generalize decide (48<=s.getD k 0)=b
      generalize decide (s.getD k 0<=57)=c
      generalize (s.getD k 0==46)=d
      generalize (s.getD k 0==64)=e
      cases a<;>cases b<;>cases c<;>cases d<;>cases e<;>rfl) (by
      unfold qQO
      simp only
      rw[qNA (by omega)])
     rw[qIR] at key
     rcases key with ⟨k1,k2⟩ | ⟨k1,j,k2⟩
     ·rw[show ((0:Nat):Int)=0 from rfl] at k2
      rw[k2,k1]
      simp only[qAA,qDC,qPA,qY1,Bool.true_and]
     ·rw[show ((0:Nat):Int)=0 from rfl] at k2
      rw[k2,k1]
      simp only[qAA,qCF,qBF,qPA,qBB,Bool.and_false]
  ·rw[qIA (by omega),qZ9 h1]
   rfl
theorem qIg (s:Int):qAa s=some ((decide (1<=s/\s<=4),()),()):=by
 unfold qAa
 by_cases h:s>=1
 ·rw[qIA h]
  have:decide (s<=4)=decide (1<=s/\s<=4):=by rw[decide_eq_decide];omega
  rw[this]
 ·rw[qNA h,qZ9 (by omega)]
theorem qIl {s:Int} {a:qBs} (h:a.length<=1000000):qMV s a=some (((decide (s=2)&&isI a)||(decide (s=3)&&(rd a).isSome),()),()):=by
 unfold qMV
 rw[qBS (by omega),qFk (by omega)]
 simp only[qAA]
 by_cases h2:s=2
 ·subst h2
  cases isI a<;>rfl
 ·rw[qDA h2,qZ9 h2,Bool.false_and,Bool.false_or]
  by_cases h3:s=3
  ·subst h3;rfl
  ·rw[qDA h3,qZ9 h3,Bool.false_and]
theorem qIp {n:Nod} (h:(qSQ n).length<=1000000):qGd n=some ((qLC n,()),()):=by
 obtain ⟨o,s,nm,num,kd⟩:=n
 simp only[qSQ] at h
 unfold qGd qLC
 simp only[nOp,qQF,qAO,qSQ]
 rw[qIl h,qIg,qGr,qBS (by omega),qBl (by omega)]
 simp only[qAA,qTab]
 by_cases e3:o=3
 ·rw[qHA e3,if_pos e3];cases decide (nm=[])<;>rfl
 ·rw[qDA e3,if_neg e3]
  by_cases e4:o=4
  ·rw[qHA e4,if_pos (.inl e4)];cases decide (1<=s/\s<=4)<;>cases qTh nm<;>rfl
  ·rw[qDA e4]
   by_cases e5:o=5
   ·rw[qHA e5,if_pos (.inr e5)];cases decide (1<=s/\s<=4)<;>cases qTh nm<;>rfl
   ·rw[qDA e5,if_neg (by omega)]
    by_cases e6:o=16
    ·rw[qHA e6,if_pos (.inl e6)]
     by_cases z:s=0
     ·rw[qHA z,qZ10 z];cases decide (nm=[])<;>cases isI num<;>rfl
     ·rw[qDA z,qZ9 z];rfl
    ·rw[qDA e6]
     by_cases e7:o=17
     ·rw[qHA e7,if_pos (.inr e7)]
      by_cases z:s=0
      ·rw[qHA z,qZ10 z];cases decide (nm=[])<;>cases isI num<;>rfl
      ·rw[qDA z,qZ9 z];rfl
     ·rw[qDA e7,if_neg (by omega)]
      by_cases g1:o>=1
      ·rw[qIA g1]
       by_cases g2:o<=20
       ·rw[qIA g2,qZ10 (show 1<=o/\o<=20 from ⟨g1,g2⟩)]
        by_cases z:s=0
        ·rw[qHA z,qZ10 z];cases decide (nm=[])<;>rfl
        ·rw[qDA z,qZ9 z];rfl
       ·rw[qNA g2,qZ9 (by omega)];rfl
      ·rw[qNA g1,qZ9 (by omega)];rfl
theorem qJx {o k:Int} (hk:0<=k):qVd o k=some ((qHB o k,()),()):=by
 by_cases h1:o=1;· subst h1;rfl
 by_cases h2:o=2;· subst h2;rfl
 by_cases h3:o=3;· subst h3;rfl
 by_cases h4:o=4;· subst h4;rfl
 by_cases h5:o=5
 ·subst h5
  have e:qHB 5 k=decide (1<=k/\k<=40):=rfl
  rw[e]
  unfold qVd
  rw[qDA (by decide),qDA (by decide),qDA (by decide),qDA (by decide),qHA rfl]
  by_cases g:k>=1
  ·rw[qIA g]
   have:decide (k<=40)=decide (1<=k/\k<=40):=by rw[decide_eq_decide];omega
   rw[this]
  ·rw[qNA g,qZ9 (by omega)]
 by_cases h6:o=6;· subst h6;rfl
 by_cases h16:o=16;· subst h16;rfl
 by_cases h17:o=17;· subst h17;rfl
 by_cases h20:o=20;· subst h20;rfl
 by_cases h7:o=7
 ·subst h7
  have e:qHB 7 k=decide (0<=k):=rfl
  rw[e,qZ10 hk];rfl
 by_cases h8:o=8
 ·subst h8
  have e:qHB 8 k=decide (0<=k):=rfl
  rw[e,qZ10 hk];rfl
 by_cases h14:o=14;· subst h14;rfl
 by_cases h10:o=10;· subst h10;rfl
 by_cases h19:o=19;· subst h19;rfl
 unfold qVd qHB
 rw[qDA h1,qDA h2,qDA h3,qDA h4,qDA h5,qDA h6,qDA h16,qDA h17,qDA h20,qDA h7,qDA h8,qDA h14,qDA h10,qDA h19,
  if_neg (by omega),if_neg h5,if_neg (by omega),if_neg (by omega),if_neg h14,if_neg (by omega)]
 rfl
theorem qSab (b:Bool) (s:Int):qWG b s=some ((if b=true then s else 0,()),()):=by cases b<;>rfl
theorem qTb (s:Int):qPO s=some ((decide (s=2\/s=3),()),()):=by
 unfold qPO
 by_cases h:s=2
 ·rw[qHA h,qZ10 (.inl h)]
 ·rw[qDA h]
  have:(s==3)=decide (s=2\/s=3):=by
   have e:(s==3)=decide (s=3):=rfl
   rw[e,decide_eq_decide];omega
  rw[this]
theorem qPt {ss:List Int} {s:Int} (hl:ss.length<=1000000000):qXX ss s=some ((decide (∀ x∈ss,x=s),()),()):=by
 have key:=qOL (step:=qNB) (fun k=>(ss,some s,(0:Int),(ss.length:Int),(k:Int),())) (fun k=>(ss,some s,(k:Int),(ss.length:Int),(k:Int),())) ss.length (E:=.exit 0) (B:=.ret) (by simp) (by simp) (fun k=>decide (ss.getD k 0=s)) (fun k hk=>by
  unfold qNB
  simp only
  rw[qIA (by omega),qEA,qBA (by omega),qBA (by omega),qZ0]
  have e:qAq (ss.getD k 0) (some s)=some ((ss.getD k 0 !=s,()),()):=rfl
  rw[e,qAA,w64 (x:=(k:Int)+1) (by omega)]
  by_cases h:ss.getD k 0=s
  ·rw[qDE h,if_pos (qZ10 h)];rfl
  ·rw[qVE h,if_neg (fun e=>h (of_decide_eq_true e))]) (by
  unfold qNB
  simp only
  rw[qNA (by omega)])
 rw[qIR ss 0 (fun x=>decide (x=s))] at key
 rw[show ((0:Nat):Int)=0 from rfl] at key
 unfold qXX qFD qEE
 rcases key with ⟨k1,k2⟩ | ⟨k1,j,k2⟩
 ·rw[k2]
  simp only[qAA,qDC,qPA]
  rw[show decide (∀ x∈ss,x=s)=true from qZ10 (by simpa [qY3] using k1)]
  rfl
 ·rw[k2]
  simp only[qAA,qCF,qBF,qPA,qBB]
  rw[show decide (∀ x∈ss,x=s)=false from qZ9 (fun h=>by rw[List.all_eq_true.2 (fun x hx=>qZ10 (h x hx))] at k1;cases k1),qZ10 (show (j:Int)>=0 by omega)]
  rfl
theorem qUq {n:Nod} {ss:List Int} (ho:1<=nOp n/\nOp n<=20) (hl:ss.length<=1000000000) (hc:qHB (nOp n) ss.length=true):qNd n ss=some ((qTC n 3 ss,()),()):=by
 obtain ⟨o,s,nm,num,kd⟩:=n
 simp only[nOp] at ho hc
 unfold qNd qTC
 simp only[nOp,qQF,qPt hl,qPt (show (ss.drop 1).length<=1000000000 by simp;omega),qSab,qTb,qAA,decide_eq_true_eq,show (0:Int).toNat=0 from rfl,show (1:Int).toNat=1 from rfl,show (2:Int).toNat=2 from rfl]
 by_cases h3:o=3;· rw[qHA h3,if_pos (.inl h3)]
 rw[qDA h3]
 by_cases h4:o=4;· rw[qHA h4,if_pos (.inr (.inl h4))]
 rw[qDA h4]
 by_cases h5:o=5;· rw[qHA h5,if_pos (.inr (.inr h5))]
 rw[qDA h5,if_neg (show ¬ (o=3\/o=4\/o=5) by omega)]
 by_cases h1:o=1;· rw[qHA h1,if_pos (show o=1\/o=2\/o=6\/o=7\/o=8\/o=9 by omega)]
 rw[qDA h1]
 by_cases h2:o=2;· rw[qHA h2,if_pos (show o=1\/o=2\/o=6\/o=7\/o=8\/o=9 by omega)]
 rw[qDA h2]
 by_cases h6:o=6;· rw[qHA h6,if_pos (show o=1\/o=2\/o=6\/o=7\/o=8\/o=9 by omega)]
 rw[qDA h6]
 by_cases h7:o=7;· rw[qHA h7,if_pos (show o=1\/o=2\/o=6\/o=7\/o=8\/o=9 by omega)]
 rw[qDA h7]
 by_cases h8:o=8;· rw[qHA h8,if_pos (show o=1\/o=2\/o=6\/o=7\/o=8\/o=9 by omega)]
 rw[qDA h8]
 by_cases h9:o=9;· rw[qHA h9,if_pos (show o=1\/o=2\/o=6\/o=7\/o=8\/o=9 by omega)]
 rw[qDA h9,if_neg (show ¬ (o=1\/o=2\/o=6\/o=7\/o=8\/o=9) by omega)]
 by_cases h10:o=10
 ·subst h10
  rcases ss with _ | ⟨a,_ | ⟨b,_ | ⟨c,_ | ⟨d,l⟩⟩⟩⟩<;>simp[qHB] at hc
  ·by_cases q:a=1
   ·simp[grd,q]
   ·simp[grd,q,show (a==1)=false by simpa using q]
  ·omega
 rw[qDA h10,if_neg h10]
 by_cases h11:o=11
 ·subst h11
  rcases ss with _ | ⟨a,_ | ⟨b,_ | ⟨c,l⟩⟩⟩<;>simp[qHB] at hc
  ·simp[grd]
  ·omega
 rw[qDA h11,if_neg h11]
 by_cases h12:o=12
 ·subst h12
  rcases ss with _ | ⟨a,_ | ⟨b,_ | ⟨c,l⟩⟩⟩<;>simp[qHB] at hc
  ·by_cases q:a=2\/a=3<;>simp[grd,q]
  ·omega
 rw[qDA h12]
 by_cases h13:o=13
 ·subst h13
  rcases ss with _ | ⟨a,_ | ⟨b,_ | ⟨c,l⟩⟩⟩<;>simp[qHB] at hc
  ·by_cases q:a=2\/a=3<;>simp[grd,q]
  ·omega
 rw[qDA h13,if_neg (show ¬ (o=12\/o=13) by omega)]
 by_cases h14:o=14
 ·subst h14
  rcases ss with _ | ⟨a,l⟩<;>simp[qHB] at hc
  by_cases q:a=2\/a=3<;>simp[grd,q]
 rw[qDA h14,if_neg h14]
 by_cases h15:o=15
 ·subst h15
  rcases ss with _ | ⟨a,_ | ⟨b,_ | ⟨c,l⟩⟩⟩<;>simp[qHB] at hc
  ·by_cases q:a=2\/a=3<;>simp[grd,q]
  ·omega
 rw[qDA h15,if_neg h15]
 by_cases h16:o=16
 ·subst h16
  rcases ss with _ | ⟨a,_ | ⟨b,l⟩⟩<;>simp[qHB] at hc
  ·simp[grd]
  ·omega
 rw[qDA h16]
 by_cases h17:o=17
 ·subst h17
  rcases ss with _ | ⟨a,_ | ⟨b,l⟩⟩<;>simp[qHB] at hc
  ·simp[grd]
  ·omega
 rw[qDA h17,if_neg (show ¬ (o=16\/o=17) by omega)]
 by_cases h18:o=18
 ·subst h18
  rcases ss with _ | ⟨a,_ | ⟨b,_ | ⟨c,l⟩⟩⟩<;>simp[qHB] at hc
  ·by_cases q:a=4
   ·simp[grd,q]
   ·simp[grd,q,show (a==4)=false by simpa using q]
  ·omega
 rw[qDA h18,if_neg h18]
 by_cases h19:o=19
 ·subst h19
  rcases ss with _ | ⟨a,_ | ⟨b,_ | ⟨c,_ | ⟨d,l⟩⟩⟩⟩<;>simp[qHB] at hc
  ·by_cases q:a=4
   ·simp[grd,q]
   ·simp[grd,q,show (a==4)=false by simpa using q]
  ·omega
 rw[qDA h19,if_neg h19]
 obtain rfl:o=20:=by omega
 rcases ss with _ | ⟨a,_ | ⟨b,l⟩⟩<;>simp[qHB] at hc
 ·simp[grd]
 ·omega
end Go.AM.Num
end
section
namespace Go.AM.Num
namespace Tf
def info:Nat->Tf->List (Int×Int×Int)
 |_,nil=>[]
 |p,cons n k r=>((if 0∈srt k then 0 else qTC n (op1 k) (srt k)),((dep k+1:Nat):Int),((p+1+size k:Nat):Int))::(info (p+1) k++info (p+1+size k) r)
def rts:Nat->Tf->List Int
 |_,nil=>[]
 |p,cons _ k r=>rts (p+1+size k) r++[(p:Int)]
def rtf:Nat->Tf->List Int
 |_,nil=>[]
 |p,cons _ k r=>(p:Int)::rtf (p+1+size k) r
theorem qSJ (f:Tf):∀ p,(info p f).length=f.size:=by
 induction f with
 |nil=>intro p;rfl
 |cons n k r ik ir=>intro p;simp only[info,size,qY11,qZ6,ik,ir]
theorem qSu (f g:Tf):∀ p,info p (f.app g)=info p f++info (p+f.size) g:=by
 induction f with
 |nil=>intro p;simp[app,info,size]
 |cons n k r _ ir=>
  intro p
  have e:p+1+size k+size r=p+(size k+size r+1):=by omega
  simp only[app,info,size,ir,qY5,qZ1,e]
theorem qRal (f g:Tf):∀ p,rts p (f.app g)=rts (p+f.size) g++rts p f:=by
 induction f with
 |nil=>intro p;simp[app,rts,size]
 |cons n k r _ ir=>
  intro p
  have e:p+1+size k+size r=p+(size k+size r+1):=by omega
  simp only[app,rts,size,ir,qZ1,e]
theorem qAU (f:Tf):∀ p,(rts p f).length=f.len:=by
 induction f with
 |nil=>intro p;rfl
 |cons n k r _ ir=>intro p;simp[rts,len,ir]
theorem qVao (f:Tf):∀ p,(rts p f).reverse=rtf p f:=by
 induction f with
 |nil=>intro p;rfl
 |cons n k r _ ir=>intro p;simp[rts,rtf,ir]
end Tf
open Tf
theorem qHac {α β γ:Type} (f:β->γ->Option γ) (g:α->β):∀ (l:List α) (y:γ),foldO (fun a y=>f (g a) y) l y=foldO f (l.map g) y:=by
 intro l
 induction l with
 |nil=>intro y;rfl
 |cons a l ih=>intro y;simp only[foldO,List.map_cons];congr 1;funext z;exact ih z
theorem qKz {β:Type} (f:Int->β->Option β) (l:List Int) (y:β):foldO (fun (p:Int×Nat) y=>f p.1 y) l.zipIdx.reverse y=foldO f l.reverse y:=by
 rw[qHac f (fun p:Int×Nat=>p.1),List.map_reverse]
 congr 2
 exact List.zipIdx_map_fst 0 l
theorem qWL {α:Type} {l r:List α} {p:Nat} {x d:α} (h:l.drop p=x::r):l.getD p d=x/\p < l.length:=by
 have h0:(l.drop p)[0]?=some x:=by rw[h];rfl
 rw[List.getElem?_drop] at h0
 have e:p+0=p:=by omega
 rw[e] at h0
 exact ⟨by rw[qZ4,h0];rfl,(List.getElem?_eq_some_iff.1 h0).1⟩
abbrev LkS:=((List Nod)×List (Int×Sml))×(Int×Sml)×(List Int)×Unit
def lkG (v:Int) (y:LkS):Option LkS:=(qKO v 0 y).bind fun o=>some (qNK y o)
theorem qWz (t:List Nod) (P:List (Int×Sml)) (hP:P.length<=20000):∀ (k:Tf) (p:Nat) (s0:Int) (d0:Nat) (ss:List Int),(∃ rest,P.drop p=info p k++rest)->1<=d0->d0<=100000->ss.length+k.len<=100000->
 foldO lkG (rtf p k) ((t,P),(s0,(d0:Int),(p:Int)),ss,())=some ((t,P),(s0,((max d0 (k.dep+1):Nat):Int),((p+k.size:Nat):Int)),ss++k.srt,()):=by
 intro k
 induction k with
 |nil=>
  intro p s0 d0 ss _ h1 _ _
  have e:max d0 (dep nil+1)=d0:=by simp only[dep];omega
  simp only[rtf,foldO,srt,qY4,size,Nat.add_zero,e]
 |cons n k r ik ir=>
  intro p s0 d0 ss ⟨rest,hr⟩ h1 h2 h3
  simp only[info,qY5] at hr
  obtain ⟨g1,g2⟩:=qWL (d:=((0:Int),(0:Int),(0:Int))) hr
  have hz:size k+size r+1<=P.length:=by
   have:=congrArg List.length hr
   simp only[List.length_drop,qY11,qZ6,qSJ] at this
   omega
  have hdk:=qGu k
  have hdr:=qGu r
  have hlr:=qBL r
  simp only[len] at h3
  simp only[rtf,foldO]
  have hstep:lkG (p:Int) ((t,P),(s0,(d0:Int),(p:Int)),ss,())=some ((t,P),(s0,((max d0 (k.dep+2):Nat):Int),((p+1+size k:Nat):Int)),ss++[if 0∈srt k then 0 else qTC n (op1 k) (srt k)],()):=by
   unfold lkG qKO qNK
   simp only
   rw[qZ0,g1]
   rw[qEA,qBA (by omega),qBA (by omega),qBA g2,qBA (by simp[qXE];omega),qEA,qBA (by omega),qBA (by omega),qBA g2,qEA,qBA (by omega),qBA (by omega),qBA g2,qAA]
   rw[w64 (x:=((dep k+1:Nat):Int)+1) (by omega)]
   have:qPa (d0:Int) (((dep k+1:Nat):Int)+1)=((max d0 (k.dep+2):Nat):Int):=by rw[qOd];split<;>omega
   rw[this]
  rw[hstep,Option.bind_some]
  rw[ir (p+1+size k) s0 (max d0 (k.dep+2)) _ ⟨rest,by
   have:=congrArg (List.drop (1+size k)) hr
   rw[List.drop_drop] at this
   have e:p+(1+size k)=p+1+size k:=by omega
   rw[e] at this
   rw[this,Nat.add_comm 1,List.drop_succ_cons,qZ1,List.drop_append_of_le_length (by rw[qSJ];omega)]
   have:(info (p+1) k).drop (size k)=[]:=qY7 (by rw[qSJ];omega)
   rw[this,qY15]⟩ (by omega) (by omega) (by simp;omega)]
  have e1:max (max d0 (k.dep+2)) (r.dep+1)=max d0 ((cons n k r).dep+1):=by simp only[dep];omega
  have e2:p+1+size k+size r=p+(cons n k r).size:=by simp only[size];omega
  rw[e1,e2]
  simp only[srt,qZ1,qY5,qY15]
theorem qBr (n:Nod) (f:Int) (ss:List Int):qTC n f ss=if nOp n=15/\f≠3 then 0 else qTC n 3 ss:=by
 unfold qTC
 by_cases h:nOp n=15
 ·by_cases hf:f=3
  ·simp[h,hf]
  ·simp[h,hf]
 ·simp[h]
theorem qUw:∀ (i:Nat) {t:List Nod} {f:Tf},bkp t=some f->∃ g,bkp (t.drop i)=some g:=by
 intro i
 induction i with
 |zero=>intro t f h;exact ⟨f,by simpa using h⟩
 |succ i ih=>
  intro t f h
  cases t with
  |nil=>exact ⟨nil,by simp[bkp]⟩
  |cons n l=>
   simp only[bkp,Option.bind_eq_some_iff] at h
   obtain ⟨g,hg,_⟩:=h
   simpa using ih hg
def qTQ (t:List Nod):Prop:=∀ n∈t,(qSQ n).length<=100000
theorem qRae {t:List Nod} (hs:qTQ t) (hl:t.length<=20000) {i:Nat} (hi:i < t.length) {F:Tf} {P:List (Int×Sml)} (hF:bkp (t.drop (i+1))=some F) (hP:P.length=t.length) (hPi:P.drop (i+1)=info (i+1) F) :
 (bkp (t.drop i)=none/\∃ v,qJN (t,(none:Option qOQ),false,(t,P),rts (i+1) F,(i:Int),())=some (.ret,(t,(none:Option qOQ),false,v,rts (i+1) F,(i:Int),())))\/
 ∃ G P',bkp (t.drop i)=some G/\P'.length=t.length/\P'.drop i=info i G/\qJN (t,(none:Option qOQ),false,(t,P),rts (i+1) F,(i:Int),())=some (.normal,(t,(none:Option qOQ),false,(t,P'),rts i G,(i:Int) - 1,())):=by
 obtain ⟨hf1,hf2,hf3⟩:=qEe hF
 have hsz:F.size=t.length - (i+1):=by rw[<-qXD,hf1,List.length_drop]
 have hfl:=qBL F
 have hget:t.getD i qSE=t[i]:=by simp[qZ4,hi]
 have hmem:t[i]∈t:=List.getElem_mem hi
 have hbp:bkp (t.drop i)=if okN t[i]=true/\qEF t[i]<=(F.len:Int)/\(0:Int)≠qTC t[i] (op1 (take (qEF t[i]).toNat F)) (take (qEF t[i]).toNat F).srt then some (cons t[i] (take (qEF t[i]).toNat F) (drop (qEF t[i]).toNat F)) else none:=by
  rw[qY6 hi]
  simp only[bkp,hF,Option.bind_some]
 have hnum:=hs _ hmem
 have hfe:=qIp (n:=t[i]) (by omega)
 unfold qJN
 simp only
 rw[qIA (by omega),qEA,qBA (by omega),qBA (by omega),qZ0,hget]
 generalize hn:t[i]=n at hbp hnum hfe ⊢
 have hK:n.2.2.2.2=qEF n:=rfl
 have hO:n.1=nOp n:=rfl
 rw[hK,hO,qAU]
 by_cases q1:qEF n < 0
 ·rw[qIA q1]
  refine .inl ⟨?_,_,rfl⟩
  rw[hbp,if_neg]
  rintro ⟨h,_⟩
  unfold okN at h
  simp only[qY0] at h
  have:=qWP h.2
  omega
 rw[qNA q1]
 by_cases q2:qEF n > (F.len:Int)
 ·rw[qIA q2]
  exact .inl ⟨by rw[hbp,if_neg (by omega)],_,rfl⟩
 rw[qNA q2,hfe,qAA]
 by_cases q3:qLC n=false
 ·rw[q3]
  refine .inl ⟨?_,_,rfl⟩
  rw[hbp,if_neg]
  rintro ⟨h,_⟩
  unfold okN at h
  rw[q3] at h
  cases h
 rw[Bool.not_eq_false] at q3
 rw[q3]
 simp only[qY2,qBB]
 rw[qJx (by omega),qAA]
 by_cases q4:qHB (nOp n) (qEF n)=false
 ·rw[q4]
  refine .inl ⟨?_,_,rfl⟩
  rw[hbp,if_neg]
  rintro ⟨h,_⟩
  unfold okN at h
  rw[q4,Bool.and_false] at h
  cases h
 rw[Bool.not_eq_false] at q4
 rw[q4]
 simp only[qY2,qBB]
 have hok:okN n=true:=by unfold okN;rw[q3,q4];rfl
 obtain ⟨c,hc⟩:∃ c:Nat,qEF n=(c:Int):=⟨(qEF n).toNat,by omega⟩
 have hct:(qEF n).toNat=c:=by omega
 rw[hct] at hbp
 have hFe:=qDo c F
 have hkl:=qBt c F (by omega)
 generalize hk:take c F=k at hbp hFe hkl
 generalize hr:drop c F=r at hbp hFe
 have hlen:F.len=k.len+r.len:=by rw[<-hFe,qLp]
 have hsize:F.size=k.size+r.size:=by rw[<-hFe,qVc]
 have hrl:r.len=F.len - c:=by omega
 have hR:rts (i+1) F=rts (i+1+k.size) r++rts (i+1) k:=by rw[<-hFe,qRal]
 have hw:qI ((F.len:Int) - qEF n)=(r.len:Int):=by rw[w64 (by omega)];omega
 have hRd:(rts (i+1) F).drop r.len=rts (i+1) k:=by
  rw[hR,List.drop_append_of_le_length (by rw[qAU];omega),qY7 (by rw[qAU];omega),qY15]
 have hRt:(rts (i+1) F).take r.len=rts (i+1+k.size) r:=by
  rw[hR,List.take_append_of_le_length (by rw[qAU];omega),List.take_of_length_le (by rw[qAU];omega)]
 have hRdt:((rts (i+1) F).drop r.len).take (F.len - r.len)=rts (i+1) k:=by
  rw[hRd,List.take_of_length_le (by rw[qAU];omega)]
 have hfold:=qWz t P (by omega) k (i+1) 0 1 [] ⟨info (i+1+k.size) r,by rw[hPi,<-hFe,qSu]⟩ (by omega) (by omega) (by simp;omega)
 rw[hw,qZ0,hRdt]
 rw[qEA,qBA (by omega),qBA (by omega),qBA (by rw[qAU];simp only[qXE];omega)]
 have hidx:foldO (fun (p:Int×Nat) y=>(qKO p.1 p.2 y).bind fun o=>some (qNK y o)) (rts (i+1) k).zipIdx.reverse ((t,P),((0:Int),1,qI ((i:Int)+1)),([]:List Int),())=foldO lkG (rtf (i+1) k) ((t,P),((0:Int),((1:Nat):Int),((i+1:Nat):Int)),([]:List Int),()):=by
  rw[<-qVao,<-qKz lkG]
  rw[w64 (by omega)]
  rfl
 rw[hidx,hfold,qAA,qAA]
 unfold qFQ
 simp only[qY15]
 have hss:k.srt.length=c:=by rw[qDM];exact hkl
 have hop:1<=nOp n/\nOp n<=20:=by
  unfold qLC at q3
  split at q3
  ·omega
  ·split at q3
   ·omega
   ·split at q3
    ·omega
    ·simp only[qY0,decide_eq_true_eq] at q3
     exact q3.1.1.1
 rw[qUq hop (by omega) (by rw[hss,<-hc];exact q4),qAA]
 have hfirst:=qBr n (op1 k) k.srt
 by_cases q5:qTC n 3 k.srt=0
 ·rw[qHA q5]
  refine .inl ⟨?_,_,rfl⟩
  rw[hbp,if_neg]
  rintro ⟨_,_,h⟩
  rw[hfirst,q5] at h
  split at h<;>exact h rfl
 rw[qDA q5]
 have hwi:qI ((i:Int)+1)=((i+1:Nat):Int):=by rw[w64 (by omega)];omega
 have hwm:qI ((i:Int) - 1)=(i:Int) - 1:=w64 (by omega)
 have hgood:∀ (hx:¬ (nOp n=15/\op1 k≠3)),bkp (t.drop i)=some (cons n k r)/\(P.set i (qTC n 3 k.srt,((max 1 (k.dep+1):Nat):Int),((i+1+k.size:Nat):Int))).drop i=info i (cons n k r):=by
  intro hx
  rw[if_neg hx] at hfirst
  refine ⟨by rw[hbp,if_pos ⟨hok,by omega,by rw[hfirst];exact fun e=>q5 e.symm⟩],?_⟩
  have h0:(0:Int)∉k.srt:=fun h=>hf3 (by rw[<-hFe,qVa,qZ7];exact .inl h)
  rw[qY6 (by simp;omega)]
  simp only[info]
  rw[if_neg h0,hfirst,List.getElem_set_self,List.drop_set_of_lt (by omega),hPi,<-hFe,qSu]
  have e:max 1 (k.dep+1)=k.dep+1:=by omega
  rw[e]
 have hlt:P.length=t.length:=hP
 by_cases q6:nOp n=15
 ·rw[qHA q6,hwi,qEA,qBA (by omega)]
  have hk2:0 < k.len:=by
   have:qHB 15 (qEF n)=decide (qEF n=2):=rfl
   rw[q6,this,decide_eq_true_eq] at q4
   omega
  have hkne:∃ n1 k1 r1,k=cons n1 k1 r1:=by
   cases k with
   |nil=>simp[len] at hk2
   |cons n1 k1 r1=>exact ⟨n1,k1,r1,rfl⟩
  obtain ⟨n1,k1,r1,hke⟩:=hkne
  have hd:t.drop (i+1)=n1::(k1.flat++r1.flat++r.flat):=by
   rw[<-hf1,<-hFe,hke]
   simp only[app,flat,qWU,qZ1]
  obtain ⟨g1,g2⟩:=qWL (d:=qSE) hd
  have ho1:op1 k=n1.1:=by rw[hke];rfl
  rw[qBA (by omega),qZ0,g1]
  by_cases q7:n1.1=3
  ·rw[qDE q7]
   obtain ⟨b1,b2⟩:=hgood (fun h=>h.2 (by rw[ho1];exact q7))
   refine .inr ⟨_,_,b1,by simp[hP],b2,?_⟩
   rw[qEA,qBA (by omega),qBA (by omega),qBA (by omega),qEA,qBA (by omega),qBA (by omega),qBA (by simp[qXE];omega),hRt,hwm]
   rfl
  ·rw[qVE q7]
   refine .inl ⟨?_,_,rfl⟩
   rw[hbp,if_neg]
   rintro ⟨_,_,h⟩
   rw[hfirst,if_pos ⟨q6,by rw[ho1];exact q7⟩] at h
   exact h rfl
 ·rw[qDA q6]
  obtain ⟨b1,b2⟩:=hgood (fun h=>q6 h.1)
  refine .inr ⟨_,_,b1,by simp[hP],b2,?_⟩
  rw[qEA,qBA (by omega),qBA (by omega),qBA (by omega),qEA,qBA (by omega),qBA (by omega),qBA (by simp[qXE];omega),hRt,hwm]
  rfl
theorem qCaf {t:List Nod} (hs:qTQ t) (hl:t.length<=20000):∀ (j:Nat),j<=t.length->∀ (F:Tf) (P:List (Int×Sml)),bkp (t.drop j)=some F->P.length=t.length->P.drop j=info j F->
 (bkp t=none/\∃ v,qOA qJN (t,(none:Option qOQ),false,(t,P),rts j F,(j:Int) - 1,())=some (.ret,(t,(none:Option qOQ),false,v)))\/
 ∃ G,bkp t=some G/\qOA qJN (t,(none:Option qOQ),false,(t,P),rts j F,(j:Int) - 1,())=some (.exit 0,(t,(none:Option qOQ),false,(t,info 0 G),rts 0 G,-1,())):=by
 intro j
 induction j with
 |zero=>
  intro _ F P hF hP hPi
  refine .inr ⟨F,by simpa using hF,qWA ?_ (by simp)⟩
  unfold qJN
  simp only
  rw[qNA (by omega)]
  have e:P=info 0 F:=by simpa using hPi
  rw[e]
  rfl
 |succ j ih=>
  intro hj F P hF hP hPi
  have e:(((j+1:Nat):Int) - 1)=(j:Int):=by omega
  rw[e]
  rcases qRae hs hl (i:=j) (by omega) hF hP hPi with ⟨h1,v,h2⟩ | ⟨G,P',h1,h2,h3,h4⟩
  ·refine .inl ⟨?_,_,qWA h2 (by simp)⟩
   cases hb:bkp t with
   |none=>rfl
   |some f=>
    obtain ⟨g,hg⟩:=qUw j hb
    rw[h1] at hg;cases hg
  ·rw[qAB h4]
   exact ih (by omega) G P' h1 h2 h3
theorem qBaf {t:List Nod} (hs:qTQ t) (hl:t.length<=20000):qSs t=some ((match bkp t with | none=>(none,false,()) | some F=>(some (t,info 0 F),decide (F.len=1),())),()):=by
 unfold qSs
 have h:=qCaf hs hl t.length (Nat.le_refl _) nil (List.replicate t.length ((0:Int),(0:Int),(0:Int))) (by simp[bkp]) (by simp) (by simp[info])
 rw[qEA,qEA,qBA (by omega),qBA (by omega),qBA (by simp only[qXE];omega),qZ0,w64 (by omega)]
 simp only[rts] at h
 rcases h with ⟨h1,v,h2⟩ | ⟨G,h1,h2⟩
 ·rw[h2,h1]
  simp only[qAA,qCF,qBF,qPA,qBB]
 ·rw[h2,h1]
  simp only[qAA,qDC,qPA,qAU]
  have e:((G.len:Int)==1)=decide (G.len=1):=by
   have e:((G.len:Int)==1)=decide ((G.len:Int)=1):=rfl
   rw[e,decide_eq_decide];omega
  rw[e]
end Go.AM.Num
end
