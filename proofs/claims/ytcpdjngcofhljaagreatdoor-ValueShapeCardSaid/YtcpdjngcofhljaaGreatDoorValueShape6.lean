/- Law ValueShape of the values: a machine of plain values, what the program's functions compute in it, and what that is. No condition beyond what the statement says. -/
import Derived.Test.YtcpdjngcofhljaaGreatDoorValueShape5
import Derived.Lib.SlTrimSet
set_option linter.unusedSimpArgs false
set_option linter.unusedVariables false
section
set_option linter.unusedSimpArgs false
set_option linter.unusedVariables false
namespace Go.AM.Num
theorem qBaj (r:qBs) (c:UInt8):strings_CutPrefix (c::r) [c]=some ((r,true,()),()):=by
 simp[strings_CutPrefix,Lib.trimPrefix,Lib.hasPrefix]
theorem qUam {s:qBs} {c:UInt8} (h:∀ r,s≠c::r):strings_CutPrefix s [c]=some ((s,false,()),()):=by
 have hp:Lib.hasPrefix s [c]=false:=by
  unfold Lib.hasPrefix
  cases s with
  |nil=>rfl
  |cons b t=>
   simp only[List.isPrefixOf,Bool.and_true,beq_eq_false_iff_ne,ne_eq]
   rintro rfl
   exact h t rfl
 simp[strings_CutPrefix,Lib.trimPrefix,hp]
theorem qMz {x y:qBs} {c:UInt8} (hx:c∉x):Lib.index (x++c::y) [c]=x.length:=by
 induction x with
 |nil=>unfold Lib.index;simp[List.isPrefixOf]
 |cons b x ih=>
  have hb:(c==b)=false:=by rw[beq_eq_false_iff_ne];rintro rfl;exact hx List.mem_cons_self
  have:=ih fun h=>hx (qY13 _ h)
  simp only[qY5]
  unfold Lib.index
  simp only[List.isPrefixOf,hb,Bool.false_and,this]
  have h1:((x.length:Int)==-1)=false:=by rw[beq_eq_false_iff_ne];omega
  simp[h1]
theorem qDah {s:qBs} {c:UInt8} (hs:c∉s):Lib.index s [c]=-1:=by
 induction s with
 |nil=>rfl
 |cons b s ih=>
  have hb:(c==b)=false:=by rw[beq_eq_false_iff_ne];rintro rfl;exact hs List.mem_cons_self
  unfold Lib.index
  simp[List.isPrefixOf,hb,ih fun h=>hs (qY13 _ h)]
theorem qOo {x y:qBs} {c:UInt8} (hx:c∉x) (hl:(x++c::y).length<=1000000000):strings_Cut (x++c::y) [c]=some ((x,y,true,()),()):=by
 unfold strings_Cut
 rw[if_pos (by omega)]
 simp[Lib.cut,qMz hx]
theorem qNaa {s:qBs} {c:UInt8} (hs:c∉s) (hl:s.length<=1000000000):strings_Cut s [c]=some ((s,[],false,()),()):=by
 unfold strings_Cut
 rw[if_pos (by omega)]
 simp[Lib.cut,qDah hs]
theorem qVs (c:UInt8) (s:qBs):(∃ x y,s=x++c::y/\c∉x)\/c∉s:=by
 induction s with
 |nil=>exact .inr (by simp)
 |cons b s ih=>
  by_cases h:b=c
  ·subst h;exact .inl ⟨[],s,rfl,by simp⟩
  ·rcases ih with ⟨x,y,rfl,hx⟩ | hs
   ·refine .inl ⟨b::x,y,rfl,?_⟩
    intro hm
    rcases List.mem_cons.1 hm with rfl | hm
    ·exact h rfl
    ·exact hx hm
   ·refine .inr ?_
    intro hm
    rcases List.mem_cons.1 hm with rfl | hm
    ·exact h rfl
    ·exact hs hm
theorem qCag {s:qBs} {k:Nat} (h:k < s.length):(s.map (fun b=>(b.toNat:Int))).getD k 0=(s[k].toNat:Int):=by
 rw[qZ4,List.getElem?_map,qZ5 h];rfl
theorem qTn (s:qBs) (hl:s.length<=1000000000) :
 (qFJ s/\qLA qFF (s,false,s.map (fun b=>(b.toNat:Int)),(s.length:Int),0,())=some (Ex.exit 0,(s,false,s.map (fun b=>(b.toNat:Int)),(s.length:Int),(s.length:Int),())))\/
 (¬ qFJ s/\∃ i,qLA qFF (s,false,s.map (fun b=>(b.toNat:Int)),(s.length:Int),0,())=some (Ex.ret,(s,false,s.map (fun b=>(b.toNat:Int)),(s.length:Int),i,()))):=by
 obtain ⟨r,hr,hq⟩:=qCB (step:=qFF) (Q:=fun r=>(qFJ s/\r=(Ex.exit 0,(s,false,s.map (fun b=>(b.toNat:Int)),(s.length:Int),(s.length:Int),())))\/(¬ qFJ s/\∃ i,r=(Ex.ret,(s,false,s.map (fun b=>(b.toNat:Int)),(s.length:Int),i,()))))
  (fun m x=>∃ k:Nat,m+k=s.length/\x=(s,false,s.map (fun b=>(b.toNat:Int)),(s.length:Int),(k:Int),())/\qFJ (s.take k)) (by
   rintro m x ⟨k,hm,rfl,hd⟩
   by_cases hk:k < s.length
   ·have hg:=qCag hk
    have e:(k:Int).toNat=k:=by omega
    have hml:(s.map (fun b=>(b.toNat:Int))).length=s.length:=by simp
    have hmem:s[k]∈s:=List.getElem_mem hk
    by_cases h1:s[k].toNat < 48
    ·refine .inl ⟨_,?_,?_,.inr ⟨fun h=>?_,(k:Int),rfl⟩⟩
     ·simp (disch:=(first | omega | (simp only[lnn];omega))) only[qFF,e,hg,hml,stp]
     ·simp
     ·have:=(h _ hmem).1;omega
    ·by_cases h2:s[k].toNat > 57
     ·refine .inl ⟨_,?_,?_,.inr ⟨fun h=>?_,(k:Int),rfl⟩⟩
      ·simp (disch:=(first | omega | (simp only[lnn];omega))) only[qFF,e,hg,hml,stp]
      ·simp
      ·have:=(h _ hmem).2;omega
     ·refine .inr ⟨m - 1,_,?_,by omega,k+1,by omega,rfl,?_⟩
      ·simp (disch:=(first | omega | (simp only[lnn];omega))) only[qFF,e,hg,hml,stp]
       rfl
      ·rw[List.take_succ_eq_append_getElem hk]
       refine hd.app fun c hc=>?_
       rw[List.mem_singleton.1 hc]
       exact ⟨by omega,by omega⟩
   ·have hks:k=s.length:=by omega
    subst hks
    refine .inl ⟨_,?_,?_,.inl ⟨by simpa using hd,rfl⟩⟩
    ·simp (disch:=(first | omega | (simp only[lnn];omega))) only[qFF,stp]
    ·simp) s.length _ ⟨0,by omega,rfl,by simp[qFJ]⟩
 rcases hq with ⟨h,rfl⟩ | ⟨h,i,rfl⟩
 ·exact .inl ⟨h,hr⟩
 ·exact .inr ⟨h,i,hr⟩
theorem qVC {s t:qBs} (h:s=t):(s==t)=true:=by simpa using h
theorem qHC {s t:qBs} (h:s≠t):(s==t)=false:=by simpa using h
theorem qRA (s:qBs) (hl:s.length<=1000000000):qBJ s=some ((s==dd (dval s),()),()):=by
 unfold qBJ
 have hml:((s.map (fun b=>(b.toNat:Int))).length:Int)=(s.length:Int):=by simp
 rw[hml]
 rcases qTn s hl with ⟨hd,hr⟩ | ⟨hd,i,hr⟩
 ·simp (disch:=(first | omega | (simp only[lnn];omega))) only[hr,stp]
  by_cases h48:s=[48]
  ·subst h48
   rw[qVC rfl]
   have:([48]==dd (dval [48]))=true:=qVC (by rw[show dval [48]=0 from rfl,qWC])
   rw[this];rfl
  ·rw[qHC h48]
   cases s with
   |nil=>
    have:([]==dd (dval []))=false:=qHC (fun h=>qKb _ h.symm)
    rw[this];rfl
   |cons c t=>
    have hne:((c::t:qBs)==[])=false:=rfl
    rw[hne]
    simp only[qY1,qMA]
    simp (disch:=(first | omega | (simp only[lnn];omega))) only[stp]
    by_cases hc:c=48
    ·subst hc
     have:((48::t:qBs)==dd (dval (48::t)))=false:=qHC (fun h=>by
      by_cases h0:dval (48::t)=0
      ·rw[h0,qWC] at h;exact h48 h
      ·obtain ⟨c',s',e,_,hne'⟩:=qFq h0
       rw[e] at h
       simp only[List.cons.injEq] at h
       exact hne' h.1.symm)
     rw[this];rfl
    ·have:((c::t:qBs)==dd (dval (c::t)))=true:=qVC (qKag hd (by simp) (.inr (by simpa using hc)))
     rw[this]
     have hcn:((c.toNat:Int) !=48)=true:=by
      simp only[bne_iff_ne,ne_eq]
      intro e
      exact hc (UInt8.toNat_inj.1 (by show c.toNat=48;omega))
     show some (((((c::t).getD 0 0).toNat:Int) !=48,()),())=_
     rw[show ((c::t:qBs).getD 0 0)=c from rfl,hcn]
 ·simp (disch:=(first | omega | (simp only[lnn];omega))) only[hr,stp]
  have:(s==dd (dval s))=false:=qHC (fun h=>hd (h ▸ qMc _))
  rw[this]
end Go.AM.Num
end
section
set_option linter.unusedSimpArgs false
set_option linter.unusedVariables false
namespace Go.AM.Num
def rep (q:Rat):Bool×List Int×List Int:=(decide (q.num < 0),limbs q.num.natAbs,limbs q.den)
def sgn (neg:Bool):qBs:=if neg then [45] else []
theorem shape {neg:Bool} {s:qBs} {q:Rat} (hs:neg=false->∀ r,s≠45::r) (h:sgn neg++s=txt q):neg=decide (q.num < 0)/\s=dd q.num.natAbs++(if q.den=1 then [] else 47::dd q.den):=by
 unfold txt sgn at h
 cases neg with
 |true=>
  by_cases hq:q.num < 0
  ·rw[if_pos hq] at h
   simp only[if_true,List.singleton_append,qY5,qZ1,qY15,List.cons.injEq,true_and] at h
   exact ⟨(qZ10 hq).symm,h⟩
  ·rw[if_neg hq] at h
   simp only[if_true,List.singleton_append,qY15] at h
   exact absurd h.symm (qVi _ _ _)
 |false=>
  by_cases hq:q.num < 0
  ·rw[if_pos hq] at h
   simp only[Bool.false_eq_true,if_false,qY15,qY5,qZ1] at h
   exact absurd h (hs rfl _)
  ·rw[if_neg hq] at h
   simp only[Bool.false_eq_true,if_false,qY15] at h
   exact ⟨(qZ9 hq).symm,h⟩
theorem qDk (a:qBs):∃ neg s,strings_CutPrefix a [45]=some ((s,neg,()),())/\a=sgn neg++s/\(neg=false->∀ r,s≠45::r):=by
 by_cases h:∃ r,a=45::r
 ·obtain ⟨r,rfl⟩:=h
  exact ⟨true,r,qBaj r 45,rfl,fun h=>by cases h⟩
 ·have h':∀ r,a≠45::r:=fun r e=>h ⟨r,e⟩
  exact ⟨false,a,qUam h',rfl,fun _=>h'⟩
theorem qKZ (neg:Bool) (m d:Nat) (hd:d≠0) (hg:Nat.gcd m d=1):(mkRat (sg neg m) d).num=sg neg m/\(mkRat (sg neg m) d).den=d:=by
 rw[Rat.num_mkRat,Rat.den_mkRat,if_neg hd,if_neg hd,qNG,Nat.gcd_comm d m,hg]
 simp
theorem qWl {neg:Bool} {m d:Nat} (h:neg=true->m≠0):sgn neg++(dd m++(if d=1 then [] else 47::dd d))=tx neg m d:=by
 unfold sgn tx
 cases neg with
 |true=>simp[h rfl]
 |false=>simp
theorem qCe {neg:Bool} {m d:Nat} (hd:d≠0) (hg:Nat.gcd m d=1) (h:neg=true->m≠0):rep (mkRat (sg neg m) d)=(neg,limbs m,limbs d):=by
 obtain ⟨h1,h2⟩:=qKZ neg m d hd hg
 unfold rep
 rw[h1,h2,qNG]
 congr 1
 cases neg with
 |true=>exact qZ10 ((qIN _ _).2 ⟨rfl,h rfl⟩)
 |false=>exact qZ9 (fun e=>by simpa using ((qIN _ _).1 e).1)
theorem qTd (a:qBs) (hl:a.length<=10000000) :
 ∃ r ok,qQG a=some ((r,ok,()),())/\((ok=true/\∃ q,a=txt q/\r=rep q)\/(ok=false/\∀ q,a≠txt q)):=by
 obtain ⟨neg,s,hcp,ha,hs⟩:=qDk a
 have hsl:s.length<=10000000:=by rw[ha,qZ6] at hl;omega
 have shp:∀ q,a=txt q->neg=decide (q.num < 0)/\s=dd q.num.natAbs++(if q.den=1 then [] else 47::dd q.den):=fun q h=>shape hs (ha ▸ h)
 have o:∀ n,qDJ (limbs n)=some ((decide (n=1),()),()):=qAf
 rcases qVs 47 s with ⟨x,y,rfl,hx⟩ | hx
 ·have hxl:x.length<=10000000:=by rw[qZ6] at hsl;omega
  have hyl:y.length<=10000000:=by rw[qZ6,qY11] at hsl;omega
  have hcut:=qOo (y:=y) hx (by omega)
  have shp':∀ q,a=txt q->neg=decide (q.num < 0)/\q.den≠1/\x=dd q.num.natAbs/\y=dd q.den:=by
   intro q h
   obtain ⟨h1,h2⟩:=shp q h
   by_cases hd:q.den=1
   ·rw[if_pos hd,qY4] at h2
    exact absurd (show (47:UInt8)∈dd q.num.natAbs by rw[<-h2];simp) qAY
   ·rw[if_neg hd] at h2
    obtain ⟨e1,e2⟩:=qWe hx qAY h2
    exact ⟨h1,hd,e1,e2⟩
  by_cases hnx:x=dd (dval x)
  ·have hox:=qVC hnx
   by_cases h0:x=[48]
   ·refine ⟨(false,[],[]),false,?_,.inr ⟨rfl,fun q h=>?_⟩⟩
    ·unfold qQG
     simp (disch:=(first | omega | (simp only[lnn];omega))) only[hcp,hcut,qRA x (by omega),hox,qVC h0,stp]
     cases neg<;>rfl
    ·obtain ⟨_,h2,h3,_⟩:=shp' q h
     have hq0:q.num.natAbs=0:=qGQ (by rw[<-h3,h0,qWC])
     have:Nat.gcd q.num.natAbs q.den=1:=q.reduced
     rw[hq0,Nat.gcd_zero_left] at this
     exact h2 this
   ·have hno:=qGj (s:=x) (hnx ▸ qMc _) (by omega)
    have hm0:dval x≠0:=fun e=>h0 (by rw[hnx,e,qWC])
    by_cases hny:y=dd (dval y)
    ·by_cases hy0:y=[48]
     ·refine ⟨(false,[],[]),false,?_,.inr ⟨rfl,fun q h=>?_⟩⟩
      ·unfold qQG
       simp (disch:=(first | omega | (simp only[lnn];omega))) only[hcp,hcut,qRA x (by omega),hox,qHC h0,hno,qRA y (by omega),qVC hny,qVC hy0,stp]
      ·obtain ⟨_,h2,h3,h4⟩:=shp' q h
       exact q.den_nz (qGQ (by rw[<-h4,hy0,qWC]))
     ·by_cases hy1:y=[49]
      ·refine ⟨(false,[],[]),false,?_,.inr ⟨rfl,fun q h=>?_⟩⟩
       ·unfold qQG
        simp (disch:=(first | omega | (simp only[lnn];omega))) only[hcp,hcut,qRA x (by omega),hox,qHC h0,hno,qRA y (by omega),qVC hny,qHC hy0,qVC hy1,stp]
       ·obtain ⟨_,h2,h3,h4⟩:=shp' q h
        exact h2 (qGQ (by rw[<-h4,hy1,qFP]))
      ·have hno2:=qGj (s:=y) (hny ▸ qMc _) (by omega)
       have hd0:dval y≠0:=fun e=>hy0 (by rw[hny,e,qWC])
       have hd1:dval y≠1:=fun e=>hy1 (by rw[hny,e,qFP])
       have hg:=qTac (dval x) (dval y) (Nat.le_trans (qQJ _) (by rw[<-hnx];omega)) (Nat.le_trans (qQJ _) (by rw[<-hny];omega))
       refine ⟨(neg,limbs (dval x),limbs (dval y)),decide (Nat.gcd (dval x) (dval y)=1),?_,?_⟩
       ·unfold qQG
        simp (disch:=(first | omega | (simp only[lnn];omega))) only[hcp,hcut,qRA x (by omega),hox,qHC h0,hno,qRA y (by omega),qVC hny,qHC hy0,qHC hy1,hno2,hg,o,stp]
       ·by_cases hg1:Nat.gcd (dval x) (dval y)=1
        ·refine .inl ⟨qZ10 hg1,mkRat (sg neg (dval x)) (dval y),?_,(qCe hd0 hg1 (fun _=>hm0)).symm⟩
         rw[<-qFU neg _ _ hd0 hg1,<-qWl (fun _=>hm0),if_neg hd1,<-hnx,<-hny]
         exact ha
        ·refine .inr ⟨qZ9 hg1,fun q h=>?_⟩
         obtain ⟨_,h2,h3,h4⟩:=shp' q h
         rw[h3,h4,qEE,qEE] at hg1
         exact hg1 q.reduced
    ·refine ⟨(false,[],[]),false,?_,.inr ⟨rfl,fun q h=>?_⟩⟩
     ·unfold qQG
      simp (disch:=(first | omega | (simp only[lnn];omega))) only[hcp,hcut,qRA x (by omega),hox,qHC h0,hno,qRA y (by omega),qHC hny,stp]
     ·obtain ⟨_,h2,h3,h4⟩:=shp' q h
      exact hny (by rw[h4,qEE])
  ·refine ⟨(false,[],[]),false,?_,.inr ⟨rfl,fun q h=>?_⟩⟩
   ·unfold qQG
    simp (disch:=(first | omega | (simp only[lnn];omega))) only[hcp,hcut,qRA x (by omega),qHC hnx,stp]
   ·obtain ⟨_,h2,h3,h4⟩:=shp' q h
    exact hnx (by rw[h3,qEE])
 ·have hcut:=qNaa hx (by omega)
  have shp':∀ q,a=txt q->neg=decide (q.num < 0)/\q.den=1/\s=dd q.num.natAbs:=by
   intro q h
   obtain ⟨h1,h2⟩:=shp q h
   by_cases hd:q.den=1
   ·rw[if_pos hd,qY4] at h2
    exact ⟨h1,hd,h2⟩
   ·rw[if_neg hd] at h2
    exact absurd (by rw[h2];simp) hx
  by_cases hnx:s=dd (dval s)
  ·have hox:=qVC hnx
   have hno:=qGj (s:=s) (hnx ▸ qMc _) (by omega)
   have fin:(neg=true->dval s≠0)->a=txt (mkRat (sg neg (dval s)) 1)/\(neg,limbs (dval s),([1]:List Int))=rep (mkRat (sg neg (dval s)) 1):=by
    intro h
    constructor
    ·rw[<-qFU neg _ _ (by decide) (Nat.gcd_one_right _),<-qWl h]
     simp only[if_true,qY4]
     rw[<-hnx];exact ha
    ·rw[qCe (by decide) (Nat.gcd_one_right _) h,qUaa]
   by_cases h0:s=[48]
   ·cases hneg:neg with
    |true=>
     subst hneg
     refine ⟨(false,[],[]),false,?_,.inr ⟨rfl,fun q h=>?_⟩⟩
     ·unfold qQG
      simp (disch:=(first | omega | (simp only[lnn];omega))) only[hcp,hcut,qRA s (by omega),hox,qVC h0,stp]
     ·obtain ⟨h1,h2,h3⟩:=shp' q h
      have hq0:q.num.natAbs=0:=qGQ (by rw[<-h3,h0,qWC])
      have:=of_decide_eq_true h1.symm
      omega
    |false=>
     subst hneg
     obtain ⟨f1,f2⟩:=fin (fun h=>by cases h)
     refine ⟨_,true,?_,.inl ⟨rfl,_,f1,f2⟩⟩
     unfold qQG
     simp (disch:=(first | omega | (simp only[lnn];omega))) only[hcp,hcut,qRA s (by omega),hox,qVC h0,hno,stp]
   ·have hm0:dval s≠0:=fun e=>h0 (by rw[hnx,e,qWC])
    obtain ⟨f1,f2⟩:=fin (fun _=>hm0)
    refine ⟨_,true,?_,.inl ⟨rfl,_,f1,f2⟩⟩
    unfold qQG
    simp (disch:=(first | omega | (simp only[lnn];omega))) only[hcp,hcut,qRA s (by omega),hox,qHC h0,hno,stp]
  ·refine ⟨(false,[],[]),false,?_,.inr ⟨rfl,fun q h=>?_⟩⟩
   ·unfold qQG
    simp (disch:=(first | omega | (simp only[lnn];omega))) only[hcp,hcut,qRA s (by omega),qHC hnx,stp]
   ·obtain ⟨_,h2,h3⟩:=shp' q h
    exact hnx (by rw[h3,qEE])
end Go.AM.Num
end
section
set_option linter.unusedSimpArgs false
set_option linter.unusedVariables false
namespace Go.AM.Num
theorem qJl (M:Nat) (hM:1000000000000000000<=M) (s:qBs) (acc:Nat) (hd:qFJ s) (h:acc * 10 ^ s.length+dval s < 1000000000000000000):Lib.parseUintM M acc s=.ok (acc * 10 ^ s.length+dval s):=by
 induction s generalizing acc with
 |nil=>simp[Lib.parseUintM,dval]
 |cons c s ih=>
  have hc:=hd c (by simp)
  have hdc:c.toNat - 48=dig c:=rfl
  rw[qTK,qY11,Nat.pow_succ] at h ⊢
  have hp:1<=10 ^ s.length:=Nat.one_le_pow _ _ (by decide)
  have e:acc * (10 ^ s.length * 10)+(dig c * 10 ^ s.length+dval s)=(acc * 10+dig c) * 10 ^ s.length+dval s:=by grind
  rw[e] at h ⊢
  have h1:(acc * 10+dig c) * 1<=(acc * 10+dig c) * 10 ^ s.length:=Nat.mul_le_mul_left _ hp
  unfold Lib.parseUintM
  rw[if_pos ⟨hc.1,hc.2⟩,if_neg (by omega),hdc,if_neg (by omega)]
  exact ih (acc * 10+dig c) (fun x hx=>hd x (by simp[hx])) h
theorem qPV (n:Nat) (h:n < 1000000000):qGD (dd n) 10 64=some (((n:Int),false,()),()):=by
 have hl:(dd n).length<=9:=qUG (by simpa using h) (by decide)
 have hm:=qJl (2 ^ 64 - 1) (by decide) (dd n) 0 (qMc n) (by rw[qEE];omega)
 rw[qEE,Nat.zero_mul,Nat.zero_add] at hm
 unfold qGD
 rw[if_pos ⟨rfl,rfl,by omega⟩]
 have:Lib.parseIntB 64 (dd n)=.ok (n:Int):=by
  cases e:dd n with
  |nil=>exact absurd e (qKb n)
  |cons c r=>
   have hc:=qMc n c (by rw[e];simp)
   unfold Lib.parseIntB
   have h1:¬ (c.toNat=43\/c.toNat=45):=by have:=hc.1;omega
   have h2:¬ c.toNat=45:=by have:=hc.1;omega
   simp only[if_neg h1]
   unfold Lib.parseUintB
   rw[if_neg (by simp),<-e,hm]
   simp[h2]
   omega
 rw[this]
theorem qPh (m n:Nat):qJO (m:Int) (n:Int)=some ((((Nat.gcd m n:Nat):Int),()),()):=by
 obtain ⟨r,hr,b,rfl⟩:=qCB (step:=qEM) (Q:=fun r=>∃ b,r=(Ex.exit 0,(((Nat.gcd m n:Nat):Int),b,())))
  (fun k x=>∃ a b:Nat,x=((a:Int),(b:Int),())/\k=b/\Nat.gcd a b=Nat.gcd m n) (by
   rintro k x ⟨a,b,rfl,rfl,hg⟩
   by_cases h0:k=0
   ·subst h0
    refine .inl ⟨(Ex.exit 0,((a:Int),0,())),?_,by simp,0,?_⟩
    ·simp (disch:=(first | omega | (simp only[lnn];omega))) only[qEM,stp]
     rfl
    ·rw[<-hg,Nat.gcd_zero_right]
   ·refine .inr ⟨a % k,_,?_,Nat.mod_lt _ (by omega),k,a % k,rfl,rfl,?_⟩
    ·simp (disch:=(first | omega | (simp only[lnn];omega))) only[qEM,stp]
     rw[<-Int.natCast_emod]
    ·rw[Nat.gcd_comm,<-Nat.gcd_rec,Nat.gcd_comm,hg]) n _ ⟨m,n,rfl,rfl,rfl⟩
 unfold qJO
 rw[hr]
 simp (disch:=(first | omega | (simp only[lnn];omega))) only[stp]
def qHk (a:qBs) (r:Int×Int):Prop:=∃ q,a=txt q/\r=(q.num,(q.den:Int))/\q.num.natAbs < 1000000000/\q.den < 1000000000
theorem qIa {n:Nat} (h:(dd n).length<=9):n < 1000000000:=by
 have:=qIM n
 have h2:10 ^ (dd n).length<=10 ^ 9:=Nat.pow_le_pow_right (by decide) h
 omega
theorem qHa (a:qBs) (hl:a.length<=10000000):∃ r ok,qLB a=some ((r,ok,()),())/\(ok=true->qHk a r):=by
 obtain ⟨neg,s,hcp,ha,hs⟩:=qDk a
 have hsl:s.length<=10000000:=by rw[ha,qZ6] at hl;omega
 have nope:∀ (r:Int×Int),qLB a=some ((r,false,()),())->∃ r ok,qLB a=some ((r,ok,()),())/\(ok=true->qHk a r):=fun r h=>⟨r,false,h,fun h=>by cases h⟩
 rcases qVs 47 s with ⟨x,y,rfl,hx⟩ | hx
 ·have hxl:x.length<=10000000:=by rw[qZ6] at hsl;omega
  have hyl:y.length<=10000000:=by rw[qZ6,qY11] at hsl;omega
  have hcut:=qOo (y:=y) hx (by omega)
  by_cases h9:x.length<=9
  ·by_cases hy9:y.length<=9
   ·by_cases hnx:x=dd (dval x)
    ·have hox:=qVC hnx
     by_cases h0:x=[48]
     ·refine nope (0,0) ?_
      unfold qLB
      simp (disch:=(first | omega | (simp only[lnn];omega))) only[hcp,hcut,qRA x (by omega),hox,qVC h0,stp]
      cases neg<;>rfl
     ·have hm0:dval x≠0:=fun e=>h0 (by rw[hnx,e,qWC])
      have hmB:dval x < 1000000000:=qIa (by rw[<-hnx];exact h9)
      have hp:=qPV (dval x) hmB
      rw[<-hnx] at hp
      by_cases hny:y=dd (dval y)
      ·have hdB:dval y < 1000000000:=qIa (by rw[<-hny];exact hy9)
       have hpy:=qPV (dval y) hdB
       rw[<-hny] at hpy
       by_cases h2:dval y < 2
       ·refine nope (0,0) ?_
        unfold qLB
        simp (disch:=(first | omega | (simp only[lnn];omega))) only[hcp,hcut,qRA x (by omega),hox,qHC h0,hp,qRA y (by omega),qVC hny,hpy,stp]
       ·have hdv:=qPh (dval x) (dval y)
        by_cases hg:Nat.gcd (dval x) (dval y)=1
        ·have hd0:dval y≠0:=by omega
         obtain ⟨e1,e2⟩:=qKZ neg (dval x) (dval y) hd0 hg
         have hsm:qHk a (sg neg (dval x),((dval y:Nat):Int)):=by
          refine ⟨mkRat (sg neg (dval x)) (dval y),?_,by rw[e1,e2],by rw[e1,qNG];exact hmB,by rw[e2];exact hdB⟩
          rw[<-qFU neg _ _ hd0 hg,<-qWl (fun _=>hm0),if_neg (by omega),<-hnx,<-hny]
          exact ha
         rw[hg] at hdv
         cases neg with
         |true=>
          refine ⟨_,true,?_,fun _=>hsm⟩
          unfold qLB
          simp (disch:=(first | omega | (simp only[lnn];omega))) only[hcp,hcut,qRA x (by omega),hox,qHC h0,hp,qRA y (by omega),qVC hny,hpy,hdv,stp]
          simp[sg]
         |false=>
          refine ⟨_,true,?_,fun _=>hsm⟩
          unfold qLB
          simp (disch:=(first | omega | (simp only[lnn];omega))) only[hcp,hcut,qRA x (by omega),hox,qHC h0,hp,qRA y (by omega),qVC hny,hpy,hdv,stp]
          simp[sg]
        ·refine nope (0,0) ?_
         unfold qLB
         simp (disch:=(first | omega | (simp only[lnn];omega))) only[hcp,hcut,qRA x (by omega),hox,qHC h0,hp,qRA y (by omega),qVC hny,hpy,hdv,stp]
      ·refine nope (0,0) ?_
       unfold qLB
       simp (disch:=(first | omega | (simp only[lnn];omega))) only[hcp,hcut,qRA x (by omega),hox,qHC h0,hp,qRA y (by omega),qHC hny,stp]
    ·refine nope (0,0) ?_
     unfold qLB
     simp (disch:=(first | omega | (simp only[lnn];omega))) only[hcp,hcut,qRA x (by omega),qHC hnx,stp]
   ·refine nope (0,0) ?_
    unfold qLB
    simp (disch:=(first | omega | (simp only[lnn];omega))) only[hcp,hcut,stp]
  ·refine nope (0,0) ?_
   unfold qLB
   simp (disch:=(first | omega | (simp only[lnn];omega))) only[hcp,hcut,stp]
 ·have hcut:=qNaa hx (by omega)
  have hnil:(([]:qBs).length:Int)=0:=rfl
  by_cases h9:s.length<=9
  ·by_cases hnx:s=dd (dval s)
   ·have hox:=qVC hnx
    have hmB:dval s < 1000000000:=qIa (by rw[<-hnx];exact h9)
    have hp:=qPV (dval s) hmB
    rw[<-hnx] at hp
    have fin:(neg=true->dval s≠0)->qHk a (sg neg (dval s),1):=by
     intro h
     obtain ⟨e1,e2⟩:=qKZ neg (dval s) 1 (by decide) (Nat.gcd_one_right _)
     refine ⟨mkRat (sg neg (dval s)) 1,?_,by rw[e1,e2];rfl,by rw[e1,qNG];exact hmB,by rw[e2];decide⟩
     rw[<-qFU neg _ _ (by decide) (Nat.gcd_one_right _),<-qWl h]
     simp only[if_true,qY4]
     rw[<-hnx];exact ha
    by_cases h0:s=[48]
    ·cases neg with
     |true=>
      refine nope (0,0) ?_
      unfold qLB
      simp (disch:=(first | omega | (simp only[lnn];omega))) only[hcp,hcut,hnil,qRA s (by omega),hox,qVC h0,stp]
     |false=>
      refine ⟨_,true,?_,fun _=>fin (fun h=>by cases h)⟩
      unfold qLB
      simp (disch:=(first | omega | (simp only[lnn];omega))) only[hcp,hcut,hnil,qRA s (by omega),hox,qVC h0,hp,stp]
      simp[sg]
    ·have hm0:dval s≠0:=fun e=>h0 (by rw[hnx,e,qWC])
     cases neg with
     |true=>
      refine ⟨_,true,?_,fun _=>fin (fun _=>hm0)⟩
      unfold qLB
      simp (disch:=(first | omega | (simp only[lnn];omega))) only[hcp,hcut,hnil,qRA s (by omega),hox,qHC h0,hp,stp]
      simp[sg]
     |false=>
      refine ⟨_,true,?_,fun _=>fin (fun _=>hm0)⟩
      unfold qLB
      simp (disch:=(first | omega | (simp only[lnn];omega))) only[hcp,hcut,hnil,qRA s (by omega),hox,qHC h0,hp,stp]
      simp[sg]
   ·refine nope (0,0) ?_
    unfold qLB
    simp (disch:=(first | omega | (simp only[lnn];omega))) only[hcp,hcut,hnil,qRA s (by omega),qHC hnx,stp]
  ·refine nope (0,0) ?_
   unfold qLB
   simp (disch:=(first | omega | (simp only[lnn];omega))) only[hcp,hcut,stp]
theorem qZam (neg:Bool) (m:Nat):Lib.itoa (sg neg m)=(if neg=true/\m≠0 then [45] else [])++dd m:=by
 unfold Lib.itoa
 by_cases h:sg neg m < 0
 ·rw[if_pos h,if_pos ((qIN _ _).1 h),qNG];rfl
 ·rw[if_neg h,if_neg (fun e=>h ((qIN _ _).2 e))]
  have:(sg neg m).toNat=m:=by have:=qNG neg m;omega
  rw[this];rfl
theorem qSx {n:Int} (h:n.natAbs < 9000000000000000000):qNv n:=⟨by omega,by omega⟩
theorem qQaj (neg:Bool) (m:Nat) (h:m < 9000000000000000000):qEC (sg neg m) 10=some (((if neg=true/\m≠0 then [45] else [])++dd m,()),()):=by
 unfold qEC
 rw[if_pos ⟨qSx (by rw[qNG];exact h),rfl⟩,qZam]
theorem qTak (m:Nat) (h:m < 9000000000000000000):qEC (m:Int) 10=some ((dd m,()),()):=by
 have:=qQaj false m h
 simpa [sg] using this
theorem qWam (neg:Bool) (m g:Nat):(sg neg m).tdiv (g:Int)=sg neg (m / g):=by
 cases neg with
 |false=>simp only[sg,Bool.false_eq_true,if_false];rw[Int.tdiv_eq_ediv_of_nonneg (by omega),Int.natCast_ediv]
 |true=>simp only[sg,if_true];rw[Int.neg_tdiv,Int.tdiv_eq_ediv_of_nonneg (by omega),Int.natCast_ediv]
theorem qZai (n:Int):qFZ n (0 - n)=(n.natAbs:Int):=by rw[qOc];split<;>omega
theorem qEu (neg:Bool) (m:Nat):-(m:Int)<=sg neg m/\sg neg m<=m:=by cases neg<;>simp[sg]<;>omega
theorem qOap (n:Int):n=sg (decide (n < 0)) n.natAbs:=by
 unfold sg
 by_cases h:n < 0
 ·rw[qZ10 h];simp;omega
 ·rw[qZ9 h];simp;omega
theorem qIB:qXF=1152921504606846976:=rfl
theorem qSao (p:Prop) [Decidable p]:(if p then [(45:UInt8)] else []).length<=1:=by split<;>simp
theorem qOu (neg:Bool) (m d:Nat) (hd:d≠0) (hm:m < 9000000000000000000) (hdB:d < 9000000000000000000) :
 qIL (sg neg m) (d:Int)=some ((txt (mkRat (sg neg m) d),()),()):=by
 have hg0:Nat.gcd m d≠0:=fun e=>hd (Nat.gcd_eq_zero_iff.1 e).2
 have hdv:=qPh m d
 obtain ⟨b1,b2⟩:=qEu neg m
 have hmx:qFZ (sg neg m) (0 - sg neg m)=(m:Int):=by rw[qZai,qNG]
 have hn1:=Nat.div_le_self m (Nat.gcd m d)
 have hn2:=Nat.div_le_self d (Nat.gcd m d)
 obtain ⟨c1,c2⟩:=qEu neg (m / Nat.gcd m d)
 have f1:=qQaj neg (m / Nat.gcd m d) (by omega)
 have f2:=qTak (d / Nat.gcd m d) (by omega)
 have hdt:((d:Int)).tdiv ((Nat.gcd m d:Nat):Int)=((d / Nat.gcd m d:Nat):Int):=by rw[Int.tdiv_eq_ediv_of_nonneg (by omega),Int.natCast_ediv]
 have hdt2:(d:Int) / ((Nat.gcd m d:Nat):Int)=((d / Nat.gcd m d:Nat):Int):=(Int.natCast_ediv _ _).symm
 have hl1:(dd (m / Nat.gcd m d)).length<=19:=qUG (by omega) (by decide)
 have hl2:(dd (d / Nat.gcd m d)).length<=19:=qUG (by omega) (by decide)
 rw[<-qSW neg m d hd]
 unfold tx
 have hnum:=qWam neg m (Nat.gcd m d)
 obtain ⟨pre,hpre⟩:∃ pre:qBs,pre=(if neg=true/\m / Nat.gcd m d≠0 then [45] else []):=⟨_,rfl⟩
 have hprel:pre.length<=1:=by rw[hpre];exact qSao _
 rw[<-hpre] at f1 ⊢
 unfold qIL
 by_cases h1:d / Nat.gcd m d=1
 ·rw[if_pos h1]
  rw[h1] at hdt hdt2
  simp (disch:=(first | omega | (simp only[lnn];omega))) only[hmx,hdv,hnum,f1,hdt,hdt2,stp]
  simp
 ·have hq0:0 < d / Nat.gcd m d:=Nat.div_pos (Nat.le_of_dvd (by omega) (Nat.gcd_dvd_right m d)) (by omega)
  rw[if_neg h1]
  have g1:([47]:qBs).length+(dd (d / Nat.gcd m d)).length<=qXF:=by rw[qIB];simp;omega
  have g2:(pre++dd (m / Nat.gcd m d)).length+(([47]:qBs)++dd (d / Nat.gcd m d)).length<=qXF:=by rw[qIB];simp;omega
  simp (disch:=(first | omega | (simp only[lnn];omega))) only[hmx,hdv,hnum,f1,hdt,hdt2,f2,qBA g1,qBA g2,stp]
  simp
theorem qGan (n d:Int) (hd:d≠0) (hn:n.natAbs < 9000000000000000000) (hdB:d.natAbs < 9000000000000000000) :
 qIL n d=some ((txt (Rat.divInt n d),()),()):=by
 by_cases h:d < 0
 ·have h1:=qOu (decide (-n < 0)) n.natAbs d.natAbs (by omega) hn hdB
  have e1:sg (decide (-n < 0)) n.natAbs=-n:=by have:=qOap (-n);rw[Int.natAbs_neg] at this;exact this.symm
  rw[e1] at h1
  have e2:(d.natAbs:Int)=-d:=by omega
  rw[e2] at h1
  have e3:Rat.divInt n d=mkRat (-n) d.natAbs:=by rw[<-Rat.neg_divInt_neg,<-e2,Rat.divInt_ofNat]
  rw[e3,<-h1]
  have w1:qI (0 - n)=0 - n:=w64 (by omega)
  have w2:qI (0 - d)=0 - d:=w64 (by omega)
  unfold qIL
  rw[w1,w2,show (0:Int) - n=-n by omega,show (0:Int) - d=-d by omega,qEA h,qIA (by omega)]
 ·have h1:=qOu (decide (n < 0)) n.natAbs d.natAbs (by omega) hn hdB
  rw[<-qOap n] at h1
  have e2:(d.natAbs:Int)=d:=by omega
  rw[<-Rat.divInt_ofNat,e2] at h1
  exact h1
end Go.AM.Num
end
section
set_option linter.unusedSimpArgs false
set_option linter.unusedVariables false
namespace Go.AM.Num
theorem qSo (neg:Bool) (m d:Nat) (hm:(dd m).length<=100000000) (hd:(dd d).length<=100000000):qSJ (neg,limbs m,limbs d)=some ((tx neg m d,()),()):=by
 have tm':=qGz m (by have:=qQJ m;omega)
 have td':=qGz d (by have:=qQJ d;omega)
 have o:=qAf d
 have h1:([45]:qBs).length+(dd m).length<=qXF:=by rw[qIB];simp;omega
 have h2:([47]:qBs).length+(dd d).length<=qXF:=by rw[qIB];simp;omega
 have h3:(([45]:qBs)++dd m).length+(([47]:qBs)++dd d).length<=qXF:=by rw[qIB];simp;omega
 have h4:(dd m).length+(([47]:qBs)++dd d).length<=qXF:=by rw[qIB];simp;omega
 have hl0:¬ ((limbs 0).length:Int) > 0:=by rw[limbs_zero];simp
 unfold qSJ tx
 cases neg with
 |true=>
  by_cases hm0:m=0
  ·subst hm0
   by_cases h:d=1
   ·subst h
    simp (disch:=(first | omega | (simp only[lnn];omega))) only[tm',td',qAf 1,qIA hl0,decide_true,stp]
    simp
   ·simp (disch:=(first | omega | (simp only[lnn];omega))) only[tm',td',o,qIA hl0,qZ9 h,qBA h2,qBA h4,stp]
    simp[h]
  ·have hl:((limbs m).length:Int) > 0:=by
    have:(limbs m).length≠0:=fun e=>hm0 (limbs_nil.1 (List.eq_nil_of_length_eq_zero e))
    omega
   by_cases h:d=1
   ·subst h
    simp (disch:=(first | omega | (simp only[lnn];omega))) only[tm',td',qAf 1,qEA hl,decide_true,qBA h1,stp]
    simp[hm0]
   ·simp (disch:=(first | omega | (simp only[lnn];omega))) only[tm',td',o,qEA hl,qZ9 h,qBA h1,qBA h2,qBA h3,stp]
    simp[h,hm0]
 |false=>
  by_cases h:d=1
  ·subst h
   simp (disch:=(first | omega | (simp only[lnn];omega))) only[tm',td',qAf 1,decide_true,stp]
   simp
  ·simp (disch:=(first | omega | (simp only[lnn];omega))) only[tm',td',o,qZ9 h,qBA h2,qBA h4,stp]
   simp[h]
def Is (r:Bool×List Int×List Int) (q:Rat):Prop:=∃ neg m d,r=(neg,limbs m,limbs d)/\tx neg m d=txt q/\(dd m).length<=100000000/\(dd d).length<=100000000
theorem Is.text {r:Bool×List Int×List Int} {q:Rat} (h:Is r q):qSJ (r.1,r.2.1,r.2.2)=some ((txt q,()),()):=by
 obtain ⟨neg,m,d,rfl,h1,h2,h3⟩:=h
 rw[qSo neg m d h2 h3,h1]
theorem qAd (neg:Bool) (m d:Nat) (hd:d≠0) (hm:(dd m).length<=100000000) (hdl:(dd d).length<=100000000) :
 ∃ r,qMP neg (limbs m) (limbs d)=some ((r,()),())/\Is r (mkRat (sg neg m) d):=
 ⟨_,qJaa neg m d hd (Nat.le_trans (qQJ _) hm) (Nat.le_trans (qQJ _) hdl),neg,_,_,rfl,qSW neg m d hd,
  Nat.le_trans (qBB (Nat.div_le_self _ _)) hm,Nat.le_trans (qBB (Nat.div_le_self _ _)) hdl⟩
theorem qSO (q:Rat):(dd q.num.natAbs).length<=D q:=by unfold D;omega
theorem qUM (q:Rat):(dd q.den).length<=D q:=by unfold D;omega
theorem qFu (p q:Rat):p+q=mkRat (sg (decide (p.num < 0)) (p.num.natAbs * q.den)+sg (decide (q.num < 0)) (q.num.natAbs * p.den)) (p.den * q.den):=by
 rw[Rat.add_def']
 congr 1
 have h1:=qQu (decide (p.num < 0)) false p.num.natAbs q.den
 have h2:=qQu (decide (q.num < 0)) false q.num.natAbs p.den
 rw[qWc] at h1 h2
 simp only[Bool.bne_false] at h1 h2
 rw[<-h1,<-h2];rfl
theorem radd (p q:Rat) (h:D p+D q<=10000000):∃ r,qQX (rep p) (rep q)=some ((r,()),())/\Is r (p+q):=by
 have a1:=qSO p
 have a2:=qUM p
 have a3:=qSO q
 have a4:=qUM q
 have b1:=qSB p.num.natAbs q.den
 have b2:=qSB q.num.natAbs p.den
 have b3:=qSB p.den q.den
 have b4:=qGU (p.num.natAbs * q.den) (q.num.natAbs * p.den)
 have b5:=qBB (Nat.sub_le (p.num.natAbs * q.den) (q.num.natAbs * p.den))
 have b6:=qBB (Nat.sub_le (q.num.natAbs * p.den) (p.num.natAbs * q.den))
 have L:=qQJ
 have m1:=qQae p.num.natAbs q.den (by have:=L p.num.natAbs;omega) (by have:=L q.den;omega)
 have m2:=qQae q.num.natAbs p.den (by have:=L q.num.natAbs;omega) (by have:=L p.den;omega)
 have m3:=qQae p.den q.den (by have:=L p.den;omega) (by have:=L q.den;omega)
 have hd0:p.den * q.den≠0:=Nat.mul_ne_zero p.den_nz q.den_nz
 obtain ⟨x,hx⟩:∃ x,x=p.num.natAbs * q.den:=⟨_,rfl⟩
 obtain ⟨y,hy⟩:∃ y,y=q.num.natAbs * p.den:=⟨_,rfl⟩
 have hf:=qFu p q
 rw[<-hx] at b1 b4 b5 b6 m1 hf
 rw[<-hy] at b2 b4 b5 b6 m2 hf
 have Lx:=L x
 have Ly:=L y
 rw[hf]
 obtain ⟨n1,hn1⟩:∃ n,n=decide (p.num < 0):=⟨_,rfl⟩
 obtain ⟨n2,hn2⟩:∃ n,n=decide (q.num < 0):=⟨_,rfl⟩
 unfold qQX rep
 rw[<-hn1,<-hn2]
 by_cases hs:n1=n2
 ·subst hs
  have e:sg n1 x+sg n1 y=sg n1 (x+y):=by cases n1<;>simp[sg];omega
  rw[e]
  obtain ⟨r,hr,hi⟩:=qAd n1 (x+y) (p.den * q.den) hd0 (by omega) (by omega)
  refine ⟨r,?_,hi⟩
  simp (disch:=(first | omega | (simp only[lnn];omega))) only[m1,m2,m3,qUao x y (by omega) (by omega),hr,beq_self_eq_true,stp]
 ·have hsb:(n1==n2)=false:=by simpa using hs
  obtain ⟨c,hc,hc1,hc2⟩:=qYaj x y (by omega) (by omega)
  by_cases hle:y<=x
  ·have hc0:c>=0:=by
    rcases Int.lt_or_le c 0 with h | h
    ·have:=hc1.1 h;omega
    ·exact h
   have e:sg n1 x+sg n2 y=sg n1 (x - y):=by cases n1<;>cases n2<;>simp_all [sg]<;>omega
   rw[e]
   obtain ⟨r,hr,hi⟩:=qAd n1 (x - y) (p.den * q.den) hd0 (by omega) (by omega)
   refine ⟨r,?_,hi⟩
   simp (disch:=(first | omega | (simp only[lnn];omega))) only[m1,m2,m3,hsb,hc,qMaj x y (by omega) hle,hr,stp]
  ·have hc0:¬ c>=0:=by have:=hc1.2 (by omega);omega
   have e:sg n1 x+sg n2 y=sg n2 (y - x):=by cases n1<;>cases n2<;>simp_all [sg]<;>omega
   rw[e]
   obtain ⟨r,hr,hi⟩:=qAd n2 (y - x) (p.den * q.den) hd0 (by omega) (by omega)
   refine ⟨r,?_,hi⟩
   simp (disch:=(first | omega | (simp only[lnn];omega))) only[m1,m2,m3,hsb,hc,qMaj y x (by omega) (by omega),hr,stp]
theorem qPaf (q:Rat) (h:q≠0):q⁻¹=mkRat (sg (decide (q.num < 0)) q.den) q.num.natAbs:=by
 have hn:q.num≠0:=fun e=>h (Rat.num_eq_zero.1 e)
 rw[Rat.inv_def]
 by_cases hs:q.num < 0
 ·rw[qZ10 hs,<-Rat.neg_divInt_neg]
  have e:-q.num=(q.num.natAbs:Int):=by omega
  rw[e,Rat.divInt_ofNat];rfl
 ·rw[qZ9 hs]
  have e:q.num=(q.num.natAbs:Int):=by omega
  conv=>lhs;rw[e]
  rw[Rat.divInt_ofNat];rfl
end Go.AM.Num
end
section
set_option linter.unusedSimpArgs false
set_option linter.unusedVariables false
namespace Go.AM.Num
noncomputable def bin (f:Rat->Rat->qBs) (a b:qBs):qBs:=
 match rd a,rd b with
 |some p,some q=>f p q
 |_,_=>[]
theorem qIW (f:Rat->Rat->qBs) (p q:Rat):bin f (txt p) (txt q)=f p q:=by unfold bin;rw[qIK,qIK]
theorem qWag {f:Rat->Rat->qBs} {a b:qBs} (h:rd a=none):bin f a b=[]:=by unfold bin;rw[h]
theorem qJv {f:Rat->Rat->qBs} {a b:qBs} (h:rd b=none):bin f a b=[]:=by
 unfold bin;rw[h];cases rd a<;>rfl
theorem qQU {q:Rat} {n:Nat} (h:(txt q).length<=n):D q<=n+1:=by have:=D_le q;omega
theorem qXZ {a b:Nat} (ha:a < 1000000000) (hb:b < 1000000000):a * b<=999999998000000001:=by
 have h1:a * b<=999999999 * b:=Nat.mul_le_mul_right _ (by omega)
 omega
section
variable {a b:qBs}
theorem qEan (p q:Rat) (h1:p.num.natAbs < 1000000000) (h2:p.den < 1000000000) (h3:q.num.natAbs < 1000000000) (h4:q.den < 1000000000) :
 qLd (p.num,(p.den:Int)) (q.num,(q.den:Int))=some ((txt (p+q),()),()):=by
 have e1:=qXZ h1 h4
 have e2:=qXZ h3 h2
 have e3:=qXZ h2 h4
 have f1:(p.num * q.den).natAbs=p.num.natAbs * q.den:=by rw[Int.natAbs_mul,Int.natAbs_natCast]
 have f2:(q.num * p.den).natAbs=q.num.natAbs * p.den:=by rw[Int.natAbs_mul,Int.natAbs_natCast]
 have f3:((p.den:Int) * q.den).natAbs=p.den * q.den:=by rw[Int.natAbs_mul,Int.natAbs_natCast,Int.natAbs_natCast]
 have hd:p.den * q.den≠0:=Nat.mul_ne_zero p.den_nz q.den_nz
 have hfr:=qGan (p.num * q.den+q.num * p.den) ((p.den:Int) * q.den) (by omega) (by omega) (by omega)
 rw[<-Int.natCast_mul,Rat.divInt_ofNat,<-Rat.add_def',Int.natCast_mul] at hfr
 unfold qLd
 simp (disch:=(first | omega | (simp only[lnn];omega))) only[hfr,stp]
theorem qXam {f:Rat->Rat->Rat} {F1:Int×Int->Int×Int->Option ((qBs×Unit)×Unit)} {F2:Bool×List Int×List Int->Bool×List Int×List Int->Option ((qBs×Unit)×Unit)}
 {two:qBs->qBs->Unit->Unit->Option ((qBs×Unit)×Unit)}
 (htwo:∀ a b r1 k1 r2 k2,qLB a=some ((r1,k1,()),())->qLB b=some ((r2,k2,()),())->
  (k1=true->k2=true->∀ t,F1 r1 r2=some ((t,()),())->two a b () ()=some ((t,()),()))/\
  ((k1=false\/k2=false)->∀ s1 o1 s2 o2,qQG a=some ((s1,o1,()),())->qQG b=some ((s2,o2,()),())->
   ((o1=false\/o2=false)->two a b () ()=some (([],()),()))/\(o1=true->o2=true->∀ t,F2 s1 s2=some ((t,()),())->two a b () ()=some ((t,()),()))))
 (ok:Rat->Prop)
 (h1:∀ p q:Rat,ok q->p.num.natAbs < 1000000000->p.den < 1000000000->q.num.natAbs < 1000000000->q.den < 1000000000->F1 (p.num,(p.den:Int)) (q.num,(q.den:Int))=some ((txt (f p q),()),()))
 (h2:∀ p q:Rat,ok q->D p+D q<=10000000->F2 (rep p) (rep q)=some ((txt (f p q),()),()))
 (ha:a.length<=3000000) (hb:b.length<=3000000) (hok:∀ q,b=txt q->ok q):two a b () ()=some ((bin (fun p q=>txt (f p q)) a b,()),()):=by
 obtain ⟨r1,k1,e1,s1⟩:=qHa a (by omega)
 obtain ⟨r2,k2,e2,s2⟩:=qHa b (by omega)
 obtain ⟨t1,t2⟩:=htwo a b r1 k1 r2 k2 e1 e2
 by_cases hk:k1=true/\k2=true
 ·obtain ⟨p,rfl,rfl,b1,b2⟩:=s1 hk.1
  obtain ⟨q,rfl,rfl,b3,b4⟩:=s2 hk.2
  rw[qIW]
  exact t1 hk.1 hk.2 _ (h1 p q (hok q rfl) b1 b2 b3 b4)
 ·obtain ⟨r,o1,e3,q1⟩:=qTd a (by omega)
  obtain ⟨r',o2,e4,q2⟩:=qTd b (by omega)
  have hk':k1=false\/k2=false:=by
   rcases Bool.eq_false_or_eq_true k1 with h | h
   ·rcases Bool.eq_false_or_eq_true k2 with h' | h'
    ·exact absurd ⟨h,h'⟩ hk
    ·exact .inr h'
   ·exact .inl h
  obtain ⟨u1,u2⟩:=t2 hk' r o1 r' o2 e3 e4
  rcases q1 with ⟨rfl,p,rfl,rfl⟩ | ⟨rfl,hn⟩
  ·rcases q2 with ⟨rfl,q,rfl,rfl⟩ | ⟨rfl,hn⟩
   ·rw[qIW]
    exact u2 rfl rfl _ (h2 p q (hok q rfl) (by have:=qQU ha;have:=qQU hb;omega))
   ·rw[qJv (qEd hn)]
    exact u1 (.inr rfl)
  ·rw[qWag (qEd hn)]
   exact u1 (.inl rfl)
theorem qNaj (ha:a.length<=3000000) (hb:b.length<=3000000):qPae a b=some ((bin (fun p q=>txt (p+q)) a b,()),()):=by
 have:=qXam (f:=(·+·)) (F1:=qLd) (F2:=qEf) (two:=qUC) (a:=a) (b:=b) (by
  intro a b r1 k1 r2 k2 e1 e2
  constructor
  ·rintro rfl rfl t ht
   unfold qUC
   simp (disch:=(first | omega | (simp only[lnn];omega))) only[e1,e2,ht,stp]
  ·intro hk s1 o1 s2 o2 e3 e4
   constructor
   ·intro ho
    unfold qUC
    cases k1<;>cases k2<;>cases o1<;>cases o2<;>simp_all [cond]
   ·rintro rfl rfl t ht
    unfold qUC
    cases k1<;>cases k2<;>simp_all [cond]) (fun _=>True) (fun p q _=>qEan p q) (fun p q _ h=>by
  obtain ⟨r,hr,hi⟩:=radd p q h
  unfold qEf
  simp (disch:=(first | omega | (simp only[lnn];omega))) only[hr,hi.text,stp]) ha hb (fun _ _=>trivial)
 unfold qPae
 rw[this];rfl
theorem txt_zero:txt 0=[48]:=by unfold txt;simp[qWC]
noncomputable def qdiv (p q:Rat):qBs:=if q=0 then [] else txt (p / q)
end
theorem qKY {a:qBs} (ha:a.length<=10000000):qVP a=some (((rd a).isSome,()),()):=by
 obtain ⟨r1,k1,e1,s1⟩:=qHa a ha
 unfold qVP
 cases k1 with
 |true=>
  obtain ⟨p,rfl,rfl,b1,b2⟩:=s1 rfl
  simp (disch:=(first | omega | (simp only[lnn];omega))) only[e1,stp]
  rw[qIK];rfl
 |false=>
  obtain ⟨r,o1,e3,q1⟩:=qTd a ha
  rcases q1 with ⟨rfl,p,rfl,rfl⟩ | ⟨rfl,hn⟩
  ·simp (disch:=(first | omega | (simp only[lnn];omega))) only[e1,e3,stp]
   rw[qIK];rfl
  ·simp (disch:=(first | omega | (simp only[lnn];omega))) only[e1,e3,stp]
   rw[qEd hn];rfl
noncomputable def qGa (a:qBs):Int:=match rd a with | some q=>q.num.sign | none=>0
theorem qJu (q:Rat):(q.num < 0->∃ s,txt q=45::s)/\(0 < q.num->∃ c s,txt q=c::s/\c≠45):=by
 unfold txt
 constructor
 ·intro h;rw[if_pos h];exact ⟨_,rfl⟩
 ·intro h
  rw[if_neg (by omega)]
  obtain ⟨c,s,e,hc,_⟩:=qFq (n:=q.num.natAbs) (by omega)
  refine ⟨c,_,by rw[e];rfl,?_⟩
  rintro rfl
  have:=hc.1;simp at this
theorem qNV {q:Rat}:txt q=[48] ↔ q=0:=by
 constructor
 ·intro h;rw[<-txt_zero] at h;exact txt_inj h
 ·rintro rfl;exact txt_zero
theorem qHZ {a:qBs} (ha:a.length<=10000000):qHY a=some ((qGa a,()),()):=by
 have hv:=qKY ha
 unfold qHY qGa
 cases hr:rd a with
 |none=>rw[hr] at hv;simp (disch:=(first | omega | (simp only[lnn];omega))) only[hv,Option.isSome_none,stp]
 |some q=>
  rw[hr] at hv
  have hq:=qMJ hr
  rcases Int.lt_trichotomy q.num 0 with h | h | h
  ·obtain ⟨s,e⟩:=(qJu q).1 h
   have hne:a≠[48]:=by rw[hq,e];simp
   have e2:((a.getD 0 0).toNat:Int)=45:=by rw[hq,e];rfl
   have hal:0 < a.length:=by rw[hq,e];simp
   have h00:((0:Int)).toNat=0:=rfl
   simp (disch:=(first | omega | (simp only[lnn];omega))) only[hv,Option.isSome_some,qHC hne,h00,e2,stp]
   rw[Int.sign_eq_neg_one_of_neg h]
  ·have hz:a=[48]:=by rw[hq];exact qNV.2 (Rat.num_eq_zero.1 h)
   simp (disch:=(first | omega | (simp only[lnn];omega))) only[hv,Option.isSome_some,qVC hz,stp]
   rw[h];rfl
  ·obtain ⟨c,s,e,hc⟩:=(qJu q).2 h
   have hne:a≠[48]:=fun e0=>by
    rw[hq,qNV] at e0;rw[e0] at h;simp at h
   have e2:((a.getD 0 0).toNat:Int)≠45:=by
    rw[hq,e]
    show ((c.toNat:Nat):Int)≠45
    intro h45
    exact hc (UInt8.toNat_inj.1 (by show c.toNat=45;omega))
   have hal:0 < a.length:=by rw[hq,e];simp
   have h00:((0:Int)).toNat=0:=rfl
   simp (disch:=(first | omega | (simp only[lnn];omega))) only[hv,Option.isSome_some,qHC hne,h00,qCA e2,stp]
   rw[Int.sign_eq_one_of_pos h]
noncomputable def un (f:Rat->qBs) (a:qBs):qBs:=match rd a with | some q=>f q | none=>[]
theorem qUS (f:Rat->qBs) (q:Rat):un f (txt q)=f q:=by unfold un;rw[qIK]
theorem qBj {f:Rat->qBs} {a:qBs} (h:rd a=none):un f a=[]:=by unfold un;rw[h]
theorem qWU {q:Rat} (h:q.num < 0):txt q=45::txt (-q):=by
 unfold txt
 rw[if_pos h,Rat.neg_num,Rat.neg_den,if_neg (show ¬ (-q.num < 0) by omega),Int.natAbs_neg];rfl
theorem qKt:rd []=none:=qEd fun q h=>by
 unfold txt at h
 have:=qKb q.num.natAbs
 simp at h
 exact this h.2.1
theorem qEac {a:qBs} (ha:a.length<=10000000):qRad a=some ((un (fun q=>txt (-q)) a,()),()):=by
 have hs:=qHZ ha
 unfold qRad
 cases hr:rd a with
 |none=>
  have hne:a≠[48]:=fun e=>by rw[e,<-txt_zero,qIK] at hr;cases hr
  have e:qGa a=0:=by unfold qGa;rw[hr]
  rw[e] at hs
  rw[qBj hr]
  simp (disch:=(first | omega | (simp only[lnn];omega))) only[hs,qHC hne,stp]
 |some q=>
  have hq:=qMJ hr
  have e:qGa a=q.num.sign:=by unfold qGa;rw[hr]
  rw[e] at hs
  have hu:un (fun q=>txt (-q)) a=txt (-q):=by rw[hq,qUS]
  rw[hu]
  rcases Int.lt_trichotomy q.num 0 with h | h | h
  ·rw[Int.sign_eq_neg_one_of_neg h] at hs
   have ht:=qWU h
   have hal:1<=a.length:=by rw[hq,ht];simp
   have h11:((1:Int)).toNat=1:=rfl
   simp (disch:=(first | omega | (simp only[lnn];omega))) only[hs,h11,stp]
   rw[hq,ht];rfl
  ·have hq0:q=0:=Rat.num_eq_zero.1 h
   have hz:a=[48]:=by rw[hq];exact qNV.2 hq0
   rw[h,Int.sign_zero] at hs
   simp (disch:=(first | omega | (simp only[lnn];omega))) only[hs,qVC hz,stp]
   rw[hz,hq0,Rat.neg_zero,txt_zero]
  ·rw[Int.sign_eq_one_of_pos h] at hs
   have ht:=qWU (q:=-q) (by rw[Rat.neg_num];omega)
   rw[Rat.neg_neg] at ht
   have g:([45]:qBs).length+a.length<=qXF:=by rw[qIB];simp;omega
   simp (disch:=(first | omega | (simp only[lnn];omega))) only[hs,qBA g,stp]
   rw[ht,hq];rfl
theorem qTaq {f:Rat->Rat} {k:Nat} (hf:∀ q,D (f q)<=D q) {a:qBs} (ha:a.length<=k):(un (fun q=>txt (f q)) a).length<=k+3:=by
 unfold un
 cases hr:rd a with
 |none=>simp
 |some q=>
  have hq:=qMJ hr
  have h1:=qDH (f q)
  have h2:=hf q
  have h3:=D_le q
  rw[<-hq] at h3
  show (txt (f q)).length<=k+3
  omega
theorem qPr {k:Nat} {a:qBs} (ha:a.length<=k):(un (fun q=>txt (-q)) a).length<=k+3:=qTaq (fun q=>by rw[qOn];exact Nat.le_refl _) ha
theorem qDab {f:Rat->Rat->Rat} {k:Nat} (hf:∀ p q,D (f p q)<=2 * (D p+D q)+1) {a b:qBs} (ha:a.length<=k) (hb:b.length<=k):(bin (fun p q=>txt (f p q)) a b).length<=4 * k+8:=by
 unfold bin
 cases hr:rd a with
 |none=>simp
 |some p=>
  cases hr2:rd b with
  |none=>simp
  |some q=>
   have h1:=qDH (f p q)
   have h2:=hf p q
   have h3:=D_le p
   have h4:=D_le q
   rw[<-qMJ hr] at h3
   rw[<-qMJ hr2] at h4
   show (txt (f p q)).length<=_
   omega
theorem qBr {a b:qBs} (ha:a.length<=2000000) (hb:b.length<=2000000):qKaf a b=some ((bin (fun p q=>txt (p - q)) a b,()),()):=by
 unfold qKaf
 rw[qEac (by omega),qAA]
 dsimp only
 rw[qNaj (by omega) (by have:=qPr hb;omega),qAA]
 congr 3
 unfold un
 cases hr:rd b with
 |none=>rw[qJv qKt,qJv hr]
 |some q=>
  have hq:=qMJ hr
  unfold bin
  rw[qIK,hr]
  cases rd a with
  |none=>rfl
  |some p=>simp only[Rat.sub_eq_add_neg]
noncomputable def qCt (a b:qBs):Int:=
 match rd a,rd b with
 |some p,some q=>(p - q).num.sign
 |_,_=>0
theorem qMab {a b:qBs} (ha:a.length<=2000000) (hb:b.length<=2000000):qSf a b=some ((qCt a b,()),()):=by
 unfold qSf
 have hl:=qDab (f:=fun p q=>p - q) (fun p q=>by rw[Rat.sub_eq_add_neg];have:=qUaq p (-q);rw[qOn] at this;exact this) ha hb
 rw[qBr ha hb,qAA]
 dsimp only
 rw[qHZ (by omega),qAA]
 congr 3
 unfold qGa qCt bin
 cases hr:rd a with
 |none=>simp only[qKt]
 |some p=>
  cases hr2:rd b with
  |none=>simp only[qKt]
  |some q=>simp only[qIK]
end Go.AM.Num
end
section
set_option linter.unusedSimpArgs false
set_option linter.unusedVariables false
namespace Go.AM.Num
theorem qEk (n:Int):txt (n:Rat)=(if n < 0 then [45] else [])++dd n.natAbs:=by
 unfold txt
 rw[Rat.num_intCast,Rat.den_intCast];simp
theorem qNap (neg:Bool) (m:Nat):tx neg m 1=txt ((sg neg m:Int):Rat):=by
 rw[qEk,qNG]
 unfold tx
 simp only[qIN];simp
theorem qFaf {q:Rat} (h:q.den=1):q=((q.num:Int):Rat):=Rat.ext (by rw[Rat.num_intCast]) (by rw[Rat.den_intCast,h])
theorem qYaa (n:Int):(47:UInt8)∉(if n < 0 then [(45:UInt8)] else [])++dd n.natAbs:=by
 intro h
 rcases List.mem_append.1 h with h | h
 ·split at h<;>simp at h
 ·exact qAY h
theorem qCs (q:Rat) (hl:(txt q).length<=1000000000):strings_Cut (txt q) [47]=some ((txt ((q.num:Int):Rat),if q.den=1 then [] else dd q.den,!decide (q.den=1),()),()):=by
 rw[qEk]
 by_cases h:q.den=1
 ·have e:txt q=(if q.num < 0 then [(45:UInt8)] else [])++dd q.num.natAbs:=by unfold txt;rw[if_pos h];simp
  rw[e] at hl ⊢
  rw[qNaa (qYaa _) hl,if_pos h,qZ10 h];rfl
 ·have e:txt q=((if q.num < 0 then [(45:UInt8)] else [])++dd q.num.natAbs)++47::dd q.den:=by unfold txt;rw[if_neg h]
  rw[e] at hl ⊢
  rw[qOo (qYaa _) hl,if_neg h,qZ9 h];rfl
theorem qUap {a:qBs} (ha:a.length<=10000000):qKai a=some ((un (fun q=>txt ((q.num:Int):Rat)) a,()),()):=by
 have hv:=qKY ha
 unfold qKai
 cases hr:rd a with
 |none=>rw[hr] at hv;rw[qBj hr];simp (disch:=(first | omega | (simp only[lnn];omega))) only[hv,Option.isSome_none,stp]
 |some q=>
  rw[hr] at hv
  have hq:=qMJ hr
  rw[hq] at ha hv ⊢
  rw[qUS]
  simp (disch:=(first | omega | (simp only[lnn];omega))) only[hv,Option.isSome_some,qCs q (by omega),stp]
theorem qAap {a:qBs} (ha:a.length<=10000000):qRaf a=some ((un (fun q=>dd q.den) a,()),()):=by
 have hv:=qKY ha
 unfold qRaf
 cases hr:rd a with
 |none=>rw[hr] at hv;rw[qBj hr];simp (disch:=(first | omega | (simp only[lnn];omega))) only[hv,Option.isSome_none,stp]
 |some q=>
  rw[hr] at hv
  have hq:=qMJ hr
  rw[hq] at ha hv ⊢
  rw[qUS]
  by_cases h:q.den=1
  ·simp (disch:=(first | omega | (simp only[lnn];omega))) only[hv,Option.isSome_some,qCs q (by omega),qZ10 h,stp]
   rw[h,qFP]
  ·simp (disch:=(first | omega | (simp only[lnn];omega))) only[hv,Option.isSome_some,qCs q (by omega),qZ9 h,if_neg h,stp]
noncomputable def isI (a:qBs):Bool:=match rd a with | some q=>q.den==1 | none=>false
theorem qOab (q:Rat):isI (txt q)=(q.den==1):=by unfold isI;rw[qIK]
theorem qUT {a:qBs} (h:isI a=true):∃ n:Int,a=txt (n:Rat)/\rd a=some (n:Rat):=by
 unfold isI at h
 cases hr:rd a with
 |none=>rw[hr] at h;cases h
 |some q=>
  rw[hr] at h
  have hd:q.den=1:=by simpa using h
  exact ⟨q.num,by rw[<-qFaf hd];exact qMJ hr,by rw[<-qFaf hd]⟩
theorem qAae (n:Int):isI (txt (n:Rat))=true:=by rw[qOab,Rat.den_intCast];rfl
theorem qHU {a:qBs} (ha:a.length<=10000000):qEH a=some ((isI a,()),()):=by
 obtain ⟨neg,s,hcp,has,hs⟩:=qDk a
 have hsl:s.length<=10000000:=by rw[has,qZ6] at ha;omega
 have hn:=qRA s (by omega)
 unfold qEH
 by_cases hd:s=dd (dval s)
 ·have good:(neg=true->dval s≠0)->isI a=true:=by
   intro h
   have:a=txt ((sg neg (dval s):Int):Rat):=by
    have e:=qWl (neg:=neg) (m:=dval s) (d:=1) h
    rw[if_pos rfl,qY4,<-hd] at e
    rw[has,e,qNap]
   rw[this];exact qAae _
  by_cases h0:s=[48]
  ·cases neg with
   |true=>
    have hb:isI a=false:=by
     cases hi:isI a with
     |false=>rfl
     |true=>
      obtain ⟨n,hn1,_⟩:=qUT hi
      obtain ⟨e1,e2⟩:=shape hs (has ▸ hn1)
      rw[Rat.den_intCast,if_pos rfl,qY4,Rat.num_intCast,h0,<-qWC] at e2
      rw[Rat.num_intCast] at e1
      have:=of_decide_eq_true e1.symm
      have:=qGQ e2
      omega
    rw[hb]
    simp (disch:=(first | omega | (simp only[lnn];omega))) only[hcp,hn,qVC hd,qVC h0,stp]
   |false=>
    rw[good (fun h=>by cases h)]
    simp (disch:=(first | omega | (simp only[lnn];omega))) only[hcp,hn,qVC hd,stp]
  ·have hm0:dval s≠0:=fun e=>h0 (by rw[hd,e,qWC])
   rw[good (fun _=>hm0)]
   cases neg with
   |true=>simp (disch:=(first | omega | (simp only[lnn];omega))) only[hcp,hn,qVC hd,qHC h0,stp]
   |false=>simp (disch:=(first | omega | (simp only[lnn];omega))) only[hcp,hn,qVC hd,stp]
 ·have hb:isI a=false:=by
   cases hi:isI a with
   |false=>rfl
   |true=>
    obtain ⟨n,hn1,_⟩:=qUT hi
    obtain ⟨e1,e2⟩:=shape hs (has ▸ hn1)
    rw[Rat.den_intCast,if_pos rfl,qY4] at e2
    exact absurd (by rw[e2,qEE]) hd
  rw[hb]
  simp (disch:=(first | omega | (simp only[lnn];omega))) only[hcp,hn,qHC hd,stp]
end Go.AM.Num
end
section
set_option linter.unusedSimpArgs false
set_option linter.unusedVariables false
namespace Go.AM.Num
def figs (s:qBs):Prop:=s≠[]/\qFJ s
instance (s:qBs):Decidable (qFJ s):=by unfold qFJ isD;infer_instance
instance (s:qBs):Decidable (figs s):=by unfold figs;infer_instance
inductive DecParts:qBs->Bool->qBs->Option qBs->Prop
 |mk {a s:qBs} {neg:Bool} (h:a=sgn neg++s) (hs:neg=false->∀ r,s≠45::r) {x:qBs} {y:Option qBs}
  (hxy:(y=none/\s=x/\(46:UInt8)∉s)\/(∃ z,y=some z/\s=x++46::z/\(46:UInt8)∉x)):DecParts a neg x y
end Go.AM.Num
end
section
set_option linter.unusedSimpArgs false
set_option linter.unusedVariables false
namespace Go.AM.Num
theorem qNR {s:qBs} (hl:s.length<=1000000000):qPK s=some ((decide (figs s),()),()):=by
 obtain ⟨r,hr,hq⟩:=qCB (step:=qNJ) (Q:=fun r=>(qFJ s/\r=(Ex.exit 0,(s,false,(s.length:Int),())))\/(¬ qFJ s/\∃ i,r=(Ex.ret,(s,false,i,()))))
  (fun m x=>∃ k:Nat,m+k=s.length/\x=(s,false,(k:Int),())/\qFJ (s.take k)) (by
   rintro m x ⟨k,hm,rfl,hd⟩
   by_cases hk:k < s.length
   ·have hg:s.getD k 0=s[k]:=by rw[qZ4,qZ5 hk];rfl
    have e:(k:Int).toNat=k:=by omega
    have hmem:s[k]∈s:=List.getElem_mem hk
    by_cases h1:s[k].toNat < 48
    ·refine .inl ⟨_,?_,?_,.inr ⟨fun h=>?_,(k:Int),rfl⟩⟩
     ·simp (disch:=(first | omega | (simp only[lnn];omega))) only[qNJ,e,hg,stp]
     ·simp
     ·have:=(h _ hmem).1;omega
    ·by_cases h2:s[k].toNat > 57
     ·refine .inl ⟨_,?_,?_,.inr ⟨fun h=>?_,(k:Int),rfl⟩⟩
      ·simp (disch:=(first | omega | (simp only[lnn];omega))) only[qNJ,e,hg,stp]
      ·simp
      ·have:=(h _ hmem).2;omega
     ·refine .inr ⟨m - 1,_,?_,by omega,k+1,by omega,rfl,?_⟩
      ·simp (disch:=(first | omega | (simp only[lnn];omega))) only[qNJ,e,hg,stp]
       rfl
      ·rw[List.take_succ_eq_append_getElem hk]
       refine hd.app fun c hc=>?_
       rw[List.mem_singleton.1 hc]
       exact ⟨by omega,by omega⟩
   ·have hks:k=s.length:=by omega
    subst hks
    refine .inl ⟨_,?_,?_,.inl ⟨by simpa using hd,rfl⟩⟩
    ·simp (disch:=(first | omega | (simp only[lnn];omega))) only[qNJ,stp]
    ·simp) s.length (s,false,0,()) ⟨0,by omega,rfl,by simp[qFJ]⟩
 unfold qPK
 rw[hr]
 rcases hq with ⟨hd,rfl⟩ | ⟨hd,i,rfl⟩
 ·simp (disch:=(first | omega | (simp only[lnn];omega))) only[stp]
  by_cases h0:s=[]
  ·subst h0
   have:decide (figs [])=false:=qZ9 (fun h=>h.1 rfl)
   rw[this];rfl
  ·rw[qHC h0,qZ10 (show figs s from ⟨h0,hd⟩)];rfl
 ·simp (disch:=(first | omega | (simp only[lnn];omega))) only[stp]
  rw[qZ9 (fun h=>hd h.2)]
theorem qGK {s:qBs} (hd:qFJ s) (hne:s≠[]) (hl:s.length<=1000000000):qXM s=some ((dd (dval s),()),()):=by
 obtain ⟨r,hr,rfl⟩:=qCB (step:=qUQ) (Q:=fun r=>r=(Ex.exit 0,(dd (dval s),())))
  (fun m x=>∃ t:qBs,x=(t,())/\m=t.length/\qFJ t/\t≠[]/\dval t=dval s/\t.length<=1000000000) (by
   rintro m x ⟨t,rfl,hm,h1,h2,h3,h4⟩
   cases t with
   |nil=>exact absurd rfl h2
   |cons c t=>
    have h00:((0:Int)).toNat=0:=rfl
    have h11:((1:Int)).toNat=1:=rfl
    have hg:(c::t:qBs).getD 0 0=c:=rfl
    have hlen:(c::t).length=t.length+1:=rfl
    by_cases ht:t=[]
    ·subst ht
     refine .inl ⟨(Ex.exit 0,([c],())),?_,by simp,?_⟩
     ·simp only[qUQ]
      rw[qIA (by simp)]
     ·rw[<-h3,<-qKag h1 h2 (by
       by_cases hc:c=48
       ·left;rw[hc]
       ·right;simpa using hc)]
    ·have hpos:0 < t.length:=List.length_pos_iff.2 ht
     by_cases hc:c=48
     ·subst hc
      refine .inr ⟨t.length,(t,()),?_,by omega,t,rfl,rfl,fun x hx=>h1 x (by simp[hx]),ht,?_,by omega⟩
      ·have h48:(((48:UInt8).toNat:Nat):Int)=48:=rfl
       simp only[qUQ]
       rw[qEA (by omega),qDA,qBA (by omega),qBA (by omega),h00,hg,h48]
       rw[qKA rfl,qDA,qBA (by omega),qBA (by omega),h11];rfl
      ·rw[<-h3,qTK];simp[dig]
     ·refine .inl ⟨(Ex.exit 0,(c::t,())),?_,by simp,?_⟩
      ·have hne':((c.toNat:Nat):Int)≠48:=fun e=>hc (UInt8.toNat_inj.1 (by show c.toNat=48;omega))
       simp only[qUQ]
       rw[qEA (by omega),qDA,qBA (by omega),qBA (by omega),h00,hg,qCA hne']
      ·rw[<-h3,<-qKag h1 h2 (.inr (by simpa using hc))]) s.length (s,()) ⟨s,rfl,rfl,hd,hne,rfl,hl⟩
 unfold qXM
 rw[hr]
 simp (disch:=(first | omega | (simp only[lnn];omega))) only[stp]
theorem qTf {a b:qBs} (ha:qFJ a) (hb:qFJ b) (hl:a.length=b.length):qTV a b=decide (dval a < dval b):=by
 unfold qTV
 induction a generalizing b with
 |nil=>
  cases b with
  |nil=>simp[Op.bytesLess,dval]
  |cons c b=>simp at hl
 |cons x a ih=>
  cases b with
  |nil=>simp at hl
  |cons y b=>
   have hx:=ha x (by simp)
   have hy:=hb y (by simp)
   have hA:qFJ a:=fun c hc=>ha c (by simp[hc])
   have hB:qFJ b:=fun c hc=>hb c (by simp[hc])
   have hl':a.length=b.length:=by simpa using hl
   have la:=qTP hA
   have lb:=qTP hB
   rw[qTK,qTK,hl']
   rw[hl'] at la
   have ih':=ih hA hB hl'
   have hdx:dig x=x.toNat - 48:=rfl
   have hdy:dig y=y.toNat - 48:=rfl
   have:=hx.1
   have:=hy.1
   rcases Nat.lt_trichotomy x.toNat y.toNat with h | h | h
   ·have h1:(dig x+1) * 10 ^ b.length<=dig y * 10 ^ b.length:=Nat.mul_le_mul_right _ (by omega)
    rw[Nat.add_mul] at h1
    rw[qZ10 (by omega)]
    unfold Op.bytesLess
    have:x < y:=UInt8.lt_iff_toNat_lt.2 h
    simp[this]
   ·have hxy:x=y:=UInt8.toNat_inj.1 h
    subst hxy
    unfold Op.bytesLess
    have h1:¬ x < x:=fun e=>Nat.lt_irrefl _ (UInt8.lt_iff_toNat_lt.1 e)
    simp only[h1,if_false]
    rw[ih']
    simp
   ·have h1:(dig y+1) * 10 ^ b.length<=dig x * 10 ^ b.length:=Nat.mul_le_mul_right _ (by omega)
    rw[Nat.add_mul] at h1
    rw[qZ9 (by omega)]
    unfold Op.bytesLess
    have h2:¬ x < y:=fun e=>by have:=UInt8.lt_iff_toNat_lt.1 e;omega
    have h3:x≠y:=fun e=>by rw[e] at h;omega
    simp[h2,h3]
theorem qJt (m n:Nat):∃ c,qPX (dd m) (dd n)=some ((c,()),())/\(c < 0 ↔ m < n)/\(c=0 ↔ m=n):=by
 unfold qPX
 rcases Nat.lt_trichotomy (dd m).length (dd n).length with h | h | h
 ·have hlt:m < n:=by
   rcases Nat.lt_or_ge m n with h' | h'
   ·exact h'
   ·have:=qBB h';omega
  refine ⟨-1,?_,by omega,by omega⟩
  simp (disch:=(first | omega | (simp only[lnn];omega))) only[stp]
 ·have hs:=qTf (qMc m) (qMc n) h
  rw[qEE,qEE] at hs
  rcases Nat.lt_trichotomy m n with h' | h' | h'
  ·refine ⟨-1,?_,by omega,by omega⟩
   simp (disch:=(first | omega | (simp only[lnn];omega))) only[hs,qZ10 h',stp]
  ·subst h'
   refine ⟨0,?_,by omega,by omega⟩
   simp (disch:=(first | omega | (simp only[lnn];omega))) only[hs,qZ9 (Nat.lt_irrefl m),qVC rfl,stp]
  ·refine ⟨1,?_,by omega,by omega⟩
   have hne:dd m≠dd n:=fun e=>by have:=qGQ e;omega
   simp (disch:=(first | omega | (simp only[lnn];omega))) only[hs,qZ9 (show ¬ m < n by omega),qHC hne,stp]
 ·have hlt:n < m:=by
   rcases Nat.lt_or_ge n m with h' | h'
   ·exact h'
   ·have:=qBB h';omega
  have hne:dd m≠dd n:=fun e=>by have:=qGQ e;omega
  refine ⟨1,?_,by omega,by omega⟩
  simp (disch:=(first | omega | (simp only[lnn];omega))) only[qHC hne,stp]
def sfx (a:qBs) (i:Nat):Nat:=dval (a.drop (a.length - i))
theorem qXb (a:qBs):sfx a 0=0:=by unfold sfx;rw[Nat.sub_zero,List.drop_length];rfl
theorem qSM {a:qBs} {i:Nat} (h:a.length<=i):sfx a i=dval a:=by unfold sfx;rw[Nat.sub_eq_zero_of_le h,List.drop_zero]
theorem qMW {a:qBs} {i:Nat} (h:i < a.length):sfx a (i+1)=dig (a[a.length - 1 - i]'(by omega)) * 10 ^ i+sfx a i:=by
 unfold sfx
 rw[show a.length - (i+1)=a.length - 1 - i by omega,qY6 (by omega),qTK,List.length_drop,show a.length - 1 - i+1=a.length - i by omega,show a.length - (a.length - i)=i by omega]
theorem qJj {α:Type} {l:List α} {i:Nat} (h:i < l.length) (c:α):(l.set i c).drop i=c::l.drop (i+1):=by
 rw[qY6 (by simpa using h),List.getElem_set_self,List.drop_set_of_lt (by omega)]
def qXO (s:qBs):List Int:=s.map fun b=>(b.toNat:Int)
theorem qLU (s:qBs):(qXO s).map (fun n=>UInt8.ofNat n.toNat)=s:=by
 unfold qXO
 rw[List.map_map]
 conv=>rhs;rw[<-List.map_id s]
 apply List.map_congr_left
 intro b _
 simp
theorem qLi {k:Int} (h:0<=k/\k < 10):∃ c:UInt8,(c.toNat:Int)=48+k/\isD c/\(dig c:Int)=k:=by
 obtain ⟨n,rfl⟩:∃ n:Nat,k=n:=⟨k.toNat,by omega⟩
 obtain ⟨h1,h2⟩:=dig_of (k:=n) (by omega)
 refine ⟨UInt8.ofNat (48+n),?_,h2,by rw[h1]⟩
 have h3:=h2.1
 have h4:dig (UInt8.ofNat (48+n))=(UInt8.ofNat (48+n)).toNat - 48:=rfl
 omega
theorem qFJ.cons {c:UInt8} {s:qBs} (h:isD c) (hs:qFJ s):qFJ (c::s):=fun x hx=>(List.mem_cons.1 hx).elim (fun e=>e ▸ h) (hs x)
theorem qNT {s:qBs} {k:Nat} (h:k < s.length):s.getD k 0=s[k]:=by rw[qZ4,qZ5 h];rfl
set_option maxHeartbeats 2000000 in
theorem qNag (m n:Nat) (hm:(dd m).length<=100000000) (hn:(dd n).length<=100000000):qRb (dd m) (dd n)=some ((dd (m+n),()),()):=by
 obtain ⟨a,ha⟩:∃ a,a=dd m:=⟨_,rfl⟩
 obtain ⟨b,hb⟩:∃ b,b=dd n:=⟨_,rfl⟩
 have hda:qFJ a:=ha ▸ qMc m
 have hdb:qFJ b:=hb ▸ qMc n
 rw[<-ha,<-hb]
 rw[<-ha] at hm
 rw[<-hb] at hn
 obtain ⟨N,hN⟩:∃ N,N=max a.length b.length+1:=⟨_,rfl⟩
 have hmx:=qLt a.length b.length
 have hw:qI (qFZ (a.length:Int) (b.length:Int)+1)=(N:Int):=by rw[hmx,w64 (by omega)];omega
 obtain ⟨r,hr,s,rfl,h1,h2,h3⟩:=qCB (step:=qHF) (Q:=fun r=>∃ s:qBs,r=(Ex.exit 0,(a,b,(N:Int),qXO s,0,(N:Int),()))/\qFJ s/\s.length=N/\dval s=dval a+dval b)
  (fun k x=>∃ (i:Nat) (out:List Int) (c:Int) (s:qBs),x=(a,b,(N:Int),out,c,(i:Int),())/\k+i=N/\out.length=N/\(0<=c/\c<=1)/\out.drop (N - i)=qXO s/\qFJ s/\s.length=i/\(dval s:Int)+c * 10 ^ i=(sfx a i:Int)+sfx b i) (by
   rintro k x ⟨i,out,c,s,rfl,hk,hol,hc,hds,hs,hsl,hv⟩
   by_cases hi:i < N
   ·have hix:((N:Int) - 1 - i).toNat=N - 1 - i:=by omega
    have hax:((a.length:Int) - 1 - i).toNat=a.length - 1 - i:=by omega
    have hbx:((b.length:Int) - 1 - i).toNat=b.length - 1 - i:=by omega
    have go:∀ v:Int,(0<=v/\v < 20)->(v * 10 ^ i+((sfx a i:Int)+sfx b i)=c * 10 ^ i+((sfx a (i+1):Int)+sfx b (i+1)))->
     qHF (a,b,(N:Int),out,c,(i:Int),())=some (Ex.normal,(a,b,(N:Int),out.set (N - 1 - i) (48+v % 10),v / 10,(i:Int)+1,()))->
     ∃ m y,qHF (a,b,(N:Int),out,c,(i:Int),())=some (Ex.normal,y)/\m < k/\∃ (i:Nat) (out:List Int) (c:Int) (s:qBs),y=(a,b,(N:Int),out,c,(i:Int),())/\m+i=N/\out.length=N/\(0<=c/\c<=1)/\out.drop (N - i)=qXO s/\qFJ s/\s.length=i/\(dval s:Int)+c * 10 ^ i=(sfx a i:Int)+sfx b i:=by
     intro v hv1 hv2 hst
     obtain ⟨d,hd1,hd2,hd3⟩:=qLi (k:=v % 10) (by omega)
     refine ⟨k - 1,_,hst,by omega,i+1,_,_,d::s,rfl,by omega,by simpa using hol,by omega,?_,hs.cons hd2,by simp[hsl],?_⟩
     ·rw[show N - (i+1)=N - 1 - i by omega,qJj (by omega),show N - 1 - i+1=N - i by omega,hds,<-hd1];rfl
     ·rw[qTK,hsl,Int.natCast_add,Int.natCast_mul,hd3,Int.pow_succ]
      have:=Int.emod_add_mul_ediv v 10
      push_cast
      grind
    by_cases hia:i < a.length
    ·have hga:=qNT (s:=a) (k:=a.length - 1 - i) (by omega)
     have hdA:=hda (a[a.length - 1 - i]'(by omega)) (List.getElem_mem _)
     have hsa:=qMW hia
     obtain ⟨A,hA⟩:∃ A,A=a[a.length - 1 - i]'(by omega):=⟨_,rfl⟩
     rw[<-hA] at hga hdA hsa
     have hA1:=hdA.1
     have hA2:=hdA.2
     have hAd:(dig A:Int)=(A.toNat:Int) - 48:=by unfold dig;omega
     by_cases hib:i < b.length
     ·have hgb:=qNT (s:=b) (k:=b.length - 1 - i) (by omega)
      have hdB:=hdb (b[b.length - 1 - i]'(by omega)) (List.getElem_mem _)
      have hsb:=qMW hib
      obtain ⟨B,hB⟩:∃ B,B=b[b.length - 1 - i]'(by omega):=⟨_,rfl⟩
      rw[<-hB] at hgb hdB hsb
      have hB1:=hdB.1
      have hB2:=hdB.2
      have hBd:(dig B:Int)=(B.toNat:Int) - 48:=by unfold dig;omega
      refine .inr (go (c+((A.toNat:Int) - 48)+((B.toNat:Int) - 48)) (by omega) (by rw[hsa,hsb];push_cast;rw[hAd,hBd];grind) ?_)
      simp (disch:=(first | omega | (simp only[lnn];omega))) only[qHF,hix,hax,hbx,hga,hgb,stp]
     ·have hsb:sfx b (i+1)=sfx b i:=by rw[qSM (by omega),qSM (by omega)]
      refine .inr (go (c+((A.toNat:Int) - 48)) (by omega) (by rw[hsa,hsb];push_cast;rw[hAd];grind) ?_)
      simp (disch:=(first | omega | (simp only[lnn];omega))) only[qHF,hix,hax,hga,stp]
    ·have hsa:sfx a (i+1)=sfx a i:=by rw[qSM (by omega),qSM (by omega)]
     by_cases hib:i < b.length
     ·have hgb:=qNT (s:=b) (k:=b.length - 1 - i) (by omega)
      have hdB:=hdb (b[b.length - 1 - i]'(by omega)) (List.getElem_mem _)
      have hsb:=qMW hib
      obtain ⟨B,hB⟩:∃ B,B=b[b.length - 1 - i]'(by omega):=⟨_,rfl⟩
      rw[<-hB] at hgb hdB hsb
      have hB1:=hdB.1
      have hB2:=hdB.2
      have hBd:(dig B:Int)=(B.toNat:Int) - 48:=by unfold dig;omega
      refine .inr (go (c+((B.toNat:Int) - 48)) (by omega) (by rw[hsa,hsb];push_cast;rw[hBd];grind) ?_)
      simp (disch:=(first | omega | (simp only[lnn];omega))) only[qHF,hix,hbx,hgb,stp]
     ·have hsb:sfx b (i+1)=sfx b i:=by rw[qSM (by omega),qSM (by omega)]
      refine .inr (go c (by omega) (by rw[hsa,hsb]) ?_)
      simp (disch:=(first | omega | (simp only[lnn];omega))) only[qHF,hix,stp]
   ·have hiN:i=N:=by omega
    subst hiN
    rw[Nat.sub_self,List.drop_zero] at hds
    rw[qSM (by omega),qSM (by omega)] at hv
    have hla:=qTP hda
    have hlb:=qTP hdb
    have hp1:10 ^ a.length<=10 ^ (max a.length b.length):=Nat.pow_le_pow_right (by decide) (by omega)
    have hp2:10 ^ b.length<=10 ^ (max a.length b.length):=Nat.pow_le_pow_right (by decide) (by omega)
    have hpN:10 ^ i=10 * 10 ^ (max a.length b.length):=by rw[hN,Nat.pow_succ,Nat.mul_comm]
    have hc0:c=0:=by
     rcases (show c=0\/c=1 by omega) with h | h
     ·exact h
     ·exfalso
      rw[h,show ((10:Int) ^ i)=((10 ^ i:Nat):Int) by push_cast;rfl] at hv
      omega
    subst hc0
    refine .inl ⟨(Ex.exit 0,(a,b,(i:Int),qXO s,0,(i:Int),())),?_,by simp,s,rfl,hs,hsl,by omega⟩
    rw[<-hds]
    simp (disch:=(first | omega | (simp only[lnn];omega))) only[qHF,stp]) N (a,b,(N:Int),List.replicate ((N:Int)).toNat 0,0,0,()) ⟨0,_,0,[],rfl,by omega,by simp,by omega,by simp[qXO],by simp[qFJ],rfl,by rw[qXb,qXb];simp[dval]⟩
 have ht:=qGK h1 (fun e=>by rw[e] at h2;simp at h2;omega) (by omega)
 rw[h3] at ht
 have hva:dval a=m:=by rw[ha,qEE]
 have hvb:dval b=n:=by rw[hb,qEE]
 rw[hva,hvb] at ht
 unfold qRb
 simp only[hw]
 rw[hr]
 simp (disch:=(first | omega | (simp only[lnn];omega))) only[qLU,ht,stp]
end Go.AM.Num
end
section
set_option linter.unusedSimpArgs false
set_option linter.unusedVariables false
namespace Go.AM.Num
set_option maxHeartbeats 2000000 in
theorem qEj (m n:Nat) (hm:(dd m).length<=100000000) (hle:n<=m):qTT (dd m) (dd n)=some ((dd (m - n),()),()):=by
 obtain ⟨a,ha⟩:∃ a,a=dd m:=⟨_,rfl⟩
 obtain ⟨b,hb⟩:∃ b,b=dd n:=⟨_,rfl⟩
 have hda:qFJ a:=ha ▸ qMc m
 have hdb:qFJ b:=hb ▸ qMc n
 have hbl:b.length<=a.length:=by rw[ha,hb];exact qBB hle
 have hane:a≠[]:=ha ▸ qKb m
 rw[<-ha,<-hb]
 rw[<-ha] at hm
 have hva:dval a=m:=by rw[ha,qEE]
 have hvb:dval b=n:=by rw[hb,qEE]
 obtain ⟨N,hN⟩:∃ N,N=a.length:=⟨_,rfl⟩
 obtain ⟨r,hr,s,rfl,h1,h2,h3⟩:=qCB (step:=qGF) (Q:=fun r=>∃ s:qBs,r=(Ex.exit 0,(a,b,qXO s,0,(N:Int),()))/\qFJ s/\s.length=N/\dval s=m - n)
  (fun k x=>∃ (i:Nat) (out:List Int) (c:Int) (s:qBs),x=(a,b,out,c,(i:Int),())/\k+i=N/\out.length=N/\(0<=c/\c<=1)/\out.drop (N - i)=qXO s/\qFJ s/\s.length=i/\(dval s:Int)+sfx b i=(sfx a i:Int)+c * 10 ^ i) (by
   rintro k x ⟨i,out,c,s,rfl,hk,hol,hc,hds,hs,hsl,hv⟩
   by_cases hi:i < N
   ·have hax:((a.length:Int) - 1 - i).toNat=a.length - 1 - i:=by omega
    have hbx:((b.length:Int) - 1 - i).toNat=b.length - 1 - i:=by omega
    have go:∀ v c':Int,(0<=v/\v < 10)->(0<=c'/\c'<=1)->((sfx a (i+1):Int)+c' * (10 ^ i * 10) - sfx b (i+1)=v * 10 ^ i+((sfx a i:Int)+c * 10 ^ i - sfx b i))->
     qGF (a,b,out,c,(i:Int),())=some (Ex.normal,(a,b,out.set (a.length - 1 - i) (48+v),c',(i:Int)+1,()))->
     ∃ m y,qGF (a,b,out,c,(i:Int),())=some (Ex.normal,y)/\m < k/\∃ (i:Nat) (out:List Int) (c:Int) (s:qBs),y=(a,b,out,c,(i:Int),())/\m+i=N/\out.length=N/\(0<=c/\c<=1)/\out.drop (N - i)=qXO s/\qFJ s/\s.length=i/\(dval s:Int)+sfx b i=(sfx a i:Int)+c * 10 ^ i:=by
     intro v c' hv1 hc' hv2 hst
     obtain ⟨d,hd1,hd2,hd3⟩:=qLi (k:=v) (by omega)
     refine ⟨k - 1,_,hst,by omega,i+1,_,_,d::s,rfl,by omega,by simpa using hol,by omega,?_,hs.cons hd2,by simp[hsl],?_⟩
     ·rw[show N - (i+1)=a.length - 1 - i by omega,qJj (by omega),show a.length - 1 - i+1=N - i by omega,hds,<-hd1];rfl
     ·rw[qTK,hsl,Int.natCast_add,Int.natCast_mul,hd3,Int.pow_succ]
      push_cast
      grind
    have hia:i < a.length:=by omega
    have hga:=qNT (s:=a) (k:=a.length - 1 - i) (by omega)
    have hdA:=hda (a[a.length - 1 - i]'(by omega)) (List.getElem_mem _)
    have hsa:=qMW hia
    obtain ⟨A,hA⟩:∃ A,A=a[a.length - 1 - i]'(by omega):=⟨_,rfl⟩
    rw[<-hA] at hga hdA hsa
    have hA1:=hdA.1
    have hA2:=hdA.2
    have hAd:(dig A:Int)=(A.toNat:Int) - 48:=by unfold dig;omega
    by_cases hib:i < b.length
    ·have hgb:=qNT (s:=b) (k:=b.length - 1 - i) (by omega)
     have hdB:=hdb (b[b.length - 1 - i]'(by omega)) (List.getElem_mem _)
     have hsb:=qMW hib
     obtain ⟨B,hB⟩:∃ B,B=b[b.length - 1 - i]'(by omega):=⟨_,rfl⟩
     rw[<-hB] at hgb hdB hsb
     have hB1:=hdB.1
     have hB2:=hdB.2
     have hBd:(dig B:Int)=(B.toNat:Int) - 48:=by unfold dig;omega
     by_cases hneg:(A.toNat:Int) - 48 - c - ((B.toNat:Int) - 48) < 0
     ·refine .inr (go ((A.toNat:Int) - 48 - c - ((B.toNat:Int) - 48)+10) 1 (by omega) (by omega) (by rw[hsa,hsb];push_cast;rw[hAd,hBd];grind) ?_)
      simp (disch:=(first | omega | (simp only[lnn];omega))) only[qGF,hax,hbx,hga,hgb,stp]
     ·refine .inr (go ((A.toNat:Int) - 48 - c - ((B.toNat:Int) - 48)) 0 (by omega) (by omega) (by rw[hsa,hsb];push_cast;rw[hAd,hBd];grind) ?_)
      simp (disch:=(first | omega | (simp only[lnn];omega))) only[qGF,hax,hbx,hga,hgb,stp]
    ·have hsb:sfx b (i+1)=sfx b i:=by rw[qSM (by omega),qSM (by omega)]
     by_cases hneg:(A.toNat:Int) - 48 - c < 0
     ·refine .inr (go ((A.toNat:Int) - 48 - c+10) 1 (by omega) (by omega) (by rw[hsa,hsb];push_cast;rw[hAd];grind) ?_)
      simp (disch:=(first | omega | (simp only[lnn];omega))) only[qGF,hax,hga,stp]
     ·refine .inr (go ((A.toNat:Int) - 48 - c) 0 (by omega) (by omega) (by rw[hsa,hsb];push_cast;rw[hAd];grind) ?_)
      simp (disch:=(first | omega | (simp only[lnn];omega))) only[qGF,hax,hga,stp]
   ·have hiN:i=N:=by omega
    subst hiN
    rw[Nat.sub_self,List.drop_zero] at hds
    rw[qSM (by omega),qSM (by omega),hva,hvb] at hv
    have hls:=qTP hs
    rw[hsl] at hls
    have hc0:c=0:=by
     rcases (show c=0\/c=1 by omega) with h | h
     ·exact h
     ·exfalso
      rw[h,show ((10:Int) ^ i)=((10 ^ i:Nat):Int) by push_cast;rfl] at hv
      omega
    subst hc0
    refine .inl ⟨(Ex.exit 0,(a,b,qXO s,0,(i:Int),())),?_,by simp,s,rfl,hs,hsl,by omega⟩
    rw[<-hds]
    simp (disch:=(first | omega | (simp only[lnn];omega))) only[qGF,stp]) N (a,b,List.replicate ((a.length:Int)).toNat 0,0,0,()) ⟨0,_,0,[],rfl,by omega,by simp;omega,by omega,by simp[qXO];omega,by simp[qFJ],rfl,by rw[qXb,qXb];simp[dval]⟩
 have hapos:0 < a.length:=List.length_pos_iff.2 hane
 have ht:=qGK h1 (fun e=>by rw[e] at h2;simp at h2;omega) (by omega)
 rw[h3] at ht
 unfold qTT
 rw[hr]
 simp (disch:=(first | omega | (simp only[lnn];omega))) only[qLU,ht,stp]
def iv (l:List Int):Int:=l.foldl (fun v x=>10 * v+x) 0
theorem qCaj (l:List Int) (v:Int):l.foldl (fun v x=>10 * v+x) v=v * 10 ^ l.length+iv l:=by
 induction l generalizing v with
 |nil=>simp[iv]
 |cons c s ih=>
  simp only[List.foldl_cons,iv,qY11,Int.pow_succ]
  rw[ih (10 * v+c),ih (10 * 0+c)]
  grind
theorem qXk (x:Int) (l:List Int):iv (x::l)=x * 10 ^ l.length+iv l:=by
 show (x::l).foldl (fun v x=>10 * v+x) 0=_
 rw[List.foldl_cons,qCaj];simp
theorem qQap {l:List Int} {k:Nat} (h:k < l.length) (x:Int):iv (l.set k x)=iv l+(x - l.getD k 0) * 10 ^ (l.length - 1 - k):=by
 induction l generalizing k with
 |nil=>simp at h
 |cons y l ih=>
  cases k with
  |zero=>
   simp only[List.set_cons_zero,qXk,qZ3,qY11]
   rw[show l.length+1 - 1 - 0=l.length by omega]
   grind
  |succ k=>
   simp only[List.set_cons_succ,qXk,qZ2,qY11,List.length_set]
   rw[ih (by simpa using h),show l.length+1 - 1 - (k+1)=l.length - 1 - k by omega]
   omega
theorem iv_zeros (n:Nat):iv (List.replicate n 0)=0:=by
 induction n with
 |zero=>rfl
 |succ n ih=>rw[List.replicate_succ,qXk,ih];simp
def pfx (a:qBs) (i:Nat):Nat:=dval (a.take i)
theorem qBk {a:qBs} {i:Nat} (h:i < a.length):pfx a (i+1)=10 * pfx a i+dig a[i]:=by
 unfold pfx
 rw[List.take_succ_eq_append_getElem h,qLK]
def Bd (l:List Int) (B:Int):Prop:=∀ x∈l,0<=x/\x<=B
theorem Bd.at {l:List Int} {B:Int} (h:Bd l B) (hB:0<=B) (k:Nat):0<=l.getD k 0/\l.getD k 0<=B:=by
 by_cases hk:k < l.length
 ·rw[qKa hk];exact h _ (List.getElem_mem hk)
 ·rw[qDj (by omega)];omega
theorem Bd.set {l:List Int} {B B':Int} (h:Bd l B) (hB:B<=B') {k:Nat} {x:Int} (hx:0<=x/\x<=B'):Bd (l.set k x) B':=by
 intro y hy
 rcases List.mem_or_eq_of_mem_set hy with hy | rfl
 ·have:=h y hy;omega
 ·exact hx
theorem qAq {a b:qBs} {out0:List Int} {i:Nat} {B:Int} (hda:qFJ a) (hdb:qFJ b) (hi:i < a.length) (hol:out0.length=a.length+b.length) (hbl:b.length<=100000000) (hal:a.length<=100000000)
 (hB:0<=B/\B<=1000000000000000000) (hb0:Bd out0 B) :
 ∃ out,qLA qEL (a,b,out0,(i:Int),0,())=some (Ex.exit 2,(a,b,out,(i:Int),(b.length:Int),()))/\out.length=out0.length/\Bd out (B+81 * b.length)/\
  iv out=iv out0+(dig a[i]:Int) * 10 ^ (a.length - 1 - i) * dval b:=by
 have hA:=hda a[i] (List.getElem_mem hi)
 obtain ⟨A,hAe⟩:∃ A,A=a[i]:=⟨_,rfl⟩
 rw[<-hAe] at hA ⊢
 have hga:a.getD i 0=A:=by rw[qNT hi,hAe]
 have hA1:=hA.1
 have hA2:=hA.2
 have hAd:(dig A:Int)=(A.toNat:Int) - 48:=by unfold dig;omega
 obtain ⟨r,hr,out,rfl,h1,h2,h3⟩:=qCB (step:=qEL) (Q:=fun r=>∃ out,r=(Ex.exit 2,(a,b,out,(i:Int),(b.length:Int),()))/\out.length=out0.length/\Bd out (B+81 * b.length)/\
  iv out=iv out0+(dig A:Int) * 10 ^ (a.length - 1 - i) * dval b)
  (fun k x=>∃ (j:Nat) (out:List Int),k+j=b.length/\x=(a,b,out,(i:Int),(j:Int),())/\out.length=out0.length/\Bd out (B+81 * j)/\
   iv out=iv out0+(dig A:Int) * 10 ^ (a.length - 1 - i) * ((pfx b j:Int) * 10 ^ (b.length - j))) (by
   rintro k x ⟨j,out,hk,rfl,h1,h2,h3⟩
   by_cases hj:j < b.length
   ·have hgb:=qNT hj
    have hBd:=hdb b[j] (List.getElem_mem hj)
    have hp:=qBk hj
    obtain ⟨C,hC⟩:∃ C,C=b[j]:=⟨_,rfl⟩
    rw[<-hC] at hgb hBd hp
    have hC1:=hBd.1
    have hC2:=hBd.2
    have hCd:(dig C:Int)=(C.toNat:Int) - 48:=by unfold dig;omega
    have e1:(i:Int).toNat=i:=by omega
    have e2:(j:Int).toNat=j:=by omega
    have e3:((i:Int)+j+1).toNat=i+j+1:=by omega
    have hz:=h2.at (by omega) (i+j+1)
    obtain ⟨P,hP⟩:∃ P,P=((A.toNat:Int) - 48) * ((C.toNat:Int) - 48):=⟨_,rfl⟩
    have hP0:0<=P:=by rw[hP];exact Int.mul_nonneg (by omega) (by omega)
    have hP1:P<=81:=by
     rw[hP]
     have:((A.toNat:Int) - 48) * ((C.toNat:Int) - 48)<=9 * ((C.toNat:Int) - 48):=Int.mul_le_mul_of_nonneg_right (by omega) (by omega)
     omega
    refine .inr ⟨k - 1,(a,b,out.set (i+j+1) (out.getD (i+j+1) 0+P),(i:Int),((j+1:Nat):Int),()),?_,by omega,j+1,_,by omega,rfl,by simpa using h1,h2.set (by omega) (by omega),?_⟩
    ·rw[hP]
     rw[hP] at hP0 hP1
     simp (disch:=(first | omega | (simp only[lnn];omega))) only[qEL,e1,e2,e3,hga,hgb,stp]
     rfl
    ·rw[qQap (by omega),h3,hp]
     have ex:out.length - 1 - (i+j+1)=(a.length - 1 - i)+(b.length - (j+1)):=by omega
     have ey:b.length - j=(b.length - (j+1))+1:=by omega
     rw[ex,ey,Int.pow_add,Int.pow_succ,hP,<-hAd,<-hCd]
     push_cast
     grind
   ·have hjb:j=b.length:=by omega
    subst hjb
    refine .inl ⟨(Ex.exit 2,(a,b,out,(i:Int),(b.length:Int),())),?_,by simp,out,rfl,h1,h2,?_⟩
    ·simp (disch:=(first | omega | (simp only[lnn];omega))) only[qEL,stp]
    ·rw[h3];unfold pfx;rw[List.take_length,Nat.sub_self];simp) b.length _ ⟨0,out0,by omega,rfl,rfl,by simpa using hb0,by unfold pfx;simp[dval]⟩
 exact ⟨out,hr,h1,h2,h3⟩
set_option maxHeartbeats 1000000 in
theorem qUR (m n:Nat) (hm:(dd m).length<=10000000) (hn:(dd n).length<=10000000):qPL (dd m) (dd n)=some ((dd (m * n),()),()):=by
 obtain ⟨a,ha⟩:∃ a,a=dd m:=⟨_,rfl⟩
 obtain ⟨b,hb⟩:∃ b,b=dd n:=⟨_,rfl⟩
 have hda:qFJ a:=ha ▸ qMc m
 have hdb:qFJ b:=hb ▸ qMc n
 have hapos:0 < a.length:=by rw[ha];exact qRN m
 rw[<-ha,<-hb]
 rw[<-ha] at hm
 rw[<-hb] at hn
 have hva:dval a=m:=by rw[ha,qEE]
 have hvb:dval b=n:=by rw[hb,qEE]
 obtain ⟨r,hr,out,rfl,h1,h2,h3⟩:=qCB (step:=qMO) (Q:=fun r=>∃ out,r=(Ex.exit 0,(a,b,out,(a.length:Int),()))/\out.length=a.length+b.length/\Bd out (81 * 100000000000000)/\iv out=(dval a:Int) * dval b)
  (fun k x=>∃ (i:Nat) (out:List Int),k+i=a.length/\x=(a,b,out,(i:Int),())/\out.length=a.length+b.length/\Bd out (81 * ((i * b.length:Nat):Int))/\iv out=(pfx a i:Int) * 10 ^ (a.length - i) * dval b) (by
   rintro k x ⟨i,out,hk,rfl,h1,h2,h3⟩
   have hib:i * b.length<=a.length * b.length:=Nat.mul_le_mul_right _ (by omega)
   have hab:a.length * b.length<=10000000 * b.length:=Nat.mul_le_mul_right _ hm
   by_cases hi:i < a.length
   ·obtain ⟨o2,hin,g1,g2,g3⟩:=qAq (B:=81 * ((i * b.length:Nat):Int)) hda hdb hi h1 (by omega) (by omega) (by omega) h2
    have hp:=qBk hi
    refine .inr ⟨k - 1,(a,b,o2,((i+1:Nat):Int),()),?_,by omega,i+1,o2,by omega,rfl,by omega,?_,?_⟩
    ·simp (disch:=(first | omega | (simp only[lnn];omega))) only[qMO,hin,stp]
     rfl
    ·intro y hy
     have:=g2 y hy
     rw[Nat.add_mul]
     omega
    ·rw[g3,h3,hp,show a.length - i=(a.length - 1 - i)+1 by omega,show a.length - (i+1)=a.length - 1 - i by omega,Int.pow_succ]
     push_cast
     grind
   ·have hia:i=a.length:=by omega
    subst hia
    refine .inl ⟨(Ex.exit 0,(a,b,out,(a.length:Int),())),?_,by simp,out,rfl,h1,?_,?_⟩
    ·simp (disch:=(first | omega | (simp only[lnn];omega))) only[qMO,stp]
    ·intro y hy;have:=h2 y hy;omega
    ·rw[h3];unfold pfx;rw[List.take_length,Nat.sub_self];simp) a.length (a,b,List.replicate ((((a.length:Int)+b.length)).toNat) 0,0,()) ⟨0,_,by omega,rfl,by simp;omega,by intro y hy;rw[List.eq_of_mem_replicate hy];simp,by rw[iv_zeros];unfold pfx;simp[dval]⟩
 obtain ⟨N,hN⟩:∃ N,N=out.length:=⟨_,rfl⟩
 obtain ⟨r2,hr2,s,rfl,g1,g2,g3⟩:=qCB (step:=qFM) (Q:=fun r=>∃ s:qBs,r=(Ex.exit 4,(out,qXO s,0,-1,()))/\qFJ s/\s.length=N/\dval s=m * n)
  (fun k x=>∃ (o:List Int) (c:Int) (s:qBs),x=(out,o,c,(k:Int) - 1,())/\k<=N/\o.length=N/\(0<=c/\c<=81 * 100000000000000)/\o.drop k=qXO s/\qFJ s/\s.length=N - k/\(dval s:Int)+c * 10 ^ (N - k)=iv (out.drop k)) (by
   rintro k x ⟨o,c,s,rfl,hk,hol,hc,hds,hs,hsl,hv⟩
   by_cases h0:k=0
   ·subst h0
    rw[List.drop_zero] at hds hv
    rw[Nat.sub_zero] at hv hsl
    rw[h3] at hv
    have hla:=qTP hda
    have hlb:=qTP hdb
    have hprod:dval a * dval b < 10 ^ N:=by
     rw[hN,h1,Nat.pow_add]
     exact Nat.mul_lt_mul'' hla hlb
    have hc0:c=0:=by
     rcases Int.lt_or_eq_of_le hc.1 with h | h
     ·exfalso
      have e1:1 * (10:Int) ^ N<=c * 10 ^ N:=Int.mul_le_mul_of_nonneg_right (by omega) (by have:(0:Int) < 10 ^ N:=Int.pow_pos (by decide);omega)
      rw[show ((10:Int) ^ N)=((10 ^ N:Nat):Int) by push_cast;rfl] at e1 hv
      rw[<-Int.natCast_mul] at hv
      omega
     ·exact h.symm
    subst hc0
    refine .inl ⟨(Ex.exit 4,(out,qXO s,0,-1,())),?_,by simp,s,rfl,hs,hsl,?_⟩
    ·rw[<-hds]
     simp (disch:=(first | omega | (simp only[lnn];omega))) only[qFM,stp]
     rfl
    ·rw[Int.zero_mul,Int.add_zero,<-Int.natCast_mul,hva,hvb] at hv;omega
   ·have e:((k:Int) - 1).toNat=k - 1:=by omega
    have hz:=h2.at (by omega) (k - 1)
    obtain ⟨v,hvv⟩:∃ v,v=out.getD (k - 1) 0+c:=⟨_,rfl⟩
    obtain ⟨d,hd1,hd2,hd3⟩:=qLi (k:=v % 10) (by omega)
    refine .inr ⟨k - 1,(out,o.set (k - 1) (48+v % 10),v / 10,(k:Int) - 1 - 1,()),?_,by omega,o.set (k - 1) (48+v % 10),v / 10,d::s,?_,by omega,by simpa using hol,by omega,?_,hs.cons hd2,by simp[hsl];omega,?_⟩
    ·rw[hvv]
     simp (disch:=(first | omega | (simp only[lnn];omega))) only[qFM,e,stp]
    ·rw[show (k:Int) - 1 - 1=((k - 1:Nat):Int) - 1 by omega]
    ·rw[qJj (by omega),show k - 1+1=k by omega,hds,<-hd1];rfl
    ·rw[qTK,hsl,Int.natCast_add,Int.natCast_mul,hd3,qY6 (show k - 1 < out.length by omega),qXk,<-qKa (by omega),show k - 1+1=k by omega,<-hv,List.length_drop,show N - (k - 1)=(N - k)+1 by omega,<-hN,Int.pow_succ]
     have:=Int.emod_add_mul_ediv v 10
     push_cast
     grind) N (out,List.replicate ((out.length:Int)).toNat 0,0,(out.length:Int) - 1,()) ⟨_,0,[],by rw[hN],Nat.le_refl _,by simp;omega,by omega,by rw[List.drop_of_length_le (by simp;omega)];rfl,by simp[qFJ],by simp,by rw[List.drop_of_length_le (by omega)];simp[dval,iv]⟩
 have ht:=qGK g1 (fun e=>by rw[e] at g2;simp at g2;omega) (by omega)
 rw[g3] at ht
 have hlen:out.length=a.length+b.length:=h1
 have hw:qI ((out.length:Int) - 1)=(out.length:Int) - 1:=w64 (by omega)
 have hw2:qI ((a.length:Int)+b.length)=(a.length:Int)+b.length:=w64 (by omega)
 unfold qPL
 simp only[hw2]
 rw[hr]
 simp only[qAA,qJB,qMA,hw]
 rw[hr2]
 simp (disch:=(first | omega | (simp only[lnn];omega))) only[qLU,ht,stp]
end Go.AM.Num
end
section
set_option linter.unusedSimpArgs false
set_option linter.unusedVariables false
namespace Go.AM.Num
theorem qKp (a:qBs) (q:List Int) (i:Int) (R B:Nat) (hB:B≠0) (hR:(dd R).length<=100000000) (hlt:R < 10 * B) :
 qLA qJL (a,dd B,q,dd R,i,48,())=some (Ex.exit 2,(a,dd B,q,dd (R % B),i,48+((R / B:Nat):Int),())):=by
 obtain ⟨r,hr,rfl⟩:=qCB (step:=qJL) (Q:=fun r=>r=(Ex.exit 2,(a,dd B,q,dd (R % B),i,48+((R / B:Nat):Int),())))
  (fun k x=>∃ S d:Nat,x=(a,dd B,q,dd S,i,48+(d:Int),())/\k=S/\S+d * B=R) (by
   rintro k x ⟨S,d,rfl,rfl,h⟩
   obtain ⟨c,hc,hc1,hc2⟩:=qJt k B
   by_cases hlt':k < B
   ·have hneg:=hc1.2 hlt'
    have hq:R / B=d:=by rw[<-h,Nat.add_mul_div_right _ _ (by omega),Nat.div_eq_of_lt hlt'];omega
    have hm:R % B=k:=by rw[<-h,Nat.add_mul_mod_self_right,Nat.mod_eq_of_lt hlt']
    refine .inl ⟨(Ex.exit 2,(a,dd B,q,dd k,i,48+(d:Int),())),?_,by simp,by rw[hq,hm]⟩
    simp (disch:=(first | omega | (simp only[lnn];omega))) only[qJL,hc,stp]
   ·have hge:c>=0:=by
     rcases Int.lt_or_le c 0 with h' | h'
     ·exact absurd (hc1.1 h') hlt'
     ·exact h'
    have hkl:(dd k).length<=100000000:=Nat.le_trans (qBB (by rw[<-h];omega)) hR
    have hs:=qEj k B hkl (by omega)
    have hd9:d < 9:=by
     have:(d+1) * B<=R:=by rw[Nat.add_mul];omega
     have h2:(d+1) * B < 10 * B:=by omega
     have:=Nat.lt_of_mul_lt_mul_right h2
     omega
    refine .inr ⟨k - B,(a,dd B,q,dd (k - B),i,48+((d+1:Nat):Int),()),?_,by omega,k - B,d+1,rfl,rfl,by rw[Nat.add_mul];omega⟩
    simp (disch:=(first | omega | (simp only[lnn];omega))) only[qJL,hc,hs,stp]
    congr 7) R (a,dd B,q,dd R,i,48,()) ⟨R,0,by simp,rfl,by omega⟩
 exact hr
theorem qMag {α:Type} {l:List α} {i:Nat} (h:i < l.length) (c:α):(l.set i c).take (i+1)=l.take i++[c]:=by
 rw[List.take_succ_eq_append_getElem (by simpa using h),List.getElem_set_self,List.take_set_of_le (by omega)]
theorem qSy (s:qBs) (d:UInt8):qXO (s++[d])=qXO s++[(d.toNat:Int)]:=by simp[qXO]
set_option maxHeartbeats 1000000 in
theorem qDY (m n:Nat) (hm:(dd m).length<=10000000) (hn:(dd n).length<=10000000) (h0:n≠0):qST (dd m) (dd n)=some ((dd (m / n),dd (m % n),()),()):=by
 obtain ⟨a,ha⟩:∃ a,a=dd m:=⟨_,rfl⟩
 have hda:qFJ a:=ha ▸ qMc m
 have hva:dval a=m:=by rw[ha,qEE]
 have hapos:0 < a.length:=by rw[ha];exact qRN m
 rw[<-ha]
 rw[<-ha] at hm
 obtain ⟨r,hr,s,rfl,h1,h2,h3⟩:=qCB (step:=qLO) (Q:=fun r=>∃ s:qBs,r=(Ex.exit 0,(a,dd n,qXO s,dd (m % n),(a.length:Int),()))/\qFJ s/\s.length=a.length/\dval s=m / n)
  (fun k x=>∃ (i:Nat) (q:List Int) (R:Nat) (s:qBs),x=(a,dd n,q,dd R,(i:Int),())/\k+i=a.length/\q.length=a.length/\q.take i=qXO s/\qFJ s/\s.length=i/\R < n/\pfx a i=dval s * n+R) (by
   rintro k x ⟨i,q,R,s,rfl,hk,hql,hqt,hs,hsl,hR,hv⟩
   by_cases hi:i < a.length
   ·have hp:=qBk hi
    have hA:=hda a[i] (List.getElem_mem hi)
    have hcut:(a.take (i+1)).drop i=[a[i]]:=by
     rw[List.take_succ_eq_append_getElem hi]
     have hl:(a.take i).length=i:=by rw[List.length_take];omega
     conv=>lhs;arg 1;rw[<-hl]
     exact List.drop_left
    obtain ⟨A,hAe⟩:∃ A,A=a[i]:=⟨_,rfl⟩
    rw[<-hAe] at hp hA hcut
    have hAl:=qKae hA
    have hRl:(dd R).length<=(dd n).length:=qBB (by omega)
    have htr:=qGK (s:=dd R++[A]) ((qMc R).app (fun c hc=>by rw[List.mem_singleton.1 hc];exact hA)) (by simp) (by simp;omega)
    rw[qLK,qEE] at htr
    obtain ⟨S,hS⟩:∃ S,S=10 * R+dig A:=⟨_,rfl⟩
    rw[<-hS] at htr
    have hSl:(dd S).length<=100000000:=by
     have:S < 10 ^ ((dd n).length+1):=by
      have h1:=qIM n
      rw[Nat.pow_succ];omega
     have:=qUG this (by omega)
     omega
    have hin:=qKp a q (i:Int) S n h0 hSl (by omega)
    have hd9:S / n<=9:=by
     have:S / n < 10:=Nat.div_lt_of_lt_mul (by omega)
     omega
    obtain ⟨d,hd1,hd2,hd3⟩:=qLi (k:=((S / n:Nat):Int)) ⟨Int.natCast_nonneg _,by exact_mod_cast Nat.lt_succ_of_le hd9⟩
    have e1:((i:Int)+1).toNat=i+1:=by omega
    have e2:((i:Int)).toNat=i:=by omega
    have g:(dd R).length+([A]:qBs).length<=qXF:=by rw[qIB];simp;omega
    refine .inr ⟨k - 1,(a,dd n,q.set i (48+((S / n:Nat):Int)),dd (S % n),((i+1:Nat):Int),()),?_,by omega,i+1,_,S % n,s++[d],rfl,by omega,by simpa using hql,?_,?_,by simp[hsl],Nat.mod_lt _ (by omega),?_⟩
    ·simp (disch:=(first | omega | (simp only[lnn];omega))) only[qLO,e1,e2,hcut,qBA g,htr,hin,stp]
     rfl
    ·rw[qMag (by omega),hqt,qSy,hd1]
    ·exact hs.app (fun c hc=>by rw[List.mem_singleton.1 hc];exact hd2)
    ·rw[qLK,hp,hv]
     have h5:dig d=S / n:=by exact_mod_cast hd3
     have h6:=Nat.div_add_mod S n
     rw[h5]
     grind
   ·have hia:i=a.length:=by omega
    subst hia
    rw[List.take_of_length_le (by omega)] at hqt
    have hv':m=dval s * n+R:=by rw[<-hva,<-hv];unfold pfx;rw[List.take_length]
    have hq':m / n=dval s:=by rw[hv',Nat.mul_comm,Nat.mul_add_div (by omega),Nat.div_eq_of_lt hR];omega
    have hm':m % n=R:=by rw[hv',Nat.mul_comm,Nat.mul_add_mod,Nat.mod_eq_of_lt hR]
    refine .inl ⟨(Ex.exit 0,(a,dd n,qXO s,dd (m % n),(a.length:Int),())),?_,by simp,s,rfl,hs,hsl,hq'.symm⟩
    rw[<-hqt,hm']
    simp (disch:=(first | omega | (simp only[lnn];omega))) only[qLO,stp]) a.length (a,dd n,List.replicate ((a.length:Int)).toNat 0,[48],0,()) ⟨0,_,0,[],by rw[qWC];rfl,by omega,by simp,by simp[qXO],by simp[qFJ],rfl,by omega,by unfold pfx;simp[dval]⟩
 have ht:=qGK h1 (fun e=>by rw[e] at h2;simp at h2;omega) (by omega)
 rw[h3] at ht
 unfold qST
 rw[hr]
 simp (disch:=(first | omega | (simp only[lnn];omega))) only[qLU,ht,stp]
theorem qDu (m n:Nat) (hm:(dd m).length<=10000000) (hn:(dd n).length<=10000000):qPb (dd m) (dd n)=some ((dd (Nat.gcd m n),()),()):=by
 obtain ⟨r,hr,b,rfl⟩:=qCB (step:=qVN) (Q:=fun r=>∃ b,r=(Ex.exit 0,(dd (Nat.gcd m n),b,())))
  (fun k x=>∃ a b:Nat,x=(dd a,dd b,())/\k=b/\Nat.gcd a b=Nat.gcd m n/\(dd a).length<=10000000/\(dd b).length<=10000000) (by
   rintro k x ⟨a,b,rfl,rfl,hg,ha,hb⟩
   by_cases h0:k=0
   ·subst h0
    refine .inl ⟨(Ex.exit 0,(dd a,dd 0,())),?_,by simp,dd 0,by rw[<-hg,Nat.gcd_zero_right]⟩
    simp (disch:=(first | omega | (simp only[lnn];omega))) only[qVN,qVC qWC,stp]
   ·have hne:dd k≠[48]:=fun e=>h0 (by rw[<-qWC] at e;exact qGQ e)
    refine .inr ⟨a % k,_,?_,Nat.mod_lt _ (by omega),k,a % k,rfl,rfl,?_,hb,?_⟩
    ·simp (disch:=(first | omega | (simp only[lnn];omega))) only[qVN,qHC hne,qDY a k ha hb h0,stp]
    ·rw[Nat.gcd_comm,<-Nat.gcd_rec,Nat.gcd_comm,hg]
    ·exact Nat.le_trans (qBB (Nat.le_of_lt (Nat.mod_lt _ (by omega)))) hb) n _ ⟨m,n,rfl,rfl,rfl,hm,hn⟩
 unfold qPb
 rw[hr]
 simp (disch:=(first | omega | (simp only[lnn];omega))) only[stp]
end Go.AM.Num
end
section
set_option linter.unusedSimpArgs false
set_option linter.unusedVariables false
namespace Go.AM.Num
theorem qQH (m:Nat):(dd m==[48])=decide (m=0):=by
 by_cases h:m=0
 ·subst h;rw[qZ10 rfl];exact qVC qWC
 ·rw[qZ9 h];exact qHC (fun e=>h (by rw[<-qWC] at e;exact qGQ e))
theorem qDZ (m:Nat):(dd m==[49])=decide (m=1):=by
 by_cases h:m=1
 ·subst h;rw[qZ10 rfl];exact qVC qFP
 ·rw[qZ9 h];exact qHC (fun e=>h (by rw[<-qFP] at e;exact qGQ e))
def rr (neg:Bool) (m d:Nat):Bool×qBs×qBs:=(neg&&decide (m≠0),dd m,dd d)
theorem qBe (neg:Bool) (m d:Nat) (hm:(dd m).length<=100000000) (hd:(dd d).length<=100000000):qDB ((rr neg m d).1,(rr neg m d).2.1,(rr neg m d).2.2)=some ((tx neg m d,()),()):=by
 have h1:([45]:qBs).length+(dd m).length<=qXF:=by rw[qIB];simp;omega
 have h2:([47]:qBs).length+(dd d).length<=qXF:=by rw[qIB];simp;omega
 have h3:(([45]:qBs)++dd m).length+(([47]:qBs)++dd d).length<=qXF:=by rw[qIB];simp;omega
 have h4:(dd m).length+(([47]:qBs)++dd d).length<=qXF:=by rw[qIB];simp;omega
 have h5:=qDZ d
 unfold qDB tx rr
 dsimp only
 by_cases hn:neg=true/\m≠0
 ·have e:(neg&&decide (m≠0))=true:=by rw[hn.1,qZ10 hn.2];rfl
  rw[e,if_pos hn]
  by_cases h:d=1
  ·rw[qZ10 h] at h5
   simp (disch:=(first | omega | (simp only[lnn];omega))) only[h5,qBA h1,stp]
   rw[if_pos h];simp
  ·rw[qZ9 h] at h5
   simp (disch:=(first | omega | (simp only[lnn];omega))) only[h5,qBA h1,qBA h2,qBA h3,stp]
   rw[if_neg h];rfl
 ·have e:(neg&&decide (m≠0))=false:=by
   cases neg with
   |false=>rfl
   |true=>
    have:m=0:=by simpa using hn
    subst this;rfl
  rw[e,if_neg hn]
  by_cases h:d=1
  ·rw[qZ10 h] at h5
   simp (disch:=(first | omega | (simp only[lnn];omega))) only[h5,stp]
   rw[if_pos h];simp
  ·rw[qZ9 h] at h5
   simp (disch:=(first | omega | (simp only[lnn];omega))) only[h5,qBA h2,qBA h4,stp]
   rw[if_neg h];rfl
theorem qXq (neg:Bool) (m d:Nat) (hd:d≠0) (hm:(dd m).length<=10000000) (hdl:(dd d).length<=10000000) :
 qGH neg (dd m) (dd d)=some ((rr neg (m / Nat.gcd m d) (d / Nat.gcd m d),()),()):=by
 have hg0:Nat.gcd m d≠0:=fun e=>hd (Nat.gcd_eq_zero_iff.1 e).2
 have hgl:(dd (Nat.gcd m d)).length<=10000000:=Nat.le_trans (qBB (Nat.le_of_dvd (by omega) (Nat.gcd_dvd_right m d))) hdl
 have hz:=qQH (m / Nat.gcd m d)
 unfold qGH rr
 cases neg with
 |false=>
  simp (disch:=(first | omega | (simp only[lnn];omega))) only[qDu m d hm hdl,qDY m _ hm hgl hg0,qDY d _ hdl hgl hg0,stp]
  rfl
 |true=>
  simp (disch:=(first | omega | (simp only[lnn];omega))) only[qDu m d hm hdl,qDY m _ hm hgl hg0,qDY d _ hdl hgl hg0,hz,stp]
  simp only[Bool.true_and,ne_eq,decide_not]
theorem qIam (neg:Bool) (m d:Nat) (hd:d≠0) (hm:(dd m).length<=10000000) (hdl:(dd d).length<=10000000) :
 ∃ r,qGH neg (dd m) (dd d)=some ((r,()),())/\qDB (r.1,r.2.1,r.2.2)=some ((txt (mkRat (sg neg m) d),()),()):=by
 refine ⟨_,qXq neg m d hd hm hdl,?_⟩
 rw[qBe neg _ _ (Nat.le_trans (qBB (Nat.div_le_self _ _)) (by omega)) (Nat.le_trans (qBB (Nat.div_le_self _ _)) (by omega)),qSW neg m d hd]
def bad:Bool×qBs×qBs:=(false,[],[])
noncomputable def qCw (a:qBs) (neg:Bool) (num den:qBs):Option (((Bool×qBs×qBs)×Bool×Unit)×Unit):=
 (qPK num).bind fun r2=>
 cond (!r2.1.1)
 (some (((false,([]:qBs),([]:qBs)),false,()),()))
 ((qPK den).bind fun r3=>
 cond (!r3.1.1)
 (some (((false,([]:qBs),([]:qBs)),false,()),()))
 (cond (den==([48]:qBs))
 (some (((false,([]:qBs),([]:qBs)),false,()),()))
 ((qXM num).bind fun r4=>
 cond (!(r4.1.1==num))
 (some (((false,([]:qBs),([]:qBs)),false,()),()))
 ((qXM den).bind fun r5=>
 cond (!(r5.1.1==den))
 (some (((false,([]:qBs),([]:qBs)),false,()),()))
 ((qGH neg num den).bind fun r6=>
 (qDB (r6.1.1.1,r6.1.1.2.1,r6.1.1.2.2)).bind fun r7=>
 cond (!(r7.1.1==a))
 (some (((false,([]:qBs),([]:qBs)),false,()),()))
 (some (((neg,num,den),true,()),())))))))
theorem qTz (m:Nat):figs (dd m):=⟨qKb m,qMc m⟩
theorem qAx {a:qBs} {neg:Bool} {m d:Nat} (hd:d≠0) (hm:(dd m).length<=10000000) (hdl:(dd d).length<=10000000) (ha:a=txt (mkRat (sg neg m) d)) :
 qCw a neg (dd m) (dd d)=some (((neg,dd m,dd d),true,()),()):=by
 obtain ⟨r,h1,h2⟩:=qIam neg m d hd hm hdl
 have t1:=qGK (qMc m) (qKb m) (by omega)
 have t2:=qGK (qMc d) (qKb d) (by omega)
 rw[qEE] at t1 t2
 have z:=qQH d
 rw[qZ9 hd] at z
 unfold qCw
 simp (disch:=(first | omega | (simp only[lnn];omega))) only[qNR (s:=dd m) (by omega),qNR (s:=dd d) (by omega),qZ10 (qTz m),qZ10 (qTz d),z,t1,t2,qVC (rfl:dd m=dd m),qVC (rfl:dd d=dd d),h1,h2,qVC ha.symm,stp]
theorem qBy {a num den:qBs} {neg:Bool} (hn:num.length<=1000000) (hdl:den.length<=1000000) :
 (∃ m d,num=dd m/\den=dd d/\d≠0/\a=txt (mkRat (sg neg m) d)/\qCw a neg num den=some (((neg,num,den),true,()),()))\/
 (qCw a neg num den=some ((bad,false,()),())/\¬ ∃ m d,num=dd m/\den=dd d/\d≠0/\a=txt (mkRat (sg neg m) d)):=by
 by_cases hex:∃ m d,num=dd m/\den=dd d/\d≠0/\a=txt (mkRat (sg neg m) d)
 ·obtain ⟨m,d,rfl,rfl,hd,ha⟩:=hex
  exact .inl ⟨m,d,rfl,rfl,hd,ha,qAx hd (by omega) (by omega) ha⟩
 ·refine .inr ⟨?_,hex⟩
  have d1:=qNR (s:=num) (by omega)
  have d2:=qNR (s:=den) (by omega)
  unfold qCw bad
  by_cases f1:figs num
  ·by_cases f2:figs den
   ·have t1:=qGK f1.2 f1.1 (by omega)
    have t2:=qGK f2.2 f2.1 (by omega)
    by_cases z:den=[48]
    ·simp (disch:=(first | omega | (simp only[lnn];omega))) only[d1,d2,qZ10 f1,qZ10 f2,qVC z,stp]
    ·by_cases e1:dd (dval num)=num
     ·by_cases e2:dd (dval den)=den
      ·have hd:dval den≠0:=fun e=>z (by rw[<-e2,e,qWC])
       obtain ⟨r,g1,g2⟩:=qIam neg (dval num) (dval den) hd (by rw[e1];omega) (by rw[e2];omega)
       rw[e1,e2] at g1
       have hna:txt (mkRat (sg neg (dval num)) (dval den))≠a:=fun e=>hex ⟨_,_,e1.symm,e2.symm,hd,e.symm⟩
       simp (disch:=(first | omega | (simp only[lnn];omega))) only[d1,d2,qZ10 f1,qZ10 f2,qHC z,t1,t2,qVC e1,qVC e2,g1,g2,qHC hna,stp]
      ·simp (disch:=(first | omega | (simp only[lnn];omega))) only[d1,d2,qZ10 f1,qZ10 f2,qHC z,t1,t2,qVC e1,qHC e2,stp]
     ·simp (disch:=(first | omega | (simp only[lnn];omega))) only[d1,d2,qZ10 f1,qZ10 f2,qHC z,t1,qHC e1,stp]
   ·simp (disch:=(first | omega | (simp only[lnn];omega))) only[d1,d2,qZ10 f1,qZ9 f2,stp]
  ·simp (disch:=(first | omega | (simp only[lnn];omega))) only[d1,qZ9 f1,stp]
theorem qRal (a s:qBs) (t2:Bool×qBs×qBs) (neg:Bool) (hl:s.length<=1000000000) :
 ∃ num den i,qLA qEI (a,t2,(neg,[],[49]),s,0,())=some (Ex.exit 0,(a,t2,(neg,[],den),num,i,()))/\
  ((s=num/\den=[49]/\(47:UInt8)∉s)\/(s=num++47::den/\(47:UInt8)∉num)):=by
 obtain ⟨r,hr,num,den,i,rfl,hq⟩:=qCB (step:=qEI) (Q:=fun r=>∃ num den i,r=(Ex.exit 0,(a,t2,(neg,[],den),num,i,()))/\((s=num/\den=[49]/\(47:UInt8)∉s)\/(s=num++47::den/\(47:UInt8)∉num)))
  (fun m x=>∃ k:Nat,m+k=s.length/\x=(a,t2,(neg,[],[49]),s,(k:Int),())/\(47:UInt8)∉s.take k) (by
   rintro m x ⟨k,hm,rfl,hk⟩
   by_cases h:k < s.length
   ·have hg:=qNT h
    have e:(k:Int).toNat=k:=by omega
    have e1:((k:Int)+1).toNat=k+1:=by omega
    by_cases h47:s[k]=47
    ·have hc:((s[k].toNat:Nat):Int)=47:=by rw[h47];rfl
     refine .inl ⟨(Ex.exit 0,(a,t2,(neg,[],s.drop (k+1)),s.take k,(k:Int),())),?_,by simp,s.take k,s.drop (k+1),(k:Int),rfl,.inr ⟨?_,hk⟩⟩
     ·simp (disch:=(first | omega | (simp only[lnn];omega))) only[qEI,e,e1,hg,hc,stp]
     ·conv=>lhs;rw[<-List.take_append_drop k s,qY6 h,h47]
    ·have hc:((s[k].toNat:Nat):Int)≠47:=fun e=>h47 (UInt8.toNat_inj.1 (by show s[k].toNat=47;omega))
     refine .inr ⟨m - 1,(a,t2,(neg,[],[49]),s,((k+1:Nat):Int),()),?_,by omega,k+1,by omega,rfl,?_⟩
     ·simp (disch:=(first | omega | (simp only[lnn];omega))) only[qEI,e,hg,qCA hc,stp]
      rfl
     ·rw[List.take_succ_eq_append_getElem h]
      intro hm'
      rcases List.mem_append.1 hm' with hm' | hm'
      ·exact hk hm'
      ·exact h47 (List.mem_singleton.1 hm').symm
   ·have hks:k=s.length:=by omega
    subst hks
    refine .inl ⟨(Ex.exit 0,(a,t2,(neg,[],[49]),s,(s.length:Int),())),?_,by simp,s,[49],_,rfl,.inl ⟨rfl,rfl,by simpa using hk⟩⟩
    simp (disch:=(first | omega | (simp only[lnn];omega))) only[qEI,stp]) s.length _ ⟨0,by omega,rfl,by simp⟩
 exact ⟨num,den,i,hr,hq⟩
theorem qTq (a:qBs) (hl:a.length<=1000000000):∃ neg s num den,a=sgn neg++s/\(neg=false->∀ r,s≠45::r)/\((s=num/\den=[49]/\(47:UInt8)∉s)\/(s=num++47::den/\(47:UInt8)∉num))/\qIF a=qCw a neg num den:=by
 have h00:((0:Int)).toNat=0:=rfl
 have h11:((1:Int)).toNat=1:=rfl
 by_cases h0:a=[]
 ·subst h0
  obtain ⟨num,den,i,hs,hq⟩:=qRal [] [] (false,[],[]) false (by simp)
  refine ⟨false,[],num,den,rfl,fun _ r=>by simp,hq,?_⟩
  unfold qIF
  simp (disch:=(first | omega | (simp only[lnn];omega))) only[hs,stp]
  rfl
 ·cases a with
  |nil=>exact absurd rfl h0
  |cons c s=>
   have hne:=qHC h0
   have hg:(c::s:qBs).getD 0 0=c:=rfl
   have hlen:(c::s).length=s.length+1:=rfl
   by_cases hc:c=45
   ·subst hc
    obtain ⟨num,den,i,hs,hq⟩:=qRal (45::s) s (false,[],[]) true (by omega)
    have h45:(((45:UInt8).toNat:Nat):Int)=45:=rfl
    refine ⟨true,s,num,den,rfl,(fun h=>by cases h),hq,?_⟩
    have hdrop:(45::s:qBs).drop 1=s:=rfl
    unfold qIF
    simp (disch:=(first | omega | (simp only[lnn];omega))) only[hne,h00,hg,h45,h11,hdrop,hs,stp]
    rfl
   ·have hcn:((c.toNat:Nat):Int)≠45:=fun e=>hc (UInt8.toNat_inj.1 (by show c.toNat=45;omega))
    obtain ⟨num,den,i,hs,hq⟩:=qRal (c::s) (c::s) (false,[],[]) false (by omega)
    refine ⟨false,c::s,num,den,rfl,fun _ r h=>hc (by simpa using (List.cons.inj h).1),hq,?_⟩
    unfold qIF
    simp (disch:=(first | omega | (simp only[lnn];omega))) only[hne,h00,hg,qCA hcn,hs,stp]
    rfl
theorem qIn (a:qBs) (hl:a.length<=1000000) :
 (∃ q,a=txt q/\qIF a=some (((decide (q.num < 0),dd q.num.natAbs,dd q.den),true,()),()))\/(qIF a=some ((bad,false,()),())/\rd a=none):=by
 obtain ⟨neg,s,num,den,ha,hs,hq,hp⟩:=qTq a (by omega)
 have hsl:s.length<=1000000:=by rw[ha,qZ6] at hl;omega
 have hnl:num.length<=1000000/\den.length<=1000000:=by
  rcases hq with ⟨rfl,rfl,_⟩ | ⟨rfl,_⟩
  ·exact ⟨hsl,by simp⟩
  ·rw[qZ6,qY11] at hsl;exact ⟨by omega,by omega⟩
 have shp:∀ q,a=txt q->neg=decide (q.num < 0)/\num=dd q.num.natAbs/\den=dd q.den:=by
  intro q h
  obtain ⟨e1,e2⟩:=shape hs (ha ▸ h)
  refine ⟨e1,?_⟩
  rcases hq with ⟨rfl,rfl,hx⟩ | ⟨rfl,hx⟩
  ·by_cases hd:q.den=1
   ·rw[if_pos hd,qY4] at e2
    exact ⟨e2,by rw[hd,qFP]⟩
   ·rw[if_neg hd] at e2
    exact absurd (by rw[e2];simp) hx
  ·by_cases hd:q.den=1
   ·rw[if_pos hd,qY4] at e2
    exact absurd (show (47:UInt8)∈dd q.num.natAbs by rw[<-e2];simp) qAY
   ·rw[if_neg hd] at e2
    exact qWe hx qAY e2
 rw[hp]
 rcases qBy (a:=a) (neg:=neg) hnl.1 hnl.2 with ⟨m,d,rfl,rfl,hd,hat,hg⟩ | ⟨hg,hno⟩
 ·obtain ⟨e1,e2,e3⟩:=shp _ hat
  refine .inl ⟨_,hat,?_⟩
  rw[hg,<-e1,<-e2,<-e3]
 ·refine .inr ⟨hg,qEd fun q h=>hno ?_⟩
  obtain ⟨e1,e2,e3⟩:=shp q h
  refine ⟨q.num.natAbs,q.den,e2,e3,q.den_nz,?_⟩
  rw[e1,qWc,Rat.mkRat_self];exact h
end Go.AM.Num
end
section
set_option linter.unusedSimpArgs false
set_option linter.unusedVariables false
namespace Go.AM.Num
theorem rp (a:qBs) (hl:a.length<=1000000) :
 (∃ q,a=txt q/\rd a=some q/\D q<=1000001/\qIF a=some (((decide (q.num < 0),dd q.num.natAbs,dd q.den),true,()),()))\/(rd a=none/\qIF a=some ((bad,false,()),())):=by
 rcases qIn a hl with ⟨q,rfl,h⟩ | ⟨h1,h2⟩
 ·exact .inl ⟨q,rfl,qIK q,qQU hl,h⟩
 ·exact .inr ⟨h2,h1⟩
theorem qAU {a:qBs} (ha:a.length<=1000000):qRM a=some (((rd a).isSome,()),()):=by
 unfold qRM
 rcases rp a ha with ⟨q,e,hr,_,hp⟩ | ⟨hr,hp⟩
 ·rw[hr];simp (disch:=(first | omega | (simp only[lnn];omega))) only[hp,stp];rfl
 ·rw[hr];simp (disch:=(first | omega | (simp only[lnn];omega))) only[hp,stp];rfl
theorem qQN {a:qBs} (ha:a.length<=1000000):qKF a=some ((isI a,()),()):=by
 unfold qKF isI
 rcases rp a ha with ⟨q,e,hr,_,hp⟩ | ⟨hr,hp⟩
 ·rw[hr]
  simp (disch:=(first | omega | (simp only[lnn];omega))) only[hp,qDZ,stp]
  rfl
 ·rw[hr];simp (disch:=(first | omega | (simp only[lnn];omega))) only[hp,stp]
theorem qGY {a:qBs} (ha:a.length<=1000000):qRf a=some ((qGa a,()),()):=by
 unfold qRf qGa
 rcases rp a ha with ⟨q,e,hr,_,hp⟩ | ⟨hr,hp⟩
 ·rw[hr]
  rcases Int.lt_trichotomy q.num 0 with h | h | h
  ·simp (disch:=(first | omega | (simp only[lnn];omega))) only[hp,qQH,qZ9 (show ¬ q.num.natAbs=0 by omega),qZ10 h,stp]
   rw[Int.sign_eq_neg_one_of_neg h]
  ·simp (disch:=(first | omega | (simp only[lnn];omega))) only[hp,qQH,qZ10 (show q.num.natAbs=0 by omega),stp]
   rw[h];rfl
  ·simp (disch:=(first | omega | (simp only[lnn];omega))) only[hp,qQH,qZ9 (show ¬ q.num.natAbs=0 by omega),qZ9 (show ¬ q.num < 0 by omega),stp]
   rw[Int.sign_eq_one_of_pos h]
 ·rw[hr];simp (disch:=(first | omega | (simp only[lnn];omega))) only[hp,stp]
theorem qHt (neg:Bool) (q:Rat) (h:D q<=1000001):qDB (neg&&decide (q.num.natAbs≠0),dd q.num.natAbs,dd q.den)=some ((tx neg q.num.natAbs q.den,()),()):=
 qBe neg _ _ (by have:=qSO q;omega) (by have:=qUM q;omega)
theorem qOak (q:Rat):tx (!decide (q.num < 0)) q.num.natAbs q.den=txt (-q):=by
 unfold tx txt
 rw[Rat.neg_num,Rat.neg_den,Int.natAbs_neg]
 have:((!decide (q.num < 0))=true/\q.num.natAbs≠0) ↔ -q.num < 0:=by
  constructor
  ·rintro ⟨h1,h2⟩
   have:¬ q.num < 0:=by simpa using h1
   omega
  ·intro h;exact ⟨by rw[qZ9 (by omega)];rfl,by omega⟩
 simp only[this]
theorem qDt {a:qBs} (ha:a.length<=1000000):qLae a=some ((un (fun q=>txt (-q)) a,()),()):=by
 unfold qLae
 rcases rp a ha with ⟨q,e,hr,hD,hp⟩ | ⟨hr,hp⟩
 ·rw[e] at hp ⊢
  rw[qUS]
  by_cases h:q.num < 0
  ·have ht:=qHt false q hD
   have e1:=qOak q
   rw[qZ10 h] at e1
   simp only[qY2] at e1
   rw[e1] at ht
   simp (disch:=(first | omega | (simp only[lnn];omega))) only[hp,qZ10 h,stp]
   simp only[Bool.false_and] at ht
   rw[ht];rfl
  ·have ht:=qHt true q hD
   have e1:=qOak q
   rw[qZ9 h] at e1
   simp only[qY1] at e1
   rw[e1] at ht
   have e2:(!(dd q.num.natAbs==[48]))=(true&&decide (q.num.natAbs≠0)):=by rw[qQH];simp
   rw[<-e2] at ht
   simp (disch:=(first | omega | (simp only[lnn];omega))) only[hp,qZ9 h,stp]
   rw[ht];rfl
 ·rw[qBj hr];simp (disch:=(first | omega | (simp only[lnn];omega))) only[hp,stp]
theorem qKz (neg:Bool) (m d:Nat) (hd:d≠0) (hm:(dd m).length<=10000000) (hdl:(dd d).length<=10000000) {ρ:Type} (K:qBs->Option ρ) :
 (qGH neg (dd m) (dd d)).bind (fun r5=>(qDB (r5.1.1.1,r5.1.1.2.1,r5.1.1.2.2)).bind fun r6=>K r6.1.1)=K (txt (mkRat (sg neg m) d)):=by
 obtain ⟨r,h1,h2⟩:=qIam neg m d hd hm hdl
 rw[h1,qAA]
 show (qDB (r.1,r.2.1,r.2.2)).bind _=_
 rw[h2];rfl
theorem qXaa {a b:qBs} (ha:a.length<=900000) (hb:b.length<=900000):qBai a b=some ((bin (fun p q=>txt (p+q)) a b,()),()):=by
 unfold qBai
 rcases rp a (by omega) with ⟨p,rfl,hr1,hD1,hp1⟩ | ⟨hr1,hp1⟩
 ·rcases rp b (by omega) with ⟨q,rfl,hr2,hD2,hp2⟩ | ⟨hr2,hp2⟩
  ·rw[qIW,qFu]
   have a1:=qSO p
   have a2:=qUM p
   have a3:=qSO q
   have a4:=qUM q
   have b1:=qSB p.num.natAbs q.den
   have b2:=qSB q.num.natAbs p.den
   have b3:=qSB p.den q.den
   have b4:=qGU (p.num.natAbs * q.den) (q.num.natAbs * p.den)
   have b5:=qBB (Nat.sub_le (p.num.natAbs * q.den) (q.num.natAbs * p.den))
   have b6:=qBB (Nat.sub_le (q.num.natAbs * p.den) (p.num.natAbs * q.den))
   have m1:=qUR p.num.natAbs q.den (by omega) (by omega)
   have m2:=qUR q.num.natAbs p.den (by omega) (by omega)
   have m3:=qUR p.den q.den (by omega) (by omega)
   have hd0:p.den * q.den≠0:=Nat.mul_ne_zero p.den_nz q.den_nz
   obtain ⟨x,hx⟩:∃ x,x=p.num.natAbs * q.den:=⟨_,rfl⟩
   obtain ⟨y,hy⟩:∃ y,y=q.num.natAbs * p.den:=⟨_,rfl⟩
   rw[<-hx] at b1 b4 b5 b6 m1 ⊢
   rw[<-hy] at b2 b4 b5 b6 m2 ⊢
   obtain ⟨n1,hn1⟩:∃ n,n=decide (p.num < 0):=⟨_,rfl⟩
   obtain ⟨n2,hn2⟩:∃ n,n=decide (q.num < 0):=⟨_,rfl⟩
   rw[<-hn1] at hp1 ⊢
   rw[<-hn2] at hp2 ⊢
   by_cases hs:n1=n2
   ·subst hs
    have e:sg n1 x+sg n1 y=sg n1 (x+y):=by cases n1<;>simp[sg];omega
    rw[e]
    simp (disch:=(first | omega | (simp only[lnn];omega))) only[hp1,hp2,m1,m2,m3,beq_self_eq_true,qNag x y (by omega) (by omega),stp]
    exact qKz n1 (x+y) (p.den * q.den) hd0 (by omega) (by omega) (fun t=>some ((t,()),()))
   ·have hsb:(n1==n2)=false:=by simpa using hs
    obtain ⟨c,hc,hc1,hc2⟩:=qJt x y
    by_cases hle:y<=x
    ·have hc0:c>=0:=by
      rcases Int.lt_or_le c 0 with h | h
      ·have:=hc1.1 h;omega
      ·exact h
     have e:sg n1 x+sg n2 y=sg n1 (x - y):=by cases n1<;>cases n2<;>simp_all [sg]<;>omega
     rw[e]
     simp (disch:=(first | omega | (simp only[lnn];omega))) only[hp1,hp2,m1,m2,m3,hsb,hc,qEj x y (by omega) hle,stp]
     exact qKz n1 (x - y) (p.den * q.den) hd0 (by omega) (by omega) (fun t=>some ((t,()),()))
    ·have hc0:¬ c>=0:=by have:=hc1.2 (by omega);omega
     have e:sg n1 x+sg n2 y=sg n2 (y - x):=by cases n1<;>cases n2<;>simp_all [sg]<;>omega
     rw[e]
     simp (disch:=(first | omega | (simp only[lnn];omega))) only[hp1,hp2,m1,m2,m3,hsb,hc,qEj y x (by omega) (by omega),stp]
     exact qKz n2 (y - x) (p.den * q.den) hd0 (by omega) (by omega) (fun t=>some ((t,()),()))
  ·rw[qJv hr2];simp (disch:=(first | omega | (simp only[lnn];omega))) only[hp1,hp2,stp]
 ·rcases rp b (by omega) with ⟨q,rfl,hr2,hD2,hp2⟩ | ⟨hr2,hp2⟩<;>(rw[qWag hr1];simp (disch:=(first | omega | (simp only[lnn];omega))) only[hp1,hp2,stp])
theorem qSad {a b:qBs} (ha:a.length<=900000) (hb:b.length<=900000):qWaf a b=some ((bin (fun p q=>txt (p * q)) a b,()),()):=by
 unfold qWaf
 rcases rp a (by omega) with ⟨p,rfl,hr1,hD1,hp1⟩ | ⟨hr1,hp1⟩
 ·rcases rp b (by omega) with ⟨q,rfl,hr2,hD2,hp2⟩ | ⟨hr2,hp2⟩
  ·rw[qIW,Rat.mul_def']
   have a1:=qSO p
   have a2:=qUM p
   have a3:=qSO q
   have a4:=qUM q
   have b1:=qSB p.num.natAbs q.num.natAbs
   have b3:=qSB p.den q.den
   have m1:=qUR p.num.natAbs q.num.natAbs (by omega) (by omega)
   have m3:=qUR p.den q.den (by omega) (by omega)
   have e:p.num * q.num=sg (decide (p.num < 0) !=decide (q.num < 0)) (p.num.natAbs * q.num.natAbs):=by rw[<-qQu,qWc,qWc]
   rw[e]
   simp (disch:=(first | omega | (simp only[lnn];omega))) only[hp1,hp2,m1,m3,stp]
   exact qKz _ (p.num.natAbs * q.num.natAbs) (p.den * q.den) (Nat.mul_ne_zero p.den_nz q.den_nz) (by omega) (by omega) (fun t=>some ((t,()),()))
  ·rw[qJv hr2];simp (disch:=(first | omega | (simp only[lnn];omega))) only[hp1,hp2,stp]
 ·rcases rp b (by omega) with ⟨q,rfl,hr2,hD2,hp2⟩ | ⟨hr2,hp2⟩<;>(rw[qWag hr1];simp (disch:=(first | omega | (simp only[lnn];omega))) only[hp1,hp2,stp])
theorem qPad {a b:qBs} (ha:a.length<=900000) (hb:b.length<=900000):qIaj a b=some ((bin qdiv a b,()),()):=by
 unfold qIaj
 rcases rp a (by omega) with ⟨p,rfl,hr1,hD1,hp1⟩ | ⟨hr1,hp1⟩
 ·rcases rp b (by omega) with ⟨q,rfl,hr2,hD2,hp2⟩ | ⟨hr2,hp2⟩
  ·rw[qIW]
   unfold qdiv
   by_cases hq:q=0
   ·have hn:q.num.natAbs=0:=by rw[hq];rfl
    rw[if_pos hq]
    simp (disch:=(first | omega | (simp only[lnn];omega))) only[hp1,hp2,qQH,qZ10 hn,stp]
   ·have hn:q.num.natAbs≠0:=fun e=>hq (Rat.num_eq_zero.1 (by omega))
    rw[if_neg hq,Rat.div_def,qPaf q hq]
    have a1:=qSO p
    have a2:=qUM p
    have a3:=qSO q
    have a4:=qUM q
    have b1:=qSB p.num.natAbs q.den
    have b3:=qSB p.den q.num.natAbs
    have m1:=qUR p.num.natAbs q.den (by omega) (by omega)
    have m3:=qUR p.den q.num.natAbs (by omega) (by omega)
    have e:p * mkRat (sg (decide (q.num < 0)) q.den) q.num.natAbs=mkRat (sg (decide (p.num < 0) !=decide (q.num < 0)) (p.num.natAbs * q.den)) (p.den * q.num.natAbs):=by
     rw[<-qQu,<-Rat.mkRat_mul_mkRat,qWc,Rat.mkRat_self]
    rw[e]
    simp (disch:=(first | omega | (simp only[lnn];omega))) only[hp1,hp2,qQH,qZ9 hn,m1,m3,stp]
    exact qKz _ (p.num.natAbs * q.den) (p.den * q.num.natAbs) (Nat.mul_ne_zero p.den_nz hn) (by omega) (by omega) (fun t=>some ((t,()),()))
  ·rw[qJv hr2];simp (disch:=(first | omega | (simp only[lnn];omega))) only[hp1,hp2,stp]
 ·rcases rp b (by omega) with ⟨q,rfl,hr2,hD2,hp2⟩ | ⟨hr2,hp2⟩<;>(rw[qWag hr1];simp (disch:=(first | omega | (simp only[lnn];omega))) only[hp1,hp2,stp])
theorem qGae {a b:qBs} (ha:a.length<=200000) (hb:b.length<=200000):qMai a b=some ((bin (fun p q=>txt (p - q)) a b,()),()):=by
 have h1:=qBr (a:=a) (b:=b) (by omega) (by omega)
 unfold qKaf at h1
 rw[qEac (by omega),qAA] at h1
 dsimp only at h1
 rw[qNaj (by omega) (by have:=qPr hb;omega),qAA] at h1
 unfold qMai
 rw[qDt (by omega),qAA]
 dsimp only
 rw[qXaa (by omega) (by have:=qPr hb;omega),qAA]
 exact h1
theorem qIm {a b:qBs} (ha:a.length<=200000) (hb:b.length<=200000):qLg a b=some ((qCt a b,()),()):=by
 have h1:=qMab (a:=a) (b:=b) (by omega) (by omega)
 have hl:=qDab (f:=fun p q=>p - q) (fun p q=>by rw[Rat.sub_eq_add_neg];have:=qUaq p (-q);rw[qOn] at this;exact this) ha hb
 unfold qSf at h1
 rw[qBr (by omega) (by omega),qAA] at h1
 dsimp only at h1
 rw[qHZ (by omega),qAA] at h1
 unfold qLg
 have v1:=qAU (a:=a) (by omega)
 have v2:=qAU (a:=b) (by omega)
 cases hr1:rd a with
 |none=>
  have e:qCt a b=0:=by unfold qCt;rw[hr1]
  rw[hr1] at v1
  rw[e];simp (disch:=(first | omega | (simp only[lnn];omega))) only[v1,Option.isSome_none,stp]
 |some p=>
  rw[hr1] at v1
  cases hr2:rd b with
  |none=>
   have e:qCt a b=0:=by unfold qCt;rw[hr1,hr2]
   rw[hr2] at v2
   rw[e];simp (disch:=(first | omega | (simp only[lnn];omega))) only[v1,v2,Option.isSome_some,Option.isSome_none,stp]
  |some q=>
   rw[hr2] at v2
   simp (disch:=(first | omega | (simp only[lnn];omega))) only[v1,v2,Option.isSome_some,qGae (a:=a) (b:=b) (by omega) (by omega),stp]
   rw[qGY (by omega),qAA]
   exact h1
end Go.AM.Num
end
section
set_option linter.unusedSimpArgs false
set_option linter.unusedVariables false
namespace Go.AM.Num
theorem qXz (x:Int):0<=qU x/\qU x<=18446744073709551615:=by
 show 0<=IntKind.wrap .u64 x/\IntKind.wrap .u64 x<=18446744073709551615
 simp[IntKind.wrap,IntKind.bits,IntKind.signed];omega
theorem tdm (v:Int):(v.tmod 10=if v < 0 then -((v.natAbs % 10:Nat):Int) else ((v.natAbs % 10:Nat):Int))/\(v.tdiv 10=if v < 0 then -((v.natAbs / 10:Nat):Int) else ((v.natAbs / 10:Nat):Int)):=by
 by_cases h:v < 0
 ·obtain ⟨u,hu⟩:∃ u:Nat,v=-(u:Int):=⟨v.natAbs,by omega⟩
  rw[if_pos h,if_pos h,hu,Int.neg_tmod,Int.neg_tdiv,tm (by omega),td (by omega)]
  constructor<;>omega
 ·rw[if_neg h,if_neg h,tm (by omega),td (by omega)]
  constructor<;>omega
theorem qCan (n v:Int) (s:qBs) (hv:-9223372036854775808<=v/\v<=9223372036854775807) (hs:s.length<=1000) (h:v≠0\/s=[]) :
 qRJ (n,s,v,())=some (.normal,(n,UInt8.ofNat (48+v.natAbs % 10)::s,v.tdiv 10,())):=by
 obtain ⟨h1,h2⟩:=tdm v
 have e3:qI (v.tdiv 10)=v.tdiv 10:=w64 (by rw[h2];split<;>omega)
 have e1:v.tmod 10 < 0->IntKind.u8.wrap (qI ((48:Int)+qI (0 - v.tmod 10)))=((48+v.natAbs % 10:Nat):Int):=by
  intro hn
  rw[h1] at hn ⊢
  split at hn
  ·rename_i hv0
   rw[if_pos hv0,show (0:Int) - -((v.natAbs % 10:Nat):Int)=((v.natAbs % 10:Nat):Int) by omega,w64 (x:=((v.natAbs % 10:Nat):Int)) (by omega),w64 (by omega),wu8 (by omega)];omega
  ·omega
 have e2:¬ v.tmod 10 < 0->IntKind.u8.wrap (qI ((48:Int)+v.tmod 10))=((48+v.natAbs % 10:Nat):Int):=by
  intro hn
  rw[h1] at hn ⊢
  split at hn
  ·rename_i hv0
   rw[if_pos hv0,w64 (by omega),wu8 (by omega)];omega
  ·rename_i hv0
   rw[if_neg hv0,w64 (by omega),wu8 (by omega)];omega
 have e4:([((48+v.natAbs % 10:Nat):Int)]:List Int).map (fun n=>UInt8.ofNat n.toNat)=[UInt8.ofNat (48+v.natAbs % 10)]:=rfl
 have e5:([UInt8.ofNat (48+v.natAbs % 10)]:qBs).length+s.length<=qXF:=by rw[qIB];simp;omega
 simp only[qRJ]
 by_cases h0:v=0
 ·rcases h with h | h
  ·exact absurd h0 h
  ·rw[qPD h0,qVC h,qMA,qHV (by decide)]
   by_cases hn:v.tmod 10 < 0
   ·rw[qEA hn,e1 hn,e4,qBA e5,qHV (by decide),e3];rfl
   ·rw[qIA hn,e2 hn,e4,qBA e5,qHV (by decide),e3];rfl
 ·rw[qAE h0,qHV (by decide)]
  by_cases hn:v.tmod 10 < 0
  ·rw[qEA hn,e1 hn,e4,qBA e5,qHV (by decide),e3];rfl
  ·rw[qIA hn,e2 hn,e4,qBA e5,qHV (by decide),e3];rfl
theorem qBaq (v:Nat) (s:qBs) (h:v / 10≠0):dd (v / 10)++UInt8.ofNat (48+v % 10)::s=dd v++s:=by
 rw[qRd (n:=v) (by omega)];simp
theorem qXL {n:Int} (h:qNv n):qGM n=some ((txt (n:Rat),()),()):=by
 have hn:-9223372036854775808<=n/\n<=9223372036854775807:=h
 have hl:(dd n.natAbs).length<=20:=qUG (by have h9:n.natAbs<=9223372036854775808:=(by omega);omega) (by decide)
 obtain ⟨r,hr,v,rfl⟩:=qCB (step:=qRJ) (Q:=fun r=>∃ v,r=(Ex.exit 0,(n,dd n.natAbs,v,())))
  (fun k x=>∃ v s,x=(n,s,v,())/\(-9223372036854775808<=v/\v<=9223372036854775807)/\((s=[]/\v=n/\k=n.natAbs+1)\/(s≠[]/\k=v.natAbs/\(if v=0 then s else dd v.natAbs++s)=dd n.natAbs))) (by
   rintro k x ⟨v,s,rfl,hv,hI⟩
   obtain ⟨h1,h2⟩:=tdm v
   by_cases hgo:v≠0\/s=[]
   ·have hs:s.length<=1000:=by
     rcases hI with ⟨rfl,_⟩ | ⟨_,_,hc⟩
     ·simp
     ·have:=congrArg List.length hc
      split at this<;>(try rw[qZ6] at this)<;>omega
    refine .inr ⟨v.natAbs / 10,_,qCan n v s hv hs hgo,?_,v.tdiv 10,_,rfl,?_,.inr ⟨by simp,?_,?_⟩⟩
    ·rcases hI with ⟨_,e,rfl⟩ | ⟨hne,rfl,_⟩
     ·rw[e];omega
     ·rcases hgo with hgo | hgo
      ·omega
      ·exact absurd hgo hne
    ·rw[h2];split<;>omega
    ·rw[h2];split<;>omega
    ·have hz:(v.tdiv 10=0) ↔ v.natAbs / 10=0:=by rw[h2];split<;>omega
     have ha:(v.tdiv 10).natAbs=v.natAbs / 10:=by rw[h2];split<;>omega
     have key:(if v.tdiv 10=0 then UInt8.ofNat (48+v.natAbs % 10)::s else dd (v.tdiv 10).natAbs++UInt8.ofNat (48+v.natAbs % 10)::s)=dd v.natAbs++s:=by
      by_cases hq:v.natAbs / 10=0
      ·rw[if_pos (hz.2 hq),qDN (n:=v.natAbs) (by omega),show v.natAbs % 10=v.natAbs by omega];rfl
      ·rw[if_neg (fun e=>hq (hz.1 e)),ha,qBaq _ _ hq]
     rw[key]
     rcases hI with ⟨rfl,rfl,_⟩ | ⟨hne,_,hc⟩
     ·simp
     ·rcases hgo with hgo | hgo
      ·rw[if_neg hgo] at hc;exact hc
      ·exact absurd hgo hne
   ·have hv0:v=0:=Classical.byContradiction fun e=>hgo (.inl e)
    have hs0:s≠[]:=fun e=>hgo (.inr e)
    rcases hI with ⟨e,_⟩ | ⟨_,_,hc⟩
    ·exact absurd e hs0
    ·rw[if_pos hv0] at hc
     subst hv0
     refine .inl ⟨_,?_,?_,0,rfl⟩
     ·simp only[qRJ]
      rw[qPD rfl,qHC hs0,qPA,hc]
     ·simp) _ (n,[],n,()) ⟨n,[],rfl,hn,.inl ⟨rfl,rfl,rfl⟩⟩
 unfold qGM
 rw[hr,qAA]
 simp only
 rw[qJB,qMA,qEk]
 by_cases h0:n < 0
 ·rw[qEA h0,if_pos h0,qBA (by rw[qIB];simp;omega)]
 ·rw[qIA h0,if_neg h0];rfl
theorem qJk (v:Int) {n:Int} (h:0 < n/\n<=9223372036854775807):∃ r,qTv v n=some ((r,()),())/\0<=r/\r < n:=by
 have hu:=qXz v
 unfold qTv
 rw[wu64 (x:=n) (by omega),qHV (by omega),tm hu.1]
 have h1:=Int.emod_nonneg (qU v) (show n≠0 by omega)
 have h2:=Int.emod_lt_of_pos (qU v) h.1
 exact ⟨_,by rw[w64 (by omega)],h1,h2⟩
def CI (c:List Int×Int):Prop:=0<=c.2/\c.2<=c.1.length/\c.1.length<=400
theorem qOai (l:List Int):∃ c,qNai l=some ((c,()),())/\CI c:=by
 unfold qNai
 have h:minA (l.length:Int) 400=((min l.length 400:Nat):Int):=by rw[qSaf];split<;>omega
 rw[h,qDA,qBA (by omega),qBA (by omega)]
 exact ⟨_,rfl,by refine ⟨by simp,by simp,?_⟩;simp;omega⟩
theorem qBL {c:List Int×Int} (hc:CI c) {n:Int} (h:0 < n/\n<=9223372036854775807):∃ r c',qTA c n=some ((r,()),(c',()))/\CI c'/\0<=r/\r < n:=by
 obtain ⟨h1,h2,h3⟩:=hc
 unfold qTA
 by_cases hd:c.2>=(c.1.length:Int)
 ·rw[qEA hd];exact ⟨_,_,rfl,⟨h1,h2,h3⟩,by omega,by omega⟩
 ·have hw:qI (c.2+1)=c.2+1:=w64 (by omega)
  have hw2:qI (c.2+1 - 1)=c.2:=by rw[w64 (by omega)];omega
  rw[qIA hd,hw,hw2,qDA,qBA h1,qBA (by omega)]
  obtain ⟨r,hr,r1,r2⟩:=qJk (c.1.getD c.2.toNat 0) h
  rw[hr,qAA]
  exact ⟨r,(c.1,c.2+1),rfl,⟨by simp only;omega,by simp only;omega,h3⟩,r1,r2⟩
theorem qXc {n:Int} (h:n.natAbs < 100000000000000000000):D (n:Rat)<=21:=by
 rw[qZar];have:=qUG (n:=n.natAbs) (k:=20) (by omega) (by decide);omega
theorem qWa {c:List Int×Int} (hc:CI c):∃ (z:Int) (c':List Int×Int),qPB c=some ((txt (z:Rat),()),(c',()))/\CI c'/\D (z:Rat)<=50:=by
 unfold qPB
 obtain ⟨r1,c1,e1,hc1,a1,b1⟩:=qBL hc (n:=8) (by omega)
 have e1':qTA (c.1,c.2) 8=some ((r1,()),(c1,())):=e1
 rw[e1',qAA]
 simp only
 by_cases h6:r1=6
 ·rw[qKA h6]
  obtain ⟨r2,c2,e2,hc2,a2,b2⟩:=qBL hc1 (n:=2001) (by omega)
  have e2':qTA (c1.1,c1.2) 2001=some ((r2,()),(c2,())):=e2
  rw[e2',qAA]
  simp only
  rw[w64 (by omega),qXL (show qNv _ from ⟨by omega,by omega⟩),qAA]
  exact ⟨_,_,rfl,hc2,Nat.le_trans (qXc (by omega)) (by omega)⟩
 ·rw[qCA h6]
  by_cases h7:r1=7
  ·rw[qKA h7]
   obtain ⟨r2,c2,e2,hc2,a2,b2⟩:=qBL hc1 (n:=1099511627776) (by omega)
   have e2':qTA (c1.1,c1.2) 1099511627776=some ((r2,()),(c2,())):=e2
   rw[e2',qAA]
   simp only
   rw[w64 (by omega),qXL (show qNv _ from ⟨by omega,by omega⟩),qAA]
   obtain ⟨r3,c3,e3,hc3,a3,b3⟩:=qBL hc2 (n:=1099511627776) (by omega)
   have e3':qTA (c2.1,c2.2) 1099511627776=some ((r3,()),(c3,())):=e3
   rw[e3',qAA]
   simp only
   rw[qXL (show qNv _ from ⟨by omega,by omega⟩),qAA]
   simp only
   have d1:=qXc (n:=r2 - 549755813888) (by omega)
   have d2:=qXc (n:=r3) (by omega)
   have l1:=qDH ((r2 - 549755813888:Int):Rat)
   have l2:=qDH ((r3:Int):Rat)
   rw[qSad (by omega) (by omega),qIW,qAA]
   have d3:=qRap ((r2 - 549755813888:Int):Rat) ((r3:Int):Rat)
   rw[<-Rat.intCast_mul] at d3 ⊢
   exact ⟨_,_,rfl,hc3,by omega⟩
  ·rw[qCA h7]
   obtain ⟨r2,c2,e2,hc2,a2,b2⟩:=qBL hc1 (n:=9) (by omega)
   have e2':qTA (c1.1,c1.2) 9=some ((r2,()),(c2,())):=e2
   rw[e2',qAA]
   simp only
   rw[w64 (by omega),qXL (show qNv _ from ⟨by omega,by omega⟩),qAA]
   exact ⟨_,_,rfl,hc2,Nat.le_trans (qXc (by omega)) (by omega)⟩
theorem qTas (p q:Rat):D (p / q)<=D p+D q:=by
 rw[Rat.div_def];have:=qRap p q⁻¹;have:=qRar q;omega
theorem qQp {c:List Int×Int} (hc:CI c):∃ (q:Rat) (c':List Int×Int),qGJ c=some ((txt q,()),(c',()))/\CI c'/\D q<=71:=by
 unfold qGJ
 obtain ⟨z,c1,e1,hc1,d1⟩:=qWa hc
 have e1':qPB (c.1,c.2)=some ((txt (z:Rat),()),(c1,())):=e1
 rw[e1',qAA]
 simp only
 obtain ⟨r2,c2,e2,hc2,a2,b2⟩:=qBL hc1 (n:=4) (by omega)
 have e2':qTA (c1.1,c1.2) 4=some ((r2,()),(c2,())):=e2
 rw[e2',qAA]
 simp only
 rw[w64 (by omega),qXL (show qNv _ from ⟨by omega,by omega⟩),qAA]
 simp only
 have d2:=qXc (n:=1+r2) (by omega)
 have l1:=qDH (z:Rat)
 have l2:=qDH ((1+r2:Int):Rat)
 rw[qPad (by omega) (by omega),qIW,qAA]
 have hne:((1+r2:Int):Rat)≠0:=fun e=>by have:=congrArg Rat.num e;rw[Rat.num_intCast] at this;simp at this;omega
 rw[qdiv,if_neg hne]
 exact ⟨_,_,rfl,hc2,Nat.le_trans (qTas _ _) (by omega)⟩
end Go.AM.Num
end
section
set_option linter.unusedSimpArgs false
set_option linter.unusedVariables false
namespace Go.AM.Num
theorem t0:([48]:qBs)=txt ((0:Int):Rat):=txt_zero.symm
theorem t1:([49]:qBs)=txt ((1:Int):Rat):=by rw[qEk];simp[qFP]
end Go.AM.Num
end
section
namespace Go.AM.Num
theorem qOad {α:Type} {step:α->Option (Ex×α)} (St:Nat->α) (n:Nat) {E:Ex} (hE:E≠.normal) (stop:Nat->Option (Ex×α)) (hs:∀ k r,stop k=some r->r.1≠.normal)
 (h:∀ k,k < n->step (St k)=some ((stop k).getD (.normal,St (k+1)))) (he:step (St n)=some (E,St n)):∀ j k,k+j=n->qLA step (St k)=some (((List.range' k j).findSome? stop).getD (E,St n)):=by
 intro j
 induction j with
 |zero=>
  intro k hk;obtain rfl:k=n:=by omega
  exact qQA he hE
 |succ j ih=>
  intro k hk
  have h1:=h k (by omega)
  rw[List.range'_succ,List.findSome?_cons]
  cases hst:stop k with
  |none=>
   rw[hst] at h1
   rw[qSA h1,ih (k+1) (by omega)]
  |some r=>
   rw[hst] at h1
   exact qQA h1 (hs k r hst)
theorem qHI {α:Type} {step:α->Option (Ex×α)} (St bad:Nat->α) (n:Nat) {E B:Ex} (hE:E≠.normal) (hB:B≠.normal) (ok:Nat->Bool)
 (h:∀ k,k < n->step (St k)=some (if ok k then (.normal,St (k+1)) else (B,bad k))) (he:step (St n)=some (E,St n)) :
 ((List.range n).all ok=true/\qLA step (St 0)=some (E,St n))\/((List.range n).all ok=false/\∃ k,qLA step (St 0)=some (B,bad k)):=by
 have:=qOad St n hE (fun k=>if ok k then none else some (B,bad k)) (fun k r hr=>by
  split at hr
  ·cases hr
  ·cases hr;exact hB) (fun k hk=>by rw[h k hk];split<;>rfl) he n 0 (by omega)
 rw[<-List.range_eq_range'] at this
 cases hf:(List.range n).findSome? (fun k=>if ok k then none else some (B,bad k)) with
 |none=>
  rw[hf] at this
  refine .inl ⟨?_,this⟩
  rw[List.findSome?_eq_none_iff] at hf
  rw[qY3]
  intro k hk
  have:=hf k hk
  split at this
  ·assumption
  ·cases this
 |some r=>
  rw[hf] at this
  obtain ⟨k,hk,hr⟩:=List.exists_of_findSome?_eq_some hf
  split at hr
  ·cases hr
  ·rename_i hn
   cases hr
   refine .inr ⟨?_,k,this⟩
   rw[List.all_eq_false]
   exact ⟨k,hk,hn⟩
structure Short (N:Nat) (v:Val):Prop where
 num:v.2.2.1.length<=N
 keys:∀ s∈v.2.2.2.1,s.length<=N
 vals:∀ s∈v.2.2.2.2,s.length<=N
 few:v.2.2.2.1.length<=1000000000/\v.2.2.2.2.length<=1000000000
theorem qGP {l:List qBs} {k N:Nat} (h:∀ s∈l,s.length<=N):(l.getD k []).length<=N:=by
 rw[qZ4]
 cases hk:l[k]? with
 |none=>simp
 |some s=>exact h s (qY14 hk)
noncomputable def okAt (num:qBs) (ks vs:List qBs) (i:Nat):Bool:=isI (ks.getD i [])&&isI (vs.getD i [])&&!(vs.getD i []==num)&&(decide (i=0)||decide (qCt (ks.getD (i - 1) []) (ks.getD i []) < 0))
noncomputable def qNa (num:qBs) (ks vs:List qBs):Bool:=(List.range ks.length).all (okAt num ks vs)
def qOO (v:Val):Bool:=decide (v.2.2.2.1.length=0)&&decide (v.2.2.2.2.length=0)
noncomputable def qDL (v:Val):Bool:=
 if v.1=1 then v.2.2.1==[]&&qOO v
 else if v.1=2 then !v.2.1&&isI v.2.2.1&&qOO v
 else if v.1=3 then !v.2.1&&(rd v.2.2.1).isSome&&qOO v
 else if v.1=4 then !v.2.1&&isI v.2.2.1&&decide (v.2.2.2.1.length=v.2.2.2.2.length)&&qNa v.2.2.1 v.2.2.2.1 v.2.2.2.2
 else false
theorem qRr (v:Val):qJU v=some ((qOO v,()),()):=by
 unfold qJU qOO
 by_cases h:v.2.2.2.1.length=0
 ·rw[qKA (by omega),qZ10 h,Bool.true_and]
  congr 3
  by_cases h2:v.2.2.2.2.length=0<;>simp[h2]
 ·rw[qCA (by omega),qZ9 h,Bool.false_and]
theorem qIk {N:Nat} (hN:N<=100000) {v:Val} (hv:Short N v):qVT v=some ((decide (v.2.2.2.1.length=v.2.2.2.2.length)&&qNa v.2.2.1 v.2.2.2.1 v.2.2.2.2,()),()):=by
 obtain ⟨s,b,num,ks,vs⟩:=v
 have hk:=hv.keys;have hw:=hv.vals;have hf:=hv.few
 simp only at hk hw hf ⊢
 unfold qVT
 simp only
 by_cases hl:ks.length=vs.length
 ·rw[qPD (by omega),qZ10 hl,Bool.true_and]
  have hik:∀ k,qEH (ks.getD k [])=some ((isI (ks.getD k []),()),()):=fun k=>qHU (by have:=qGP (k:=k) hk;omega)
  have hiv:∀ k,qEH (vs.getD k [])=some ((isI (vs.getD k []),()),()):=fun k=>qHU (by have:=qGP (k:=k) hw;omega)
  have hc:∀ k j,qSf (ks.getD k []) (ks.getD j [])=some ((qCt (ks.getD k []) (ks.getD j []),()),()):=fun k j=>qMab (by have:=qGP (k:=k) hk;omega) (by have:=qGP (k:=j) hk;omega)
  have:=qHI (step:=qOK) (fun k=>((s,b,num,ks,vs),false,ks,(ks.length:Int),(k:Int),())) (fun k=>((s,b,num,ks,vs),false,ks,(ks.length:Int),(k:Int),())) ks.length (E:=.exit 0) (B:=.ret) (by simp) (by simp) (okAt num ks vs) (fun k hk'=>by
   unfold qOK
   simp only
   rw[qEA (by omega),qDA,qBA (by omega),qBA (by omega),qZ0,hik,qAA,qDA,qBA (by omega),qBA (by omega),hiv,qAA,qDA,qBA (by omega),qBA (by omega)]
   unfold okAt
   cases isI (ks.getD k []) with
   |false=>rfl
   |true=>
    cases isI (vs.getD k []) with
    |false=>rfl
    |true=>
     cases (vs.getD k []==num) with
     |true=>rfl
     |false=>
      simp only[qY2,qY1,qPA,Bool.true_and]
      rw[w64 (x:=(k:Int)+1) (by omega)]
      by_cases h0:k=0
      ·subst h0
       rw[qIA (by omega)]
       rfl
      ·rw[qEA (by omega),w64 (by omega),qDA,qBA (by omega),qBA (by omega)]
       have e:((k:Int) - 1).toNat=k - 1:=by omega
       rw[e,hc,qAA,qZ9 h0,Bool.false_or]
       by_cases hs:qCt (ks.getD (k - 1) []) (ks.getD k []) < 0
       ·rw[qIA (by simp only;omega),if_pos (qZ10 hs)]
        rfl
       ·rw[qEA (by simp only;omega),if_neg (by rw[qZ9 hs];exact Bool.false_ne_true)]) (by
   unfold qOK
   simp only
   rw[qIA (by omega)])
  rcases this with ⟨h1,h2⟩ | ⟨h1,k,h2⟩
  ·rw[show ((0:Nat):Int)=0 from rfl] at h2
   rw[h2]
   simp only[qAA,qJB,qMA,qNa,h1]
  ·rw[show ((0:Nat):Int)=0 from rfl] at h2
   rw[h2]
   simp only[qAA,qXD,qWD,qMA,qPA,qNa,h1]
 ·rw[qAE (by omega),qZ9 hl,Bool.false_and]
theorem qPZ {N:Nat} (hN:N<=100000) {v:Val} (hv:Short N v):qPR v=some ((qDL v,()),()):=by
 have h1:qEH v.2.2.1=some ((isI v.2.2.1,()),()):=qHU (by have:=hv.num;omega)
 have h2:qVP v.2.2.1=some (((rd v.2.2.1).isSome,()),()):=qKY (by have:=hv.num;omega)
 unfold qPR qDL
 rw[qRr,qIk hN hv,h1,h2]
 simp only[qAA]
 by_cases e1:v.1=1
 ·rw[qKA e1,if_pos e1];cases (v.2.2.1==([]:qBs))<;>rfl
 ·rw[qCA e1,if_neg e1]
  by_cases e2:v.1=2
  ·rw[qKA e2,if_pos e2];cases v.2.1<;>cases isI v.2.2.1<;>rfl
  ·rw[qCA e2,if_neg e2]
   by_cases e3:v.1=3
   ·rw[qKA e3,if_pos e3];cases v.2.1<;>cases (rd v.2.2.1).isSome<;>rfl
   ·rw[qCA e3,if_neg e3]
    by_cases e4:v.1=4
    ·rw[qKA e4,if_pos e4];cases v.2.1<;>cases isI v.2.2.1<;>simp[qMA,qPA]
    ·rw[qCA e4,if_neg e4]
theorem qPv {N:Nat} (hN:N<=100000) {v:Val} (hv:Short N v) (hl:v.2.2.2.1.length=v.2.2.2.2.length) :
 (qNa v.2.2.1 v.2.2.2.1 v.2.2.2.2=true/\qLA qBC (v,false,0,())=some (.exit 1,v,false,(v.2.2.2.1.length:Int),()))\/(qNa v.2.2.1 v.2.2.2.1 v.2.2.2.2=false/\∃ k:Nat,qLA qBC (v,false,0,())=some (.ret,v,false,(k:Int),())):=by
 obtain ⟨s,b,num,ks,vs⟩:=v
 have hk:=hv.keys;have hw:=hv.vals;have hf:=hv.few
 simp only at hk hw hf hl ⊢
 have hik:∀ k,qKF (ks.getD k [])=some ((isI (ks.getD k []),()),()):=fun k=>qQN (by have:=qGP (k:=k) hk;omega)
 have hiv:∀ k,qKF (vs.getD k [])=some ((isI (vs.getD k []),()),()):=fun k=>qQN (by have:=qGP (k:=k) hw;omega)
 have hc:∀ k j,qLg (ks.getD k []) (ks.getD j [])=some ((qCt (ks.getD k []) (ks.getD j []),()),()):=fun k j=>qIm (by have:=qGP (k:=k) hk;omega) (by have:=qGP (k:=j) hk;omega)
 exact qHI (step:=qBC) (fun k=>((s,b,num,ks,vs),false,(k:Int),())) (fun k=>((s,b,num,ks,vs),false,(k:Int),())) ks.length (E:=.exit 1) (B:=.ret) (by simp) (by simp) (okAt num ks vs) (fun k hk'=>by
  unfold qBC
  simp only
  rw[qEA (by omega),qDA,qBA (by omega),qBA (by omega),qZ0,hik,qAA,qDA,qBA (by omega),qBA (by omega),hiv,qAA,qDA,qBA (by omega),qBA (by omega)]
  unfold okAt
  cases isI (ks.getD k []) with
  |false=>rfl
  |true=>
   cases isI (vs.getD k []) with
   |false=>rfl
   |true=>
    cases (vs.getD k []==num) with
    |true=>rfl
    |false=>
     simp only[qY2,qY1,qPA,Bool.true_and]
     rw[w64 (x:=(k:Int)+1) (by omega)]
     by_cases h0:k=0
     ·subst h0
      rw[qIA (by omega)]
      rfl
     ·rw[qEA (by omega),w64 (by omega),qDA,qBA (by omega),qBA (by omega),qDA,qBA (by omega),qBA (by omega)]
      have e:((k:Int) - 1).toNat=k - 1:=by omega
      rw[e,hc,qAA,qZ9 h0,Bool.false_or]
      by_cases hs:qCt (ks.getD (k - 1) []) (ks.getD k []) < 0
      ·rw[qIA (by simp only;omega),if_pos (qZ10 hs)]
       rfl
      ·rw[qEA (by simp only;omega),if_neg (by rw[qZ9 hs];exact Bool.false_ne_true)]) (by
  unfold qBC
  simp only
  rw[qIA (by omega)])
end Go.AM.Num
end
section
namespace Go.AM.Num
theorem qAi:qQR=some ((true,()),()):=by kernel_rfl
end Go.AM.Num
end
section
namespace Go.AM.Num
def ti (z:Int):qBs:=txt (z:Rat)
theorem qRaj {a b:Int} (h:ti a=ti b):a=b:=by
 have:=txt_inj h
 exact_mod_cast this
abbrev KV:=List (Int×Int)
def lo (i:Int) (P:KV):KV:=P.filter fun p=>decide (p.1 < i)
def hi (i:Int) (P:KV):KV:=P.filter fun p=>decide (i < p.1)
def Incr (P:KV):Prop:=P.Pairwise fun a b=>a.1 < b.1
structure Canon (d:Int) (P:KV):Prop where
 incr:Incr P
 vals:∀ p∈P,p.2≠d
def atP (d:Int) (P:KV) (i:Int):Int:=((P.find? fun p=>decide (p.1=i)).map (·.2)).getD d
def stP (d:Int) (P:KV) (i n:Int):KV:=lo i P++(if n=d then [] else [(i,n)])++hi i P
theorem qQh {i:Int} {P:KV} {p:Int×Int}:p∈lo i P ↔ p∈P/\p.1 < i:=by simp[lo]
theorem qFn {i:Int} {P:KV} {p:Int×Int}:p∈hi i P ↔ p∈P/\i < p.1:=by simp[hi]
theorem qFak (i:Int):∀ {P:KV},Incr P->∃ m,P=lo i P++m++hi i P/\(m=[]\/∃ w,m=[(i,w)]):=by
 intro P
 induction P with
 |nil=>intro _;exact ⟨[],rfl,.inl rfl⟩
 |cons p P ih=>
  intro h
  obtain ⟨hp,hP⟩:=List.pairwise_cons.1 h
  obtain ⟨m,e,hm⟩:=ih hP
  by_cases h1:p.1 < i
  ·refine ⟨m,?_,hm⟩
   have a1:lo i (p::P)=p::lo i P:=by simp[lo,h1]
   have a2:hi i (p::P)=hi i P:=by simp[hi,show ¬ i < p.1 by omega]
   rw[a1,a2,qY5,qY5,<-e]
  ·have e1:lo i P=[]:=List.filter_eq_nil_iff.2 fun q hq=>by have:=hp q hq;simp;omega
   have e2:hi i P=P:=List.filter_eq_self.2 fun q hq=>by have:=hp q hq;simp;omega
   have a1:lo i (p::P)=[]:=by simp[lo,h1];intro a b hab;have:=hp _ hab;simp at this;omega
   by_cases h2:p.1=i
   ·refine ⟨[p],?_,.inr ⟨p.2,by rw[<-h2]⟩⟩
    have a2:hi i (p::P)=P:=by rw[<-e2];simp[hi,show ¬ i < p.1 by omega]
    rw[a1,a2];rfl
   ·refine ⟨[],?_,.inl rfl⟩
    have a2:hi i (p::P)=p::P:=by
     have:hi i (p::P)=p::hi i P:=by simp[hi,show i < p.1 by omega]
     rw[this,e2]
    rw[a1,a2];rfl
theorem qHn {d:Int} {P:KV} (h:Canon d P) (i n:Int):Canon d (stP d P i n):=by
 refine ⟨?_,?_⟩
 ·unfold Incr stP
  rw[List.pairwise_append,List.pairwise_append]
  refine ⟨⟨List.Pairwise.filter _ h.incr,by split<;>simp,fun a ha b hb=>?_⟩,List.Pairwise.filter _ h.incr,fun a ha b hb=>?_⟩
  ·have:=(qQh.1 ha).2
   split at hb
   ·simp at hb
   ·simp at hb;subst hb;exact this
  ·have hb':=(qFn.1 hb).2
   rcases List.mem_append.1 ha with ha | ha
   ·have:=(qQh.1 ha).2;omega
   ·split at ha
    ·simp at ha
    ·simp at ha;subst ha;exact hb'
 ·intro p hp
  unfold stP at hp
  rcases List.mem_append.1 hp with hp | hp
  ·rcases List.mem_append.1 hp with hp | hp
   ·exact h.vals p (qQh.1 hp).1
   ·split at hp
    ·simp at hp
    ·simp at hp;subst hp;assumption
  ·exact h.vals p (qFn.1 hp).1
end Go.AM.Num
end
section
namespace Go.AM.Num
def ks (P:KV):List qBs:=P.map fun p=>ti p.1
def vs (P:KV):List qBs:=P.map fun p=>ti p.2
abbrev qMH (d:Int) (P:KV):Val:=(4,false,ti d,ks P,vs P)
theorem qRG (P:KV):(ks P).length=P.length:=by simp[ks]
theorem qJP (P:KV):(vs P).length=P.length:=by simp[vs]
theorem qMS {P:KV} {k:Nat} (h:k < P.length):(ks P).getD k []=ti P[k].1:=by simp[ks,qZ4,h]
theorem qNY {P:KV} {k:Nat} (h:k < P.length):(vs P).getD k []=ti P[k].2:=by simp[vs,qZ4,h]
theorem qPo (a b:Int):qCt (ti a) (ti b)=(a - b).sign:=by
 unfold qCt ti
 rw[qIK,qIK]
 simp only
 rw[<-Rat.intCast_sub,Rat.num_intCast]
theorem qUi {x:Int}:x.sign < 0 ↔ x < 0:=by
 rcases Int.lt_trichotomy x 0 with h | h | h
 ·rw[Int.sign_eq_neg_one_of_neg h];omega
 ·subst h;simp
 ·rw[Int.sign_eq_one_of_pos h];omega
theorem qGe (a:Int):isI (ti a)=true:=qAae a
theorem qVad {s:qBs} (h:isI s=true):∃ z,s=ti z:=by
 obtain ⟨z,h1,_⟩:=qUT h
 exact ⟨z,h1⟩
theorem qTaj:∀ {l:List qBs},(∀ s∈l,isI s=true)->∃ zs:List Int,l=zs.map ti:=by
 intro l
 induction l with
 |nil=>intro _;exact ⟨[],rfl⟩
 |cons s l ih=>
  intro h
  obtain ⟨z,hz⟩:=qVad (h s (by simp))
  obtain ⟨zs,hzs⟩:=ih fun x hx=>h x (qY13 _ hx)
  exact ⟨z::zs,by rw[hz,hzs];rfl⟩
theorem qOan {P:KV} (h:∀ i (hi:i < P.length),i=0\/(P[i - 1]'(by omega)).1 < P[i].1):Incr P:=by
 unfold Incr
 rw[List.pairwise_iff_getElem]
 intro i j hi hj hij
 induction j with
 |zero=>omega
 |succ j ih=>
  have h1:P[j].1 < P[j+1].1:=by
   rcases h (j+1) hj with h | h
   ·omega
   ·exact h
  by_cases e:i=j
  ·subst e;exact h1
  ·have:=ih (by omega) (by omega);omega
theorem qBab {v:Val} (h:qDL v=true) (h4:v.1=4):∃ d P,v=qMH d P/\Canon d P:=by
 obtain ⟨s,b,num,k,w⟩:=v
 simp only at h4
 subst h4
 unfold qDL at h
 simp only[show ¬ (4:Int)=1 by omega,show ¬ (4:Int)=2 by omega,show ¬ (4:Int)=3 by omega,if_false,if_true,qY0,Bool.not_eq_true',decide_eq_true_eq,qNa,qY3,List.mem_range,okAt,Bool.or_eq_true,beq_eq_false_iff_ne] at h
 obtain ⟨⟨⟨hb,hn⟩,hl⟩,he⟩:=h
 subst hb
 obtain ⟨d,rfl⟩:=qVad hn
 have hg:∀ (l:List qBs),(∀ i,i < l.length->isI (l.getD i [])=true)->∀ s∈l,isI s=true:=by
  intro l hl s hs
  obtain ⟨i,hi,rfl⟩:=List.getElem_of_mem hs
  have:=hl i hi
  simpa [qZ4,hi] using this
 obtain ⟨zs,rfl⟩:=qTaj (hg k fun i hi=>(he i hi).1.1.1)
 obtain ⟨ws,rfl⟩:=qTaj (hg w fun i hi=>(he i (by omega)).1.1.2)
 simp only[List.length_map] at hl he
 have e1:ks (zs.zip ws)=zs.map ti:=by
  have:(zs.zip ws).map (·.1)=zs:=List.map_fst_zip (by omega)
  conv=>rhs;rw[<-this,List.map_map]
  rfl
 have e2:vs (zs.zip ws)=ws.map ti:=by
  have:(zs.zip ws).map (·.2)=ws:=List.map_snd_zip (by omega)
  conv=>rhs;rw[<-this,List.map_map]
  rfl
 refine ⟨d,zs.zip ws,by unfold qMH;rw[e1,e2],qOan fun i hi=>?_,fun p hp=>?_⟩
 ·have hi':i < zs.length:=by simp at hi;omega
  rcases (he i hi').2 with h0 | h1
  ·exact .inl h0
  ·by_cases h0:i=0
   ·exact .inl h0
   ·refine .inr ?_
    rw[<-e1,qMS (by simp;omega),qMS hi,qPo] at h1
    have:=qUi.1 h1
    omega
 ·obtain ⟨i,hi,rfl⟩:=List.getElem_of_mem hp
  have hi':i < zs.length:=by simp at hi;omega
  have h1:=(he i hi').1.2
  rw[<-e2,qNY hi] at h1
  exact fun e=>h1 (congrArg ti e)
theorem qFm {d:Int} {P:KV} (h:Canon d P):qDL (qMH d P)=true:=by
 unfold qDL qMH
 simp only[show ¬ (4:Int)=1 by omega,show ¬ (4:Int)=2 by omega,show ¬ (4:Int)=3 by omega,if_false,if_true,qY0,Bool.not_eq_true',decide_eq_true_eq,qNa,qY3,List.mem_range,okAt,Bool.or_eq_true,beq_eq_false_iff_ne,qRG,qJP,qGe,true_and]
 intro i hi
 rw[qMS hi,qNY hi]
 refine ⟨⟨⟨qGe _,qGe _⟩,fun e=>h.vals _ (List.getElem_mem hi) (qRaj e)⟩,?_⟩
 by_cases h0:i=0
 ·exact .inl h0
 ·refine .inr ?_
  rw[qMS (by omega),qPo]
  have:=List.pairwise_iff_getElem.1 h.incr (i - 1) i (by omega) hi (by omega)
  rw[Int.sign_eq_neg_one_of_neg (by omega)]
  omega
end Go.AM.Num
end
section
namespace Go.AM.Num
structure Sm (N:Nat) (d:Int) (P:KV):Prop where
 num:(ti d).length<=N
 els:∀ p∈P,(ti p.1).length<=N/\(ti p.2).length<=N
 few:P.length<=1000000000
theorem Sm.short {N:Nat} {d:Int} {P:KV} (h:Sm N d P):Short N (qMH d P):=
 ⟨h.num,fun s hs=>by obtain ⟨p,hp,rfl⟩:=List.mem_map.1 hs;exact (h.els p hp).1,fun s hs=>by obtain ⟨p,hp,rfl⟩:=List.mem_map.1 hs;exact (h.els p hp).2,by simp only[qMH];rw[qRG,qJP];exact ⟨h.few,h.few⟩⟩
theorem qIp {a b:Int} (ha:(ti a).length<=200000) (hb:(ti b).length<=200000):qLg (ti a) (ti b)=some (((a - b).sign,()),()):=by rw[qIm ha hb,qPo]
theorem qMe (a b:Int):(ti a==ti b)=decide (a=b):=by
 by_cases h:a=b
 ·subst h;simp
 ·rw[qZ9 h,beq_eq_false_iff_ne];exact fun e=>h (qRaj e)
structure Parts (i:Int) (L m H:KV):Prop where
 lo:∀ p∈L,p.1 < i
 mid:m=[]\/∃ w,m=[(i,w)]
 hi:∀ p∈H,i < p.1
theorem qXah {P:KV} (h:Incr P) (i:Int):∃ m,P=lo i P++m++hi i P/\Parts i (lo i P) m (hi i P):=by
 obtain ⟨m,e,hm⟩:=qFak i h
 exact ⟨m,e,fun p hp=>(qQh.1 hp).2,hm,fun p hp=>(qFn.1 hp).2⟩
end Go.AM.Num
end
section
namespace Go.AM.Num
theorem qUO {N:Nat} (hN:N<=100000) {v:Val} (hv:Short N v):qBK v=some ((qDL v,()),()):=by
 have h1:qKF v.2.2.1=some ((isI v.2.2.1,()),()):=qQN (by have:=hv.num;omega)
 have h2:qRM v.2.2.1=some (((rd v.2.2.1).isSome,()),()):=qAU (by have:=hv.num;omega)
 unfold qBK qDL qOO
 rw[h1,h2]
 simp only[qAA]
 by_cases e4:v.1=4
 ·rw[qPD e4,if_neg (by omega),if_neg (by omega),if_neg (by omega),if_pos e4,qAE (by omega)]
  cases hb:v.2.1 with
  |true=>rfl
  |false=>
   simp only[qPA,qY1,Bool.true_and]
   rw[qCA (by omega),qCA (by omega),qCA (by omega),qKA e4]
   cases hi:isI v.2.2.1 with
   |false=>rfl
   |true=>
    simp only[qY2,qPA,Bool.true_and]
    by_cases hl:v.2.2.2.1.length=v.2.2.2.2.length
    ·rw[qPD (by omega),qZ10 hl,Bool.true_and]
     rcases qPv hN hv hl with ⟨a1,a2⟩ | ⟨a1,k,a2⟩
     ·rw[a1,a2];simp only[qAA,qJB,qMA]
     ·rw[a1,a2];simp only[qAA,qXD,qWD,qMA,qPA]
    ·rw[qAE (by omega),qZ9 hl,Bool.false_and]
 ·rw[qAE e4]
  by_cases k1:v.2.2.2.1.length=0
  ·rw[qIA (by omega),qZ10 k1,Bool.true_and]
   by_cases k2:v.2.2.2.2.length=0
   ·rw[qIA (by omega),qZ10 k2]
    simp only[Bool.and_true]
    by_cases e1:v.1=1
    ·rw[qPD e1,if_pos e1,qKA e1]
    ·rw[qAE e1,if_neg e1]
     by_cases e2:v.1=2
     ·rw[if_pos e2,qCA e1,qKA e2];cases v.2.1<;>rfl
     ·rw[if_neg e2]
      by_cases e3:v.1=3
      ·rw[if_pos e3,qCA e1,qCA e2,qKA e3];cases v.2.1<;>rfl
      ·rw[if_neg e3,if_neg e4,qCA e1,qCA e2,qCA e3,qCA e4];cases v.2.1<;>rfl
   ·rw[qEA (by omega),qZ9 k2]
    simp only[Bool.and_false,if_neg e4,ite_self]
  ·rw[qEA (by omega),qZ9 k1,Bool.false_and]
   simp only[Bool.and_false,if_neg e4,ite_self]
end Go.AM.Num
end
section
namespace Go.AM.Num
section
variable {d i n:Int} {P:KV} {t6:Val}
theorem qWV (Q:KV) (p:Int×Int):ks Q++[ti p.1]=ks (Q++[p]):=by simp[ks]
theorem qOV (Q:KV) (p:Int×Int):vs Q++[ti p.2]=vs (Q++[p]):=by simp[vs]
theorem qAao {Q:KV} {k:Nat} (hf:P.length<=1000000000) (hQ:Q.length<=2000000000) (hk:k < P.length) (hne:P[k].1≠i) :
 qTB (ti i,ti n,qMH d P,t6,qMH d Q,true,(k:Int),())=some (.normal,(ti i,ti n,qMH d P,t6,qMH d (Q++[P[k]]),true,((k+1:Nat):Int),())):=by
 have a1:=qRG P;have a2:=qJP P;have a3:=qRG Q;have a4:=qJP Q
 unfold qTB
 simp only
 rw[qEA (by omega)]
 simp only[qY2,qPA]
 rw[qEA (by omega),qDA,qBA (by omega),qBA (by omega),qZ0,qMS hk,qNY hk,qMe,qZ9 hne]
 simp only[qY1,qMA]
 rw[qDA,qBA (by omega),qBA (by omega),qBA (by rw[qCH];simp only[qY11,List.length_nil];omega),qDA,qBA (by omega),qBA (by omega),qBA (by rw[qCH];simp only[qY11,List.length_nil];omega),w64 (by omega),qWV,qOV]
 rfl
theorem qLak {Q:KV} {b:Bool}:qTB (ti i,ti n,qMH d P,t6,qMH d Q,b,((P.length+1:Nat):Int),())=some (.exit 0,(ti i,ti n,qMH d P,t6,qMH d Q,b,((P.length+1:Nat):Int),())):=by
 have a1:=qRG P
 unfold qTB
 simp only
 rw[qIA (by omega)]
theorem qXak {Q:KV} (hf:P.length<=1000000000) :
 qTB (ti i,ti n,qMH d P,t6,qMH d Q,true,(P.length:Int),())=some (.normal,(ti i,ti n,qMH d P,t6,qMH d Q,true,((P.length+1:Nat):Int),())):=by
 have a1:=qRG P
 unfold qTB
 simp only
 rw[qEA (by omega)]
 simp only[qY2,qPA]
 rw[qIA (by omega),w64 (by omega)]
 rfl
theorem qHz (hf:P.length<=1000000000):∀ (R pre Q:KV),P=pre++R->(∀ p∈R,p.1≠i)->Q.length+R.length<=2000000000->
 qLA qTB (ti i,ti n,qMH d P,t6,qMH d Q,true,(pre.length:Int),())=some (.exit 0,(ti i,ti n,qMH d P,t6,qMH d (Q++R),true,((P.length+1:Nat):Int),())):=by
 intro R
 induction R with
 |nil=>
  intro pre Q e _ _
  have:pre.length=P.length:=by rw[e];simp
  rw[this,qSA (qXak hf),qQA qLak (by simp),qY4]
 |cons p R ih=>
  intro pre Q e hne hQ
  have hk:pre.length < P.length:=by rw[e];simp
  have hp:P[pre.length]=p:=by simp[e]
  simp only[qY11] at hQ
  rw[qSA (qAao hf (by omega) hk (by rw[hp];exact hne p (by simp))),hp]
  have:=ih (pre++[p]) (Q++[p]) (by rw[e];simp) (fun q hq=>hne q (qY13 _ hq)) (by simp;omega)
  rw[qZ1] at this
  simp only[qZ6,qY11,List.length_nil,qY5,qY15] at this
  exact this
theorem qZaq {N:Nat} (hN:N<=100000) {Q:KV} {k:Nat} (hs:Sm N d P) (hi:(ti i).length<=N) (hQ:Q.length<=2000000000) (hk:k < P.length) (hlt:P[k].1 < i) :
 qTB (ti i,ti n,qMH d P,t6,qMH d Q,false,(k:Int),())=some (.normal,(ti i,ti n,qMH d P,t6,qMH d (Q++[P[k]]),false,((k+1:Nat):Int),())):=by
 have a1:=qRG P;have a2:=qJP P;have a3:=qRG Q;have a4:=qJP Q;have hf:=hs.few
 have hc:qLg (ti P[k].1) (ti i)=some (((P[k].1 - i).sign,()),()):=qIp (by have:=(hs.els _ (List.getElem_mem hk)).1;omega) (by omega)
 have hsg:(P[k].1 - i).sign=-1:=Int.sign_eq_neg_one_of_neg (by omega)
 unfold qTB
 simp only
 rw[qEA (by omega)]
 simp only[qY1,qMA]
 rw[qCA (by omega),qDA,qBA (by omega),qBA (by omega),qZ0,qMS hk,qNY hk,hc,qAA,hsg]
 rw[qIA (by simp only;omega),qEA (by omega),qDA,qBA (by omega),qBA (by omega),qMe,qZ9 (by omega)]
 simp only[qY1,qMA]
 rw[qDA,qBA (by omega),qBA (by omega),qBA (by rw[qCH];simp only[qY11,List.length_nil];omega),qDA,qBA (by omega),qBA (by omega),qBA (by rw[qCH];simp only[qY11,List.length_nil];omega),w64 (by omega),qWV,qOV]
 rfl
theorem qZak {N:Nat} (hN:N<=100000) (hs:Sm N d P) (hi:(ti i).length<=N):∀ (R pre Z:KV),P=pre++R++Z->(∀ p∈R,p.1 < i)->
 qLA qTB (ti i,ti n,qMH d P,t6,qMH d pre,false,(pre.length:Int),())=qLA qTB (ti i,ti n,qMH d P,t6,qMH d (pre++R),false,((pre++R).length:Int),()):=by
 intro R
 induction R with
 |nil=>intro pre Z _ _;rw[qY4]
 |cons p R ih=>
  intro pre Z e hlt
  have hk:pre.length < P.length:=by rw[e];simp
  have hp:P[pre.length]=p:=by simp[e]
  have hf:=hs.few
  rw[qSA (qZaq hN hs hi (by omega) hk (by rw[hp];exact hlt p (by simp))),hp]
  have:=ih (pre++[p]) Z (by rw[e];simp) (fun q hq=>hlt q (qY13 _ hq))
  rw[qZ1] at this
  simp only[qZ6,qY11,List.length_nil,qY5,qY15] at this ⊢
  exact this
end
end Go.AM.Num
end
section
namespace Go.AM.Num
def ins (d i n:Int):KV:=if n=d then [] else [(i,n)]
section
variable {d i n:Int} {P:KV} {t6:Val}
theorem qPy {L:KV} (hf:P.length<=1000000000) (hL:L.length=P.length) :
 qTB (ti i,ti n,qMH d P,t6,qMH d L,false,(P.length:Int),())=some (.normal,(ti i,ti n,qMH d P,t6,qMH d (L++ins d i n),true,((P.length+1:Nat):Int),())):=by
 have a1:=qRG P;have a3:=qRG L;have a4:=qJP L
 unfold qTB
 simp only
 rw[qEA (by omega)]
 simp only[qY1,qMA]
 rw[qKA (by omega),qMe]
 unfold ins
 by_cases hn:n=d
 ·rw[qZ10 hn,if_pos hn]
  simp only[qY2,qPA]
  rw[qIA (by omega),w64 (by omega),qY4]
  rfl
 ·rw[qZ9 hn,if_neg hn]
  simp only[qY1,qMA]
  rw[qBA (by rw[qCH];simp only[qY11,List.length_nil];omega),qBA (by rw[qCH];simp only[qY11,List.length_nil];omega),qIA (by omega),w64 (by omega),qWV L (i,n),qOV L (i,n)]
  rfl
theorem qAw {N:Nat} (hN:N<=100000) (hs:Sm N d P) (hi:(ti i).length<=N) {L:KV} (hk:L.length < P.length) (hgt:i < P[L.length].1) :
 qTB (ti i,ti n,qMH d P,t6,qMH d L,false,(L.length:Int),())=some (.normal,(ti i,ti n,qMH d P,t6,qMH d (L++ins d i n++[P[L.length]]),true,((L.length+1:Nat):Int),())):=by
 have a1:=qRG P;have a2:=qJP P;have a3:=qRG L;have a4:=qJP L;have hf:=hs.few
 have hc:qLg (ti P[L.length].1) (ti i)=some (((P[L.length].1 - i).sign,()),()):=qIp (by have:=(hs.els _ (List.getElem_mem hk)).1;omega) (by omega)
 have hsg:(P[L.length].1 - i).sign=1:=Int.sign_eq_one_of_pos (by omega)
 unfold qTB
 simp only
 rw[qEA (by omega)]
 simp only[qY1,qMA]
 rw[qCA (by omega),qDA,qBA (by omega),qBA (by omega),qZ0,qMS hk,qNY hk,hc,qAA,hsg]
 rw[qEA (by simp only;omega),qMe,qMe]
 unfold ins
 by_cases hn:n=d
 ·rw[qZ10 hn,if_pos hn,qY4]
  simp only[qY2,qPA]
  rw[qEA (by omega),qDA,qBA (by omega),qBA (by omega),qZ9 (by omega)]
  simp only[qY1,qMA]
  rw[qDA,qBA (by omega),qBA (by omega),qBA (by rw[qCH];simp only[qY11,List.length_nil];omega),qDA,qBA (by omega),qBA (by omega),qBA (by rw[qCH];simp only[qY11,List.length_nil];omega),w64 (by omega),qWV,qOV]
  rfl
 ·rw[qZ9 hn,if_neg hn]
  simp only[qY1,qMA]
  rw[qBA (by rw[qCH];simp only[qY11,List.length_nil];omega),qBA (by rw[qCH];simp only[qY11,List.length_nil];omega),qEA (by omega),qDA,qBA (by omega),qBA (by omega),qZ9 (by omega)]
  simp only[qY1,qMA]
  rw[qDA,qBA (by omega),qBA (by omega),qBA (by rw[qCH];simp only[qZ6,qY11,List.length_nil];omega),qDA,qBA (by omega),qBA (by omega),qBA (by rw[qCH];simp only[qZ6,qY11,List.length_nil];omega),w64 (by omega),qWV L (i,n),qOV L (i,n),qWV,qOV]
  rfl
theorem qGw {N:Nat} (hN:N<=100000) (hs:Sm N d P) (hi:(ti i).length<=N) {L:KV} (hk:L.length < P.length) (heq:P[L.length].1=i) :
 qTB (ti i,ti n,qMH d P,t6,qMH d L,false,(L.length:Int),())=some (.normal,(ti i,ti n,qMH d P,t6,qMH d (L++ins d i n),true,((L.length+1:Nat):Int),())):=by
 have a1:=qRG P;have a2:=qJP P;have a3:=qRG L;have a4:=qJP L;have hf:=hs.few
 have hc:qLg (ti P[L.length].1) (ti i)=some (((P[L.length].1 - i).sign,()),()):=qIp (by have:=(hs.els _ (List.getElem_mem hk)).1;omega) (by omega)
 have hsg:(P[L.length].1 - i).sign=0:=by rw[show P[L.length].1 - i=0 by omega];rfl
 unfold qTB
 simp only
 rw[qEA (by omega)]
 simp only[qY1,qMA]
 rw[qCA (by omega),qDA,qBA (by omega),qBA (by omega),qZ0,qMS hk,qNY hk,hc,qAA,hsg]
 rw[qEA (by simp only;omega),qMe,qMe]
 unfold ins
 by_cases hn:n=d
 ·rw[qZ10 hn,if_pos hn,qY4]
  simp only[qY2,qPA]
  rw[qEA (by omega),qDA,qBA (by omega),qBA (by omega),qZ10 heq]
  simp only[qY2,qPA]
  rw[w64 (by omega)]
  rfl
 ·rw[qZ9 hn,if_neg hn]
  simp only[qY1,qMA]
  rw[qBA (by rw[qCH];simp only[qY11,List.length_nil];omega),qBA (by rw[qCH];simp only[qY11,List.length_nil];omega),qEA (by omega),qDA,qBA (by omega),qBA (by omega),qZ10 heq]
  simp only[qY2,qPA]
  rw[w64 (by omega),qWV L (i,n),qOV L (i,n)]
  rfl
theorem qTam {N:Nat} (hN:N<=100000) (hP:Incr P) (hs:Sm N d P) (hi:(ti i).length<=N) :
 qLA qTB (ti i,ti n,qMH d P,t6,qMH d [],false,0,())=some (.exit 0,(ti i,ti n,qMH d P,t6,qMH d (stP d P i n),true,((P.length+1:Nat):Int),())):=by
 obtain ⟨m,e,hp⟩:=qXah hP i
 have hf:=hs.few
 have hd:=qZak (n:=n) (t6:=t6) hN hs hi (lo i P) [] (m++Num.hi i P) (by rw[qY15,<-qZ1];exact e) hp.lo
 simp only[qY15,List.length_nil] at hd
 rw[show ((0:Nat):Int)=0 from rfl] at hd
 rw[hd]
 have hst:stP d P i n=lo i P++ins d i n++Num.hi i P:=rfl
 have hil:(ins d i n).length<=1:=by unfold ins;split<;>simp
 have hlen:=congrArg List.length e
 simp only[qZ6] at hlen
 rcases hp.mid with rfl | ⟨w,rfl⟩
 ·cases hH:Num.hi i P with
  |nil=>
   have hL:(lo i P).length=P.length:=by rw[hH] at hlen;simp at hlen;omega
   rw[hL,qSA (qPy hf hL),qQA qLak (by simp),hst,hH,qY4]
  |cons p H'=>
   have hk:(lo i P).length < P.length:=by rw[hH] at hlen;simp at hlen;omega
   have hp0:P[(lo i P).length]=p:=by
    have:P=lo i P++p::H':=by rw[hH,qY4] at e;exact e
    have h2:P[(lo i P).length]?=some p:=(congrArg (fun Q:KV=>Q[(lo i P).length]?) this).trans (by simp)
    rw[qZ5 hk] at h2
    exact Option.some.inj h2
   have hmem:∀ q∈p::H',i < q.1:=fun q hq=>hp.hi q (by show q∈Num.hi i P;rw[hH];exact hq)
   have h1:=qAw (n:=n) (t6:=t6) hN hs hi hk (by rw[hp0];exact hmem p (by simp))
   rw[hp0] at h1
   have h2:=qHz (i:=i) (n:=n) (d:=d) (t6:=t6) hf H' (lo i P++[p]) (lo i P++ins d i n++[p]) (by rw[hH] at e;simpa using e) (fun q hq=>by have:=hmem q (qY13 _ hq);omega)
    (by rw[hH] at hlen;simp at hlen ⊢;omega)
   rw[qSA h1,hst,hH]
   simp only[qZ6,qY11,List.length_nil,qZ1,qY5,qY15] at h2 ⊢
   exact h2
 ·have hk:(lo i P).length < P.length:=by simp at hlen;omega
  have hp0:P[(lo i P).length].1=i:=by
   have h2:P[(lo i P).length]?=some (i,w):=(congrArg (fun Q:KV=>Q[(lo i P).length]?) e).trans (by simp)
   rw[qZ5 hk] at h2
   rw[Option.some.inj h2]
  have h1:=qGw (n:=n) (t6:=t6) hN hs hi hk hp0
  have h2:=qHz (i:=i) (n:=n) (d:=d) (t6:=t6) hf (Num.hi i P) (lo i P++[(i,w)]) (lo i P++ins d i n) e (fun q hq=>by have:=hp.hi q hq;omega)
   (by simp at hlen ⊢;omega)
  rw[qSA h1,hst]
  simp only[qZ6,qY11,List.length_nil] at h2 ⊢
  exact h2
end
end Go.AM.Num
end
section
namespace Go.AM.Num
theorem qSz {N:Nat} (hN:N<=100000) {d i n:Int} {P:KV} (hP:Canon d P) (hs:Sm N d P) (hi:(ti i).length<=N) (hn:(ti n).length<=N) :
 qUj (qMH d P) (ti i) (ti n)=some ((qMH d (stP d P i n),0,()),()):=by
 unfold qUj
 simp only
 rw[qPD (by omega),qUO hN hs.short,qAA,qFm hP,qQN (by omega),qQN (by omega),qGe,qGe]
 simp only[qY2,qPA,qAA]
 have:=qTam (n:=n) (t6:=((0:Int),false,([]:qBs),([]:List qBs),([]:List qBs))) hN hP.incr hs hi
 have e:(qMH d []:Val)=(4,false,ti d,([]:List qBs),([]:List qBs)):=rfl
 rw[e] at this
 rw[this,qAA]
 simp only[qJB,qMA]
theorem qOh {a b:List qBs} (ha:a.length<=2000000000):qKM a b=some ((decide (a=b),()),()):=by
 unfold qKM
 by_cases hl:a.length=b.length
 ·rw[qPD (by omega)]
  have:=qHI (step:=qVH) (fun k=>(a,b,false,(k:Int),())) (fun k=>(a,b,false,(k:Int),())) a.length (E:=.exit 0) (B:=.ret) (by simp) (by simp) (fun k=>a.getD k []==b.getD k []) (fun k hk=>by
   unfold qVH
   simp only
   rw[qEA (by omega),qDA,qBA (by omega),qBA (by omega),qDA,qBA (by omega),qBA (by omega),qZ0,w64 (by omega)]
   cases (a.getD k []==b.getD k [])<;>rfl) (by
   unfold qVH
   simp only
   rw[qIA (by omega)])
  rw[show ((0:Nat):Int)=0 from rfl] at this
  have heq:(List.range a.length).all (fun k=>a.getD k []==b.getD k [])=decide (a=b):=by
   rw[Bool.eq_iff_iff,qY3,decide_eq_true_eq]
   constructor
   ·intro h
    refine List.ext_getElem hl fun k h1 h2=>?_
    have:=h k (List.mem_range.2 h1)
    simpa [qZ4,h1,h2] using this
   ·rintro rfl k _;simp
  rcases this with ⟨h1,h2⟩ | ⟨h1,k,h2⟩
  ·rw[h2,<-heq,h1];simp only[qAA,qJB,qMA]
  ·rw[h2,<-heq,h1];simp only[qAA,qXD,qWD,qMA,qPA]
 ·rw[qAE (by omega),qZ9 (fun e=>hl (by rw[e]))]
theorem qGi {a b:Val} (ha:a.2.2.2.1.length<=2000000000) (hb:a.2.2.2.2.length<=2000000000):qXB a b=some ((decide (a=b),()),()):=by
 obtain ⟨s,t,u,k,w⟩:=a
 obtain ⟨s',t',u',k',w'⟩:=b
 unfold qXB
 simp only at ha hb ⊢
 rw[qOh ha,qOh hb]
 simp only[qAA,Prod.mk.injEq]
 by_cases h1:s=s'
 ·rw[qKA h1]
  by_cases h2:t=t'
  ·rw[h2];simp only[beq_self_eq_true,qMA]
   by_cases h3:u=u'
   ·rw[h3];simp only[beq_self_eq_true,qMA]
    by_cases h4:k=k'
    ·rw[qZ10 h4];simp only[qMA];simp[h1,h4]
    ·rw[qZ9 h4];simp only[qPA];simp[h4]
   ·rw[show (u==u')=false from beq_eq_false_iff_ne.2 h3];simp[h3]
  ·rw[show (t==t')=false from beq_eq_false_iff_ne.2 h2];simp[h2]
 ·rw[qCA h1];simp[h1]
end Go.AM.Num
end
section
namespace Go.AM.Num
theorem qWae {d i n:Int} {P:KV} (h:Incr P):(stP d P i n).length<=P.length+1:=by
 obtain ⟨m,e,_⟩:=qFak i h
 have:=congrArg List.length e
 unfold stP
 simp only[qZ6] at this ⊢
 split<;>simp<;>omega
theorem qYao {N:Nat} {d i n:Int} {P:KV} (hP:Incr P) (h:Sm N d P) (hi:(ti i).length<=N) (hn:(ti n).length<=N) (hl:P.length < 1000000000):Sm N d (stP d P i n):=by
 refine ⟨h.num,fun p hp=>?_,by have:=qWae (d:=d) (i:=i) (n:=n) hP;omega⟩
 unfold stP at hp
 rcases List.mem_append.1 hp with hp | hp
 ·rcases List.mem_append.1 hp with hp | hp
  ·exact h.els p (qQh.1 hp).1
  ·split at hp
   ·cases hp
   ·rw[List.mem_singleton.1 hp];exact ⟨hi,hn⟩
 ·exact h.els p (qFn.1 hp).1
theorem qKc {c:List Int×Int} (hc:CI c):∃ (z:Int) (c':List Int×Int),qPB c=some ((ti z,()),(c',()))/\CI c'/\(ti z).length<=52:=by
 obtain ⟨z,c',h1,h2,h3⟩:=qWa hc
 exact ⟨z,c',h1,h2,by have:=qDH (z:Rat);unfold ti;omega⟩
theorem qWak {t4:Val}:∀ (n:Nat) {c:List Int×Int} {d:Int} {P:KV},CI c->Canon d P->Sm 52 d P->P.length+n<=60->
 ∃ c' P',qLA qDF (c,t4,qMH d P,(n:Int),())=some (.exit 1,(c',t4,qMH d P',0,()))/\CI c'/\Canon d P'/\Sm 52 d P'/\P'.length<=60:=by
 intro n
 induction n with
 |zero=>
  intro c d P hc hP hs hl
  exact ⟨c,P,qQA (by unfold qDF;simp only;rw[qIA (by omega)];rfl) (by simp),hc,hP,hs,by omega⟩
 |succ n ih=>
  intro c d P hc hP hs hl
  obtain ⟨i,c1,h1,hc1,hi⟩:=qKc hc
  obtain ⟨m,c2,h2,hc2,hm⟩:=qKc hc1
  have h3:=qSz (N:=52) (by omega) hP hs hi hm
  have hlen:=qWae (d:=d) (i:=i) (n:=m) hP.incr
  obtain ⟨c',P',g1,g2,g3,g4,g5⟩:=ih hc2 (qHn hP i m) (qYao hP.incr hs hi hm (by omega)) (by omega)
  refine ⟨c',P',?_,g2,g3,g4,g5⟩
  rw[qSA (y:=(c2,t4,qMH d (stP d P i m),(n:Int),())) (by
   unfold qDF
   simp only
   rw[qEA (by omega),h1,qAA,h2,qAA,h3,qAA,w64 (by omega)]
   have e:((n+1:Nat):Int) - 1=(n:Int):=by omega
   rw[e])]
  exact g1
theorem qQn (d:Int):Canon d []:=⟨List.Pairwise.nil,fun _ hp=>absurd hp qY16⟩
theorem qOao {N:Nat} {d:Int} (h:(ti d).length<=N):Sm N d []:=⟨h,fun _ hp=>absurd hp qY16,Nat.zero_le _⟩
theorem qRw {c:List Int×Int} (hc:CI c):∃ d P c',qQF c 4=some ((qMH d P,()),(c',()))/\CI c'/\Canon d P/\Sm 52 d P/\P.length<=60:=by
 obtain ⟨d,c1,h1,hc1,hd⟩:=qKc hc
 obtain ⟨r,c2,h2,hc2,r0,r4⟩:=qBL hc1 (n:=4) (by omega)
 obtain ⟨k,rfl⟩:∃ k:Nat,r=k:=⟨r.toNat,by omega⟩
 obtain ⟨c3,P,h3,hc3,hP,hs,hl⟩:=qWak (t4:=((0:Int),false,([]:qBs),([]:List qBs),([]:List qBs))) k hc2 (qQn d) (qOao hd) (by simp;omega)
 refine ⟨d,P,c3,?_,hc3,hP,hs,hl⟩
 have e:(qMH d []:Val)=(4,false,ti d,([]:List qBs),([]:List qBs)):=rfl
 rw[e] at h3
 unfold qQF
 rw[qCA (by omega),qKA rfl,h1,qAA,h2,qAA,h3,qAA]
 simp only[qJB,qMA]
theorem qMw {v:Val}:(∃ u,qJd v=some ((false,u),()))\/(qJd v=some ((true,()),())/\Short 50 v/\v.2.2.2.1.length<=12):=by
 unfold qJd
 by_cases a1:v.2.2.1.length > 50
 ·rw[qEA (by omega)];exact .inl ⟨(),rfl⟩
 ·rw[qIA (by omega)]
  by_cases a2:v.2.2.2.1.length > 12
  ·rw[qEA (by omega)];exact .inl ⟨(),rfl⟩
  ·rw[qIA (by omega)]
   by_cases a3:v.2.2.2.2.length > 12
   ·rw[qEA (by omega)];exact .inl ⟨(),rfl⟩
   ·rw[qIA (by omega)]
    have q1:=qHI (step:=qQQ) (fun k=>(v,false,(k:Int),())) (fun k=>(v,false,(k:Int),())) v.2.2.2.1.length (E:=.exit 0) (B:=.ret) (by simp) (by simp) (fun k=>decide ((v.2.2.2.1.getD k []).length<=50)) (fun k hk=>by
     unfold qQQ
     simp only
     rw[qEA (by omega),qDA,qBA (by omega),qBA (by omega),qZ0]
     by_cases hh:(v.2.2.2.1.getD k []).length<=50
     ·rw[qIA (by omega),if_pos (qZ10 hh),w64 (by omega)];rfl
     ·rw[qEA (by omega),if_neg (by simpa using hh)]) (by
     unfold qQQ
     simp only
     rw[qIA (by omega)])
    have q2:=qHI (step:=qCQ) (fun k=>(v,false,(k:Int),())) (fun k=>(v,false,(k:Int),())) v.2.2.2.2.length (E:=.exit 2) (B:=.ret) (by simp) (by simp) (fun k=>decide ((v.2.2.2.2.getD k []).length<=50)) (fun k hk=>by
     unfold qCQ
     simp only
     rw[qEA (by omega),qDA,qBA (by omega),qBA (by omega),qZ0]
     by_cases hh:(v.2.2.2.2.getD k []).length<=50
     ·rw[qIA (by omega),if_pos (qZ10 hh),w64 (by omega)];rfl
     ·rw[qEA (by omega),if_neg (by simpa using hh)]) (by
     unfold qCQ
     simp only
     rw[qIA (by omega)])
    rw[show ((0:Nat):Int)=0 from rfl] at q1 q2
    have all:∀ l:List qBs,(List.range l.length).all (fun k=>decide ((l.getD k []).length<=50))=true->∀ s∈l,s.length<=50:=by
     intro l hl s hs
     obtain ⟨k,hk,rfl⟩:=List.getElem_of_mem hs
     have:=List.all_eq_true.1 hl k (List.mem_range.2 hk)
     simpa [qZ4,hk] using this
    rcases q1 with ⟨b1,b2⟩ | ⟨b1,k,b2⟩
    ·rw[b2,qAA]
     simp only[qJB,qMA]
     rcases q2 with ⟨d1,d2⟩ | ⟨d1,k,d2⟩
     ·rw[d2,qAA]
      simp only[qJB,qMA]
      exact .inr ⟨trivial,⟨by omega,all _ b1,all _ d1,by omega,by omega⟩,by omega⟩
     ·rw[d2,qAA]
      simp only[qXD,qWD,qMA,qPA]
      exact .inl ⟨(),trivial⟩
    ·rw[b2,qAA]
     simp only[qXD,qWD,qMA,qPA]
     exact .inl ⟨(),trivial⟩
end Go.AM.Num
end
section
namespace Go.AM.Num
theorem qTh {a b:List qBs} (ha:a.length<=2000000000):qFC a b=some ((decide (a=b),()),()):=by
 unfold qFC
 by_cases hl:a.length=b.length
 ·rw[qPD (by omega)]
  have:=qHI (step:=qNB) (fun k=>(a,b,false,(a.length:Int),(k:Int),())) (fun k=>(a,b,false,(a.length:Int),(k:Int),())) a.length (E:=.exit 0) (B:=.ret) (by simp) (by simp) (fun k=>a.getD k []==b.getD k []) (fun k hk=>by
   unfold qNB
   simp only
   rw[qEA (by omega),qDA,qBA (by omega),qBA (by omega),qDA,qBA (by omega),qBA (by omega),qZ0,w64 (by omega)]
   cases (a.getD k []==b.getD k [])<;>rfl) (by
   unfold qNB
   simp only
   rw[qIA (by omega)])
  rw[show ((0:Nat):Int)=0 from rfl] at this
  have heq:(List.range a.length).all (fun k=>a.getD k []==b.getD k [])=decide (a=b):=by
   rw[Bool.eq_iff_iff,qY3,decide_eq_true_eq]
   constructor
   ·intro h
    refine List.ext_getElem hl fun k h1 h2=>?_
    have:=h k (List.mem_range.2 h1)
    simpa [qZ4,h1,h2] using this
   ·rintro rfl k _;simp
  rcases this with ⟨h1,h2⟩ | ⟨h1,k,h2⟩
  ·rw[h2,<-heq,h1];simp only[qAA,qJB,qMA]
  ·rw[h2,<-heq,h1];simp only[qAA,qXD,qWD,qMA,qPA]
 ·rw[qAE (by omega),qZ9 (fun e=>hl (by rw[e]))]
theorem qVh {a b:Val} (ha:a.2.2.2.1.length<=2000000000) (hb:a.2.2.2.2.length<=2000000000):qHE a b=some ((decide (a=b),()),()):=by
 obtain ⟨s,t,u,k,w⟩:=a
 obtain ⟨s',t',u',k',w'⟩:=b
 unfold qHE
 simp only at ha hb ⊢
 rw[qTh ha,qTh hb]
 simp only[qAA,Prod.mk.injEq]
 by_cases h1:s=s'
 ·rw[qKA h1]
  by_cases h2:t=t'
  ·rw[h2];simp only[beq_self_eq_true,qMA]
   by_cases h3:u=u'
   ·rw[h3];simp only[beq_self_eq_true,qMA]
    by_cases h4:k=k'
    ·rw[qZ10 h4];simp only[qMA];simp[h1,h4]
    ·rw[qZ9 h4];simp only[qPA];simp[h4]
   ·rw[show (u==u')=false from beq_eq_false_iff_ne.2 h3];simp[h3]
  ·rw[show (t==t')=false from beq_eq_false_iff_ne.2 h2];simp[h2]
 ·rw[qCA h1];simp[h1]
end Go.AM.Num
end
section
namespace Go.AM.Num
abbrev nOp (n:Nod):Int:=n.1
abbrev qTF (n:Nod):Int:=n.2.1
abbrev qAL (n:Nod):qBs:=n.2.2.1
abbrev qMK (n:Nod):qBs:=n.2.2.2.1
abbrev qID (n:Nod):Int:=n.2.2.2.2
def letterB (c:UInt8):Bool:=(decide (97<=c)&&decide (c<=122))||(decide (65<=c)&&decide (c<=90))||c==95||c==36||c==33
def qKk (c:UInt8):Bool:=letterB c||(decide (48<=c)&&decide (c<=57))||c==46||c==64
def qUh:List qBs:=[[97,110,100],[111,114],[110,111,116],[105,116,101],[116,114,117,101],[102,97,108,115,101],[108,101,116],[102,111,114,97,108,108],[101,120,105,115,116,115],
 [100,105,115,116,105,110,99,116],[100,105,118],[109,111,100],[115,101,108,101,99,116],[115,116,111,114,101],[99,111,110,115,116],[66,111,111,108],[73,110,116],[82,101,97,108],[65,114,114,97,121]]
def qHb (s:qBs):Bool:=decide (s.length<=40)&&letterB (s.getD 0 0)&&!(decide (s∈qUh))&&s.all qKk
noncomputable def qKB (n:Nod):Bool:=
 if nOp n=3 then decide (qAL n=[])&&((decide (qTF n=2)&&isI (qMK n))||(decide (qTF n=3)&&(rd (qMK n)).isSome))
 else if nOp n=4\/nOp n=5 then decide (1<=qTF n/\qTF n<=4)&&qHb (qAL n)&&decide (qMK n=[])
 else if nOp n=16\/nOp n=17 then decide (qTF n=0)&&decide (qAL n=[])&&isI (qMK n)&&decide (0 < qGa (qMK n))
 else decide (1<=nOp n/\nOp n<=20)&&decide (qTF n=0)&&decide (qAL n=[])&&decide (qMK n=[])
def qMB (o k:Int):Bool:=
 if o=1\/o=2\/o=3\/o=4 then decide (k=0)
 else if o=5 then decide (1<=k/\k<=40)
 else if o=6\/o=16\/o=17\/o=20 then decide (k=1)
 else if o=7\/o=8 then decide (0<=k)
 else if o=14 then decide (1<=k)
 else if o=10\/o=19 then decide (k=3)
 else decide (k=2)
theorem qEP {o k:Int} (h:qMB o k=true):0<=k:=by
 unfold qMB at h
 repeat' split at h
 all_goals (simp at h;omega)
noncomputable def okN (n:Nod):Bool:=qKB n&&qMB (nOp n) (qID n)
def qWF (n:Nod) (first:Int) (ss:List Int):Int:=
 if nOp n=3\/nOp n=4\/nOp n=5 then qTF n
 else if nOp n=1\/nOp n=2\/nOp n=6\/nOp n=7\/nOp n=8\/nOp n=9 then (if ∀ s∈ss,s=1 then 1 else 0)
 else if nOp n=10 then (if ss.getD 0 0=1/\ss.getD 1 0=ss.getD 2 0 then ss.getD 1 0 else 0)
 else if nOp n=11 then (if ss.getD 0 0=ss.getD 1 0 then 1 else 0)
 else if nOp n=12\/nOp n=13 then (if (ss.getD 0 0=2\/ss.getD 0 0=3)/\∀ s∈ss,s=ss.getD 0 0 then 1 else 0)
 else if nOp n=14 then (if (ss.getD 0 0=2\/ss.getD 0 0=3)/\∀ s∈ss,s=ss.getD 0 0 then ss.getD 0 0 else 0)
 else if nOp n=15 then (if first=3/\(ss.getD 0 0=2\/ss.getD 0 0=3)/\∀ s∈ss,s=ss.getD 0 0 then ss.getD 0 0 else 0)
 else if nOp n=16\/nOp n=17 then (if ss.getD 0 0=2 then 2 else 0)
 else if nOp n=18 then (if ss.getD 0 0=4/\ss.getD 1 0=2 then 2 else 0)
 else if nOp n=19 then (if ss.getD 0 0=4/\ss.getD 1 0=2/\ss.getD 2 0=2 then 4 else 0)
 else if nOp n=20 then (if ss.getD 0 0=2 then 4 else 0)
 else 0
inductive Tf where
 |nil
 |cons (n:Nod) (k r:Tf)
namespace Tf
def flat:Tf->List Nod
 |nil=>[]
 |cons n k r=>n::(flat k++flat r)
def len:Tf->Nat
 |nil=>0
 |cons _ _ r=>len r+1
def size:Tf->Nat
 |nil=>0
 |cons _ k r=>size k+size r+1
def app:Tf->Tf->Tf
 |nil,g=>g
 |cons n k r,g=>cons n k (app r g)
def dep:Tf->Nat
 |nil=>0
 |cons _ k r=>max (dep k+1) (dep r)
def op1:Tf->Int
 |nil=>0
 |cons n _ _=>nOp n
def srt:Tf->List Int
 |nil=>[]
 |cons n k r=>(if 0∈srt k then 0 else qWF n (op1 k) (srt k))::srt r
noncomputable def wf:Tf->Bool
 |nil=>true
 |cons n k r=>okN n&&decide (qID n=(len k:Int))&&wf k&&wf r
def take:Nat->Tf->Tf
 |0,_=>nil
 |_+1,nil=>nil
 |c+1,cons n k r=>cons n k (take c r)
def drop:Nat->Tf->Tf
 |0,f=>f
 |_+1,nil=>nil
 |c+1,cons _ _ r=>drop c r
theorem qKC (f:Tf):f.flat.length=f.size:=by
 induction f with
 |nil=>rfl
 |cons n k r ik ir=>simp only[flat,size,qY11,qZ6];omega
theorem qQT (f g:Tf):(f.app g).flat=f.flat++g.flat:=by
 induction f with
 |nil=>rfl
 |cons n k r _ ir=>simp only[app,flat,ir,qY5,qZ1]
theorem qVr (f g:Tf):(f.app g).len=f.len+g.len:=by
 induction f with
 |nil=>simp[app,len]
 |cons n k r _ ir=>simp only[app,len,ir];omega
theorem qJc (f g:Tf):(f.app g).size=f.size+g.size:=by
 induction f with
 |nil=>simp[app,size]
 |cons n k r _ ir=>simp only[app,size,ir];omega
theorem qJa (f g:Tf):(f.app g).srt=f.srt++g.srt:=by
 induction f with
 |nil=>rfl
 |cons n k r _ ir=>simp only[app,srt,ir,qY5]
theorem qNl (f g:Tf):(f.app g).wf=(f.wf&&g.wf):=by
 induction f with
 |nil=>simp[app,wf]
 |cons n k r _ ir=>simp only[app,wf,ir,Bool.and_assoc]
theorem qDq (f g:Tf):(f.app g).dep=max f.dep g.dep:=by
 induction f with
 |nil=>simp[app,dep]
 |cons n k r _ ir=>simp only[app,dep,ir];omega
theorem qRam (f:Tf):f.app nil=f:=by
 induction f with
 |nil=>rfl
 |cons n k r _ ir=>simp only[app,ir]
theorem qQM (f:Tf):f.srt.length=f.len:=by
 induction f with
 |nil=>rfl
 |cons n k r _ ir=>simp only[srt,len,qY11,ir]
theorem qPn:∀ (c:Nat) (f:Tf),(take c f).app (drop c f)=f:=by
 intro c
 induction c with
 |zero=>intro f;cases f<;>rfl
 |succ c ih=>
  intro f
  cases f with
  |nil=>rfl
  |cons n k r=>simp only[take,drop,app,ih]
theorem qRt:∀ (c:Nat) (f:Tf),c<=f.len->(take c f).len=c:=by
 intro c
 induction c with
 |zero=>intro f _;cases f<;>rfl
 |succ c ih=>
  intro f h
  cases f with
  |nil=>simp[len] at h
  |cons n k r=>simp only[len] at h;simp only[take,len,ih r (by omega)]
theorem qTai (f g:Tf):take f.len (f.app g)=f:=by
 induction f with
 |nil=>cases g<;>rfl
 |cons n k r _ ir=>simp only[len,app,take,ir]
theorem qHai (f g:Tf):drop f.len (f.app g)=g:=by
 induction f with
 |nil=>cases g<;>rfl
 |cons n k r _ ir=>simp only[len,app,drop,ir]
theorem qHH (f:Tf):f.len<=f.size:=by
 induction f with
 |nil=>simp[len,size]
 |cons n k r _ ir=>simp only[len,size];omega
theorem qCv (f:Tf):f.dep<=f.size:=by
 induction f with
 |nil=>simp[dep,size]
 |cons n k r ik ir=>simp only[dep,size];omega
theorem qBH {n:Nod} {k r:Tf}:(cons n k r).wf=true ↔ okN n=true/\qID n=(len k:Int)/\wf k=true/\wf r=true:=by
 simp only[wf,qY0,decide_eq_true_eq,and_assoc]
theorem qQS {n:Nod} {k r:Tf}:(0:Int)∉(cons n k r).srt ↔ (0:Int)∉k.srt/\qWF n (op1 k) k.srt≠0/\(0:Int)∉r.srt:=by
 simp only[srt,qY12,not_or]
 constructor
 ·rintro ⟨h1,h2⟩
  split at h1
  ·exact absurd rfl h1
  ·rename_i h;exact ⟨h,fun e=>h1 e.symm,h2⟩
 ·rintro ⟨h1,h2,h3⟩
  rw[if_neg h1]
  exact ⟨fun e=>h2 e.symm,h3⟩
end Tf
open Tf
noncomputable def bkp:List Nod->Option Tf
 |[]=>some nil
 |n::l=>(bkp l).bind fun f=>if okN n=true/\qID n<=(f.len:Int)/\(0:Int)≠qWF n (op1 (take (qID n).toNat f)) (take (qID n).toNat f).srt then some (cons n (take (qID n).toNat f) (drop (qID n).toNat f)) else none
theorem qSe:∀ {t:List Nod} {f:Tf},bkp t=some f->f.flat=t/\f.wf=true/\(0:Int)∉f.srt:=by
 intro t
 induction t with
 |nil=>intro f h;simp only[bkp,Option.some.injEq] at h;subst h;exact ⟨rfl,rfl,by simp[srt]⟩
 |cons n l ih=>
  intro f h
  simp only[bkp,Option.bind_eq_some_iff] at h
  obtain ⟨g,hg,h⟩:=h
  split at h
  ·rename_i hc
   obtain ⟨h1,h2,h3⟩:=hc
   obtain ⟨i1,i2,i3⟩:=ih hg
   simp only[Option.some.injEq] at h
   subst h
   have e:=qPn (qID n).toNat g
   have hk:0<=qID n:=by
    unfold okN at h1
    simp only[qY0] at h1
    exact qEP h1.2
   have hl:=qRt (qID n).toNat g (by omega)
   rw[<-e,qNl,qY0] at i2
   rw[<-e,qJa,qZ7,not_or] at i3
   refine ⟨?_,qBH.2 ⟨h1,by rw[hl];omega,i2.1,i2.2⟩,qQS.2 ⟨i3.1,fun e=>h3 e.symm,i3.2⟩⟩
   rw[<-i1]
   simp only[flat]
   rw[<-qQT,e]
  ·cases h
theorem qHah:∀ (N:Nat) (f:Tf),f.size<=N->f.wf=true->(0:Int)∉f.srt->bkp f.flat=some f:=by
 intro N
 induction N with
 |zero=>intro f h _ _;cases f with
  |nil=>rfl
  |cons n k r=>simp[size] at h
 |succ N ih=>
  intro f h hw hs
  cases f with
  |nil=>rfl
  |cons n k r=>
   obtain ⟨h1,h2,h3,h4⟩:=qBH.1 hw
   obtain ⟨s1,s2,s3⟩:=qQS.1 hs
   simp only[size] at h
   have:=ih (k.app r) (by rw[qJc];omega) (by rw[qNl,h3,h4];rfl) (by rw[qJa,qZ7];exact fun e=>e.elim s1 s3)
   rw[qQT] at this
   simp only[flat,bkp,this,Option.bind_some]
   have e:(qID n).toNat=k.len:=by omega
   rw[e,qTai,qHai,if_pos ⟨h1,by rw[qVr];omega,fun e=>s2 e.symm⟩]
theorem qRan {t:List Nod} {f:Tf}:bkp t=some f ↔ f.flat=t/\f.wf=true/\(0:Int)∉f.srt:=
 ⟨qSe,fun ⟨h1,h2,h3⟩=>h1 ▸ qHah _ f (Nat.le_refl _) h2 h3⟩
def many (p:List Nod->Option (Tf×List Nod)):Nat->List Nod->Option (Tf×List Nod)
 |0,l=>some (nil,l)
 |c+1,l=>(p l).bind fun x=>(many p c x.2).bind fun y=>some (x.1.app y.1,y.2)
noncomputable def one:Nat->List Nod->Option (Tf×List Nod)
 |0,_=>none
 |_+1,[]=>none
 |d+1,n::l=>if okN n=true then (many (one d) (qID n).toNat l).bind fun x=>some (cons n x.1 nil,x.2) else none
theorem qCh {d:Nat} (ho:∀ {l l':List Nod} {f:Tf},one d l=some (f,l')->l=f.flat++l'/\f.wf=true/\f.len=1/\f.dep<=d) :
 ∀ (c:Nat) {l l':List Nod} {f:Tf},many (one d) c l=some (f,l')->l=f.flat++l'/\f.wf=true/\f.len=c/\f.dep<=d:=by
 intro c
 induction c with
 |zero=>intro l l' f h;simp only[many,Option.some.injEq,Prod.mk.injEq] at h;obtain ⟨rfl,rfl⟩:=h;exact ⟨rfl,rfl,rfl,Nat.zero_le _⟩
 |succ c ih=>
  intro l l' f h
  simp only[many,Option.bind_eq_some_iff] at h
  obtain ⟨⟨g,l1⟩,h1,⟨g2,l2⟩,h2,h3⟩:=h
  simp only[Option.some.injEq,Prod.mk.injEq] at h3
  obtain ⟨rfl,rfl⟩:=h3
  obtain ⟨e1,w1,n1,d1⟩:=ho h1
  obtain ⟨e2,w2,n2,d2⟩:=ih h2
  simp only at e2
  refine ⟨by rw[e1,e2,qQT,qZ1],by rw[qNl,w1,w2];rfl,by rw[qVr];omega,by rw[qDq];omega⟩
theorem qKX:∀ (d:Nat) {l l':List Nod} {f:Tf},one d l=some (f,l')->l=f.flat++l'/\f.wf=true/\f.len=1/\f.dep<=d:=by
 intro d
 induction d with
 |zero=>intro l l' f h;simp[one] at h
 |succ d ih=>
  intro l l' f h
  cases l with
  |nil=>simp[one] at h
  |cons n l=>
   simp only[one] at h
   split at h
   ·rename_i hn
    simp only[Option.bind_eq_some_iff] at h
    obtain ⟨⟨g,l1⟩,h1,h2⟩:=h
    simp only[Option.some.injEq,Prod.mk.injEq] at h2
    obtain ⟨rfl,rfl⟩:=h2
    obtain ⟨e1,w1,n1,d1⟩:=qCh ih _ h1
    have hk:0<=qID n:=by
     unfold okN at hn
     simp only[qY0] at hn
     exact qEP hn.2
    refine ⟨by rw[e1];simp only[flat,qY4,qY5],qBH.2 ⟨hn,by omega,w1,rfl⟩,rfl,by simp only[dep];omega⟩
   ·cases h
theorem qEz (f:Tf):∀ (d:Nat) (l:List Nod),f.wf=true->f.dep<=d->many (one d) f.len (f.flat++l)=some (f,l):=by
 induction f with
 |nil=>intro d l _ _;rfl
 |cons n k r ik ir=>
  intro d l hw hd
  obtain ⟨h1,h2,h3,h4⟩:=qBH.1 hw
  simp only[dep] at hd
  obtain ⟨e,rfl⟩:∃ e,d=e+1:=⟨d - 1,by omega⟩
  have e1:=ik e (r.flat++l) h3 (by omega)
  have e2:=ir (e+1) l h4 (by omega)
  have ek:(qID n).toNat=k.len:=by omega
  simp only[len,flat,many,qY5,one,qZ1]
  rw[if_pos h1,ek,e1]
  simp only[Option.bind_some]
  rw[e2]
  rfl
theorem qUt {f:Tf} {d:Nat} (l:List Nod) (hw:f.wf=true) (hl:f.len=1) (hd:f.dep<=d):one d (f.flat++l)=some (f,l):=by
 have:=qEz f d l hw hd
 rw[hl] at this
 simp only[many,Option.bind_eq_some_iff] at this
 obtain ⟨⟨g,l1⟩,h1,⟨g2,l2⟩,h2,h3⟩:=this
 simp only[Option.some.injEq,Prod.mk.injEq] at h2 h3
 obtain ⟨rfl,rfl⟩:=h2
 obtain ⟨rfl,rfl⟩:=h3
 rw[h1,qRam]
end Go.AM.Num
end
section
namespace Go.AM.Num
theorem qET {P:UInt8->Prop} (h:∀ n:Fin 256,P (UInt8.ofNat n.val)) (c:UInt8):P c:=by
 have:=h ⟨c.toNat,c.toNat_lt⟩
 simpa using this
theorem qHf (c:UInt8):qEX (c.toNat:Int)=some ((letterB c,()),()):=by
 refine qET (P:=fun c=>qEX (c.toNat:Int)=some ((letterB c,()),())) ?_ c
 decide +kernel
theorem qOas (c:UInt8):decide ((c.toNat:Int)>=48)=decide (48<=c):=by
 refine qET (P:=fun c=>decide ((c.toNat:Int)>=48)=decide (48<=c)) ?_ c
 decide +kernel
theorem qQar (c:UInt8):decide ((c.toNat:Int)<=57)=decide (c<=57):=by
 refine qET (P:=fun c=>decide ((c.toNat:Int)<=57)=decide (c<=57)) ?_ c
 decide +kernel
theorem qXao (c:UInt8):((c.toNat:Int) !=46)=!(c==46):=by
 refine qET (P:=fun c=>((c.toNat:Int) !=46)=!(c==46)) ?_ c
 decide +kernel
theorem qZao (c:UInt8):((c.toNat:Int) !=64)=!(c==64):=by
 refine qET (P:=fun c=>((c.toNat:Int) !=64)=!(c==64)) ?_ c
 decide +kernel
theorem qMT {α:Type} (l:List α) (d:α) (p:α->Bool):(List.range l.length).all (fun k=>p (l.getD k d))=l.all p:=by
 rw[Bool.eq_iff_iff,qY3,qY3]
 constructor
 ·intro h x hx
  obtain ⟨i,hi⟩:=List.getElem?_of_mem hx
  have:=h i (by simp only[List.mem_range];exact (List.getElem?_eq_some_iff.1 hi).1)
  simpa [qZ4,hi] using this
 ·intro h k hk
  simp only[List.mem_range] at hk
  simpa [qZ4,hk] using h _ (List.getElem_mem hk)
theorem qLw (s:qBs) (l:List qBs):l.foldr (fun w k=>cond (s==w) (some ((true,()),())) k) (some ((false,()),()))=some ((decide (s∈l),()),()):=by
 induction l with
 |nil=>simp
 |cons w l ih=>
  simp only[List.foldr_cons,ih,qY12]
  by_cases h:s=w
  ·rw[show (s==w)=true by simpa using h];simp[h]
  ·rw[show (s==w)=false by simpa using h];simp[h]
theorem qWaa (s:qBs):qAaf s=some ((decide (s∈qUh),()),()):=by
 have:=qLw s qUh
 exact this
theorem qBae (s:qBs):(s==[])=decide (s=[]):=by
 cases s<;>simp
theorem qXr (s:qBs):qMX s=some ((qHb s,()),()):=by
 unfold qMX
 by_cases h0:s=[]
 ·subst h0;decide
 ·rw[show (s==([]:qBs))=false by simpa using h0,qPA]
  have hl:0 < s.length:=List.length_pos_iff.2 h0
  unfold qHb
  by_cases h1:s.length<=40
  ·rw[qIA (by omega),qZ10 h1,qDA,qBA (by omega),qBA (by omega),qHf,qAA,qWaa,qAA]
   have e:(0:Int).toNat=0:=rfl
   rw[e]
   simp only
   cases letterB (s.getD 0 0) with
   |false=>rfl
   |true=>
    simp only[qY2,qPA,Bool.true_and]
    cases decide (s∈qUh) with
    |true=>rfl
    |false=>
     rw[qPA]
     have key:=qHI (step:=qDO) (fun k=>(s,false,(s.length:Int),(k:Int),())) (fun k=>(s,false,(s.length:Int),(k:Int),())) s.length (E:=.exit 0) (B:=.ret) (by simp) (by simp) (fun k=>qKk (s.getD k 0)) (fun k hk=>by
      unfold qDO
      simp only
      rw[qEA (by omega),qDA,qBA (by omega),qBA (by omega),qZ0,qHf,qAA,qOas,qQar,qXao,qZao,w64 (x:=(k:Int)+1) (by omega)]
      unfold qKk
      generalize letterB (s.getD k 0)=a
      generalize decide (48<=s.getD k 0)=b
      generalize decide (s.getD k 0<=57)=c
      generalize (s.getD k 0==46)=d
      generalize (s.getD k 0==64)=e
      cases a<;>cases b<;>cases c<;>cases d<;>cases e<;>rfl) (by
      unfold qDO
      simp only
      rw[qIA (by omega)])
     rw[qMT] at key
     rcases key with ⟨k1,k2⟩ | ⟨k1,j,k2⟩
     ·rw[show ((0:Nat):Int)=0 from rfl] at k2
      rw[k2,k1]
      simp only[qAA,qJB,qMA,qY1,Bool.true_and]
     ·rw[show ((0:Nat):Int)=0 from rfl] at k2
      rw[k2,k1]
      simp only[qAA,qXD,qWD,qMA,qPA,Bool.and_false]
  ·rw[qEA (by omega),qZ9 h1]
   rfl
theorem qPd (s:Int):qRY s=some ((decide (1<=s/\s<=4),()),()):=by
 unfold qRY
 by_cases h:s>=1
 ·rw[qEA h]
  have:decide (s<=4)=decide (1<=s/\s<=4):=by rw[decide_eq_decide];omega
  rw[this]
 ·rw[qIA h,qZ9 (by omega)]
theorem qOi {s:Int} {a:qBs} (h:a.length<=1000000):qDU s a=some (((decide (s=2)&&isI a)||(decide (s=3)&&(rd a).isSome),()),()):=by
 unfold qDU
 rw[qHU (by omega),qKY (by omega)]
 simp only[qAA]
 by_cases h2:s=2
 ·subst h2
  cases isI a<;>rfl
 ·rw[qCA h2,qZ9 h2,Bool.false_and,Bool.false_or]
  by_cases h3:s=3
  ·subst h3;rfl
  ·rw[qCA h3,qZ9 h3,Bool.false_and]
theorem qWr {n:Nod} (h:(qMK n).length<=1000000):qHc n=some ((qKB n,()),()):=by
 obtain ⟨o,s,nm,num,kd⟩:=n
 simp only[qMK] at h
 unfold qHc qKB
 simp only[nOp,qTF,qAL,qMK]
 rw[qOi h,qPd,qXr,qHU (by omega),qHZ (by omega)]
 simp only[qAA,qBae]
 by_cases e3:o=3
 ·rw[qKA e3,if_pos e3];cases decide (nm=[])<;>rfl
 ·rw[qCA e3,if_neg e3]
  by_cases e4:o=4
  ·rw[qKA e4,if_pos (.inl e4)];cases decide (1<=s/\s<=4)<;>cases qHb nm<;>rfl
  ·rw[qCA e4]
   by_cases e5:o=5
   ·rw[qKA e5,if_pos (.inr e5)];cases decide (1<=s/\s<=4)<;>cases qHb nm<;>rfl
   ·rw[qCA e5,if_neg (by omega)]
    by_cases e6:o=16
    ·rw[qKA e6,if_pos (.inl e6)]
     by_cases z:s=0
     ·rw[qKA z,qZ10 z];cases decide (nm=[])<;>cases isI num<;>rfl
     ·rw[qCA z,qZ9 z];rfl
    ·rw[qCA e6]
     by_cases e7:o=17
     ·rw[qKA e7,if_pos (.inr e7)]
      by_cases z:s=0
      ·rw[qKA z,qZ10 z];cases decide (nm=[])<;>cases isI num<;>rfl
      ·rw[qCA z,qZ9 z];rfl
     ·rw[qCA e7,if_neg (by omega)]
      by_cases g1:o>=1
      ·rw[qEA g1]
       by_cases g2:o<=20
       ·rw[qEA g2,qZ10 (show 1<=o/\o<=20 from ⟨g1,g2⟩)]
        by_cases z:s=0
        ·rw[qKA z,qZ10 z];cases decide (nm=[])<;>rfl
        ·rw[qCA z,qZ9 z];rfl
       ·rw[qIA g2,qZ9 (by omega)];rfl
      ·rw[qIA g1,qZ9 (by omega)];rfl
theorem qXw {o k:Int} (hk:0<=k):qQd o k=some ((qMB o k,()),()):=by
 by_cases h1:o=1;· subst h1;rfl
 by_cases h2:o=2;· subst h2;rfl
 by_cases h3:o=3;· subst h3;rfl
 by_cases h4:o=4;· subst h4;rfl
 by_cases h5:o=5
 ·subst h5
  have e:qMB 5 k=decide (1<=k/\k<=40):=rfl
  rw[e]
  unfold qQd
  rw[qCA (by decide),qCA (by decide),qCA (by decide),qCA (by decide),qKA rfl]
  by_cases g:k>=1
  ·rw[qEA g]
   have:decide (k<=40)=decide (1<=k/\k<=40):=by rw[decide_eq_decide];omega
   rw[this]
  ·rw[qIA g,qZ9 (by omega)]
 by_cases h6:o=6;· subst h6;rfl
 by_cases h16:o=16;· subst h16;rfl
 by_cases h17:o=17;· subst h17;rfl
 by_cases h20:o=20;· subst h20;rfl
 by_cases h7:o=7
 ·subst h7
  have e:qMB 7 k=decide (0<=k):=rfl
  rw[e,qZ10 hk];rfl
 by_cases h8:o=8
 ·subst h8
  have e:qMB 8 k=decide (0<=k):=rfl
  rw[e,qZ10 hk];rfl
 by_cases h14:o=14;· subst h14;rfl
 by_cases h10:o=10;· subst h10;rfl
 by_cases h19:o=19;· subst h19;rfl
 unfold qQd qMB
 rw[qCA h1,qCA h2,qCA h3,qCA h4,qCA h5,qCA h6,qCA h16,qCA h17,qCA h20,qCA h7,qCA h8,qCA h14,qCA h10,qCA h19,
  if_neg (by omega),if_neg h5,if_neg (by omega),if_neg (by omega),if_neg h14,if_neg (by omega)]
 rfl
theorem qRab (b:Bool) (s:Int):qBG b s=some ((if b=true then s else 0,()),()):=by cases b<;>rfl
theorem qBb (s:Int):qRO s=some ((decide (s=2\/s=3),()),()):=by
 unfold qRO
 by_cases h:s=2
 ·rw[qKA h,qZ10 (.inl h)]
 ·rw[qCA h]
  have:(s==3)=decide (s=2\/s=3):=by
   have e:(s==3)=decide (s=3):=rfl
   rw[e,decide_eq_decide];omega
  rw[this]
theorem qNu {ss:List Int} {s:Int} (hl:ss.length<=1000000000):qVX ss s=some ((decide (∀ x∈ss,x=s),()),()):=by
 have key:=qHI (step:=qWA) (fun k=>(ss,some s,(0:Int),(ss.length:Int),(k:Int),())) (fun k=>(ss,some s,(k:Int),(ss.length:Int),(k:Int),())) ss.length (E:=.exit 0) (B:=.ret) (by simp) (by simp) (fun k=>decide (ss.getD k 0=s)) (fun k hk=>by
  unfold qWA
  simp only
  rw[qEA (by omega),qDA,qBA (by omega),qBA (by omega),qZ0]
  have e:qPq (ss.getD k 0) (some s)=some ((ss.getD k 0 !=s,()),()):=rfl
  rw[e,qAA,w64 (x:=(k:Int)+1) (by omega)]
  by_cases h:ss.getD k 0=s
  ·rw[qPD h,if_pos (qZ10 h)];rfl
  ·rw[qAE h,if_neg (fun e=>h (of_decide_eq_true e))]) (by
  unfold qWA
  simp only
  rw[qIA (by omega)])
 rw[qMT ss 0 (fun x=>decide (x=s))] at key
 rw[show ((0:Nat):Int)=0 from rfl] at key
 unfold qVX qTC qJD
 rcases key with ⟨k1,k2⟩ | ⟨k1,j,k2⟩
 ·rw[k2]
  simp only[qAA,qJB,qMA]
  rw[show decide (∀ x∈ss,x=s)=true from qZ10 (by simpa [qY3] using k1)]
  rfl
 ·rw[k2]
  simp only[qAA,qXD,qWD,qMA,qPA]
  rw[show decide (∀ x∈ss,x=s)=false from qZ9 (fun h=>by rw[List.all_eq_true.2 (fun x hx=>qZ10 (h x hx))] at k1;cases k1),qZ10 (show (j:Int)>=0 by omega)]
  rfl
theorem qFr {n:Nod} {ss:List Int} (ho:1<=nOp n/\nOp n<=20) (hl:ss.length<=1000000000) (hc:qMB (nOp n) ss.length=true):qGc n ss=some ((qWF n 3 ss,()),()):=by
 obtain ⟨o,s,nm,num,kd⟩:=n
 simp only[nOp] at ho hc
 unfold qGc qWF
 simp only[nOp,qTF,qNu hl,qNu (show (ss.drop 1).length<=1000000000 by simp;omega),qRab,qBb,qAA,decide_eq_true_eq,show (0:Int).toNat=0 from rfl,show (1:Int).toNat=1 from rfl,show (2:Int).toNat=2 from rfl]
 by_cases h3:o=3;· rw[qKA h3,if_pos (.inl h3)]
 rw[qCA h3]
 by_cases h4:o=4;· rw[qKA h4,if_pos (.inr (.inl h4))]
 rw[qCA h4]
 by_cases h5:o=5;· rw[qKA h5,if_pos (.inr (.inr h5))]
 rw[qCA h5,if_neg (show ¬ (o=3\/o=4\/o=5) by omega)]
 by_cases h1:o=1;· rw[qKA h1,if_pos (show o=1\/o=2\/o=6\/o=7\/o=8\/o=9 by omega)]
 rw[qCA h1]
 by_cases h2:o=2;· rw[qKA h2,if_pos (show o=1\/o=2\/o=6\/o=7\/o=8\/o=9 by omega)]
 rw[qCA h2]
 by_cases h6:o=6;· rw[qKA h6,if_pos (show o=1\/o=2\/o=6\/o=7\/o=8\/o=9 by omega)]
 rw[qCA h6]
 by_cases h7:o=7;· rw[qKA h7,if_pos (show o=1\/o=2\/o=6\/o=7\/o=8\/o=9 by omega)]
 rw[qCA h7]
 by_cases h8:o=8;· rw[qKA h8,if_pos (show o=1\/o=2\/o=6\/o=7\/o=8\/o=9 by omega)]
 rw[qCA h8]
 by_cases h9:o=9;· rw[qKA h9,if_pos (show o=1\/o=2\/o=6\/o=7\/o=8\/o=9 by omega)]
 rw[qCA h9,if_neg (show ¬ (o=1\/o=2\/o=6\/o=7\/o=8\/o=9) by omega)]
 by_cases h10:o=10
 ·subst h10
  rcases ss with _ | ⟨a,_ | ⟨b,_ | ⟨c,_ | ⟨d,l⟩⟩⟩⟩<;>simp[qMB] at hc
  ·by_cases q:a=1
   ·simp[grd,q]
   ·simp[grd,q,show (a==1)=false by simpa using q]
  ·omega
 rw[qCA h10,if_neg h10]
 by_cases h11:o=11
 ·subst h11
  rcases ss with _ | ⟨a,_ | ⟨b,_ | ⟨c,l⟩⟩⟩<;>simp[qMB] at hc
  ·simp[grd]
  ·omega
 rw[qCA h11,if_neg h11]
 by_cases h12:o=12
 ·subst h12
  rcases ss with _ | ⟨a,_ | ⟨b,_ | ⟨c,l⟩⟩⟩<;>simp[qMB] at hc
  ·by_cases q:a=2\/a=3<;>simp[grd,q]
  ·omega
 rw[qCA h12]
 by_cases h13:o=13
 ·subst h13
  rcases ss with _ | ⟨a,_ | ⟨b,_ | ⟨c,l⟩⟩⟩<;>simp[qMB] at hc
  ·by_cases q:a=2\/a=3<;>simp[grd,q]
  ·omega
 rw[qCA h13,if_neg (show ¬ (o=12\/o=13) by omega)]
 by_cases h14:o=14
 ·subst h14
  rcases ss with _ | ⟨a,l⟩<;>simp[qMB] at hc
  by_cases q:a=2\/a=3<;>simp[grd,q]
 rw[qCA h14,if_neg h14]
 by_cases h15:o=15
 ·subst h15
  rcases ss with _ | ⟨a,_ | ⟨b,_ | ⟨c,l⟩⟩⟩<;>simp[qMB] at hc
  ·by_cases q:a=2\/a=3<;>simp[grd,q]
  ·omega
 rw[qCA h15,if_neg h15]
 by_cases h16:o=16
 ·subst h16
  rcases ss with _ | ⟨a,_ | ⟨b,l⟩⟩<;>simp[qMB] at hc
  ·simp[grd]
  ·omega
 rw[qCA h16]
 by_cases h17:o=17
 ·subst h17
  rcases ss with _ | ⟨a,_ | ⟨b,l⟩⟩<;>simp[qMB] at hc
  ·simp[grd]
  ·omega
 rw[qCA h17,if_neg (show ¬ (o=16\/o=17) by omega)]
 by_cases h18:o=18
 ·subst h18
  rcases ss with _ | ⟨a,_ | ⟨b,_ | ⟨c,l⟩⟩⟩<;>simp[qMB] at hc
  ·by_cases q:a=4
   ·simp[grd,q]
   ·simp[grd,q,show (a==4)=false by simpa using q]
  ·omega
 rw[qCA h18,if_neg h18]
 by_cases h19:o=19
 ·subst h19
  rcases ss with _ | ⟨a,_ | ⟨b,_ | ⟨c,_ | ⟨d,l⟩⟩⟩⟩<;>simp[qMB] at hc
  ·by_cases q:a=4
   ·simp[grd,q]
   ·simp[grd,q,show (a==4)=false by simpa using q]
  ·omega
 rw[qCA h19,if_neg h19]
 obtain rfl:o=20:=by omega
 rcases ss with _ | ⟨a,_ | ⟨b,l⟩⟩<;>simp[qMB] at hc
 ·simp[grd]
 ·omega
end Go.AM.Num
end
section
namespace Go.AM.Num
namespace Tf
def info:Nat->Tf->List (Int×Int×Int)
 |_,nil=>[]
 |p,cons n k r=>((if 0∈srt k then 0 else qWF n (op1 k) (srt k)),((dep k+1:Nat):Int),((p+1+size k:Nat):Int))::(info (p+1) k++info (p+1+size k) r)
def rts:Nat->Tf->List Int
 |_,nil=>[]
 |p,cons _ k r=>rts (p+1+size k) r++[(p:Int)]
def rtf:Nat->Tf->List Int
 |_,nil=>[]
 |p,cons _ k r=>(p:Int)::rtf (p+1+size k) r
theorem qOF (f:Tf):∀ p,(info p f).length=f.size:=by
 induction f with
 |nil=>intro p;rfl
 |cons n k r ik ir=>intro p;simp only[info,size,qY11,qZ6,ik,ir]
theorem qPs (f g:Tf):∀ p,info p (f.app g)=info p f++info (p+f.size) g:=by
 induction f with
 |nil=>intro p;simp[app,info,size]
 |cons n k r _ ir=>
  intro p
  have e:p+1+size k+size r=p+(size k+size r+1):=by omega
  simp only[app,info,size,ir,qY5,qZ1,e]
theorem qJam (f g:Tf):∀ p,rts p (f.app g)=rts (p+f.size) g++rts p f:=by
 induction f with
 |nil=>intro p;simp[app,rts,size]
 |cons n k r _ ir=>
  intro p
  have e:p+1+size k+size r=p+(size k+size r+1):=by omega
  simp only[app,rts,size,ir,qZ1,e]
theorem qKT (f:Tf):∀ p,(rts p f).length=f.len:=by
 induction f with
 |nil=>intro p;rfl
 |cons n k r _ ir=>intro p;simp[rts,len,ir]
theorem qQan (f:Tf):∀ p,(rts p f).reverse=rtf p f:=by
 induction f with
 |nil=>intro p;rfl
 |cons n k r _ ir=>intro p;simp[rts,rtf,ir]
end Tf
open Tf
theorem qPz {α β γ:Type} (f:β->γ->Option γ) (g:α->β):∀ (l:List α) (y:γ),foldO (fun a y=>f (g a) y) l y=foldO f (l.map g) y:=by
 intro l
 induction l with
 |nil=>intro y;rfl
 |cons a l ih=>intro y;simp only[foldO,List.map_cons];congr 1;funext z;exact ih z
theorem qEad {β:Type} (f:Int->β->Option β) (l:List Int) (y:β):foldO (fun (p:Int×Nat) y=>f p.1 y) l.zipIdx.reverse y=foldO f l.reverse y:=by
 rw[qPz f (fun p:Int×Nat=>p.1),List.map_reverse]
 congr 2
 exact List.zipIdx_map_fst 0 l
theorem qSF {α:Type} {l r:List α} {p:Nat} {x d:α} (h:l.drop p=x::r):l.getD p d=x/\p < l.length:=by
 have h0:(l.drop p)[0]?=some x:=by rw[h];rfl
 rw[List.getElem?_drop] at h0
 have e:p+0=p:=by omega
 rw[e] at h0
 exact ⟨by rw[qZ4,h0];rfl,(List.getElem?_eq_some_iff.1 h0).1⟩
abbrev LkS:=((List Nod)×List (Int×Sml))×(Int×Sml)×(List Int)×Unit
def lkG (v:Int) (y:LkS):Option LkS:=(qKN v 0 y).bind fun o=>some (qUJ y o)
theorem qFae (t:List Nod) (P:List (Int×Sml)) (hP:P.length<=20000):∀ (k:Tf) (p:Nat) (s0:Int) (d0:Nat) (ss:List Int),(∃ rest,P.drop p=info p k++rest)->1<=d0->d0<=100000->ss.length+k.len<=100000->
 foldO lkG (rtf p k) ((t,P),(s0,(d0:Int),(p:Int)),ss,())=some ((t,P),(s0,((max d0 (k.dep+1):Nat):Int),((p+k.size:Nat):Int)),ss++k.srt,()):=by
 intro k
 induction k with
 |nil=>
  intro p s0 d0 ss _ h1 _ _
  have e:max d0 (dep nil+1)=d0:=by simp only[dep];omega
  simp only[rtf,foldO,srt,qY4,size,Nat.add_zero,e]
 |cons n k r ik ir=>
  intro p s0 d0 ss ⟨rest,hr⟩ h1 h2 h3
  simp only[info,qY5] at hr
  obtain ⟨g1,g2⟩:=qSF (d:=((0:Int),(0:Int),(0:Int))) hr
  have hz:size k+size r+1<=P.length:=by
   have:=congrArg List.length hr
   simp only[List.length_drop,qY11,qZ6,qOF] at this
   omega
  have hdk:=qCv k
  have hdr:=qCv r
  have hlr:=qHH r
  simp only[len] at h3
  simp only[rtf,foldO]
  have hstep:lkG (p:Int) ((t,P),(s0,(d0:Int),(p:Int)),ss,())=some ((t,P),(s0,((max d0 (k.dep+2):Nat):Int),((p+1+size k:Nat):Int)),ss++[if 0∈srt k then 0 else qWF n (op1 k) (srt k)],()):=by
   unfold lkG qKN qUJ
   simp only
   rw[qZ0,g1]
   rw[qDA,qBA (by omega),qBA (by omega),qBA g2,qBA (by simp[qSE];omega),qDA,qBA (by omega),qBA (by omega),qBA g2,qDA,qBA (by omega),qBA (by omega),qBA g2,qAA]
   rw[w64 (x:=((dep k+1:Nat):Int)+1) (by omega)]
   have:qFZ (d0:Int) (((dep k+1:Nat):Int)+1)=((max d0 (k.dep+2):Nat):Int):=by rw[qOc];split<;>omega
   rw[this]
  rw[hstep,Option.bind_some]
  rw[ir (p+1+size k) s0 (max d0 (k.dep+2)) _ ⟨rest,by
   have:=congrArg (List.drop (1+size k)) hr
   rw[List.drop_drop] at this
   have e:p+(1+size k)=p+1+size k:=by omega
   rw[e] at this
   rw[this,Nat.add_comm 1,List.drop_succ_cons,qZ1,List.drop_append_of_le_length (by rw[qOF];omega)]
   have:(info (p+1) k).drop (size k)=[]:=qY7 (by rw[qOF];omega)
   rw[this,qY15]⟩ (by omega) (by omega) (by simp;omega)]
  have e1:max (max d0 (k.dep+2)) (r.dep+1)=max d0 ((cons n k r).dep+1):=by simp only[dep];omega
  have e2:p+1+size k+size r=p+(cons n k r).size:=by simp only[size];omega
  rw[e1,e2]
  simp only[srt,qZ1,qY5,qY15]
theorem qMo (n:Nod) (f:Int) (ss:List Int):qWF n f ss=if nOp n=15/\f≠3 then 0 else qWF n 3 ss:=by
 unfold qWF
 by_cases h:nOp n=15
 ·by_cases hf:f=3
  ·simp[h,hf]
  ·simp[h,hf]
 ·simp[h]
theorem qIy:∀ (i:Nat) {t:List Nod} {f:Tf},bkp t=some f->∃ g,bkp (t.drop i)=some g:=by
 intro i
 induction i with
 |zero=>intro t f h;exact ⟨f,by simpa using h⟩
 |succ i ih=>
  intro t f h
  cases t with
  |nil=>exact ⟨nil,by simp[bkp]⟩
  |cons n l=>
   simp only[bkp,Option.bind_eq_some_iff] at h
   obtain ⟨g,hg,_⟩:=h
   simpa using ih hg
def qSN (t:List Nod):Prop:=∀ n∈t,(qMK n).length<=100000
theorem qGad {t:List Nod} (hs:qSN t) (hl:t.length<=20000) {i:Nat} (hi:i < t.length) {F:Tf} {P:List (Int×Sml)} (hF:bkp (t.drop (i+1))=some F) (hP:P.length=t.length) (hPi:P.drop (i+1)=info (i+1) F) :
 (bkp (t.drop i)=none/\∃ v,qHM (t,(none:Option qWP),false,(t,P),rts (i+1) F,(i:Int),())=some (.ret,(t,(none:Option qWP),false,v,rts (i+1) F,(i:Int),())))\/
 ∃ G P',bkp (t.drop i)=some G/\P'.length=t.length/\P'.drop i=info i G/\qHM (t,(none:Option qWP),false,(t,P),rts (i+1) F,(i:Int),())=some (.normal,(t,(none:Option qWP),false,(t,P'),rts i G,(i:Int) - 1,())):=by
 obtain ⟨hf1,hf2,hf3⟩:=qSe hF
 have hsz:F.size=t.length - (i+1):=by rw[<-qKC,hf1,List.length_drop]
 have hfl:=qHH F
 have hget:t.getD i qPC=t[i]:=by simp[qZ4,hi]
 have hmem:t[i]∈t:=List.getElem_mem hi
 have hbp:bkp (t.drop i)=if okN t[i]=true/\qID t[i]<=(F.len:Int)/\(0:Int)≠qWF t[i] (op1 (take (qID t[i]).toNat F)) (take (qID t[i]).toNat F).srt then some (cons t[i] (take (qID t[i]).toNat F) (drop (qID t[i]).toNat F)) else none:=by
  rw[qY6 hi]
  simp only[bkp,hF,Option.bind_some]
 have hnum:=hs _ hmem
 have hfe:=qWr (n:=t[i]) (by omega)
 unfold qHM
 simp only
 rw[qEA (by omega),qDA,qBA (by omega),qBA (by omega),qZ0,hget]
 generalize hn:t[i]=n at hbp hnum hfe ⊢
 have hK:n.2.2.2.2=qID n:=rfl
 have hO:n.1=nOp n:=rfl
 rw[hK,hO,qKT]
 by_cases q1:qID n < 0
 ·rw[qEA q1]
  refine .inl ⟨?_,_,rfl⟩
  rw[hbp,if_neg]
  rintro ⟨h,_⟩
  unfold okN at h
  simp only[qY0] at h
  have:=qEP h.2
  omega
 rw[qIA q1]
 by_cases q2:qID n > (F.len:Int)
 ·rw[qEA q2]
  exact .inl ⟨by rw[hbp,if_neg (by omega)],_,rfl⟩
 rw[qIA q2,hfe,qAA]
 by_cases q3:qKB n=false
 ·rw[q3]
  refine .inl ⟨?_,_,rfl⟩
  rw[hbp,if_neg]
  rintro ⟨h,_⟩
  unfold okN at h
  rw[q3] at h
  cases h
 rw[Bool.not_eq_false] at q3
 rw[q3]
 simp only[qY2,qPA]
 rw[qXw (by omega),qAA]
 by_cases q4:qMB (nOp n) (qID n)=false
 ·rw[q4]
  refine .inl ⟨?_,_,rfl⟩
  rw[hbp,if_neg]
  rintro ⟨h,_⟩
  unfold okN at h
  rw[q4,Bool.and_false] at h
  cases h
 rw[Bool.not_eq_false] at q4
 rw[q4]
 simp only[qY2,qPA]
 have hok:okN n=true:=by unfold okN;rw[q3,q4];rfl
 obtain ⟨c,hc⟩:∃ c:Nat,qID n=(c:Int):=⟨(qID n).toNat,by omega⟩
 have hct:(qID n).toNat=c:=by omega
 rw[hct] at hbp
 have hFe:=qPn c F
 have hkl:=qRt c F (by omega)
 generalize hk:take c F=k at hbp hFe hkl
 generalize hr:drop c F=r at hbp hFe
 have hlen:F.len=k.len+r.len:=by rw[<-hFe,qVr]
 have hsize:F.size=k.size+r.size:=by rw[<-hFe,qJc]
 have hrl:r.len=F.len - c:=by omega
 have hR:rts (i+1) F=rts (i+1+k.size) r++rts (i+1) k:=by rw[<-hFe,qJam]
 have hw:qI ((F.len:Int) - qID n)=(r.len:Int):=by rw[w64 (by omega)];omega
 have hRd:(rts (i+1) F).drop r.len=rts (i+1) k:=by
  rw[hR,List.drop_append_of_le_length (by rw[qKT];omega),qY7 (by rw[qKT];omega),qY15]
 have hRt:(rts (i+1) F).take r.len=rts (i+1+k.size) r:=by
  rw[hR,List.take_append_of_le_length (by rw[qKT];omega),List.take_of_length_le (by rw[qKT];omega)]
 have hRdt:((rts (i+1) F).drop r.len).take (F.len - r.len)=rts (i+1) k:=by
  rw[hRd,List.take_of_length_le (by rw[qKT];omega)]
 have hfold:=qFae t P (by omega) k (i+1) 0 1 [] ⟨info (i+1+k.size) r,by rw[hPi,<-hFe,qPs]⟩ (by omega) (by omega) (by simp;omega)
 rw[hw,qZ0,hRdt]
 rw[qDA,qBA (by omega),qBA (by omega),qBA (by rw[qKT];simp only[qSE];omega)]
 have hidx:foldO (fun (p:Int×Nat) y=>(qKN p.1 p.2 y).bind fun o=>some (qUJ y o)) (rts (i+1) k).zipIdx.reverse ((t,P),((0:Int),1,qI ((i:Int)+1)),([]:List Int),())=foldO lkG (rtf (i+1) k) ((t,P),((0:Int),((1:Nat):Int),((i+1:Nat):Int)),([]:List Int),()):=by
  rw[<-qQan,<-qEad lkG]
  rw[w64 (by omega)]
  rfl
 rw[hidx,hfold,qAA,qAA]
 unfold qDP
 simp only[qY15]
 have hss:k.srt.length=c:=by rw[qQM];exact hkl
 have hop:1<=nOp n/\nOp n<=20:=by
  unfold qKB at q3
  split at q3
  ·omega
  ·split at q3
   ·omega
   ·split at q3
    ·omega
    ·simp only[qY0,decide_eq_true_eq] at q3
     exact q3.1.1.1
 rw[qFr hop (by omega) (by rw[hss,<-hc];exact q4),qAA]
 have hfirst:=qMo n (op1 k) k.srt
 by_cases q5:qWF n 3 k.srt=0
 ·rw[qKA q5]
  refine .inl ⟨?_,_,rfl⟩
  rw[hbp,if_neg]
  rintro ⟨_,_,h⟩
  rw[hfirst,q5] at h
  split at h<;>exact h rfl
 rw[qCA q5]
 have hwi:qI ((i:Int)+1)=((i+1:Nat):Int):=by rw[w64 (by omega)];omega
 have hwm:qI ((i:Int) - 1)=(i:Int) - 1:=w64 (by omega)
 have hgood:∀ (hx:¬ (nOp n=15/\op1 k≠3)),bkp (t.drop i)=some (cons n k r)/\(P.set i (qWF n 3 k.srt,((max 1 (k.dep+1):Nat):Int),((i+1+k.size:Nat):Int))).drop i=info i (cons n k r):=by
  intro hx
  rw[if_neg hx] at hfirst
  refine ⟨by rw[hbp,if_pos ⟨hok,by omega,by rw[hfirst];exact fun e=>q5 e.symm⟩],?_⟩
  have h0:(0:Int)∉k.srt:=fun h=>hf3 (by rw[<-hFe,qJa,qZ7];exact .inl h)
  rw[qY6 (by simp;omega)]
  simp only[info]
  rw[if_neg h0,hfirst,List.getElem_set_self,List.drop_set_of_lt (by omega),hPi,<-hFe,qPs]
  have e:max 1 (k.dep+1)=k.dep+1:=by omega
  rw[e]
 have hlt:P.length=t.length:=hP
 by_cases q6:nOp n=15
 ·rw[qKA q6,hwi,qDA,qBA (by omega)]
  have hk2:0 < k.len:=by
   have:qMB 15 (qID n)=decide (qID n=2):=rfl
   rw[q6,this,decide_eq_true_eq] at q4
   omega
  have hkne:∃ n1 k1 r1,k=cons n1 k1 r1:=by
   cases k with
   |nil=>simp[len] at hk2
   |cons n1 k1 r1=>exact ⟨n1,k1,r1,rfl⟩
  obtain ⟨n1,k1,r1,hke⟩:=hkne
  have hd:t.drop (i+1)=n1::(k1.flat++r1.flat++r.flat):=by
   rw[<-hf1,<-hFe,hke]
   simp only[app,flat,qQT,qZ1]
  obtain ⟨g1,g2⟩:=qSF (d:=qPC) hd
  have ho1:op1 k=n1.1:=by rw[hke];rfl
  rw[qBA (by omega),qZ0,g1]
  by_cases q7:n1.1=3
  ·rw[qPD q7]
   obtain ⟨b1,b2⟩:=hgood (fun h=>h.2 (by rw[ho1];exact q7))
   refine .inr ⟨_,_,b1,by simp[hP],b2,?_⟩
   rw[qDA,qBA (by omega),qBA (by omega),qBA (by omega),qDA,qBA (by omega),qBA (by omega),qBA (by simp[qSE];omega),hRt,hwm]
   rfl
  ·rw[qAE q7]
   refine .inl ⟨?_,_,rfl⟩
   rw[hbp,if_neg]
   rintro ⟨_,_,h⟩
   rw[hfirst,if_pos ⟨q6,by rw[ho1];exact q7⟩] at h
   exact h rfl
 ·rw[qCA q6]
  obtain ⟨b1,b2⟩:=hgood (fun h=>q6 h.1)
  refine .inr ⟨_,_,b1,by simp[hP],b2,?_⟩
  rw[qDA,qBA (by omega),qBA (by omega),qBA (by omega),qDA,qBA (by omega),qBA (by omega),qBA (by simp[qSE];omega),hRt,hwm]
  rfl
theorem qHaf {t:List Nod} (hs:qSN t) (hl:t.length<=20000):∀ (j:Nat),j<=t.length->∀ (F:Tf) (P:List (Int×Sml)),bkp (t.drop j)=some F->P.length=t.length->P.drop j=info j F->
 (bkp t=none/\∃ v,qLA qHM (t,(none:Option qWP),false,(t,P),rts j F,(j:Int) - 1,())=some (.ret,(t,(none:Option qWP),false,v)))\/
 ∃ G,bkp t=some G/\qLA qHM (t,(none:Option qWP),false,(t,P),rts j F,(j:Int) - 1,())=some (.exit 0,(t,(none:Option qWP),false,(t,info 0 G),rts 0 G,-1,())):=by
 intro j
 induction j with
 |zero=>
  intro _ F P hF hP hPi
  refine .inr ⟨F,by simpa using hF,qQA ?_ (by simp)⟩
  unfold qHM
  simp only
  rw[qIA (by omega)]
  have e:P=info 0 F:=by simpa using hPi
  rw[e]
  rfl
 |succ j ih=>
  intro hj F P hF hP hPi
  have e:(((j+1:Nat):Int) - 1)=(j:Int):=by omega
  rw[e]
  rcases qGad hs hl (i:=j) (by omega) hF hP hPi with ⟨h1,v,h2⟩ | ⟨G,P',h1,h2,h3,h4⟩
  ·refine .inl ⟨?_,_,qQA h2 (by simp)⟩
   cases hb:bkp t with
   |none=>rfl
   |some f=>
    obtain ⟨g,hg⟩:=qIy j hb
    rw[h1] at hg;cases hg
  ·rw[qSA h4]
   exact ih (by omega) G P' h1 h2 h3
theorem qHac {t:List Nod} (hs:qSN t) (hl:t.length<=20000):qMu t=some ((match bkp t with | none=>(none,false,()) | some F=>(some (t,info 0 F),decide (F.len=1),())),()):=by
 unfold qMu
 have h:=qHaf hs hl t.length (Nat.le_refl _) nil (List.replicate t.length ((0:Int),(0:Int),(0:Int))) (by simp[bkp]) (by simp) (by simp[info])
 rw[qDA,qDA,qBA (by omega),qBA (by omega),qBA (by simp only[qSE];omega),qZ0,w64 (by omega)]
 simp only[rts] at h
 rcases h with ⟨h1,v,h2⟩ | ⟨G,h1,h2⟩
 ·rw[h2,h1]
  simp only[qAA,qXD,qWD,qMA,qPA]
 ·rw[h2,h1]
  simp only[qAA,qJB,qMA,qKT]
  have e:((G.len:Int)==1)=decide (G.len=1):=by
   have e:((G.len:Int)==1)=decide ((G.len:Int)=1):=rfl
   rw[e,decide_eq_decide];omega
  rw[e]
end Go.AM.Num
end
section
namespace Go.AM.Num
theorem qUK {α:Type} (s:qBs) (x:α):∀ l,qFD s (qCZ s x l)=some x:=by
 intro l
 induction l with
 |nil=>simp[qCZ,qFD]
 |cons a l ih=>
  obtain ⟨k,y⟩:=a
  simp only[qCZ]
  by_cases h:k=s
  ·rw[show (k==s)=true by simpa using h];simp[qFD,h]
  ·have hk:(k==s)=false:=by simpa using h
   rw[hk];simp[qFD,hk,ih]
theorem qNO {α:Type} {s t:qBs} (h:t≠s) (x:α):∀ l,qFD t (qCZ s x l)=qFD t l:=by
 intro l
 have h2:(s==t)=false:=by simpa using fun e=>h e.symm
 induction l with
 |nil=>simp[qCZ,qFD,h2]
 |cons a l ih=>
  obtain ⟨k,y⟩:=a
  simp only[qCZ]
  by_cases hk:k=s
  ·subst hk;simp[qFD,h2]
  ·rw[show (k==s)=false by simpa using hk]
   simp only[qPA,qFD,ih]
namespace Tf
def subs:Tf->List (Nod×Tf)
 |nil=>[]
 |cons n k r=>(n,k)::(subs k++subs r)
theorem qIP (f:Tf):f.subs.length=f.size:=by
 induction f with
 |nil=>rfl
 |cons n k r ik ir=>simp only[subs,size,qY11,qZ6,ik,ir]
theorem qZaj (f:Tf):∀ (o p:Nat),p < f.size->∃ n k x rest rest2,f.subs[p]?=some (n,k)/\f.flat.drop p=n::(k.flat++rest)/\(info o f).drop p=x::(info (o+p+1) k++rest2):=by
 induction f with
 |nil=>intro o p h;simp[size] at h
 |cons n k r ik ir=>
  intro o p h
  cases p with
  |zero=>exact ⟨n,k,((if 0∈srt k then 0 else qWF n (op1 k) (srt k)),((dep k+1:Nat):Int),((o+1+size k:Nat):Int)),flat r,info (o+1+size k) r,rfl,rfl,rfl⟩
  |succ p=>
   simp only[size] at h
   by_cases hp:p < k.size
   ·obtain ⟨n',k',x,rest,rest2,h1,h2,h3⟩:=ik (o+1) p hp
    refine ⟨n',k',x,rest++r.flat,rest2++info (o+1+k.size) r,?_,?_,?_⟩
    ·simp only[subs,List.getElem?_cons_succ]
     rw[qY8 (by rw[qIP];exact hp)]
     exact h1
    ·simp only[flat,List.drop_succ_cons]
     rw[List.drop_append_of_le_length (by rw[qKC];omega),h2]
     simp
    ·simp only[info,List.drop_succ_cons]
     rw[List.drop_append_of_le_length (by rw[qOF];omega),h3]
     have e:o+1+p+1=o+(p+1)+1:=by omega
     simp[e]
   ·obtain ⟨n',k',x,rest,rest2,h1,h2,h3⟩:=ir (o+1+k.size) (p - k.size) (by omega)
    refine ⟨n',k',x,rest,rest2,?_,?_,?_⟩
    ·simp only[subs,List.getElem?_cons_succ]
     rw[qY9 (by rw[qIP];omega),qIP]
     exact h1
    ·simp only[flat,List.drop_succ_cons]
     rw[List.drop_append,qKC,qY7 (by rw[qKC];omega),h2]
     rfl
    ·simp only[info,List.drop_succ_cons]
     rw[List.drop_append,qOF,qY7 (by rw[qOF];omega),h3]
     have e:o+1+k.size+(p - k.size)+1=o+(p+1)+1:=by omega
     simp[e]
theorem qWaj {f:Tf} (hw:f.wf=true) (hs:(0:Int)∉f.srt):∀ {n:Nod} {k:Tf},(n,k)∈f.subs->okN n=true/\qID n=(k.len:Int)/\k.wf=true/\(0:Int)∉k.srt:=by
 induction f with
 |nil=>intro n k h;simp[subs] at h
 |cons m a b ia ib=>
  intro n k h
  obtain ⟨h1,h2,h3,h4⟩:=qBH.1 hw
  obtain ⟨s1,s2,s3⟩:=qQS.1 hs
  simp only[subs,qY12,qZ7,Prod.mk.injEq] at h
  rcases h with ⟨rfl,rfl⟩ | h | h
  ·exact ⟨h1,h2,h3,s1⟩
  ·exact ia h3 s1 h
  ·exact ib h4 s3 h
theorem qFc {f:Tf}:∀ {n:Nod} {k:Tf},(n,k)∈f.subs->k.size < f.size:=by
 induction f with
 |nil=>intro n k h;simp[subs] at h
 |cons m a b ia ib=>
  intro n k h
  simp only[subs,qY12,qZ7,Prod.mk.injEq] at h
  simp only[size]
  rcases h with ⟨rfl,rfl⟩ | h | h
  ·omega
  ·have:=ia h;omega
  ·have:=ib h;omega
end Tf
open Tf
theorem qNab (t:List Nod) (P:List (Int×Sml)) (hP:P.length<=20000):∀ (k:Tf) (p:Nat) (out:List Int) (idx:Nat) (K:Int),(∃ rest,P.drop p=info p k++rest)->((idx+k.len:Nat):Int)=K->out.length+k.len<=100000->idx+k.len<=100000->
 qLA qWI (some (t,P),out,(p:Int),K,(idx:Int),())=some (.exit 0,(some (t,P),out++rtf p k,((p+k.size:Nat):Int),K,K,())):=by
 intro k
 induction k with
 |nil=>
  intro p out idx K _ h1 _ _
  simp only[len,Nat.add_zero] at h1
  subst h1
  refine qQA ?_ (by simp)
  unfold qWI
  simp only
  rw[qIA (by omega)]
  simp[rtf,size]
 |cons n k r ik ir=>
  intro p out idx K ⟨rest,hr⟩ h1 h2 h3
  simp only[info,qY5] at hr
  obtain ⟨g1,g2⟩:=qSF (d:=((0:Int),(0:Int),(0:Int))) hr
  simp only[len] at h1 h2 h3
  have hr':P.drop (p+1+size k)=info (p+1+size k) r++rest:=by
   have:=congrArg (List.drop (1+size k)) hr
   rw[List.drop_drop] at this
   have e:p+(1+size k)=p+1+size k:=by omega
   rw[e] at this
   rw[this,Nat.add_comm 1,List.drop_succ_cons,qZ1,List.drop_append_of_le_length (by rw[qOF];omega)]
   have:(info (p+1) k).drop (size k)=[]:=qY7 (by rw[qOF];omega)
   rw[this,qY15]
  rw[qSA (y:=(some (t,P),out++[(p:Int)],((p+1+size k:Nat):Int),K,((idx+1:Nat):Int),())) (by
   unfold qWI
   simp only[Option.isSome_some,Option.getD_some]
   rw[qEA (by omega),qZ0,g1]
   rw[qBA (by simp[qSE];omega),qBO,qDA,qBA (by omega),qBA (by omega),w64 (x:=(idx:Int)+1) (by omega)]
   rfl)]
  rw[ir (p+1+size k) _ (idx+1) K ⟨rest,hr'⟩ (by omega) (by simp;omega) (by omega)]
  have e2:p+1+size k+size r=p+(cons n k r).size:=by simp only[size];omega
  rw[e2]
  simp only[rtf,qZ1,qY5,qY15]
theorem qEae {t:List Nod} {P:List (Int×Sml)} (hP:P.length<=20000) {p:Nat} {n:Nod} {k:Tf} {rest:List (Int×Sml)} (hp:p < t.length) (ht:t.getD p qPC=n) (hn:qID n=(k.len:Int)) (hd:P.drop (p+1)=info (p+1) k++rest) (hk:k.size<=20000) (hpl:p<=20000) :
 qGO (some (t,P)) (p:Int)=some ((rtf (p+1) k,()),()):=by
 have hkl:=qHH k
 unfold qGO
 simp only[Option.isSome_some,Option.getD_some]
 rw[qBO,qDA,qBA (by omega),qBA (by omega),qZ0,ht,w64 (by omega)]
 have hK:n.2.2.2.2=(k.len:Int):=hn
 have:=qNab t P hP k (p+1) [] 0 (k.len:Int) ⟨rest,hd⟩ (by simp) (by simp;omega) (by omega)
 rw[hK]
 have e:((p+1:Nat):Int)=(p:Int)+1:=by omega
 rw[e] at this
 rw[show ((0:Nat):Int)=0 from rfl] at this
 rw[this]
 simp only[qAA,qJB,qMA,qY15]
theorem qSah (t:List Nod) (P:List (Int×Sml)) (hP:P.length<=20000) (t4:qBs×qJA) (nm:qBs) (s:Int):∀ (k:Tf) (p:Nat) (args pre:List Int),(∃ rest,P.drop p=info p k++rest)->args.length+k.len<=100000->pre.length+k.len<=100000->
 qLA t_view_signature_s3 (some (t,P),t4,(nm,args,s),pre++rtf p k,((pre++rtf p k).length:Int),(pre.length:Int),())=some (.exit 0,(some (t,P),t4,(nm,args++k.srt,s),pre++rtf p k,((pre++rtf p k).length:Int),((pre++rtf p k).length:Int),())):=by
 intro k
 induction k with
 |nil=>
  intro p args pre _ _ _
  refine qQA ?_ (by simp)
  unfold t_view_signature_s3
  simp only[rtf,qY4]
  rw[qIA (by omega)]
  simp[srt]
 |cons n k r ik ir=>
  intro p args pre ⟨rest,hr⟩ h2 h3
  simp only[info,qY5] at hr
  obtain ⟨g1,g2⟩:=qSF (d:=((0:Int),(0:Int),(0:Int))) hr
  simp only[len] at h2 h3
  have hr':P.drop (p+1+size k)=info (p+1+size k) r++rest:=by
   have:=congrArg (List.drop (1+size k)) hr
   rw[List.drop_drop] at this
   have e:p+(1+size k)=p+1+size k:=by omega
   rw[e] at this
   rw[this,Nat.add_comm 1,List.drop_succ_cons,qZ1,List.drop_append_of_le_length (by rw[qOF];omega)]
   have:(info (p+1) k).drop (size k)=[]:=qY7 (by rw[qOF];omega)
   rw[this,qY15]
  have ih:=ir (p+1+size k) (args++[if 0∈srt k then 0 else qWF n (op1 k) (srt k)]) (pre++[(p:Int)]) ⟨rest,hr'⟩ (by simp;omega) (by simp;omega)
  simp only[qZ1,qY5,qY15] at ih
  simp only[rtf,srt]
  rw[qSA (y:=(some (t,P),t4,(nm,args++[if 0∈srt k then 0 else qWF n (op1 k) (srt k)],s),pre++(p:Int)::rtf (p+1+size k) r,((pre++(p:Int)::rtf (p+1+size k) r).length:Int),((pre.length+1:Nat):Int),())) (by
   unfold t_view_signature_s3
   have e:(pre++(p:Int)::rtf (p+1+size k) r).getD pre.length 0=(p:Int):=by simp[qZ4]
   simp only[Option.isSome_some,Option.getD_some]
   rw[qEA (by simp;omega),qDA,qBA (by omega),qBA (by simp;omega),qBO,qZ0,e,qDA,qBA (by omega),qBA (by omega),qZ0,g1,qBA (by simp[qSE];omega),w64 (x:=(pre.length:Int)+1) (by omega)]
   rfl)]
  have e2:(pre++[(p:Int)]).length=pre.length+1:=by simp
  rw[e2] at ih
  rw[ih]
theorem qLap {t:List Nod} {P:List (Int×Sml)} (hP:P.length<=20000) {p:Nat} {n:Nod} {k:Tf} {rest:List (Int×Sml)} (hp:p < t.length) (ht:t.getD p qPC=n) (hn:qID n=(k.len:Int)) (hd:P.drop (p+1)=info (p+1) k++rest) (hk:k.size<=20000) (hpl:p<=20000) :
 qHJ (some (t,P)) (p:Int)=some (((qAL n,k.srt,qTF n),()),()):=by
 have hkl:=qHH k
 unfold qHJ
 simp only[Option.isSome_some,Option.getD_some]
 rw[qBO,qDA,qBA (by omega),qBA (by omega),qBO,qDA,qBA (by omega),qBA (by omega),qZ0,ht,qEae hP hp ht hn hd hk hpl,qAA]
 have:=qSah t P hP (([]:qBs),([]:List Int),(0:Int)) n.2.2.1 n.2.1 k (p+1) [] [] ⟨rest,hd⟩ (by simp;omega) (by simp;omega)
 simp only[qY15,List.length_nil] at this
 rw[show ((0:Nat):Int)=0 from rfl] at this
 rw[this]
 simp only[qAA,qJB,qMA]
abbrev Us:=qBs×Bool×List Int×Int
def qIR (x:Nod×Tf):Option Us:=if nOp x.1=4 then some (qAL x.1,false,[],qTF x.1) else if nOp x.1=5 then some (qAL x.1,true,x.2.srt,qTF x.1) else none
def qTo (f:Tf):List Us:=f.subs.filterMap qIR
def Cns (us:List Us):Prop:=∀ a∈us,∀ b∈us,a.1=b.1->a=b
theorem Cns.mono {us vs:List Us} (h:Cns vs) (hs:∀ a∈us,a∈vs):Cns us:=fun a ha b hb e=>h a (hs a ha) b (hs b hb) e
structure NI (us:List Us) (vars:List (qBs×Vr)) (funcs:List (qBs×qBs×qJA)):Prop where
 cns:Cns us
 w:∀ a∈us,(a.2.1=false/\a.2.2.1=[])\/a.2.1=true
 v:∀ nm x,qFD nm vars=some x->x.1=nm/\(nm,false,[],x.2)∈us
 v':∀ nm s,(nm,false,[],s)∈us->(qFD nm vars).isSome=true
 f:∀ nm x,qFD nm funcs=some x->x.1=nm/\(nm,true,x.2.1,x.2.2)∈us
 f':∀ nm a s,(nm,true,a,s)∈us->(qFD nm funcs).isSome=true
theorem NI.nil:NI [] [] []:=⟨fun a h=>absurd h qY16,fun a h=>absurd h qY16,fun nm x h=>(by simp[qFD] at h),fun nm s h=>absurd h qY16,fun nm x h=>(by simp[qFD] at h),fun nm a s h=>absurd h qY16⟩
theorem NI.fresh {us:List Us} {vars:List (qBs×Vr)} {funcs:List (qBs×qBs×qJA)} (h:NI us vars funcs) {nm:qBs} (h1:qFD nm vars=none) (h2:qFD nm funcs=none):∀ a∈us,a.1≠nm:=by
 rintro ⟨m,b,l,s⟩ ha e
 simp only at e
 subst e
 rcases h.w _ ha with ⟨e1,e2⟩ | e1
 ·simp only at e1 e2;subst e1;subst e2
  have:=h.v' _ _ ha
  rw[h1] at this;cases this
 ·simp only at e1;subst e1
  have:=h.f' _ _ _ ha
  rw[h2] at this;cases this
theorem qQk {us:List Us} {u:Us} (h:Cns us) (hu:∀ a∈us,a.1=u.1->a=u):Cns (us++[u]):=by
 intro a ha b hb e
 rcases List.mem_append.1 ha with ha1 | ha1
 ·rcases List.mem_append.1 hb with hb1 | hb1
  ·exact h a ha1 b hb1 e
  ·rw[qZ8] at hb1
   rw[hb1] at e ⊢
   exact hu a ha1 e
 ·rw[qZ8] at ha1
  rw[ha1] at e ⊢
  rcases List.mem_append.1 hb with hb1 | hb1
  ·exact (hu b hb1 e.symm).symm
  ·rw[qZ8] at hb1;exact hb1.symm
theorem NI.addV {us:List Us} {vars:List (qBs×Vr)} {funcs:List (qBs×qBs×qJA)} (h:NI us vars funcs) {nm:qBs} {s:Int} (h1:qFD nm vars=none) (h2:qFD nm funcs=none):NI (us++[(nm,false,[],s)]) (qCZ nm (nm,s) vars) funcs:=by
 have hf:=h.fresh h1 h2
 refine ⟨qQk h.cns fun a ha e=>absurd e (hf a ha),fun a ha=>?_,fun m x hx=>?_,fun m x hx=>?_,fun m x hx=>?_,fun m a x hx=>?_⟩
 ·rcases List.mem_append.1 ha with ha | ha
  ·exact h.w a ha
  ·rw[qZ8] at ha;subst ha;exact .inl ⟨rfl,rfl⟩
 ·by_cases e:m=nm
  ·subst e;rw[qUK] at hx;cases hx;exact ⟨rfl,by simp⟩
  ·rw[qNO e] at hx
   obtain ⟨a1,a2⟩:=h.v m x hx
   exact ⟨a1,List.mem_append_left _ a2⟩
 ·by_cases e:m=nm
  ·subst e;rw[qUK];rfl
  ·rw[qNO e]
   rcases List.mem_append.1 hx with hx | hx
   ·exact h.v' m x hx
   ·rw[qZ8] at hx;cases hx;exact absurd rfl e
 ·obtain ⟨a1,a2⟩:=h.f m x hx
  exact ⟨a1,List.mem_append_left _ a2⟩
 ·rcases List.mem_append.1 hx with hx | hx
  ·exact h.f' m a x hx
  ·rw[qZ8] at hx;cases hx
theorem NI.addF {us:List Us} {vars:List (qBs×Vr)} {funcs:List (qBs×qBs×qJA)} (h:NI us vars funcs) {nm:qBs} {l:List Int} {s:Int} (h1:qFD nm vars=none) (h2:qFD nm funcs=none):NI (us++[(nm,true,l,s)]) vars (qCZ nm (nm,l,s) funcs):=by
 have hf:=h.fresh h1 h2
 refine ⟨qQk h.cns fun a ha e=>absurd e (hf a ha),fun a ha=>?_,fun m x hx=>?_,fun m x hx=>?_,fun m x hx=>?_,fun m a x hx=>?_⟩
 ·rcases List.mem_append.1 ha with ha | ha
  ·exact h.w a ha
  ·rw[qZ8] at ha;subst ha;exact .inr rfl
 ·obtain ⟨a1,a2⟩:=h.v m x hx
  exact ⟨a1,List.mem_append_left _ a2⟩
 ·rcases List.mem_append.1 hx with hx | hx
  ·exact h.v' m x hx
  ·rw[qZ8] at hx;cases hx
 ·by_cases e:m=nm
  ·subst e;rw[qUK] at hx;cases hx;exact ⟨rfl,by simp⟩
  ·rw[qNO e] at hx
   obtain ⟨a1,a2⟩:=h.f m x hx
   exact ⟨a1,List.mem_append_left _ a2⟩
 ·by_cases e:m=nm
  ·subst e;rw[qUK];rfl
  ·rw[qNO e]
   rcases List.mem_append.1 hx with hx | hx
   ·exact h.f' m a x hx
   ·rw[qZ8] at hx;cases hx;exact absurd rfl e
theorem NI.again {us:List Us} {vars:List (qBs×Vr)} {funcs:List (qBs×qBs×qJA)} (h:NI us vars funcs) {u:Us} (hu:u∈us):NI (us++[u]) vars funcs:=by
 have hm:∀ a,a∈us++[u] ↔ a∈us:=fun a=>by
  rw[qZ7,qZ8]
  exact ⟨fun h=>h.elim id fun e=>e ▸ hu,.inl⟩
 exact ⟨qQk h.cns fun a ha e=>h.cns a ha u hu e,fun a ha=>h.w a ((hm a).1 ha),fun m x hx=>⟨(h.v m x hx).1,(hm _).2 (h.v m x hx).2⟩,fun m s hx=>h.v' m s ((hm _).1 hx),fun m x hx=>⟨(h.f m x hx).1,(hm _).2 (h.f m x hx).2⟩,fun m a s hx=>h.f' m a s ((hm _).1 hx)⟩
end Go.AM.Num
end
section
namespace Go.AM.Num
open Tf
theorem qAad {a b:List Int} (ha:a.length<=2000000000):qNF a b=some ((decide (a=b),()),()):=by
 unfold qNF
 by_cases hl:a.length=b.length
 ·rw[qPD (by omega)]
  have:=qHI (step:=qDD) (fun k=>(a,b,false,(a.length:Int),(k:Int),())) (fun k=>(a,b,false,(a.length:Int),(k:Int),())) a.length (E:=.exit 0) (B:=.ret) (by simp) (by simp) (fun k=>decide (a.getD k 0=b.getD k 0)) (fun k hk=>by
   unfold qDD
   simp only
   rw[qEA (by omega),qDA,qBA (by omega),qBA (by omega),qDA,qBA (by omega),qBA (by omega),qZ0,w64 (by omega)]
   by_cases h:a.getD k 0=b.getD k 0
   ·rw[qPD h,if_pos (qZ10 h)];rfl
   ·rw[qAE h,if_neg (fun e=>h (of_decide_eq_true e))]) (by
   unfold qDD
   simp only
   rw[qIA (by omega)])
  rw[show ((0:Nat):Int)=0 from rfl] at this
  have heq:(List.range a.length).all (fun k=>decide (a.getD k 0=b.getD k 0))=decide (a=b):=by
   rw[Bool.eq_iff_iff,qY3,decide_eq_true_eq]
   constructor
   ·intro h
    refine List.ext_getElem hl fun k h1 h2=>?_
    have:=h k (List.mem_range.2 h1)
    simpa [qZ4,h1,h2] using this
   ·rintro rfl k _;simp
  rcases this with ⟨h1,h2⟩ | ⟨h1,k,h2⟩
  ·rw[h2,<-heq,h1];simp only[qAA,qJB,qMA]
  ·rw[h2,<-heq,h1];simp only[qAA,qXD,qWD,qMA,qPA]
 ·rw[qAE (by omega),qZ9 (fun e=>hl (by rw[e]))]
theorem qDm {f g:qBs×qJA} (h:f.2.1.length<=2000000000):qQl f g=some ((decide (f=g),()),()):=by
 obtain ⟨a,l,s⟩:=f
 obtain ⟨b,m,u⟩:=g
 simp only at h
 unfold qQl
 simp only[qAad h,qAA]
 by_cases h1:a=b
 ·rw[show (a==b)=true by simpa using h1,qMA]
  by_cases h2:s=u
  ·rw[qKA h2];simp[h1,h2]
  ·rw[qCA h2,qZ9 (fun e=>h2 (by cases e;rfl))]
 ·rw[show (a==b)=false by simpa using h1,qPA,qZ9 (fun e=>h1 (by cases e;rfl))]
section
variable {F:Tf} {t:List Nod} {P:List (Int×Sml)}
abbrev qOS (F:Tf) (p:Nat):List Us:=(F.subs.take p).filterMap qIR
theorem qNX {p:Nat}:∀ a∈qOS F p,a∈qTo F:=by
 intro a ha
 simp only[qOS,qTo,List.mem_filterMap] at ha ⊢
 obtain ⟨x,h1,h2⟩:=ha
 exact ⟨x,List.mem_of_mem_take h1,h2⟩
theorem qDi {p:Nat} {n:Nod} {k:Tf} (h:F.subs[p]?=some (n,k)):qOS F (p+1)=qOS F p++(qIR (n,k)).toList:=by
 simp only[qOS,List.take_add_one,h,Option.toList_some,List.filterMap_append]
 cases hu:qIR (n,k)<;>simp[hu]
def vAdd (l:List Vr) (x:Nod×Tf):List Vr:=if nOp x.1=4/\∀ y∈l,y.1≠qAL x.1 then l++[(qAL x.1,qTF x.1)] else l
def fAdd (m:List (qBs×qJA)) (x:Nod×Tf):List (qBs×qJA):=if nOp x.1=5/\∀ y∈m,y.1≠qAL x.1 then m++[(qAL x.1,x.2.srt,qTF x.1)] else m
def qBt (F:Tf) (p:Nat):List Vr:=(F.subs.take p).foldl vAdd []
def qBv (F:Tf) (p:Nat):List (qBs×qJA):=(F.subs.take p).foldl fAdd []
def qWs (F:Tf):List Vr:=F.subs.foldl vAdd []
def qGu (F:Tf):List (qBs×qJA):=F.subs.foldl fAdd []
def KL {α β:Type} (l:List (qBs×β)) (vars:List (qBs×α)):Prop:=∀ nm,qFD nm vars=none ↔ ∀ y∈l,y.1≠nm
theorem KL.nil {α β:Type}:KL ([]:List (qBs×β)) ([]:List (qBs×α)):=fun nm=>⟨fun _ y hy=>absurd hy qY16,fun _=>rfl⟩
theorem KL.add {α β:Type} {l:List (qBs×β)} {vars:List (qBs×α)} (h:KL l vars) (nm:qBs) (y:α) (z:β):KL (l++[(nm,z)]) (qCZ nm y vars):=fun x=>by
 by_cases e:x=nm
 ·subst e
  rw[qUK]
  constructor
  ·intro h;cases h
  ·intro h';exact absurd rfl (h' (x,z) (by simp))
 ·rw[qNO e,h x]
  constructor
  ·intro h' w hw
   rcases List.mem_append.1 hw with hw | hw
   ·exact h' w hw
   ·rw[List.mem_singleton.1 hw];exact fun e'=>e e'.symm
  ·exact fun h' w hw=>h' w (List.mem_append_left _ hw)
theorem KL.some {α β:Type} {l:List (qBs×β)} {vars:List (qBs×α)} (h:KL l vars) {nm:qBs} {x:α} (hx:qFD nm vars=some x):¬ ∀ y∈l,y.1≠nm:=fun h'=>by rw[(h nm).2 h'] at hx;cases hx
theorem qOv (hF:F.flat=t) (hw:F.wf=true) (hs:(0:Int)∉F.srt) (hz:F.size<=20000) (hP:P=info 0 F) {p:Nat} (hp:p < F.size) {vars:List (qBs×Vr)} {funcs:List (qBs×qBs×qJA)} {l0:List Vr} {m0:List (qBs×qJA)}
 (hI:NI (qOS F p) vars funcs) (hl:l0.length<=p) (hm:m0.length<=p) :
 (¬ Cns (qOS F (p+1))/\∃ x,qTD (some (t,P),([]:List Vr),([]:List (qBs×qJA)),false,vars,funcs,l0,m0,t,(t.length:Int),(p:Int),())=some (.ret,(some (t,P),([]:List Vr),([]:List (qBs×qJA)),false,x)))\/
 ∃ vars' funcs' l' m',NI (qOS F (p+1)) vars' funcs'/\l'.length<=p+1/\m'.length<=p+1/\qTD (some (t,P),([]:List Vr),([]:List (qBs×qJA)),false,vars,funcs,l0,m0,t,(t.length:Int),(p:Int),())=some (.normal,(some (t,P),([]:List Vr),([]:List (qBs×qJA)),false,vars',funcs',l',m',t,(t.length:Int),((p+1:Nat):Int),()))/\
  ∀ x,F.subs[p]?=some x->KL l0 vars->KL m0 funcs->l'=vAdd l0 x/\m'=fAdd m0 x/\KL l' vars'/\KL m' funcs':=by
 obtain ⟨n,k,x,rest,rest2,h1,h2,h3⟩:=qZaj F 0 p hp
 obtain ⟨g1,g2⟩:=qSF (d:=qPC) h2
 have hmem:(n,k)∈F.subs:=qY14 h1
 obtain ⟨w1,w2,w3,w4⟩:=qWaj hw hs hmem
 have hks:=qFc hmem
 have htl:t.length=F.size:=by rw[<-hF,qKC]
 have hPl:P.length=F.size:=by rw[hP,qOF]
 rw[hF] at g1
 have hd:P.drop (p+1)=info (p+1) k++rest2:=by
  have:=congrArg (List.drop 1) h3
  rw[List.drop_drop] at this
  rw[hP]
  simpa using this
 have hwp:qI ((p:Int)+1)=((p+1:Nat):Int):=by rw[w64 (by omega)];rfl
 have hT:=qDi h1
 unfold qTD
 simp only
 rw[qEA (by omega),qDA,qBA (by omega),qBA (by omega),qZ0,g1,hwp]
 by_cases e4:n.1=4
 ·have hu:qIR (n,k)=some (n.2.2.1,false,[],n.2.1):=by unfold qIR;rw[if_pos e4]
  rw[hu] at hT
  rw[qKA e4]
  cases hv:qFD n.2.2.1 vars with
  |none=>
   simp only[Option.isSome_none,qY1,qMA]
   rw[qBA (by simp[qSE];omega)]
   cases hf:qFD n.2.2.1 funcs with
   |none=>
    simp only[Option.isSome_none,qPA]
    rw[qPD rfl]
    exact .inr ⟨_,_,_,_,by rw[hT];exact hI.addV hv hf,by simp;omega,by omega,rfl,fun x hx kv kf=>by
     obtain rfl:(n,k)=x:=by rw[h1] at hx;exact Option.some.inj hx
     exact ⟨by unfold vAdd;rw[if_pos ⟨e4,(kv _).1 hv⟩],by unfold fAdd;rw[if_neg (fun h=>by have h:=h.1;simp only[nOp] at h;omega)],kv.add _ _ _,kf⟩⟩
   |some g=>
    simp only[Option.isSome_some,qMA]
    refine .inl ⟨fun hc=>?_,_,rfl⟩
    obtain ⟨a1,a2⟩:=hI.f _ _ hf
    rw[hT] at hc
    have:=hc _ (List.mem_append_left _ a2) (n.2.2.1,false,[],n.2.1) (by simp) rfl
    simp at this
  |some y=>
   simp only[Option.isSome_some,qY2,qPA,Option.getD_some]
   obtain ⟨b1,b2⟩:=hI.v _ _ hv
   cases hf:qFD n.2.2.1 funcs with
   |none=>
    simp only[Option.isSome_none,qPA]
    by_cases q:y.2=n.2.1
    ·rw[qPD q]
     rw[q] at b2
     exact .inr ⟨_,_,_,_,by rw[hT];exact hI.again b2,by omega,by omega,rfl,fun x hx kv kf=>by
      obtain rfl:(n,k)=x:=by rw[h1] at hx;exact Option.some.inj hx
      exact ⟨by unfold vAdd;rw[if_neg fun h=>kv.some hv h.2],by unfold fAdd;rw[if_neg (fun h=>by have h:=h.1;simp only[nOp] at h;omega)],kv,kf⟩⟩
    ·rw[qAE q]
     refine .inl ⟨fun hc=>?_,_,rfl⟩
     rw[hT] at hc
     have:=hc _ (List.mem_append_left _ b2) (n.2.2.1,false,[],n.2.1) (by simp) rfl
     simp at this
     exact q this
   |some g=>
    simp only[Option.isSome_some,qMA]
    refine .inl ⟨fun hc=>?_,_,rfl⟩
    obtain ⟨a1,a2⟩:=hI.f _ _ hf
    rw[hT] at hc
    have:=hc _ (List.mem_append_left _ a2) (n.2.2.1,false,[],n.2.1) (by simp) rfl
    simp at this
 ·rw[qCA e4]
  by_cases e5:n.1=5
  ·have hu:qIR (n,k)=some (n.2.2.1,true,k.srt,n.2.1):=by unfold qIR;rw[if_neg e4,if_pos e5]
   rw[hu] at hT
   rw[qKA e5,qLap (by omega) (by omega) g1 w2 hd (by omega) (by omega),qAA]
   have hkl:k.srt.length<=2000000000:=by rw[qQM];have:=qHH k;omega
   simp only
   cases hf:qFD n.2.2.1 funcs with
   |none=>
    simp only[Option.isSome_none,qY1,qMA]
    rw[qBA (by simp[qSE];omega)]
    cases hv:qFD n.2.2.1 vars with
    |none=>
     simp only[Option.isSome_none,qPA]
     rw[qDm hkl,qAA,qZ10 rfl]
     simp only[qY2,qPA]
     exact .inr ⟨_,_,_,_,by rw[hT];exact hI.addF hv hf,by omega,by simp;omega,rfl,fun x hx kv kf=>by
      obtain rfl:(n,k)=x:=by rw[h1] at hx;exact Option.some.inj hx
      exact ⟨by unfold vAdd;rw[if_neg fun h=>e4 h.1],by unfold fAdd;rw[if_pos ⟨e5,(kf _).1 hf⟩],kv,kf.add _ _ _⟩⟩
    |some y=>
     simp only[Option.isSome_some,qMA]
     refine .inl ⟨fun hc=>?_,_,rfl⟩
     obtain ⟨a1,a2⟩:=hI.v _ _ hv
     rw[hT] at hc
     have:=hc _ (List.mem_append_left _ a2) (n.2.2.1,true,k.srt,n.2.1) (by simp) rfl
     simp at this
   |some g=>
    simp only[Option.isSome_some,qY2,qPA,Option.getD_some]
    obtain ⟨b1,b2⟩:=hI.f _ _ hf
    cases hv:qFD n.2.2.1 vars with
    |none=>
     simp only[Option.isSome_none,qPA]
     obtain ⟨gn,gl,gs⟩:=g
     simp only at b1 b2
     have hgl:gl.length<=2000000000:=by
      obtain ⟨⟨n',k'⟩,m1,m2⟩:=List.mem_filterMap.1 (qNX _ b2)
      unfold qIR at m2
      split at m2
      ·simp at m2
      ·split at m2
       ·simp only[Option.some.injEq,Prod.mk.injEq] at m2
        rw[<-m2.2.2.1,qQM]
        have:=qFc m1;have:=qHH k';omega
       ·cases m2
     rw[qDm hgl,qAA]
     by_cases q:(gn,gl,gs)=(qAL n,k.srt,qTF n)
     ·rw[qZ10 q]
      simp only[qY2,qPA]
      simp only[Prod.mk.injEq] at q
      rw[q.2.1,q.2.2] at b2
      exact .inr ⟨_,_,_,_,by rw[hT];exact hI.again b2,by omega,by omega,rfl,fun x hx kv kf=>by
       obtain rfl:(n,k)=x:=by rw[h1] at hx;exact Option.some.inj hx
       exact ⟨by unfold vAdd;rw[if_neg fun h=>e4 h.1],by unfold fAdd;rw[if_neg fun h=>kf.some hf h.2],kv,kf⟩⟩
     ·rw[qZ9 q]
      simp only[qY1,qMA]
      refine .inl ⟨fun hc=>?_,_,rfl⟩
      rw[hT] at hc
      have:=hc _ (List.mem_append_left _ b2) (n.2.2.1,true,k.srt,n.2.1) (by simp) rfl
      simp only[Prod.mk.injEq,true_and] at this
      exact q (by rw[b1,this.1,this.2])
    |some y=>
     simp only[Option.isSome_some,qMA]
     refine .inl ⟨fun hc=>?_,_,rfl⟩
     obtain ⟨a1,a2⟩:=hI.v _ _ hv
     rw[hT] at hc
     have:=hc _ (List.mem_append_left _ a2) (n.2.2.1,true,k.srt,n.2.1) (by simp) rfl
     simp at this
  ·have hu:qIR (n,k)=none:=by unfold qIR;rw[if_neg e4,if_neg e5]
   rw[hu] at hT
   rw[qCA e5]
   exact .inr ⟨_,_,_,_,by rw[hT];simpa using hI,by omega,by omega,rfl,fun x hx kv kf=>by
    obtain rfl:(n,k)=x:=by rw[h1] at hx;exact Option.some.inj hx
    exact ⟨by unfold vAdd;rw[if_neg fun h=>e4 h.1],by unfold fAdd;rw[if_neg fun h=>e5 h.1],kv,kf⟩⟩
theorem qNy (hF:F.flat=t) (hw:F.wf=true) (hs:(0:Int)∉F.srt) (hz:F.size<=20000) (hP:P=info 0 F):∀ (m p:Nat) (vars:List (qBs×Vr)) (funcs:List (qBs×qBs×qJA)) (l0:List Vr) (m0:List (qBs×qJA)),p+m=F.size->
 NI (qOS F p) vars funcs->l0.length<=p->m0.length<=p->l0=qBt F p->m0=qBv F p->KL l0 vars->KL m0 funcs->
 (¬ Cns (qTo F)/\∃ x,qLA qTD (some (t,P),([]:List Vr),([]:List (qBs×qJA)),false,vars,funcs,l0,m0,t,(t.length:Int),(p:Int),())=some (.ret,(some (t,P),([]:List Vr),([]:List (qBs×qJA)),false,x)))\/
 (Cns (qTo F)/\∃ v f x,qLA qTD (some (t,P),([]:List Vr),([]:List (qBs×qJA)),false,vars,funcs,l0,m0,t,(t.length:Int),(p:Int),())=some (.exit 0,(some (t,P),([]:List Vr),([]:List (qBs×qJA)),false,v,f,qWs F,qGu F,x))):=by
 have htl:t.length=F.size:=by rw[<-hF,qKC]
 intro m
 induction m with
 |zero=>
  intro p vars funcs l0 m0 hp hI _ _ hv hf _ _
  have e1:qBt F p=qWs F:=by unfold qBt qWs;rw[List.take_of_length_le (by rw[qIP];omega)]
  have e2:qBv F p=qGu F:=by unfold qBv qGu;rw[List.take_of_length_le (by rw[qIP];omega)]
  rw[<-e1,<-e2,<-hv,<-hf]
  refine .inr ⟨?_,_,_,_,qQA (by unfold qTD;simp only;rw[qIA (by omega)]) (by simp)⟩
  have e:qOS F p=qTo F:=by unfold qOS qTo;rw[List.take_of_length_le (by rw[qIP];omega)]
  rw[<-e];exact hI.cns
 |succ m ih=>
  intro p vars funcs l0 m0 hp hI hl hm hv hf kv kf
  rcases qOv hF hw hs hz hP (p:=p) (by omega) hI hl hm with ⟨h1,x,h2⟩ | ⟨vars',funcs',l',m',h1,h2,h3,h4,h5⟩
  ·exact .inl ⟨fun hc=>h1 (hc.mono qNX),x,qQA h2 (by simp)⟩
  ·rw[qSA h4]
   have hx:F.subs[p]?=some (F.subs[p]'(by rw[qIP];omega)):=qZ5 _
   obtain ⟨k1,k2,k3,k4⟩:=h5 _ hx kv kf
   refine ih (p+1) vars' funcs' l' m' (by omega) h1 h2 h3 ?_ ?_ k3 k4
   ·rw[k1,hv];unfold qBt;rw[List.take_add_one,hx,Option.toList_some,List.foldl_append];rfl
   ·rw[k2,hf];unfold qBv;rw[List.take_add_one,hx,Option.toList_some,List.foldl_append];rfl
theorem qQy (hF:F.flat=t) (hw:F.wf=true) (hs:(0:Int)∉F.srt) (hz:F.size<=20000):(Cns (qTo F)/\qCM (some (t,info 0 F))=some ((qWs F,qGu F,true,()),()))\/(¬ Cns (qTo F)/\qCM (some (t,info 0 F))=some (([],[],false,()),())):=by
 unfold qCM
 simp only[Option.isSome_some,Option.getD_some]
 rw[qBO]
 rcases qNy hF hw hs hz rfl F.size 0 [] [] [] [] (by omega) NI.nil (by simp) (by simp) rfl rfl KL.nil KL.nil with ⟨h1,x,h2⟩ | ⟨h1,v,f,x,h2⟩
 ·rw[show ((0:Nat):Int)=0 from rfl] at h2
  rw[h2]
  simp only[qAA,qXD,qWD,qMA,qPA]
  exact .inr ⟨h1,by first | rfl | trivial⟩
 ·rw[show ((0:Nat):Int)=0 from rfl] at h2
  rw[h2]
  simp only[qAA,qJB,qMA]
  exact .inl ⟨h1,by first | rfl | trivial⟩
end
structure VT (t:List Nod) (F:Tf):Prop where
 flat:F.flat=t
 wf:F.wf=true
 srt:(0:Int)∉F.srt
 len:F.len=1
 size:F.size<=20000
 dep:F.dep<=257
 cns:Cns (qTo F)
theorem VT.one {t:List Nod} {F:Tf} (h:VT t F):∃ n k,F=cons n k nil:=by
 have:=h.len
 cases F with
 |nil=>simp[Tf.len] at this
 |cons n k r=>
  cases r with
  |nil=>exact ⟨n,k,rfl⟩
  |cons a b c=>simp only[Tf.len] at this;omega
theorem VT.bkp {t:List Nod} {F:Tf} (h:VT t F):bkp t=some F:=qRan.2 ⟨h.flat,h.wf,h.srt⟩
theorem VT.uniq {t:List Nod} {F G:Tf} (h:VT t F) (g:VT t G):F=G:=by
 have:=h.bkp;rw[g.bkp] at this;exact (Option.some.inj this).symm
theorem qEi {t:List Nod} (hs:qSN t):(∃ F,VT t F/\qMZ t=some ((some (t,info 0 F),true,()),()))\/((¬ ∃ F,VT t F)/\qMZ t=some ((none,false,()),())):=by
 unfold qMZ
 by_cases h0:t.length=0
 ·rw[qKA (by omega)]
  refine .inr ⟨fun ⟨F,hF⟩=>?_,rfl⟩
  obtain ⟨n,k,e⟩:=hF.one
  have:=hF.flat
  rw[e] at this
  rw[<-this] at h0
  simp[Tf.flat] at h0
 rw[qCA (by omega)]
 by_cases h1:t.length > 20000
 ·rw[qEA (by omega)]
  refine .inr ⟨fun ⟨F,hF⟩=>?_,rfl⟩
  have:=hF.size
  have h2:=qKC F
  rw[hF.flat] at h2
  omega
 rw[qIA (by omega),qHac hs (by omega),qAA]
 cases hb:bkp t with
 |none=>exact .inr ⟨fun ⟨F,hF⟩=>(by rw[hF.bkp] at hb;cases hb),rfl⟩
 |some F=>
  obtain ⟨f1,f2,f3⟩:=qSe hb
  have hz:F.size<=20000:=by rw[<-qKC,f1];omega
  simp only
  by_cases hl:F.len=1
  ·rw[qZ10 hl]
   simp only[qY2,qPA]
   obtain ⟨n,k,e⟩:∃ n k,F=cons n k nil:=by
    cases F with
    |nil=>simp[Tf.len] at hl
    |cons n k r=>
     cases r with
     |nil=>exact ⟨n,k,rfl⟩
     |cons a b c=>simp only[Tf.len] at hl;omega
   have hlarge:qQP (some (t,info 0 F))=some ((decide (F.dep > 257),()),()):=by
    unfold qQP
    simp only[Option.isSome_some,Option.getD_some]
    rw[qBO,qIA (by omega),qBO,e]
    have hd:(cons n k nil).dep=k.dep+1:=by simp only[Tf.dep];omega
    have hg:((info 0 (cons n k nil)).getD (0:Int).toNat ((0:Int),(0:Int),(0:Int))).2.1=((k.dep+1:Nat):Int):=rfl
    rw[qDA,qBA (by omega),qBA (by rw[qOF];simp only[Tf.size];omega),hd]
    have e2:decide (((info 0 (cons n k nil)).getD (0:Int).toNat ((0:Int),(0:Int),(0:Int))).2.1 > 257)=decide (k.dep+1 > 257):=by rw[decide_eq_decide,hg];omega
    rw[e2]
   rw[hlarge,qAA]
   by_cases hd:F.dep > 257
   ·rw[qZ10 hd]
    refine .inr ⟨fun ⟨G,hG⟩=>?_,rfl⟩
    have:=hG.bkp
    rw[hb] at this
    cases this
    exact absurd hG.dep (by omega)
   rw[qZ9 hd]
   simp only[qPA]
   rcases qQy f1 f2 f3 hz with ⟨c1,c2⟩ | ⟨c1,c2⟩
   ·rw[c2,qAA]
    exact .inl ⟨F,⟨f1,f2,f3,hl,hz,by omega,c1⟩,rfl⟩
   ·rw[c2,qAA]
    refine .inr ⟨fun ⟨G,hG⟩=>?_,rfl⟩
    have:=hG.bkp
    rw[hb] at this
    cases this
    exact c1 hG.cns
  ·rw[qZ9 hl]
   refine .inr ⟨fun ⟨G,hG⟩=>?_,rfl⟩
   have:=hG.bkp
   rw[hb] at this
   cases this
   exact hl hG.len
theorem qEy {t:List Nod} (hs:qSN t):∃ b,qVc t=some ((b,()),())/\(b=true ↔ ∃ F,VT t F):=by
 unfold qVc
 rcases qEi hs with ⟨F,h1,h2⟩ | ⟨h1,h2⟩
 ·rw[h2,qAA];exact ⟨_,rfl,fun _=>⟨F,h1⟩,fun _=>rfl⟩
 ·rw[h2,qAA];exact ⟨_,rfl,fun h=>(by cases h),fun h=>absurd h h1⟩
end Go.AM.Num
end
