/- Law TermCompare: a part of its proof. No conditions. -/
import Derived.Test.YtppjkoefhkcjfaaGreatDoorTermCompare1
import Derived.MapKept
import Derived.OrdersIn
set_option linter.unusedSimpArgs false
set_option linter.unusedVariables false
section
namespace Go.AM
open Go.RowKit (Below)
section
variable {V:Env} {Γ:Base} {st:St} {o:Oper} {ρ:Type} {z:ρ}
theorem ACj {rd:Nat->Nat->Option Value} {I:Nat->Prop} {e:GT} (B o':Nat):∀ (l:List e.ty),(∀ (i:Nat) x,l[i]?=some x->∃ us:List Value,us.length=e.cells/\(∀ j,j < e.cells->rd B (o'+i * e.cells+j)=us[j]?)/\RelC rd I e x us)->
 ∃ news:List Value,news.length=l.length * e.cells/\(∀ u∈news,u.oneCell'=true)/\(∀ m,m < news.length->rd B (o'+m)=news[m]?)/\
  ∀ (i:Nat) x,l[i]?=some x->∃ us:List Value,us.length=e.cells/\(∀ j,j < e.cells->news[i * e.cells+j]?=us[j]?)/\RelC rd I e x us:=by
 intro l
 induction l generalizing o' with
 |nil=>exact fun _=>⟨[],by simp,by simp,by simp,fun i x h=>by simp at h⟩
 |cons y l ih=>
  intro h
  obtain ⟨us,u1,u2,u3⟩:=h 0 y rfl
  obtain ⟨news,n1,n2,n3,n4⟩:=ih (o'+e.cells) fun i x hi=>by
   obtain ⟨vs,v1,v2,v3⟩:=h (i+1) x (by simpa using hi)
   exact ⟨vs,v1,fun j hj=>by rw[<-v2 j hj,Nat.add_mul,Nat.one_mul];congr 1;omega,v3⟩
  refine ⟨us++news,by simp[u1,n1,Nat.add_mul];omega,?_,fun m hm=>?_,fun i x hi=>?_⟩
  ·intro u hu
   rcases List.mem_append.1 hu with hu | hu
   ·exact CJ _ _ _ u3 u hu
   ·exact n2 u hu
  ·by_cases hlt:m < e.cells
   ·rw[qY8 (by omega),<-u2 m hlt];simp
   ·rw[qY9 (by omega),u1,<-n3 (m - e.cells) (by simp at hm;omega)]
    congr 1;omega
  ·cases i with
   |zero=>
    simp at hi;subst hi
    exact ⟨us,u1,fun j hj=>by rw[qY8 (by omega)];congr 1;omega,u3⟩
   |succ i=>
    obtain ⟨vs,v1,v2,v3⟩:=n4 i x (by simpa using hi)
    refine ⟨vs,v1,fun j hj=>?_,v3⟩
    rw[qY9 (by rw[Nat.add_mul];omega),<-v2 j hj,u1,Nat.add_mul]
    congr 1;omega
structure SliceRead (w:World) (I:Nat->Prop) (P:Program) (e:GT) (l:List e.ty) (v:Value):Prop where
 out:∃ (a:Option Addr) (c:Nat) (news:List Value),v=.slice a l.length c/\l.length<=c/\news.length=l.length * e.cells/\(∀ u∈news,u.oneCell'=true)/\(Builtin.firstCells e.cells l.length v).run P w=.ok news.toArray w/\
  ∀ (i:Nat) x,l[i]?=some x->∃ us:List Value,us.length=e.cells/\(∀ j,j < e.cells->news[i * e.cells+j]?=us[j]?)/\RelC (Ad w) I e x us
theorem G1 {w:World} {I:Nat->Prop} {P:Program} {e:GT} {l:List e.ty} {a:Option Addr} {c:Nat} (hc:l.length<=c)
 (h:l≠[]->∃ B o',a=some ⟨B,o',none⟩/\∀ (i:Nat) x,l[i]?=some x->∃ us:List Value,us.length=e.cells/\(∀ j,j < e.cells->Ad w B (o'+i * e.cells+j)=us[j]?)/\RelC (Ad w) I e x us):SliceRead w I P e l (.slice a l.length c):=by
 constructor
 by_cases hne:l=[]
 ·subst hne
  refine ⟨a,c,[],rfl,hc,by simp,by simp,?_,fun i x h=>by simp at h⟩
  cases a<;>simp[Builtin.firstCells,loadCells,loadCellsFrom]
 ·obtain ⟨B,o',rfl,hr⟩:=h hne
  obtain ⟨news,n1,n2,n3,n4⟩:=ACj B o' l hr
  refine ⟨_,c,news,rfl,hc,n1,n2,?_,n4⟩
  unfold Builtin.firstCells
  simp only
  rw[<-n1]
  refine run_loadCells_list w ⟨B,o',none⟩ news fun j u hu=>?_
  have hj:j < news.length:=(List.getElem?_eq_some_iff.1 hu).1
  rw[add_plain]
  exact FV ((n3 j hj).trans hu) (n2 u (qY14 hu))
theorem H3 {a:Act} {w:World} {β:Nat->Option Place} (hs:SimB Γ st a w β) {P:Program} {e:GT} {x:AV} {v:Value} {l:List e.ty} {m:List Nat} (hr:RelV (Ad w) (Γ.after w β st.heap) β x v) (hd:decC st.heap (.sl e) [x]=some (l,[],m)):SliceRead w (Γ.after w β st.heap) P e l v:=by
 cases x<;>(try simp only[decC,reduceCtorEq] at hd)
 case nils=>
  cases hd
  simp only[RelV] at hr;subst hr
  exact G1 (by simp) fun h=>absurd rfl h
 case sl e' full l'=>
  split at hd
  ·rename_i he;subst he
   cases hd
   simp only[RelV,RelC] at hr
   obtain ⟨⟨ad,c,he,hc,hh⟩,_⟩:=hr
   have:v=.slice ad l'.length c:=by simpa using he
   subst this
   refine G1 hc fun hne=>?_
   obtain ⟨B,o',h1,_,h2⟩:=hh hne
   exact ⟨B,o',h1,h2⟩
  ·cases hd
 case dat t2 y=>
  cases t2<;>(try simp only[decC,reduceCtorEq] at hd)
  split at hd
  ·rename_i he;subst he
   cases hd
   simp only[RelV] at hr
   have hr:=NK hr
   simp only[RelC] at hr
   obtain ⟨ad,c,he,hc,hh⟩:=hr
   obtain rfl:=(List.cons.inj he).1
   refine G1 hc fun hne=>?_
   obtain ⟨B,o',h1,_,h2⟩:=hh hne
   exact ⟨B,o',h1,h2⟩
  ·cases hd
 case vw b=>
  split at hd
  ·rename_i e' l' hb
   split at hd
   ·rename_i he;subst he
    cases hd
    simp only[RelV] at hr
    obtain ⟨p,hp,hr⟩:=hr
    obtain ⟨hn,hsz,hu⟩:=Dj hs.ctx hb hp
    have hel:=fun hk=>FZ hs.ctx hb hp hk
    obtain ⟨ad,c,rfl,hc,hz⟩:=hr
    simp only
    rw[hn] at hc ⊢
    refine G1 hc fun hne=>?_
    rcases hz with hz | ⟨hk,rfl,_⟩
    ·subst hz;exact absurd (List.eq_nil_of_length_eq_zero (by omega)) hne
    ·exact ⟨_,_,rfl,hel hk⟩
   ·cases hd
  ·cases hd
 case pre b n=>
  split at hd
  ·rename_i e' l' hb
   split at hd
   ·rename_i he;subst he
    cases hd
    simp only[RelV] at hr
    obtain ⟨p,hp,hr⟩:=hr
    obtain ⟨hn,hsz,hu⟩:=Dj hs.ctx hb hp
    have hel:=fun hk=>FZ hs.ctx hb hp hk
    obtain ⟨hle,ad,c,rfl,hc,hz⟩:=hr
    simp only
    have hlen:(l'.take n).length=n:=by rw[List.length_take];omega
    have key:SliceRead w (Γ.after w β st.heap) P e' (l'.take n) (.slice ad (l'.take n).length c):=by
     refine G1 (by omega) fun hne=>?_
     rcases hz with hz | ⟨hk,rfl,_⟩
     ·subst hz
      have:n=0:=by omega
      subst this;exact absurd (by simp) hne
     ·refine ⟨_,_,rfl,fun i x hi=>hel hk i x ?_⟩
      rw[List.getElem?_take] at hi
      split at hi
      ·exact hi
      ·cases hi
    rw[hlen] at key;exact key
   ·cases hd
  ·cases hd
 case sub b off n=>
  split at hd
  ·rename_i e' l' hb
   split at hd
   ·rename_i he;subst he
    cases hd
    simp only[RelV] at hr
    obtain ⟨p,hp,hr⟩:=hr
    obtain ⟨hn,hsz,hu⟩:=Dj hs.ctx hb hp
    have hel:=fun hk=>FZ hs.ctx hb hp hk
    obtain ⟨hle,ad,c,rfl,hc,hz⟩:=hr
    simp only
    have hlen:((l'.drop off).take n).length=n:=by rw[List.length_take,List.length_drop];omega
    have key:SliceRead w (Γ.after w β st.heap) P e' ((l'.drop off).take n) (.slice ad ((l'.drop off).take n).length c):=by
     refine G1 (by omega) fun hne=>?_
     rcases hz with hz | ⟨hk,rfl,_⟩
     ·subst hz
      have:n=0:=by omega
      subst this;exact absurd (by simp) hne
     ·refine ⟨_,_,rfl,fun i x hi=>?_⟩
      rw[List.getElem?_take] at hi
      split at hi
      ·rw[List.getElem?_drop] at hi
       obtain ⟨us,a1,a2,a3⟩:=hel hk _ x hi
       refine ⟨us,a1,fun j hj=>?_,a3⟩
       rw[<-a2 j hj,hsz,Nat.add_mul];congr 1;omega
      ·cases hi
    rw[hlen] at key;exact key
   ·cases hd
  ·cases hd
inductive AppArg (P:Program) (tx:TypeId) (m:Nat):Value->Prop where
 |sl {ex:TypeId} {a:Option Addr} {c:Nat} (h:P.underlying tx=some (.slice ex)):AppArg P tx m (.slice a m c)
 |str {b:ByteArray} (h:P.underlying tx=some .string) (hb:b.size=m):AppArg P tx m (.string b)
theorem AppArg.len {P:Program} {tx:TypeId} {m:Nat} {x:Value} (h:AppArg P tx m x):∀ w,(Builtin.lenOf x).run P w=.ok m w:=by
 cases h with
 |sl h=>exact fun w=>rfl
 |str h hb=>exact fun w=>by subst hb;rfl
theorem AppArg.und {P:Program} {tx:TypeId} {m:Nat} {x:Value} (h:AppArg P tx m x):P.underlying tx=some .string\/∃ ex,P.underlying tx=some (.slice ex):=by
 cases h with
 |sl h=>exact .inr ⟨_,h⟩
 |str h hb=>exact .inl h
structure AppRead (w:World) (I:Nat->Prop) (P:Program) (tx:TypeId) (e:GT) (l:List e.ty) (v:Value):Prop where
 out:∃ news:List Value,AppArg P tx l.length v/\news.length=l.length * e.cells/\(∀ u∈news,u.oneCell'=true)/\(Builtin.firstCells e.cells l.length v).run P w=.ok news.toArray w/\
  ∀ (i:Nat) x,l[i]?=some x->∃ us:List Value,us.length=e.cells/\(∀ j,j < e.cells->news[i * e.cells+j]?=us[j]?)/\RelC (Ad w) I e x us
theorem SliceRead.app {w:World} {I:Nat->Prop} {P:Program} {tx ex:TypeId} {e:GT} {l:List e.ty} {v:Value} (h:SliceRead w I P e l v) (htx:P.underlying tx=some (.slice ex)):AppRead w I P tx e l v:=by
 obtain ⟨a,c,news,rfl,_,h3,h4,h5,h6⟩:=h.out
 exact ⟨news,.sl htx,h3,h4,h5,h6⟩
theorem WU {w:World} {I:Nat->Prop} {P:Program} {tx:TypeId} (htx:P.underlying tx=some .string) (b:ByteArray):AppRead w I P tx (.int .u8) (b.data.toList.map fun c=>((c.toNat:Nat):Int)) (.string b):=by
 have hs:b.size=(b.data.toList.map fun c=>((c.toNat:Nat):Int)).length:=by rw[List.length_map];rfl
 refine ⟨b.data.toList.map fun c=>.int .u8 c.toNat,.str htx hs,by simp[GT.cells],by simp[Value.oneCell'],?_,fun i x hi=>?_⟩
 ·rw[<-hs]
  have:b.extract 0 b.size=b:=by simp
  simp only[Builtin.firstCells,this,Sem.run_pure]
  congr 1
  apply Array.ext'
  simp
 ·rw[List.getElem?_map] at hi
  obtain ⟨c,hc,rfl⟩:=Option.map_eq_some_iff.1 hi
  refine ⟨[.int .u8 c.toNat],rfl,fun j hj=>?_,rfl⟩
  have:j=0:=by simp[GT.cells] at hj;omega
  subst this
  simp[GT.cells,hc]
theorem J5 {P:Program} {ts tx ty e:TypeId} (hts:P.underlying ts=some (.slice e)) {j:TI} (hj:TOk P e j) {base:Option Addr} {n c m:Nat} {x:Value} (hx:AppArg P tx m x) {news:List Value} {w:World}
 (hn:(Builtin.firstCells j.size m x).run P w=.ok news.toArray w) (hroom:n+m<=c) :
 (Builtin.append_ #[ts,tx] ty #[.slice base n c,x]).run P w=match base with
  |none=>.ok (.slice none (n+m) c) w
  |some a=>((storeCells (a.add (n * j.size)) news).run P w).andThen fun _ w'=>.ok (.slice (some a) (n+m) c) w':=by
 have hlen:=hx.len
 unfold Builtin.append_
 obtain hz | ⟨ex,hz⟩:=hx.und <;>
 simp only[List.getElem?_toArray,List.getElem?_cons_zero,List.getElem?_cons_succ,Sem.run_bind,A2 hts,A2 hz,Sem.run_pure,Result.andThen_ok,hj.run_size] <;>
 simp only[Bool.false_eq_true,if_false,qY1,if_true,Sem.run_bind,hlen,Result.andThen_ok] <;>
 rw[if_pos hroom] <;>
 simp only[Sem.run_bind,hn,Result.andThen_ok] <;>
 cases base<;>simp
theorem UR {P:Program} {ts tx ty e:TypeId} (hts:P.underlying ts=some (.slice e)) {j:TI} (hj:TOk P e j) {g:GT} (hg:j.gt=some g) {base:Option Addr} {n c m:Nat} {x:Value} (hx:AppArg P tx m x) {olds news:List Value} {w:World}
 (ho:(Builtin.firstCells j.size n (.slice base n c)).run P w.drew=.ok olds.toArray w.drew) (hn:(Builtin.firstCells j.size m x).run P w.drew=.ok news.toArray w.drew) (hroom:¬ n+m<=c) (hlim:n+m<=Ap) (hb:j.bytes<=1024) :
 (Builtin.append_ #[ts,tx] ty #[.slice base n c,x]).run P w=.ok (.slice (some ⟨w.heap.size,0,none⟩) (n+m) (grownCap w (n+m) c e)) (w.drew.alloc (.cells (olds.toArray++news.toArray++Builtin.zeroCells (AC g).toArray (grownCap w (n+m) c e - (n+m))) e)):=by
 have hlen:=hx.len
 obtain ⟨info,hi,hisz,hib,hiz⟩:=hj.info
 have hti:∀ w',(typeInfo e).run P w'=.ok info w':=fun w'=>by simp[typeInfo,hi]
 unfold Ap at hlim
 have hnext:Builtin.nextslicecap (n+m) c<=2 * (n+m)+192:=by
  have hgb:∀ (r q:Nat),q<=(n+m)+(n+m+768) / 4->Builtin.growBy (n+m) r q<=(n+m)+(n+m+768) / 4:=by
   intro r
   induction r with
   |zero=>intro q hq;simpa [Builtin.growBy] using hq
   |succ r ih=>
    intro q hq
    simp only[Builtin.growBy]
    split
    ·exact hq
    ·exact ih _ (by omega)
  unfold Builtin.nextslicecap
  split
  ·omega
  ·split
   ·omega
   ·exact Nat.le_trans (hgb 4 c (by omega)) (by omega)
 have hfit:¬ (Builtin.nextslicecap (n+m) c * info.bytes > 2 ^ 48):=by
  have:Builtin.nextslicecap (n+m) c * info.bytes<=(2 * 2 ^ 36+192) * 1024:=Nat.mul_le_mul (by omega) (by omega)
  have h2:(2 * 2 ^ 36+192) * 1024<=2 ^ 48:=by decide
  omega
 have h63:¬ (((n+m:Nat):Int) > IntKind.i64.max):=by
  have:IntKind.i64.max=9223372036854775807:=by decide
  omega
 have hch:∀ w':World,(choose (.appendCap (n+m) c e)).run P w'=.ok (grownCap w' (n+m) c e) w'.drew:=fun w'=>by
  rw[run_choose]
  rw[if_neg (by simp[Question.forced])]
  rfl
 unfold Builtin.append_
 obtain hz | ⟨ex,hz⟩:=hx.und <;>
 simp only[List.getElem?_toArray,List.getElem?_cons_zero,List.getElem?_cons_succ,Sem.run_bind,A2 hts,A2 hz,Sem.run_pure,Result.andThen_ok,hj.run_size] <;>
 simp only[Bool.false_eq_true,if_false,qY1,if_true,Sem.run_bind,hlen,Result.andThen_ok] <;>
 rw[if_neg hroom] <;>
 simp only[Sem.run_bind,hti,Result.andThen_ok] <;>
 rw[if_neg (fun h=>h63 h.1)] <;>
 simp only[Sem.run_bind,hti,Result.andThen_ok] <;>
 rw[if_neg hfit] <;>
 simp only[Sem.run_bind,hti,Result.andThen_ok,hch,run_askRoom,ho,hn,hj.run_zero hg,Ld] <;>
 rfl
theorem Vb {a:Act} {w:World} {β:Nat->Option Place} (hs:SimB Γ st a w β) {e:GT} {lo ln:List e.ty} {ty:TypeId} (hu8:e=.int .u8->ty=DJ) {olds news:List Value} {cap:Nat} (hcap:lo.length+ln.length<=cap) (hcm:cap<=EZ)
 (ho:olds.length=lo.length * e.cells) (hn:news.length=ln.length * e.cells)
 (heo:∀ (i:Nat) x,lo[i]?=some x->∃ us:List Value,us.length=e.cells/\(∀ j,j < e.cells->olds[i * e.cells+j]?=us[j]?)/\RelC (Ad w) (Γ.after w β st.heap) e x us)
 (hen:∀ (i:Nat) x,ln[i]?=some x->∃ us:List Value,us.length=e.cells/\(∀ j,j < e.cells->news[i * e.cells+j]?=us[j]?)/\RelC (Ad w) (Γ.after w β st.heap) e x us) :
 ∃ β',SimB Γ { st with heap:=st.heap++[some (.typed e (lo++ln))] } a (w.drew.alloc (.cells (olds.toArray++news.toArray++Builtin.zeroCells (AC e).toArray (cap - (lo.length+ln.length))) ty)) β'/\
  RelV (Ad (w.drew.alloc (.cells (olds.toArray++news.toArray++Builtin.zeroCells (AC e).toArray (cap - (lo.length+ln.length))) ty))) (Γ.after (w.drew.alloc (.cells (olds.toArray++news.toArray++Builtin.zeroCells (AC e).toArray (cap - (lo.length+ln.length))) ty)) β' (st.heap++[some (.typed e (lo++ln))])) β'
   (.vw st.heap.length) (.slice (some ⟨w.heap.size,0,none⟩) (lo.length+ln.length) cap):=by
 have:=RV (l:=lo++ln) (cap:=cap) hs hu8 ((Ext.drew w).trans (Ext.alloc w.drew (.cells (olds.toArray++news.toArray++Builtin.zeroCells (AC e).toArray (cap - (lo.length+ln.length))) ty))) (by simp) (Iz w.drew _) (by simpa using hcap) hcm (by
  have hz:(Builtin.zeroCells (AC e).toArray (cap - (lo.length+ln.length))).size=(cap - (lo.length+ln.length)) * e.cells:=by simp[Builtin.zeroCells,DI]
  rw[Array.size_append,Array.size_append,hz]
  simp only[List.size_toArray,ho,hn]
  rw[<-Nat.add_mul,<-Nat.add_mul]
  congr 1;omega) (fun i x hi=>by
  by_cases hlt:i < lo.length
  ·rw[qY8 hlt] at hi
   obtain ⟨us,u1,u2,u3⟩:=heo i x hi
   refine ⟨us,u1,fun j hj=>?_,u3⟩
   have hb:i * e.cells+j < olds.length:=by
    have:(i+1) * e.cells<=lo.length * e.cells:=Nat.mul_le_mul_right _ (by omega)
    rw[Nat.add_mul,Nat.one_mul] at this;omega
   rw[Array.getElem?_append_left (by simp;omega),Array.getElem?_append_left (by simpa using hb),List.getElem?_toArray]
   exact u2 j hj
  ·rw[qY9 (by omega)] at hi
   obtain ⟨us,u1,u2,u3⟩:=hen _ x hi
   refine ⟨us,u1,fun j hj=>?_,u3⟩
   have hlt2:i - lo.length < ln.length:=(List.getElem?_eq_some_iff.1 hi).1
   have hsub:i * e.cells=lo.length * e.cells+(i - lo.length) * e.cells:=by rw[<-Nat.add_mul];congr 1;omega
   have hb:(i - lo.length) * e.cells+j < news.length:=by
    have:(i - lo.length+1) * e.cells<=ln.length * e.cells:=Nat.mul_le_mul_right _ (by omega)
    rw[Nat.add_mul,Nat.one_mul] at this;omega
   rw[Array.getElem?_append_left (by simp;omega),Array.getElem?_append_right (by simp;omega),List.getElem?_toArray,<-u2 j hj]
   congr 1;simp;omega)
 simpa using this
theorem M2 {a:Act} {w:World} {β:Nat->Option Place} (hs:SimB Γ st a w β) {I:Nat->Prop} (hI:Mono (Ad w) I (Ad w) (Γ.after w β st.heap)) {ts tx ty e:TypeId} (hts:V.P.underlying ts=some (.slice e)) {j:TI} (hj:TOk V.P e j) {g:GT} (hg:j.gt=some g) (hb:j.bytes<=1024) (hu8:g=.int .u8->e=DJ)
 {s x:Value} {lo ln:List g.ty} (ho:SliceRead w.drew I V.P g lo s) (hn:AppRead w.drew I V.P tx g ln x) {base:Option Addr} {n c:Nat} (hsv:s=.slice base n c) (hroom:¬ n+ln.length<=c) (hlim:n+ln.length<=Ap) :
 ∃ v w',(Builtin.append_ #[ts,tx] ty #[s,x]).run V.P w=.ok v w'/\∃ β',SimB Γ { st with heap:=st.heap++[some (.typed g (lo++ln))] } a w' β'/\RelV (Ad w') (Γ.after w' β' (st.heap++[some (.typed g (lo++ln))])) β' (.vw st.heap.length) v:=by
 have hgc:j.size=g.cells:=(hj.zero g hg).2.1.symm
 obtain ⟨ao,co,olds,o1,o2,o3,o4,o5,o6⟩:=ho.out
 obtain ⟨news,n1,n3,n4,n5,n6⟩:=hn.out
 rw[hsv] at o1;cases o1
 rw[hsv] at o5 ⊢
 have hrun:=UR (ty:=ty) hts hj hg (x:=x) (m:=ln.length) n1 (base:=base) (n:=lo.length) (c:=c) (w:=w) (olds:=olds) (news:=news) (by rw[hgc];exact o5) (by rw[hgc];exact n5) hroom hlim hb
 have hm:Mono (Ad w.drew) I (Ad w) (Γ.after w β st.heap):=hI
 obtain ⟨β',h1,h2⟩:=Vb (ty:=e) (cap:=grownCap w (lo.length+ln.length) c e) hs hu8 (grownCap_ge _ _ _ _) (by
  have:=hsv;have hln:=ho.out
  have:=grownCap_le_maxLen w (lo.length+ln.length) c e (by unfold Ap at hlim;unfold maxLen;omega)
  unfold maxLen at this;unfold EZ;omega) o3 n3
  (fun i x hi=>by obtain ⟨us,u1,u2,u3⟩:=o6 i x hi;exact ⟨us,u1,u2,relC_mono hm _ _ _ u3⟩)
  (fun i x hi=>by obtain ⟨us,u1,u2,u3⟩:=n6 i x hi;exact ⟨us,u1,u2,relC_mono hm _ _ _ u3⟩)
 exact ⟨_,_,hrun,β',h1,h2⟩
theorem Yu {t e:TypeId} {n:Nat} {parts:Array (Nat×Operand)} (h:o.op=.buildSlice t n parts) {i j:TI} (ht:TOk V.P t i) (hd:i.d=.slice e) (hj:TOk V.P e j) {g:GT} (hg:j.gt=some g) {l:List g.ty} (hsz:l.length=n) (hlim:n * g.cells<=2 ^ 24) (hu8:g=.int .u8->e=DJ)
 (hq:CX st.heap g 0 (parts.toList.map fun p=>(p.1,st.ev p.2))=some l):AD V.P Γ st o (.vw st.heap.length) (st.heap++[some (.typed g l)]):=
 DL fun a w β hs=>by
  obtain ⟨cs,c1,hrun,c4⟩:=Pe h ht hd hj hg hsz hlim hq hs
  obtain ⟨β',h1,h2,h3,h4⟩:=FU hs (Ext.alloc w (.cells cs e)) (.typed g l) ⟨w.heap.size,0,g.cells,n,n * g.cells,true⟩ (fun _=>⟨Nat.le_refl _,by simp⟩) (fun β' hβ hm=>
   ⟨rfl,hsz.symm,(fun h=>by cases h),fun _=>⟨cs,e,Iz _ _,⟨by simp[c1],c1,hu8,by
    rw[c1]
    rcases Nat.eq_zero_or_pos g.cells with h0 | h0
    ·rw[h0];simp
    ·exact Nat.le_trans hlim (Nat.le_trans (by unfold EZ;omega) (Nat.le_mul_of_pos_right _ h0))⟩,fun k y hk=>by
    obtain ⟨us,u1,u2,u3⟩:=c4 k y hk
    exact ⟨us,u1,fun q hq=>by rw[<-u2 q hq];simp,relC_mono hm _ _ _ u3⟩⟩⟩)
  refine ⟨_,_,hrun,β',h1,?_⟩
  simp only[RelV]
  exact ⟨_,h2,some ⟨w.heap.size,0,none⟩,n,rfl,Nat.le_refl _,.inr ⟨rfl,rfl,by simp⟩⟩
theorem Rm {a:Act} {w:World} {β:Nat->Option Place} (hs:SimB Γ st a w β) (e:GT) (ad:Option Addr) :
 ∃ β',SimB Γ { st with heap:=st.heap++[some (.typed e [])] } a w β'/\RelV (Ad w) (Γ.after w β' (st.heap++[some (.typed e [])])) β' (.vw st.heap.length) (.slice ad 0 0):=by
 obtain ⟨β',h1,h2,h3,h4⟩:=FU hs (Ext.refl w) (.typed e []) ⟨0,0,e.cells,0,0,false⟩ (fun h=>by cases h) (fun β' hβ hm=>⟨rfl,rfl,fun _=>rfl,fun h=>by cases h⟩)
 refine ⟨β',h1,?_⟩
 simp only[RelV]
 exact ⟨_,h2,ad,0,rfl,Nat.le_refl _,.inl rfl⟩
theorem Qi {a:Act} {w:World} {β:Nat->Option Place} (hs:SimB Γ st a w β) {ts tx ty e:TypeId} (hts:V.P.underlying ts=some (.slice e)) {j:TI} (hj:TOk V.P e j) {g:GT} (hg:j.gt=some g) (hb:j.bytes<=1024) (hu8:g=.int .u8->e=DJ)
 {s x:Value} {ln:List g.ty} (hn:AppRead w.drew (Γ.after w β st.heap) V.P tx g ln x) (hn':AppRead w (Γ.after w β st.heap) V.P tx g ln x) {b n:Nat} {l:List g.ty} (hbr:st.heap[b]?=some (some (.typed g l))) {p:Place} (hp:β b=some p) (hv:Cz p 0 n s) (ho:SliceRead w.drew (Γ.after w β st.heap) V.P g (l.take n) s) (hlim:n+ln.length<=Ap) :
 ∃ v w',(Builtin.append_ #[ts,tx] ty #[s,x]).run V.P w=.ok v w'/\∃ β',SimB Γ { st with heap:=st.heap.set b none++[some (.typed g (l.take n++ln))] } a w' β'/\RelV (Ad w') (Γ.after w' β' (st.heap.set b none++[some (.typed g (l.take n++ln))])) β' (.vw st.heap.length) v:=by
 have hgc:j.size=g.cells:=(hj.zero g hg).2.1.symm
 obtain ⟨hle,ad,c,hsv,hnc,hpc,hz⟩:=hv
 obtain ⟨p',hp',hpb,hps,hpn,hpu,hrow⟩:=hs.ctx.rows b _ hbr
 rw[hp] at hp';cases hp'
 have hln:(l.take n).length=n:=by rw[List.length_take];omega
 obtain ⟨hk,hkm⟩ | hk:=UE hs b
 case inr=>exact absurd hbr (hk _)
 have hlen:(st.heap.set b none).length=st.heap.length:=List.length_set
 by_cases hroom:n+ln.length<=c
 ·obtain ⟨news,n1,n3,n4,n5,n6⟩:=hn'.out
  have n5':(Builtin.firstCells j.size ln.length x).run V.P w=.ok news.toArray w:=by rw[hgc];exact n5
  rcases hz with hz | ⟨hkb,rfl,hcap⟩
  ·subst hz
   have h0:n=0:=by omega
   have hl0:ln=[]:=List.eq_nil_of_length_eq_zero (by omega)
   subst h0 hl0
   obtain ⟨β',h1,h2⟩:=Rm hk g ad
   have hrun:=J5 (ty:=ty) hts hj (x:=x) (m:=0) n1 (base:=ad) (n:=0) (c:=0) (w:=w) (news:=news) n5' (by simp)
   have hnil:news=[]:=List.eq_nil_of_length_eq_zero (by rw[n3];simp)
   subst hnil
   refine ⟨.slice ad 0 0,w,?_,β',?_,?_⟩
   ·rw[hsv,hrun]
    cases ad<;>simp[storeCells]
   ·simpa using h1
   ·simpa [hlen] using h2
  ·obtain ⟨cs,ty',g1,⟨g2,g3⟩,g4⟩:=hrow hkb
   have hnl:n * g.cells+news.length<=c * g.cells:=by
    rw[n3,<-Nat.add_mul];exact Nat.mul_le_mul_right _ hroom
   rw[hps] at hcap g2
   simp only[Nat.zero_add] at hcap
   have hfit:p.O+n * g.cells+news.length<=cs.size:=by omega
   have hfit':p.O+n * g.cells+news.length<=cs.toList.length:=by simpa using hfit
   obtain ⟨cs',hcs'⟩:∃ cs':Array Value,cs'=(cs.toList.take (p.O+n * g.cells)++news++cs.toList.drop (p.O+n * g.cells+news.length)).toArray:=⟨_,rfl⟩
   have hh':(w.setRow p.B cs').heap[p.B]?=some (.cells cs' ty' (0,0)):=setRow_heap w p.B cs cs' ty' (0,0) g1
   have hsize:cs'.size=cs.size:=by
    rw[hcs',<-Array.length_toList]
    simpa using Ev cs.toList news (p.O+n * g.cells) hfit'
   have hget:∀ m,cs'[m]?=if p.O+n * g.cells<=m/\m < p.O+n * g.cells+news.length then news[m - (p.O+n * g.cells)]? else cs[m]?:=by
    intro m
    rw[hcs',<-Array.getElem?_toList]
    simp only
    rw[GF cs.toList news _ hfit']
    simp only[Array.getElem?_toList]
   have hrun:=J5 (ty:=ty) hts hj (x:=x) (m:=ln.length) n1 (base:=some ⟨p.B,p.O+0 * p.s,none⟩) (n:=n) (c:=c) (w:=w) (news:=news) n5' hroom
   have hst:=run_storeCells_at (P:=V.P) p.B (p.O+n * g.cells) ty' news 0 cs w g1 (by omega) n4
   simp only[Nat.add_zero] at hst
   rw[<-hcs'] at hst
   obtain ⟨β',h1,h2,h3⟩:=Xy hs hbr hp hkb (w':=w.setRow p.B cs') rfl rfl rfl (by simp) (fun B hB=>setRow_other w p.B B cs' hB) (.typed g (l.take n++ln)) { p with n:=n+ln.length } hkb rfl (fun β' hβ hm=>
    ⟨hps,by simp[hln],(fun h=>by rw[hkb] at h;cases h),fun _=>⟨cs',ty',hh',⟨by
     simp only[hps,hsize];rw[Nat.add_mul,<-n3];omega,by rw[hsize];exact g3.1,g3.2.1,by rw[hsize];exact g3.2.2⟩,fun i y hi=>by
     by_cases hlt:i < n
     ·rw[qY8 (by omega),List.getElem?_take,if_pos hlt] at hi
      obtain ⟨us,u1,u2,u3⟩:=g4 i y hi
      refine ⟨us,u1,fun q hq=>?_,relC_mono hm _ _ _ u3⟩
      rw[hget,if_neg]
      ·exact u2 q hq
      ·have:(i+1) * g.cells<=n * g.cells:=Nat.mul_le_mul_right _ (by omega)
       rw[Nat.add_mul,Nat.one_mul] at this
       simp only
       omega
     ·rw[qY9 (by omega),hln] at hi
      obtain ⟨us,u1,u2,u3⟩:=n6 _ y hi
      refine ⟨us,u1,fun q hq=>?_,relC_mono hm _ _ _ u3⟩
      have hlt2:i - n < ln.length:=(List.getElem?_eq_some_iff.1 hi).1
      have hsub:i * g.cells=n * g.cells+(i - n) * g.cells:=by rw[<-Nat.add_mul];congr 1;omega
      have hbd:(i - n) * g.cells+q < news.length:=by
       have:(i - n+1) * g.cells<=ln.length * g.cells:=Nat.mul_le_mul_right _ (by omega)
       rw[Nat.add_mul,Nat.one_mul] at this;omega
      rw[hget,if_pos (by simp only;omega),<-u2 q hq]
      congr 1;simp only;omega⟩⟩)
   refine ⟨.slice (some ⟨p.B,p.O+0 * p.s,none⟩) (n+ln.length) c,w.setRow p.B cs',?_,β',h1,?_⟩
   ·rw[hsv,hrun]
    simp only[add_plain,Nat.zero_mul,Nat.add_zero,hgc,hst,Result.andThen_ok]
   ·simp only[RelV]
    refine ⟨_,h2,_,_,rfl,hroom,.inr ⟨hkb,by simp,?_⟩⟩
    simp only[hps];exact hcap
 ·have hm2:Mono (Ad w) (Γ.after w β st.heap) (Ad w) (Γ.after w β (st.heap.set b none)):=⟨fun B hB=>hkm.imm B (.inl hB),fun _ _ _ _ h=>h⟩
  have:=M2 (ty:=ty) hk hm2 hts hj hg hb hu8 ho hn hsv hroom hlim
  simpa only[hlen] using this
theorem con_append {K:AV->Ai->Option ρ} {c:Call} (h:o.op=.call c) (hc:c.callee=.builtin .append) {s x:Operand} {ts tx e:TypeId} (ha:c.args.toList=[s,x]) (hat:c.argTypes.toList=[ts,tx]) {i j:TI} (hts:TOk V.P ts i) (hd:i.d=.slice e)
 (hj:TOk V.P e j) {g:GT} (hg:j.gt=some g) (hb:j.bytes<=1024) (hu8:g=.int .u8->e=DJ) {l':List g.ty} (rx:∀ a w β,SimB Γ st a w β->AppRead w (Γ.after w β st.heap) V.P tx g l' (a.eval x)) (hq:Em st.heap g (st.ev s) l' K=some z) :
 ∃ y H,K y H=some z/\AD V.P Γ st o y H:=by
 have ea:c.args=#[s,x]:=by have:=congrArg List.toArray ha;simpa using this
 have et:c.argTypes=#[ts,tx]:=by have:=congrArg List.toArray hat;simpa using this
 have hts':=hts.slice hd
 have wrap:∀ (y:AV) (H:Ai),(∀ a w β,SimB Γ st a w β->∃ v w',(Builtin.append_ #[ts,tx] o.type #[a.eval s,a.eval x]).run V.P w=.ok v w'/\∃ β',SimB Γ { st with heap:=H } a w' β'/\RelV (Ad w') (Γ.after w' β' H) β' y v)->AD V.P Γ st o y H:=by
  intro y H hh
  refine DL fun a w β hs=>?_
  obtain ⟨v,w',h1,h2⟩:=hh a w β hs
  refine ⟨v,w',?_,h2⟩
  simp only[execOp,h,resolve,hc,pure_bind,invoke,ea,et,builtin]
  simp[h1]
 have rx':∀ a w β,SimB Γ st a w β->AppRead w.drew (Γ.after w β st.heap) V.P tx g l' (a.eval x):=fun a w β hs=>rx a w.drew β (hs.ext (Ext.drew w))
 have same:∀ (w:World) (β:Nat->Option Place),Mono (Ad w) (Γ.after w β st.heap) (Ad w) (Γ.after w β st.heap):=fun _ _=>⟨fun _ h=>h,fun _ _ _ _ h=>h⟩
 unfold Em at hq
 split at hq
 ·rename_i hsn
  obtain ⟨hlim,hq⟩:=A7 hq
  simp only[decide_eq_true_eq] at hlim
  refine ⟨_,_,hq,wrap _ _ fun a w β hs=>?_⟩
  have e1:=Aq hs s
  have hro:=H3 (w:=w.drew) (P:=V.P) (e:=g) (l:=[]) (m:=[]) (hs.ext (Ext.drew w)) (Aq (hs.ext (Ext.drew w)) s) (by rw[hsn];rfl)
  rw[hsn] at e1;simp only[RelV] at e1
  by_cases hl:l'=[]
  ·subst hl
   obtain ⟨β',h1,h2⟩:=Rm hs g none
   obtain ⟨news,n1,n3,n4,n5,n6⟩:=(rx a w β hs).out
   have hgc:j.size=g.cells:=(hj.zero g hg).2.1.symm
   have hrun:=J5 (ty:=o.type) hts' hj (m:=0) n1 (base:=none) (n:=0) (c:=0) (w:=w) (news:=news) (by rw[hgc];exact n5) (by simp)
   exact ⟨.slice none 0 0,w,by rw[e1];exact hrun,β',h1,h2⟩
  ·have:=M2 (ty:=o.type) hs (same w β) hts' hj hg hb hu8 hro (rx' a w β hs) e1 (by have:=List.length_pos_iff.2 hl;omega) (by simpa using hlim)
   simpa using this
 ·rename_i e' l hsn
  split at hq
  ·rename_i he;subst he
   by_cases hl:l'=[]
   ·subst hl
    have hq':K (.sl e' true l) st.heap=some z:=hq
    refine ⟨_,_,hq',wrap _ _ fun a w β hs=>?_⟩
    have e1:=Aq hs s
    rw[hsn] at e1
    have e2:=e1
    simp only[RelV] at e2
    obtain ⟨ad,e2⟩:=e2.2 trivial
    obtain ⟨news,n1,n3,n4,n5,n6⟩:=(rx a w β hs).out
    have hgc:j.size=e'.cells:=(hj.zero e' hg).2.1.symm
    have hnil:news=[]:=List.eq_nil_of_length_eq_zero (by rw[n3];simp)
    subst hnil
    have hrun:=J5 (ty:=o.type) hts' hj (m:=0) n1 (base:=ad) (n:=l.length) (c:=l.length) (w:=w) (news:=[]) (by rw[hgc];exact n5) (by simp)
    exact ⟨.slice ad l.length l.length,w,by rw[e2,hrun];cases ad<;>simp[storeCells],β,hs,e2 ▸ e1⟩
   ·have hpos:=List.length_pos_iff.2 hl
    rw[qZ10 hpos,cond_true] at hq
    obtain ⟨hlim,hq⟩:=A7 hq
    simp only[decide_eq_true_eq] at hlim
    refine ⟨_,_,hq,wrap _ _ fun a w β hs=>?_⟩
    have e1:=Aq hs s
    have hro:=H3 (w:=w.drew) (P:=V.P) (e:=e') (l:=l) (m:=[]) (hs.ext (Ext.drew w)) (Aq (hs.ext (Ext.drew w)) s) (by rw[hsn];simp[decC])
    rw[hsn] at e1;simp only[RelV] at e1
    obtain ⟨ad,e1⟩:=e1.2 trivial
    exact M2 (ty:=o.type) hs (same w β) hts' hj hg hb hu8 hro (rx' a w β hs) e1 (by omega) hlim
  ·cases hq
 ·rename_i b hsn
  split at hq
  ·rename_i e' l hbr
   split at hq
   ·rename_i he;subst he
    obtain ⟨hlim,hq⟩:=A7 hq
    simp only[decide_eq_true_eq] at hlim
    refine ⟨_,_,hq,wrap _ _ fun a w β hs=>?_⟩
    have e1:=Aq hs s
    have hro:=H3 (w:=w.drew) (P:=V.P) (e:=e') (l:=l) (m:=[b]) (hs.ext (Ext.drew w)) (Aq (hs.ext (Ext.drew w)) s) (by rw[hsn];simp[decC,hbr])
    rw[hsn,Gk] at e1
    obtain ⟨p,hp,e1⟩:=e1
    obtain ⟨hn,_,_⟩:=Dj hs.ctx hbr hp
    rw[hn] at e1
    have:=Qi (ty:=o.type) hs hts' hj hg hb hu8 (rx' a w β hs) (rx a w β hs) hbr hp e1 (by rw[List.take_length];exact hro) hlim
    rwa [List.take_length] at this
   ·cases hq
  ·cases hq
 ·rename_i b n hsn
  split at hq
  ·rename_i e' l hbr
   split at hq
   ·rename_i he;subst he
    obtain ⟨hlim,hq⟩:=A7 hq
    simp only[decide_eq_true_eq] at hlim
    refine ⟨_,_,hq,wrap _ _ fun a w β hs=>?_⟩
    have e1:=Aq hs s
    have hro:=H3 (w:=w.drew) (P:=V.P) (e:=e') (l:=l.take n) (m:=[b]) (hs.ext (Ext.drew w)) (Aq (hs.ext (Ext.drew w)) s) (by rw[hsn];simp[decC,hbr])
    rw[hsn,Ei] at e1
    obtain ⟨p,hp,e1⟩:=e1
    exact Qi (ty:=o.type) hs hts' hj hg hb hu8 (rx' a w β hs) (rx a w β hs) hbr hp e1 hro hlim
   ·cases hq
  ·cases hq
 ·cases hq
end
end Go.AM
end
section
namespace Go.AM
open Go.RowKit (Below)
theorem VO {Γ:Base} {st:St} {a:Act} {w w':World} {β β':Nat->Option Place} {H':Ai} {L:Nat->Prop} (h:SimB Γ st a w β) (hf:FrmC w w' L) (hL:∀ B,L B->AN st.heap β B)
 (hlen:st.heap.length<=H'.length) (hβ:∀ b,b < st.heap.length->β' b=β b) (hdom:∀ b,H'.length<=b->β' b=none)
 (hal:∀ (b:Nat) r',H'[b]?=some (some r')->(b < st.heap.length/\∃ r0,st.heap[b]?=some (some r0))\/(st.heap.length<=b/\∃ q,β' b=some q/\(q.backed=true->q.B < w'.heap.size/\
  (w.heap.size<=q.B\/(AN st.heap β q.B/\∀ (b2:Nat) r2 p2,b2 < st.heap.length->H'[b2]?=some (some r2)->β b2=some p2->p2.backed=true->p2.B≠q.B)))))
 (hone:∀ b1 b2 q1 q2,st.heap.length<=b1->st.heap.length<=b2->β' b1=some q1->β' b2=some q2->q1.backed=true->q2.backed=true->q1.B=q2.B->b1=b2)
 (hrows:Mono (Ad w) (Γ.after w β st.heap) (Ad w') (Γ.after w' β' H')->∀ (b:Nat) r' q,H'[b]?=some (some r')->β' b=some q->
  (b < st.heap.length/\st.heap[b]?=some (some r')/\(q.backed=true->¬ L q.B))\/(Bo w' (Γ.after w' β' H') β' q r'/\(b < st.heap.length->q.backed=true->Co w w' q))) :
 SimB Γ { st with heap:=H' } a w' β'/\Mono (Ad w) (Γ.after w β st.heap) (Ad w') (Γ.after w' β' H'):=by
 have hβ':∀ b q,β b=some q->β' b=some q:=by
  intro b q hq
  rcases Nat.lt_or_ge b st.heap.length with hb | hb
  ·rw[hβ b hb];exact hq
  ·rw[h.ctx.dom b hb] at hq;cases hq
 have hlive:∀ B,AN H' β' B->AN st.heap β B\/w.heap.size<=B:=by
  rintro B ⟨b,r',q,hb,hq,hk,rfl⟩
  rcases hal b r' hb with ⟨hlt,r0,h0⟩ | ⟨hge,q',hq',hB⟩
  ·rw[hβ b hlt] at hq;exact .inl ⟨b,r0,q,h0,hq,hk,rfl⟩
  ·rw[hq] at hq';cases hq';exact (hB hk).2.elim .inr fun h=>.inl h.1
 have himm:∀ B,Γ.after w β st.heap B->Γ.after w' β' H' B:=fun B hB=>
  ⟨Nat.lt_of_lt_of_le hB.1 hf.size,hB.2.1,fun hl=>by
   rcases hlive B hl with h1 | h1
   ·exact hB.2.2 h1
   ·have:=hB.1;omega⟩
 have hmono:Mono (Ad w) (Γ.after w β st.heap) (Ad w') (Γ.after w' β' H'):=Gh himm fun B hB=>hf.block B hB.1 fun hl=>hB.2.2 (hL B hl)
 have hrows:=hrows hmono
 have hplace:∀ (b:Nat) r',H'[b]?=some (some r')->∃ q,β' b=some q/\(q.backed=true->Γ.gb<=q.B/\q.B < w'.heap.size/\((b < st.heap.length/\q.B < w.heap.size/\(∃ r0,st.heap[b]?=some (some r0))/\β b=some q)\/
  (st.heap.length<=b/\(w.heap.size<=q.B\/∀ (b2:Nat) r2 p2,b2 < st.heap.length->H'[b2]?=some (some r2)->β b2=some p2->p2.backed=true->p2.B≠q.B)))):=by
  intro b r' hb
  rcases hal b r' hb with ⟨hlt,r0,h0⟩ | ⟨hge,q,hq,hB⟩
  ·obtain ⟨q,hq,hg,_⟩:=h.ctx.rows b r0 h0
   exact ⟨q,hβ' b q hq,fun hk=>⟨(hg hk).1,Nat.lt_of_lt_of_le (hg hk).2 hf.size,.inl ⟨hlt,(hg hk).2,⟨r0,h0⟩,hq⟩⟩⟩
  ·refine ⟨q,hq,fun hk=>?_⟩
   obtain ⟨h1,h2⟩:=hB hk
   rcases h2 with h2 | ⟨⟨b0,r0,p0,c1,c2,c3,c4⟩,h2⟩
   ·exact ⟨Nat.le_trans h.gbw (Nat.le_trans h.frm.size h2),h1,.inr ⟨hge,.inl h2⟩⟩
   ·obtain ⟨p1,d1,d2,_⟩:=h.ctx.rows b0 r0 c1
    rw[c2] at d1;cases d1
    exact ⟨c4 ▸ (d2 c3).1,h1,.inr ⟨hge,.inr h2⟩⟩
 refine ⟨⟨⟨fun b r' hb=>?_,fun b b' r1 r2 p1 p2 hb hb' h1 h2 k1 k2 hB=>?_,fun B hB=>⟨hB.1,hB.2.2⟩,hdom⟩,?_,h.len,fun t x hx=>?_,h.defers.keep fun D hD hd=>hf.block D hD fun hl=>(h.ctx.live_obj (hL D hl)).1 _ hd,fun j b hb=>?_,h.gbw,h.low,fun b r' q hb hq hk=>?_⟩,hmono⟩
 ·obtain ⟨q,hq,hg⟩:=hplace b r' hb
  refine ⟨q,hq,fun hk=>⟨(hg hk).1,(hg hk).2.1⟩,?_⟩
  ·rcases hrows b r' q hb hq with ⟨hlt,h0,hn⟩ | ⟨hr,_⟩
   ·obtain ⟨q',hq',hgg,hrr⟩:=h.ctx.rows b r' h0
    rw[hβ' b q' hq'] at hq;cases hq
    exact DF hmono hβ' (fun hk=>hf.block _ (hgg hk).2 (hn hk)) r' hrr
   ·exact hr
 ·obtain ⟨q1,hq1,hg1⟩:=hplace b r1 hb
  obtain ⟨q2,hq2,hg2⟩:=hplace b' r2 hb'
  rw[h1] at hq1;cases hq1
  rw[h2] at hq2;cases hq2
  rcases (hg1 k1).2.2 with ⟨c0,c1,⟨r10,c2⟩,c3⟩ | ⟨c1,c2⟩<;>rcases (hg2 k2).2.2 with ⟨d0,d1,⟨r20,d2⟩,d3⟩ | ⟨d1,d2⟩
  ·exact h.ctx.apart b b' _ _ _ _ c2 d2 c3 d3 k1 k2 hB
  ·rcases d2 with d2 | d2
   ·omega
   ·exact absurd hB (d2 b r1 _ c0 hb c3 k1)
  ·rcases c2 with c2 | c2
   ·omega
   ·exact absurd hB.symm (c2 b' r2 _ d0 hb' d3 k2)
  ·exact hone b b' _ _ c1 d1 h1 h2 k1 k2 hB
 ·refine ⟨hf.os.trans h.frm.os,hf.tape.trans h.frm.tape,hf.output.trans h.frm.output,Nat.le_trans h.frm.size hf.size,fun B hB hl=>?_⟩
  rw[hf.block B (Nat.lt_of_lt_of_le hB h.frm.size),h.frm.block B hB hl]
  intro hLB
  obtain ⟨b,r,q,hb,hq,hk,rfl⟩:=hL B hLB
  rcases h.own b r q hb hq hk with h' | h'
  ·omega
  ·exact hl h'
 ·obtain ⟨v,hv,hrel⟩:=h.tmps t x hx
  exact ⟨v,hv,CA hmono hβ' x v hrel⟩
 ·obtain ⟨h1,hlt,h3⟩:=h.orig j b hb
  refine ⟨(hβ b hlt).trans h1,Nat.lt_of_lt_of_le hlt hlen,fun r' q hr' hq hk=>?_⟩
  have hqb:=hq
  rw[hβ b hlt] at hqb
  rcases hrows b r' q hr' hq with ⟨_,h0,hn⟩ | ⟨_,hs⟩
  ·obtain ⟨q',hq',hgg,_⟩:=h.ctx.rows b r' h0
   rw[hqb] at hq';cases hq'
   exact (h3 r' q h0 hqb hk).congr (hf.block _ (hgg hk).2 (hn hk))
  ·rcases hal b r' hr' with ⟨_,r0,h0⟩ | ⟨hge,_⟩
   ·exact (h3 r0 q h0 hqb hk).trans (hs hlt hk)
   ·omega
 ·rcases hal b r' hb with ⟨hlt,r0,h0⟩ | ⟨hge,q',hq',hB⟩
  ·rw[hβ b hlt] at hq
   exact h.own b r0 q h0 hq hk
  ·rw[hq] at hq';cases hq'
   rcases (hB hk).2 with h2 | ⟨⟨b0,r0,p0,c1,c2,c3,c4⟩,_⟩
   ·exact .inl (Nat.le_trans h.frm.size h2)
   ·exact c4 ▸ h.own b0 r0 p0 c1 c2 c3
structure Lifted (Γ:Base) (st:St) (a:Act) (w:World) (β:Nat->Option Place) (H':Ai) (β':Nat->Option Place):Prop where
 sim:SimB Γ { st with heap:=H' } a w β'
 sub:∀ b q,β b=some q->β' b=some q
 mono:Mono (Ad w) (Γ.after w β st.heap) (Ad w) (Γ.after w β' H')
theorem Lifted.refl {Γ:Base} {st:St} {a:Act} {w:World} {β:Nat->Option Place} (h:SimB Γ st a w β):Lifted Γ st a w β st.heap β:=⟨h,fun _ _ h=>h,fun _ h=>h,fun _ _ _ _ h=>h⟩
theorem Lifted.trans {Γ:Base} {st:St} {a:Act} {w:World} {β β1 β2:Nat->Option Place} {H1 H2:Ai} (h:Lifted Γ st a w β H1 β1) (k:Lifted Γ { st with heap:=H1 } a w β1 H2 β2):Lifted Γ st a w β H2 β2:=
 ⟨k.sim,fun b q hq=>k.sub b q (h.sub b q hq),fun B hB=>k.mono.imm B (h.mono.imm B hB),fun _ _ _ _ h=>h⟩
section
variable {Γ:Base} {a:Act} {w:World}
theorem Ry {st:St} {β:Nat->Option Place} (hs:SimB Γ st a w β) (e:GT) {x:AV} {v:Value} (hr:RelV (Ad w) (Γ.after w β st.heap) β x v):∃ β',Lifted Γ st a w β (BE e x st.heap).2 β'/\RelV (Ad w) (Γ.after w β' (BE e x st.heap).2) β' (BE e x st.heap).1 v:=by
 have key:(∃ ad,v=.slice ad 0 0)->∃ β',Lifted Γ st a w β (st.heap++[some (Row.typed e [])]) β'/\RelV (Ad w) (Γ.after w β' (st.heap++[some (Row.typed e [])])) β' (.vw st.heap.length) v:=by
  rintro ⟨ad,rfl⟩
  obtain ⟨β',h1,h2,h3,h4⟩:=FU hs (Ext.refl w) (.typed e []) ⟨0,0,e.cells,0,0,false⟩ (fun h=>by cases h) (fun β' hβ hm=>⟨rfl,rfl,fun _=>rfl,fun h=>by cases h⟩)
  refine ⟨β',⟨h1,h3,h4⟩,?_⟩
  simp only[RelV]
  exact ⟨_,h2,ad,0,rfl,Nat.le_refl _,.inl rfl⟩
 unfold BE
 split
 ·simp only[RelV] at hr;exact key ⟨none,hr⟩
 ·simp only[RelV] at hr;obtain ⟨ad,h⟩:=hr.2 trivial;exact key ⟨ad,h⟩
 ·exact ⟨β,.refl hs,hr⟩
theorem Lz:∀ (f:BF) (l:List AV) (H:Ai),∃ tl,(A8 f l H).2=H++tl
 |.own e,[],H=>⟨[],by simp[A8]⟩
 |.own e,x::r,H=>by
  simp only[A8,BE]
  split
  ·exact ⟨_,rfl⟩
  ·exact ⟨_,rfl⟩
  ·exact ⟨[],by simp⟩
 |.pair f g,l,H=>by
  obtain ⟨t1,h1⟩:=Lz f l H
  obtain ⟨t2,h2⟩:=Lz g ((A8 f l H).1.drop f.cells) (A8 f l H).2
  exact ⟨t1++t2,by simp only[A8];rw[h2,h1,qZ1]⟩
 |.dat _,_,H | .slf,_,H | .mp _,_,H | .box _,_,H=>⟨[],by simp[A8]⟩
theorem Jo:∀ (f:BF) (l:List AV) (us:List Value) {st:St} {β:Nat->Option Place},SimB Γ st a w β->RelL (Ad w) (Γ.after w β st.heap) β l us->∃ β',Lifted Γ st a w β (A8 f l st.heap).2 β'/\RelL (Ad w) (Γ.after w β' (A8 f l st.heap).2) β' (A8 f l st.heap).1 us
 |.own e,[],us,st,β,hs,hr=>⟨β,.refl hs,hr⟩
 |.own e,x::r,us,st,β,hs,hr=>by
  simp only[RelL] at hr
  obtain ⟨u,us',rfl,h1,h2⟩:=hr
  obtain ⟨β',g1,g2⟩:=Ry hs e h1
  exact ⟨β',g1,by simp only[A8,RelL];exact ⟨u,us',rfl,g2,relL_mono g1.mono g1.sub r us' h2⟩⟩
 |.pair f g,l,us,st,β,hs,hr=>by
  obtain ⟨β1,h1,h2⟩:=Jo f l us hs hr
  rw[<-List.take_append_drop f.cells (A8 f l st.heap).1] at h2
  obtain ⟨u1,u2,rfl,h3,h4⟩:=RB h2
  obtain ⟨β2,h5,h6⟩:=Jo g _ u2 h1.sim h4
  exact ⟨β2,h1.trans h5,DA (relL_mono h5.mono h5.sub _ _ h3) h6⟩
 |.dat _,l,us,st,β,hs,hr | .slf,l,us,st,β,hs,hr | .mp _,l,us,st,β,hs,hr | .box _,l,us,st,β,hs,hr=>⟨β,.refl hs,hr⟩
theorem X1 {l m:List AV} {n:Nat} (h:Bz (l.take n++m)=true):Bz l=true\/Bz m=true/\(n=0\/l=[]):=by
 cases l with
 |nil=>exact .inr ⟨by simpa using h,.inr rfl⟩
 |cons a l=>
  cases n with
  |zero=>exact .inr ⟨by simpa using h,.inl rfl⟩
  |succ n=>exact .inl (by simpa [Bz] using h)
theorem JP:∀ (f:BF) (l:List AV) (H:Ai),Bz (A8 f l H).1=true->Bz l=true
 |.own e,[],H,h=>h
 |.own e,x::r,H,h=>by
  simp only[A8,BE] at h
  split at h<;>first | (simp[Bz,AV.isSelf] at h;done) | exact h
 |.pair f g,l,H,h=>by
  simp only[A8] at h
  rcases X1 h with h | ⟨h,h'⟩
  ·exact JP f l H h
  ·have:=JP g _ _ h
   rcases h' with h' | h'
   ·rw[h',List.drop_zero] at this;exact JP f l H this
   ·rw[h'] at this;simp[Bz] at this
 |.dat _,l,H,h | .slf,l,H,h | .mp _,l,H,h | .box _,l,H,h=>h
theorem Uc (f:BF) (b:Nat) {st:St} {β:Nat->Option Place} (hs:SimB Γ st a w β):∃ β',Lifted Γ st a w β (Dy f b st.heap) β':=by
 unfold Dy
 split
 ·rename_i l hb
  obtain ⟨p,hp,hg,e1,e2,e3,cs,ty,g1,g2,us,g3,g4,g5,g6⟩:=hs.ctx.rows b _ hb
  obtain ⟨β',h1,h2⟩:=Jo f l us hs g5
  obtain ⟨tl,ht⟩:=Lz f l st.heap
  have hb':(A8 f l st.heap).2[b]?=some (some (.cells l)):=by rw[ht,qY8 (List.getElem?_eq_some_iff.1 hb).1];exact hb
  have hlen:=Cx _ _ h2
  have hm:Mono (Ad w) (Γ.after w β' (A8 f l st.heap).2) (Ad w) (Γ.after w β' ((A8 f l st.heap).2.set b (some (.cells (A8 f l st.heap).1)))):=by
   refine ⟨fun B hB=>⟨hB.1,hB.2.1,fun hl=>hB.2.2 ?_⟩,fun _ _ _ _ h=>h⟩
   obtain ⟨b',r',q,hb2,hq⟩:=hl
   rw[List.getElem?_set] at hb2
   split at hb2
   ·rename_i e;subst e;exact ⟨b,_,q,hb',hq⟩
   ·exact ⟨b',r',q,hb2,hq⟩
  have:=Mk (r:=.cells (A8 f l st.heap).1) h1.sim hb' (h1.sub b p hp) e3 (w':=w) rfl rfl rfl rfl (fun _ _=>rfl) (.inr ⟨cs,cs,ty,g1,g1,rfl,fun _ _=>rfl⟩)
   ⟨by omega,e2,e3,cs,ty,g1,⟨by rw[<-hlen,g3];exact g2.1,g2.2.1,fun h=>g2.2.2 (JP f l _ h)⟩,us,hlen,fun j hj=>g4 j (by omega),relL_mono hm (fun _ _ h=>h) _ _ h2,g6⟩
  exact ⟨β',this,h1.sub,fun B hB=>hm.imm B (h1.mono.imm B hB),fun _ _ _ _ h=>h⟩
 ·exact ⟨β,.refl hs⟩
theorem ADo (f:BF) {x:AV} {v:Value} {st:St} {β:Nat->Option Place} (hs:SimB Γ st a w β) (hr:RelV (Ad w) (Γ.after w β st.heap) β x v):∃ β',Lifted Γ st a w β (C4 f x st.heap).2 β'/\RelV (Ad w) (Γ.after w β' (C4 f x st.heap).2) β' (C4 f x st.heap).1 v:=by
 unfold C4
 split
 ·rename_i g b
  obtain ⟨β1,g1⟩:=Uc g b hs
  exact ⟨β1,g1,CA g1.mono g1.sub _ _ hr⟩
 ·rename_i g h l
  simp only[RelV] at hr
  obtain ⟨us,hv,h1,h2⟩:=hr
  obtain ⟨β1,g1,g2⟩:=Jo (.pair g h) l us hs h1
  exact ⟨β1,g1,by simp only[RelV];exact ⟨us,hv,g2,h2⟩⟩
 ·exact ⟨β,.refl hs,hr⟩
theorem Fh:∀ (ps:List PK) (azs:List AV) (vs:List Value) {st:St} {β:Nat->Option Place},SimB Γ st a w β->RelL (Ad w) (Γ.after w β st.heap) β azs vs->∃ β',Lifted Γ st a w β (lift ps azs st.heap).2 β'/\RelL (Ad w) (Γ.after w β' (lift ps azs st.heap).2) β' (lift ps azs st.heap).1 vs
 |[],azs,vs,st,β,hs,hr=>⟨β,.refl hs,hr⟩
 |p::ps,[],vs,st,β,hs,hr=>by cases p<;>exact ⟨β,.refl hs,hr⟩
 |p::ps,x::azs,vs,st,β,hs,hr=>by
  simp only[RelL] at hr
  obtain ⟨u,us',rfl,h1,h2⟩:=hr
  have one:∀ e,∃ β',Lifted Γ st a w β (lift ps azs (BE e x st.heap).2).2 β'/\RelL (Ad w) (Γ.after w β' (lift ps azs (BE e x st.heap).2).2) β' ((BE e x st.heap).1::(lift ps azs (BE e x st.heap).2).1) (u::us'):=by
   intro e
   obtain ⟨β1,g1,g2⟩:=Ry hs e h1
   obtain ⟨β2,g3,g4⟩:=Fh ps azs us' g1.sim (relL_mono g1.mono g1.sub _ _ h2)
   exact ⟨β2,g1.trans g3,by simp only[RelL];exact ⟨u,us',rfl,CA g3.mono g3.sub _ _ g2,g4⟩⟩
  have none':∃ β',Lifted Γ st a w β (lift ps azs st.heap).2 β'/\RelL (Ad w) (Γ.after w β' (lift ps azs st.heap).2) β' (x::(lift ps azs st.heap).1) (u::us'):=by
   obtain ⟨β2,g3,g4⟩:=Fh ps azs us' hs h2
   exact ⟨β2,g3,by simp only[RelL];exact ⟨u,us',rfl,CA g3.mono g3.sub _ _ h1,g4⟩⟩
  cases p
  case row e=>exact one e
  case own e=>exact one e
  case obj f=>
   obtain ⟨β1,g1,g2⟩:=ADo f hs h1
   obtain ⟨β2,g3,g4⟩:=Fh ps azs us' g1.sim (relL_mono g1.mono g1.sub _ _ h2)
   exact ⟨β2,g1.trans g3,by simp only[lift,RelL];exact ⟨u,us',rfl,CA g3.mono g3.sub _ _ g2,g4⟩⟩
  case box f=>
   by_cases hx:∃ b,x=.ptr b 0 0
   ·obtain ⟨b,rfl⟩:=hx
    obtain ⟨β1,g1⟩:=Uc f b hs
    obtain ⟨β2,g3,g4⟩:=Fh ps azs us' g1.sim (relL_mono g1.mono g1.sub _ _ h2)
    exact ⟨β2,g1.trans g3,by simp only[lift,RelL];exact ⟨u,us',rfl,CA (Mono.trans' g1.mono g3.mono) (fun b q hq=>g3.sub b q (g1.sub b q hq)) _ _ h1,g4⟩⟩
   ·have:lift (.box f::ps) (x::azs) st.heap=(x::(lift ps azs st.heap).1,(lift ps azs st.heap).2):=by
     cases x<;>try rfl
     rename_i b i k
     cases i<;>cases k<;>first | rfl | exact absurd ⟨_,rfl⟩ hx
    rw[this];exact none'
  all_goals exact none'
where
 Mono.trans' {r1 r2 r3:Nat->Nat->Option Value} {I1 I2 I3:Nat->Prop} (h:Mono r1 I1 r2 I2) (k:Mono r2 I2 r3 I3):Mono r1 I1 r3 I3:=
  ⟨fun B hB=>k.imm B (h.imm B hB),fun B hB o v hv=>k.read B (h.imm B hB) o v (h.read B hB o v hv)⟩
end
end Go.AM
end
section
namespace Go.AM
open Go.RowKit (Below)
theorem Mono.trans {r1 r2 r3:Nat->Nat->Option Value} {I1 I2 I3:Nat->Prop} (h:Mono r1 I1 r2 I2) (k:Mono r2 I2 r3 I3):Mono r1 I1 r3 I3:=
 ⟨fun B hB=>k.imm B (h.imm B hB),fun B hB o v hv=>k.read B (h.imm B hB) o v (h.read B hB o v hv)⟩
theorem IS {rd:Nat->Nat->Option Value} {I:Nat->Prop} {β:Nat->Option Place}:∀ (t:GT) (x:t.ty) (us:List Value),RelL rd I β (AP t x) us->RelC rd I t x us
 |.int _,_,_,h=>by simp only[AP,RelL,RelV] at h;obtain ⟨u,us',rfl,rfl,rfl⟩:=h;simp[RelC]
 |.bool,_,_,h=>by simp only[AP,RelL,RelV] at h;obtain ⟨u,us',rfl,rfl,rfl⟩:=h;simp[RelC]
 |.str,_,_,h=>by simp only[AP,RelL,RelV] at h;obtain ⟨u,us',rfl,⟨b,rfl,hb⟩,rfl⟩:=h;simp only[RelC];exact ⟨b,rfl,hb⟩
 |.err,_,_,h=>by simp only[AP,RelL,RelV] at h;obtain ⟨u,us',rfl,h1,rfl⟩:=h;simp only[RelC];exact ⟨u,rfl,h1⟩
 |.sl _,_,_,h=>by simp only[AP,RelL,RelV] at h;obtain ⟨u,us',rfl,h1,rfl⟩:=h;exact h1.1
 |.unit,_,_,h=>by simp only[AP,RelL] at h;subst h;simp[RelC]
 |.pair a b,x,us,h=>by
  simp only[AP] at h
  obtain ⟨u1,u2,rfl,h1,h2⟩:=RB h
  simp only[RelC]
  exact ⟨u1,u2,rfl,IS a x.1 u1 h1,IS b x.2 u2 h2⟩
 |.ptr _,_,_,h=>by simp only[AP,RelL,RelV] at h;obtain ⟨u,us',rfl,h1,rfl⟩:=h;exact h1
 |.map _,_,_,h=>by simp only[AP,RelL,RelV] at h;obtain ⟨u,us',rfl,h1,rfl⟩:=h;exact h1
 |.chain _,_,_,h=>by simp only[AP,RelL,RelV] at h;obtain ⟨u,us',rfl,h1,rfl⟩:=h;exact h1
 |.osl _,_,_,h=>by simp only[AP,RelL,RelV] at h;obtain ⟨u,us',rfl,h1,rfl⟩:=h;exact h1
 |.fnv f c,x,_,h=>by
  simp only[AP,RelL,RelV] at h
  obtain ⟨u,us',rfl,⟨vs,rfl,h1⟩,rfl⟩:=h
  simp only[RelC]
  exact ⟨vs,rfl,IS c x vs h1⟩
theorem AA3 {rd:Nat->Nat->Option Value} {I:Nat->Prop} {β:Nat->Option Place} {t:GT} {x:t.ty} {v:Value} (h:RelV rd I β (enc t x) v):TV rd I t x v:=by
 unfold TV;unfold enc at h
 split
 ·rename_i ht
  rw[ht] at h
  simp only[RelV] at h
  obtain ⟨us,rfl,h,_⟩:=h
  exact ⟨us,rfl,IS t x us h⟩
 ·rename_i ht
  have ht':t.isAgg=false:=by simpa using ht
  obtain ⟨a,ha⟩:=RR ht' x
  rw[ht',ha] at h
  exact IS (β:=β) t x [v] (by rw[ha];simp only[RelL];exact ⟨v,[],rfl,h,rfl⟩)
def Place.part (p:Place) (off n:Nat):Place:={ p with O:=p.O+off * p.s,n:=n }
theorem ABe {p:Place} {off n:Nat} {v:Value} (h:Cz p off n v):Cz (p.part off n) 0 n v:=by
 obtain ⟨_,a,c,rfl,h1,h2,h3⟩:=h
 refine ⟨by simp[Place.part],a,c,rfl,h1,by simp[Place.part];exact h1,h3.imp id fun ⟨k,ha,hz⟩=>⟨k,by simp[Place.part,ha],?_⟩⟩
 simp only[Place.part,Nat.zero_add]
 rw[Nat.add_mul] at hz;omega
theorem Ya {w:World} {I:Nat->Prop} {β β':Nat->Option Place} {p:Place} {e:GT} {l:List e.ty} {off n:Nat} (h:Bo w I β p (.typed e l)) (hle:off+n<=p.n):Bo w I β' (p.part off n) (.typed e ((l.drop off).take n)):=by
 obtain ⟨h1,h2,h3,h4⟩:=h
 refine ⟨h1,by simp only[Place.part,List.length_take,List.length_drop];omega,fun hk=>?_,fun hk=>?_⟩
 ·have:=h3 hk;subst this;simp
 ·obtain ⟨cs,ty,g1,g2,g3⟩:=h4 hk
  have hm:(off+n) * p.s<=p.n * p.s:=Nat.mul_le_mul_right _ hle
  rw[Nat.add_mul] at hm
  refine ⟨cs,ty,g1,⟨by simp only[Place.part];omega,g2.2⟩,fun i x hi=>?_⟩
  rw[List.getElem?_take] at hi
  split at hi
  ·rw[List.getElem?_drop] at hi
   obtain ⟨us,u1,u2,u3⟩:=g3 _ x hi
   refine ⟨us,u1,fun j hj=>?_,u3⟩
   rw[<-u2 j hj]
   congr 1
   simp only[Place.part,h1,Nat.add_mul];omega
  ·cases hi
theorem AEq {w w':World} {I I':Nat->Prop} {β β' β2:Nat->Option Place} {p:Place} {e:GT} {l o:List e.ty} {off n:Nat} (h:Bo w I β p (.typed e l)) (hle:off+n<=p.n) (hm:Mono (Ad w) I (Ad w') I')
 (hq:Bo w' I' β2 (p.part off n) (.typed e o)) (hs:p.backed=true->Co w w' (p.part off n)) :
 Bo w' I' β' p (.typed e (l.take off++o++l.drop (off+n)))/\(p.backed=true->Co w w' p):=by
 obtain ⟨h1,h2,h3,h4⟩:=h
 obtain ⟨q1,q2,q3,q4⟩:=hq
 have q2':n=o.length:=q2
 have hlen:(l.take off++o++l.drop (off+n)).length=l.length:=by simp;omega
 refine ⟨⟨h1,by rw[hlen];exact h2,fun hk=>?_,fun hk=>?_⟩,fun hk=>?_⟩
 ·have:=h3 hk;subst this
  have:=q3 hk;subst this;simp
 ·obtain ⟨cs,ty,g1,g2,g3⟩:=h4 hk
  obtain ⟨cs',ty',k1,k2,k3⟩:=q4 hk
  obtain ⟨ds,ds',ty2,s1,s2,s3,s4⟩:=(hs hk).resolve_left fun ⟨_,_,_,_,s1,_⟩=>by
   have s1':w.heap[p.B]?=some (.map _ _):=s1
   rw[g1] at s1';cases s1'
  have s1':w.heap[p.B]?=some (.cells ds ty2 (0,0)):=s1
  have s2':w'.heap[p.B]?=some (.cells ds' ty2 (0,0)):=s2
  have k1':w'.heap[p.B]?=some (.cells cs' ty' (0,0)):=k1
  rw[g1] at s1';cases s1'
  rw[k1'] at s2';cases s2'
  have g21:=g2.1
  have g22:=g2.2.1
  refine ⟨cs',ty,k1',⟨by omega,by omega,g2.2.2.1,by rw[s3];exact g2.2.2.2⟩,fun i x hi=>?_⟩
  have hpm:p.part off n=⟨p.B,p.O+off * p.s,p.s,n,p.z,p.backed⟩:=rfl
  rw[hpm] at s4 k3
  simp only at s4 k3
  by_cases c1:i < off
  ·rw[qZ1,qY8 (by simp;omega),List.getElem?_take,if_pos c1] at hi
   obtain ⟨us,u1,u2,u3⟩:=g3 i x hi
   refine ⟨us,u1,fun j hj=>?_,relC_mono hm _ _ _ u3⟩
   rw[s4 _ (.inl ?_)]
   ·exact u2 j hj
   ·have:(i+1) * e.cells<=off * e.cells:=Nat.mul_le_mul_right _ (by omega)
    rw[Nat.add_mul,Nat.one_mul] at this
    rw[h1];omega
  ·by_cases c2:i < off+n
   ·rw[qZ1,qY9 (by simp;omega),qY8 (by simp;omega)] at hi
    have hsub:i - (List.take off l).length=i - off:=by simp;omega
    rw[hsub] at hi
    obtain ⟨us,u1,u2,u3⟩:=k3 _ x hi
    refine ⟨us,u1,fun j hj=>?_,u3⟩
    rw[<-u2 j hj,h1]
    congr 1
    have:i * e.cells=off * e.cells+(i - off) * e.cells:=by rw[<-Nat.add_mul];congr 1;omega
    omega
   ·rw[qY9 (by simp;omega),List.getElem?_drop] at hi
    have hsub:off+n+(i - (List.take off l++o).length)=i:=by simp;omega
    rw[hsub] at hi
    obtain ⟨us,u1,u2,u3⟩:=g3 i x hi
    refine ⟨us,u1,fun j hj=>?_,relC_mono hm _ _ _ u3⟩
    rw[s4 _ (.inr ?_)]
    ·exact u2 j hj
    ·have:(off+n) * e.cells<=i * e.cells:=Nat.mul_le_mul_right _ (by omega)
     rw[Nat.add_mul] at this
     rw[h1];omega
 ·refine (hs hk).imp id fun ⟨ds,ds',ty2,s1,s2,s3,s4⟩=>?_
  refine ⟨ds,ds',ty2,s1,s2,s3,fun m hm'=>s4 m ?_⟩
  have:(off+n) * p.s<=p.n * p.s:=Nat.mul_le_mul_right _ hle
  rw[Nat.add_mul] at this
  simp only[Place.part]
  omega
theorem Lo {w w':World} {I I':Nat->Prop} {β β':Nat->Option Place} {p:Place} (hm:Mono (Ad w) I (Ad w') I') (hw:p.backed=true->w'.heap[p.B]?=w.heap[p.B]?):∀ (r:Row),(∀ l,r≠.cells l)->Bo w I β p r->Bo w' I' β' p r
 |.typed e l,_,h=>by
  obtain ⟨h1,h2,h3,h4⟩:=h
  refine ⟨h1,h2,h3,fun hk=>?_⟩
  obtain ⟨cs,ty,a1,a2,a3⟩:=h4 hk
  exact ⟨cs,ty,(hw hk).trans a1,a2,fun i x hi=>by obtain ⟨us,b1,b2,b3⟩:=a3 i x hi;exact ⟨us,b1,b2,relC_mono hm e x us b3⟩⟩
 |.cells l,hn,_=>absurd rfl (hn l)
 |.mapr t l,_,h=>by
  obtain ⟨h1,es,c,h2,h3,h4⟩:=h
  exact ⟨h1,es,c,(hw h1).trans h2,h3,fun i x hi=>by obtain ⟨e,kb,e1,e2,e3,e4⟩:=h4 i x hi;exact ⟨e,kb,e1,e2,e3,FA hm e4⟩⟩
abbrev BQ:=AV×Place×Option GT
def Cg (β:Nat->Option Place) (H:Ai) (z:BQ):Prop:=
 ∃ b p r0,z.1.row=some b/\H[b]?=some (some r0)/\β b=some p/\z.2.1.B=p.B/\z.2.1.backed=p.backed/\(z.1.whole=true->z.2.1=p)/\
 (z.1.whole=false->∃ (e:GT) (L:List e.ty) (off n:Nat),z.2.2=some e/\r0=.typed e L/\off+n<=p.n/\z.2.1=p.part off n/\∀ o:List e.ty,o.length=n->Du z.1 (some r0) (.typed e o)=.typed e (L.take off++o++L.drop (off+n)))
theorem Ml {gb:Nat} {w:World} {I:Nat->Prop} {β:Nat->Option Place} {H:Ai} (hc:Ctx gb w I β H) {e:GT} {a:AV} {v:Value} {l:List e.ty} {b':Nat} (hr:RelV (Ad w) I β a v) (hd:decC H (.sl e) [a]=some (l,[],[b'])) :
 ∃ q,Cg β H (a,q,some e)/\(∀ I' β',Mono (Ad w) I (Ad w) I'->Bo w I' β' q (.typed e l))/\∀ rd I' β' j,β' j=some q->RelV rd I' β' (.vw j) v:=by
 have key:∀ (b off n:Nat) (L:List e.ty),a.row=some b->H[b]?=some (some (.typed e L))->∀ p,β b=some p->Cz p off n v->l=(L.drop off).take n->(∀ o:List e.ty,o.length=n->Du a (some (.typed e L)) (.typed e o)=.typed e (L.take off++o++L.drop (off+n)))->(a.whole=true->p.part off n=p)->
  ∃ q,Cg β H (a,q,some e)/\(∀ I' β',Mono (Ad w) I (Ad w) I'->Bo w I' β' q (.typed e l))/\∀ rd I' β' j,β' j=some q->RelV rd I' β' (.vw j) v:=by
  intro b off n L har hb p hp hv hl hwb hwh
  obtain ⟨p',hp',_,hrow⟩:=hc.rows b _ hb
  rw[hp] at hp';cases hp'
  have hv':=ABe hv
  obtain ⟨hle,_⟩:=hv
  exact ⟨p.part off n,⟨b,p,_,har,hb,hp,rfl,rfl,hwh,fun _=>⟨e,L,off,n,rfl,rfl,hle,rfl,hwb⟩⟩,
   fun I' β' hm=>Lo hm (fun _=>rfl) _ (by simp) (by rw[hl];exact Ya (β':=β) hrow hle),fun _ _ β' j hj=>Gk.2 ⟨_,hj,hv'⟩⟩
 cases a<;>(try simp[decC] at hd;done)
 case dat t2 y=>cases t2<;>simp[decC] at hd
 case vw b=>
  simp only[decC] at hd
  split at hd
  ·rename_i e' l' hb
   split at hd
   ·rename_i he;subst he
    cases hd
    obtain ⟨p,hp,hv⟩:=Gk.1 hr
    obtain ⟨hn,_⟩:=Dj hc hb hp
    exact key b' 0 p.n l' rfl hb p hp hv (by simp[hn]) (fun o ho=>by simp[Du,hn]) (fun _=>by simp[Place.part])
   ·cases hd
  ·cases hd
 case pre b n=>
  simp only[decC] at hd
  split at hd
  ·rename_i e' l' hb
   split at hd
   ·rename_i he;subst he
    cases hd
    obtain ⟨p,hp,hv⟩:=Ei.1 hr
    exact key b' 0 n l' rfl hb p hp hv (by simp) (fun o ho=>by simp[Du]) (fun h=>by cases h)
   ·cases hd
  ·cases hd
 case sub b off n=>
  simp only[decC] at hd
  split at hd
  ·rename_i e' l' hb
   split at hd
   ·rename_i he;subst he
    cases hd
    obtain ⟨p,hp,hv⟩:=Fp.1 hr
    exact key b' off n l' rfl hb p hp hv (by simp) (fun o ho=>by simp[Du]) (fun h=>by cases h)
   ·cases hd
  ·cases hd
def At (β':Nat->Option Place) (k:Nat) (zs:List (BQ)):Prop:=∀ (i:Nat) z,zs[i]?=some z->β' (k+i)=some z.2.1
def DO (w:World) (I:Nat->Prop) (β':Nat->Option Place) (rows:Ai) (zs:List (BQ)):Prop:=∀ (i:Nat) r z,rows[i]?=some (some r)->zs[i]?=some z->Bo w I β' z.2.1 r
theorem FN {β':Nat->Option Place} {k:Nat} {z:BQ} {zs:List (BQ)} (h:At β' k (z::zs)):β' k=some z.2.1/\At β' (k+1) zs:=
 ⟨h 0 z rfl,fun i y hi=>by rw[Nat.add_assoc,Nat.add_comm 1 i];exact h (i+1) y (by simpa using hi)⟩
theorem MS {β':Nat->Option Place} {k:Nat} {a b:List (BQ)} (h:At β' k (a++b)):At β' k a/\At β' (k+a.length) b:=
 ⟨fun i z hi=>h i z (by rw[qY8 (List.getElem?_eq_some_iff.1 hi).1];exact hi),fun i z hi=>by rw[Nat.add_assoc];exact h (a.length+i) z (by rw[qY9 (by omega)];simpa using hi)⟩
theorem FS {w:World} {I:Nat->Prop} {β':Nat->Option Place} {r:Row} {rows:Ai} {z:BQ} {zs:List (BQ)} (h:Bo w I β' z.2.1 r) (k:DO w I β' rows zs):DO w I β' (some r::rows) (z::zs):=by
 intro i r' z' h1 h2
 cases i with
 |zero=>simp at h1 h2;subst h1 h2;exact h
 |succ i=>exact k i r' z' (by simpa using h1) (by simpa using h2)
theorem F6 {w:World} {I:Nat->Prop} {β':Nat->Option Place} {ra rb:Ai} {a b:List (BQ)} (hl:ra.length=a.length) (h:DO w I β' ra a) (k:DO w I β' rb b):DO w I β' (ra++rb) (a++b):=by
 intro i r z h1 h2
 rcases Nat.lt_or_ge i a.length with hi | hi
 ·rw[qY8 (by omega)] at h1 h2;exact h i r z h1 h2
 ·rw[qY9 (by omega)] at h1 h2;exact k _ r z (by rw[<-hl];exact h1) h2
theorem FW:∀ (f:BF) (x:Cw f) (j:Nat),(BS f x j).length=BN f
 |.dat _,_,_ | .own _,_,_ | .slf,_,_ | .mp _,_,_=>rfl
 |.pair f g,x,j=>by simp[BS,BN,FW f,FW g]
 |.box f,x,j=>by simp[BS,BN,FW f]
theorem AE2 (t:GT) (x:t.ty):Bz (AP t x)=false:=by
 have h:=KW t x
 cases hl:AP t x with
 |nil=>rfl
 |cons a l=>rw[hl] at h;simp only[List.all_cons,qY0,Bool.not_eq_true'] at h;exact h.1
theorem M9:∀ (f:BF) (x:Cw f) (k j:Nat),(BI f x k j).length=f.cells
 |.dat t,x,_,_=>DZ t x
 |.own _,_,_,_ | .slf,_,_,_ | .mp _,_,_,_ | .box _,_,_,_=>rfl
 |.pair f g,x,k,j=>by simp only[BI,qZ6,M9 f,M9 g,BF.cells]
theorem LK {H:Ai} {b:Nat}:∀ (f:BF) {l:List AV} {x:Cw f} {r u:List AV},BG H b f l=some (x,r,u)->∀ (y:Cw f) (k j:Nat),Bz (BI f y k j)=true->Bz l=true
 |.dat t,l,x,r,u,hd,y,k,j,h=>by rw[show BI (.dat t) y k j=AP t y from rfl,AE2] at h;cases h
 |.own e,l,x,r,u,hd,y,k,j,h | .mp t,l,x,r,u,hd,y,k,j,h | .box f,l,x,r,u,hd,y,k,j,h=>by simp[BI,Bz,AV.isSelf] at h
 |.slf,[],x,r,u,hd,y,k,j,h=>by simp[BG] at hd
 |.slf,a::l,x,r,u,hd,y,k,j,h=>by
  cases a<;>first | rfl | (simp[BG] at hd;done)
 |.pair f g,l,x,r,u,hd,y,k,j,h=>by
  simp only[BG] at hd
  split at hd
  ·cases hd
  ·rename_i h0
   split at hd
   ·rename_i h1
    simp only[BI] at h
    cases hc:BI f y.1 k j with
    |nil=>
     have:=M9 f y.1 k j
     rw[hc] at this
     exact absurd this.symm h0
    |cons a m=>
     refine LK f h1 y.1 k j ?_
     rw[hc] at h ⊢
     exact h
   ·cases hd
theorem IF {gb:Nat} {w:World} {I:Nat->Prop} {β:Nat->Option Place} {H:Ai} (hc:Ctx gb w I β H):∀ (f:BF) {b:Nat} {p:Place},(f.noSlf=true\/β b=some p/\p.backed=true)->∀ (l:List AV) (us:List Value) (x:Cw f) (r u:List AV),RelL (Ad w) I β l us->BG H b f l=some (x,r,u)->
 ∃ u1 u2,us=u1++u2/\RelL (Ad w) I β r u2/\∃ zt,u=zt.map (·.1)/\zt.length=BN f/\(∀ z∈zt,Cg β H z)/\
  ∀ I' β' k j,Mono (Ad w) I (Ad w) I'->(f.noSlf=true\/β' k=some p)->At β' j zt->RelL (Ad w) I' β' (BI f x k j) u1/\DO w I' β' (BS f x j) zt
 |.dat t,b,p,hbk,l,us,x,r,u,hr,hd=>by
  simp only[BG] at hd
  split at hd
  ·rename_i y r' m hy
   cases hd
   obtain ⟨hy',rfl⟩:=Mi (H:=H) _ _ _ _ _ hy
   obtain ⟨u1,u2,rfl,h1,h2⟩:=Fl hc t l us _ _ _ hr hy'
   exact ⟨u1,u2,rfl,h2,[],rfl,rfl,by simp,fun I' β' k j hm _ _=>⟨BO _ _ _ (relC_mono ((FH _).trans hm) _ _ _ h1),fun i r z h=>by simp[BS] at h⟩⟩
  ·cases hd
 |.own e,b,p,hbk,l,us,x,r,u,hr,hd=>by
  cases l with
  |nil=>simp[BG] at hd
  |cons a l=>
   simp only[RelL] at hr
   obtain ⟨v,us',rfl,h1,h2⟩:=hr
   simp only[BG] at hd
   split at hd
   ·rename_i y b' hy
    cases hd
    obtain ⟨q,q1,q2,q3⟩:=Ml hc h1 hy
    exact ⟨[v],us',rfl,h2,[(a,q,some e)],rfl,rfl,by simpa using q1,fun I' β' k j hm _ ha=>
     ⟨by simp only[BI,RelL];exact ⟨v,[],rfl,q3 _ _ _ _ (FN ha).1,rfl⟩,FS (q2 I' β' hm) fun i r z h=>by simp at h⟩⟩
   ·cases hd
 |.slf,b,p,hbk,l,us,x,r,u,hr,hd=>by
  obtain ⟨hb,hk⟩:=hbk.resolve_left (by simp[BF.noSlf])
  have fin:∀ (v:Value) (us':List Value),(v=.pointer none\/v=.pointer (some ⟨p.B,p.O,none⟩))->RelL (Ad w) I β r us'->∃ u1 u2,v::us'=u1++u2/\RelL (Ad w) I β r u2/\∃ zt:List (BQ),[]=zt.map (·.1)/\zt.length=BN .slf/\(∀ z∈zt,Cg β H z)/\
   ∀ I' β' k j,Mono (Ad w) I (Ad w) I'->(BF.noSlf .slf=true\/β' k=some p)->At β' j zt->RelL (Ad w) I' β' (BI .slf x k j) u1/\DO w I' β' (BS .slf x j) zt:=fun v us' hv h2=>
   ⟨[v],us',rfl,h2,[],rfl,rfl,by simp,fun I' β' k j _ hk' _=>⟨by simp only[BI,RelL,RelV];exact ⟨v,[],rfl,hv.imp id fun h=>⟨p,hk'.resolve_left (by simp[BF.noSlf]),hk,h⟩,rfl⟩,fun i r z h=>by simp[BS] at h⟩⟩
  cases l with
  |nil=>simp[BG] at hd
  |cons a l=>
   simp only[RelL] at hr
   obtain ⟨v,us',rfl,h1,h2⟩:=hr
   cases a<;>(try simp[BG] at hd;done)
   case selfp b'=>
    simp only[BG] at hd;split at hd
    ·rename_i e;subst e;cases hd
     simp only[RelV] at h1
     exact fin v us' (h1.imp id fun ⟨p',hp',_,h⟩=>by rw[hb] at hp';cases hp';exact h) h2
    ·cases hd
 |.mp t,b,p,hbk,l,us,x,r,u,hr,hd=>by
  cases l with
  |nil=>simp[BG] at hd
  |cons a l=>
   simp only[RelL] at hr
   obtain ⟨v,us',rfl,h1,h2⟩:=hr
   cases a<;>(try simp[BG] at hd;done)
   simp only[BG] at hd
   split at hd
   ·rename_i n _ t' l' hn
    split at hd
    ·rename_i e;subst e;cases hd
     simp only[RelV] at h1
     obtain ⟨q,hq,hqk,rfl⟩:=h1
     obtain ⟨q',hq',_,hrow⟩:=hc.rows _ _ hn
     rw[hq] at hq';cases hq'
     exact ⟨[_],us',rfl,h2,[(.mp n,q,none)],rfl,rfl,by simp only[qZ8,forall_eq];exact ⟨n,q,_,rfl,hn,hq,rfl,rfl,fun _=>rfl,fun h=>by cases h⟩,fun I' β' k j hm _ ha=>
      ⟨by simp only[BI,RelL,RelV];exact ⟨_,[],rfl,⟨q,(FN ha).1,hqk,rfl⟩,rfl⟩,FS (Lo hm (fun _=>rfl) _ (by simp) hrow) fun i r z h=>by simp at h⟩⟩
    ·cases hd
   ·cases hd
 |.box f,b,p,hbk,l,us,x,r,u,hr,hd=>by
  cases l with
  |nil=>simp[BG] at hd
  |cons a l=>
   simp only[RelL] at hr
   obtain ⟨v,us',rfl,h1,h2⟩:=hr
   cases a<;>(try simp[BG] at hd;done)
   rename_i n i k
   cases i with
   |succ i=>simp[BG] at hd
   |zero=>cases k with
    |succ k=>simp[BG] at hd
    |zero=>
     simp only[BG] at hd
     split at hd
     ·rename_i l' hn
      split at hd
      ·rename_i y u' hy
       cases hd
       simp only[RelV] at h1
       obtain ⟨q,hq,hqk,rfl⟩:=h1
       obtain ⟨q',hq',_,e1,e2,e3,cs,ty,g1,g2,ws,g3,g4,g5,g6⟩:=hc.rows n _ hn
       rw[hq] at hq';cases hq'
       obtain ⟨u1,u2,rfl,d1,zu,d2,d3,d4,d5⟩:=IF hc f (.inr ⟨hq,hqk⟩) l' ws _ [] u' g5 hy
       simp only[RelL] at d1;subst d1
       simp only[qY4] at g3 g4 g5 g6
       refine ⟨[_],us',rfl,h2,(.ptr n 0 0,q,none)::zu,by simp[d2],by simp[BN,d3],fun z hz=>?_,fun I' β' k j hm hk' ha=>?_⟩
       ·rcases List.mem_cons.1 hz with rfl | hz
        ·exact ⟨n,q,_,rfl,hn,hq,rfl,rfl,fun _=>rfl,fun h=>by cases h⟩
        ·exact d4 z hz
       ·obtain ⟨a1,a2⟩:=FN ha
        obtain ⟨c4,c5⟩:=d5 I' β' j (j+1) hm (.inr a1) a2
        have hlen:=Cx _ _ c4
        exact ⟨by simp only[BI,RelL,RelV];exact ⟨_,[],rfl,⟨q,a1,hqk,rfl⟩,rfl⟩,FS ⟨by simp only;omega,e2,e3,cs,ty,g1,⟨by have:=g2.1;show q.O+(BI f x j (j+1)).length<=cs.size;omega,g2.2.1,fun h=>g2.2.2 (LK f hy _ _ _ h)⟩,u1,hlen,fun i hi=>g4 i (by have:i < (BI f x j (j+1)).length:=hi;omega),c4,g6⟩ c5⟩
      ·cases hd
     ·cases hd
 |.pair f g,b,p,hbk,l,us,x,r,u,hr,hd=>by
  simp only[BG] at hd
  split at hd
  ·cases hd
  split at hd
  ·rename_i x1 r1 s1 h1
   split at hd
   ·rename_i x2 r2 s2 h2
    cases hd
    have nsf:(BF.pair f g).noSlf=true->f.noSlf=true:=fun h=>by simp only[BF.noSlf,qY0] at h;exact h.1
    have nsg:(BF.pair f g).noSlf=true->g.noSlf=true:=fun h=>by simp only[BF.noSlf,qY0] at h;exact h.2
    obtain ⟨u1,u2,rfl,a1,za,a2,a3,a4,a5⟩:=IF hc f (hbk.imp nsf id) l us x1 r1 s1 hr h1
    obtain ⟨u3,u4,rfl,b1,zb,b2,b3,b4,b5⟩:=IF hc g (hbk.imp nsg id) r1 u2 x2 _ s2 a1 h2
    refine ⟨u1++u3,u4,by simp,b1,za++zb,by simp[a2,b2],by simp[BN,a3,b3],fun z hz=>(List.mem_append.1 hz).elim (a4 z) (b4 z),fun I' β' k j hm hk' ha=>?_⟩
    obtain ⟨c1,c2⟩:=MS ha
    obtain ⟨d1,d2⟩:=a5 I' β' k j hm (hk'.imp nsf id) c1
    obtain ⟨e1,e2⟩:=b5 I' β' k _ hm (hk'.imp nsg id) c2
    rw[a3] at e1 e2
    exact ⟨DA d1 e1,F6 (by rw[FW,a3]) d2 e2⟩
   ·cases hd
  ·cases hd
def tyK:List PK->List (Option GT)
 |[]=>[]
 |.row e::ps=>some e::tyK ps
 |.box _::ps | .mp _::ps=>none::tyK ps
 |_::ps=>tyK ps
theorem HS:∀ (ps:List PK) (o:BM ps) (k j i:Nat) (e:GT),(tyK ps)[i]?=some (some e)->∃ l,(BD (opsOf ps) o k j)[i]?=some (some (.typed e l))
 |[],_,_,_,i,e,h=>by simp[tyK] at h
 |p::ps,o,k,j,i,e,h=>by
  cases p
  case box f=>
   cases i with
   |zero=>simp[tyK] at h
   |succ i=>obtain ⟨l,hl⟩:=HS ps o.2 (k+1) (j+BN f) i e (by simpa [tyK] using h);exact ⟨l,by simpa [opsOf,BD] using hl⟩
  case row e'=>
   cases i with
   |zero=>simp[tyK] at h;subst h;exact ⟨o.1,rfl⟩
   |succ i=>obtain ⟨l,hl⟩:=HS ps o.2 (k+1) j i e (by simpa [tyK] using h);exact ⟨l,by simpa [opsOf,BD] using hl⟩
  case mp t=>
   cases i with
   |zero=>simp[tyK] at h
   |succ i=>obtain ⟨l,hl⟩:=HS ps o.2 (k+1) j i e (by simpa [tyK] using h);exact ⟨l,by simpa [opsOf,BD] using hl⟩
  all_goals exact HS ps o k j i e h
theorem E5:∀ (ps:List PK) (x:Ao ps) (k j:Nat),(BD ps x k j).length=cntK ps
 |[],_,_,_=>rfl
 |p::ps,x,k,j=>by cases p<;>simp[BD,cntK,E5 ps]
theorem HA:∀ (ps:List PK) (x:Ao ps) (j:Nat),(BX ps x j).length=cntN ps
 |[],_,_=>rfl
 |p::ps,x,j=>by cases p<;>simp[BX,cntN,HA ps,FW]
theorem Iq:∀ ps:List PK,cntK (opsOf ps)=cntK ps
 |[]=>rfl
 |p::ps=>by cases p<;>simp[opsOf,cntK,Iq ps]
theorem Ir:∀ (f:BF) (x:Cw f) (j:Nat),∀ r∈BS f x j,∃ r',r=some r'
 |.dat _,_,_,r,h | .slf,_,_,r,h=>by simp[BS] at h
 |.own _,_,_,r,h | .mp _,_,_,r,h=>by simp[BS] at h;exact ⟨_,h⟩
 |.pair f g,x,j,r,h=>by simp only[BS,qZ7] at h;exact h.elim (Ir f x.1 _ r) (Ir g x.2 _ r)
 |.box f,x,j,r,h=>by simp only[BS,qY12] at h;exact h.elim (fun h=>⟨_,h⟩) (Ir f x _ r)
theorem GD:∀ (ps:List PK) (x:Ao ps) (k j:Nat),∀ r∈BD ps x k j,∃ r',r=some r'
 |[],_,_,_,r,h=>by simp[BD] at h
 |p::ps,x,k,j,r,h=>by
  cases p<;>simp only[BD,qY12] at h
  case box f=>exact h.elim (fun h=>⟨_,h⟩) (GD ps x.2 _ _ r)
  case row e=>exact h.elim (fun h=>⟨_,h⟩) (GD ps x.2 _ _ r)
  case mp t=>exact h.elim (fun h=>⟨_,h⟩) (GD ps x.2 _ _ r)
  all_goals exact GD ps x.2 _ _ r h
theorem GU:∀ (ps:List PK) (x:Ao ps) (j:Nat),∀ r∈BX ps x j,∃ r',r=some r'
 |[],_,_,r,h=>by simp[BX] at h
 |p::ps,x,j,r,h=>by
  cases p<;>simp only[BX,qY12,qZ7] at h
  case box f=>exact h.elim (Ir f x.1 _ r) (GU ps x.2 _ r)
  case own e=>exact h.elim (fun h=>⟨_,h⟩) (GU ps x.2 _ r)
  case obj f=>exact h.elim (Ir f _ _ r) (GU ps x.2 _ r)
  all_goals exact GU ps x.2 _ r h
structure DecOK (w:World) (I:Nat->Prop) (β:Nat->Option Place) (H:Ai) (V:List AV) (ps:List PK) (x:Ao ps) (vs:List Value) (s t:List AV) (m:List Nat) (zs zt:List (BQ)):Prop where
 s_eq:s=zs.map (·.1)
 t_eq:t=zt.map (·.1)
 ty:zs.map (·.2.2)=tyK ps
 lenK:zs.length=cntK ps
 lenN:zt.length=cntN ps
 refs:∀ z∈zs,Cg β H z
 reft:∀ z∈zt,Cg β H z
 alive:∀ b∈m,∃ r,H[b]?=some (some r)
 vals:∀ I' β' k j,Mono (Ad w) (Bp I β m) (Ad w) I'->At β' k zs->At β' j zt->(∀ (i b:Nat) p,V[i]?=some (.vw b)->β b=some p->β' i=some p)->
  RelL (Ad w) I' β' (AS ps x k j) vs/\DO w I' β' (BD ps x k j) zs/\DO w I' β' (BX ps x j) zt
theorem XL {rd:Nat->Nat->Option Value} {I:Nat->Prop} {β:Nat->Option Place} {f:BF} {a:AV} {l:List AV} {v:Value} (h:Ks f a=some l) (hr:RelV rd I β a v):∃ us,RelL rd I β l us/\∀ I' β' l',RelL rd I' β' l' us->RelV rd I' β' (GB f l') v:=by
 have one:∀ I' β' l',RelL rd I' β' l' [v]->∃ c,l'=[c]/\RelV rd I' β' c v:=by
  intro I' β' l' h
  cases l' with
  |nil=>simp[RelL] at h
  |cons c r=>
   simp only[RelL] at h
   obtain ⟨u,us',e,h1,h2⟩:=h
   cases e
   cases r with
   |nil=>exact ⟨c,rfl,h1⟩
   |cons _ _=>simp[RelL] at h2
 have single:(∀ g k,f≠.pair g k)->l=[a]->∃ us,RelL rd I β l us/\∀ I' β' l',RelL rd I' β' l' us->RelV rd I' β' (GB f l') v:=by
  rintro hf rfl
  refine ⟨[v],by simp only[RelL];exact ⟨v,[],rfl,hr,rfl⟩,fun I' β' l' h=>?_⟩
  obtain ⟨c,rfl,hc⟩:=one _ _ _ h
  cases f<;>first | exact hc | exact absurd rfl (hf _ _)
 cases f with
 |pair g k=>
  cases a<;>simp only[Ks,Option.some.injEq,reduceCtorEq] at h
  subst h
  simp only[RelV] at hr
  obtain ⟨us,hv,h1,h2⟩:=hr
  exact ⟨us,h1,fun I' β' l' h=>by simp only[GB,RelV];exact ⟨us,hv,h,h2⟩⟩
 |_=>simp only[Ks,Option.some.injEq] at h;exact single (by simp) h.symm
theorem Dn {gb:Nat} {w:World} {I:Nat->Prop} {β:Nat->Option Place} {H:Ai} (hc:Ctx gb w I β H) (V:List AV):∀ (ps:List PK) (azs:List AV) (vs:List Value) (x:Ao ps) (s t:List AV) (m:List Nat),RelL (Ad w) I β azs vs->AF H V ps azs=some (x,s,t,m)->
 ∃ zs zt,DecOK w I β H V ps x vs s t m zs zt
 |[],azs,vs,x,s,t,m,hr,hd=>by
  cases azs with
  |nil=>simp only[RelL] at hr;subst hr;simp only[AF] at hd;cases hd;exact ⟨[],[],rfl,rfl,rfl,rfl,rfl,by simp,by simp,by simp,fun _ _ _ _ _ _ _ _=>⟨by simp[AS,RelL],fun i r z h=>by simp[BD] at h,fun i r z h=>by simp[BX] at h⟩⟩
  |cons a azs=>simp[AF] at hd
 |.val t0::ps,azs,vs,x,s,t,m,hr,hd=>by
  cases azs with
  |nil=>simp[AF] at hd
  |cons a azs=>
   simp only[RelL] at hr
   obtain ⟨v,vs',rfl,h1,h2⟩:=hr
   simp only[AF] at hd
   split at hd
   ·rename_i y m1 hy
    split at hd
    ·rename_i r s1 t1 m2 hr2
     cases hd
     obtain ⟨zs,zt,g⟩:=Dn hc V ps azs vs' r s t m2 h2 hr2
     refine ⟨zs,zt,⟨g.s_eq,g.t_eq,g.ty,g.lenK,g.lenN,g.refs,g.reft,fun b hb=>(List.mem_append.1 hb).elim (P' hy b) (g.alive b),fun I' β' k j hI ha hb hv=>?_⟩⟩
     obtain ⟨c1,c2⟩:=g.vals I' β' k j ((withRows_mono _ _ (by intro b hb;simp[hb]) _).trans hI) ha hb hv
     exact ⟨by simp only[AS,RelL];exact ⟨v,vs',rfl,Dt (FA ((withRows_mono _ _ (by intro b hb;simp[hb]) _).trans hI) (decV_ok hc h1 hy)),c1⟩,c2⟩
    ·cases hd
   ·cases hd
 |.box f::ps,azs,vs,x,s,t,m,hr,hd=>by
  cases azs with
  |nil=>simp[AF] at hd
  |cons a azs=>
   cases a<;>(try simp[AF] at hd;done)
   rename_i b i k
   cases i with
   |succ i=>simp[AF] at hd
   |zero=>cases k with
    |succ k=>simp[AF] at hd
    |zero=>
     simp only[RelL] at hr
     obtain ⟨v,vs',rfl,h1,h2⟩:=hr
     simp only[AF] at hd
     split at hd
     ·rename_i l hb
      split at hd
      ·rename_i y u hy
       split at hd
       ·rename_i r s1 t1 m2 hr2
        cases hd
        simp only[RelV] at h1
        obtain ⟨p,hp,hk,rfl⟩:=h1
        obtain ⟨p',hp',_,e1,e2,e3,cs,ty,g1,g2,us,g3,g4,g5,g6⟩:=hc.rows b _ hb
        rw[hp] at hp';cases hp'
        obtain ⟨u1,u2,rfl,d1,zu,d2,d3,d4,d5⟩:=IF hc f (.inr ⟨hp,hk⟩) l us y [] u g5 hy
        simp only[RelL] at d1;subst d1
        simp only[qY4] at g3 g4 g5 g6
        obtain ⟨zs,zt,g⟩:=Dn hc V ps azs vs' r s1 t1 m h2 hr2
        refine ⟨(.ptr b 0 0,p,none)::zs,zu++zt,⟨by simp[g.s_eq],by simp[d2,g.t_eq],by simp[tyK,g.ty],by simp[cntK,g.lenK],by simp[cntN,d3,g.lenN],fun z hz=>?_,fun z hz=>(List.mem_append.1 hz).elim (d4 z) (g.reft z),g.alive,fun I' β' k j hI ha hb' hv=>?_⟩⟩
        ·rcases List.mem_cons.1 hz with rfl | hz
         ·exact ⟨b,p,_,rfl,hb,hp,rfl,rfl,fun _=>rfl,fun h=>by cases h⟩
         ·exact g.refs z hz
        ·obtain ⟨a1,a2⟩:=FN ha
         obtain ⟨b1,b2⟩:=MS hb'
         rw[d3] at b2
         obtain ⟨c1,c2,c3⟩:=g.vals I' β' (k+1) (j+BN f) hI a2 b2 hv
         obtain ⟨c4,c5⟩:=d5 I' β' k j ((withRows_base m _).trans hI) (.inr a1) b1
         have hlen:=Cx _ _ c4
         refine ⟨by simp only[AS,RelL,RelV];exact ⟨_,vs',rfl,⟨p,a1,hk,rfl⟩,c1⟩,FS ⟨by simp only;omega,e2,e3,cs,ty,g1,⟨by have:=g2.1;show p.O+(BI f y k j).length<=cs.size;omega,g2.2.1,fun h=>g2.2.2 (LK f hy _ _ _ h)⟩,u1,hlen,fun i hi=>g4 i (by have:i < (BI f y k j).length:=hi;omega),c4,g6⟩ c2,?_⟩
         exact F6 (by rw[FW,d3]) c5 c3
       ·cases hd
      ·cases hd
     ·cases hd
 |.row e::ps,azs,vs,x,s,t,m,hr,hd=>by
  cases azs with
  |nil=>simp[AF] at hd
  |cons a azs=>
   simp only[RelL] at hr
   obtain ⟨v,vs',rfl,h1,h2⟩:=hr
   simp only[AF] at hd
   split at hd
   ·rename_i y b' hy
    split at hd
    ·rename_i r s1 t1 m2 hr2
     cases hd
     obtain ⟨q,q1,q2,q3⟩:=Ml hc h1 hy
     obtain ⟨zs,zt,g⟩:=Dn hc V ps azs vs' r s1 t m h2 hr2
     refine ⟨(a,q,some e)::zs,zt,⟨by simp[g.s_eq],g.t_eq,by simp[tyK,g.ty],by simp[cntK,g.lenK],g.lenN,fun z hz=>(List.mem_cons.1 hz).elim (fun h=>h ▸ q1) (g.refs z),g.reft,g.alive,fun I' β' k j hI ha hb' hv=>?_⟩⟩
     obtain ⟨a1,a2⟩:=FN ha
     obtain ⟨c1,c2,c3⟩:=g.vals I' β' (k+1) j hI a2 hb' hv
     exact ⟨by simp only[AS,RelL];exact ⟨v,vs',rfl,q3 _ _ _ _ a1,c1⟩,FS (q2 I' β' ((withRows_base m _).trans hI)) c2,c3⟩
    ·cases hd
   ·cases hd
 |.own e::ps,azs,vs,x,s,t,m,hr,hd=>by
  cases azs with
  |nil=>simp[AF] at hd
  |cons a azs=>
   simp only[RelL] at hr
   obtain ⟨v,vs',rfl,h1,h2⟩:=hr
   simp only[AF] at hd
   split at hd
   ·rename_i y b' hy
    split at hd
    ·rename_i r s1 t1 m2 hr2
     cases hd
     obtain ⟨q,q1,q2,q3⟩:=Ml hc h1 hy
     obtain ⟨zs,zt,g⟩:=Dn hc V ps azs vs' r s t1 m h2 hr2
     refine ⟨zs,(a,q,some e)::zt,⟨g.s_eq,by simp[g.t_eq],g.ty,g.lenK,by simp[cntN,g.lenN],g.refs,fun z hz=>(List.mem_cons.1 hz).elim (fun h=>h ▸ q1) (g.reft z),g.alive,fun I' β' k j hI ha hb' hv=>?_⟩⟩
     obtain ⟨a1,a2⟩:=FN hb'
     obtain ⟨c1,c2,c3⟩:=g.vals I' β' k (j+1) hI ha a2 hv
     exact ⟨by simp only[AS,RelL];exact ⟨v,vs',rfl,q3 _ _ _ _ a1,c1⟩,c2,FS (q2 I' β' ((withRows_base m _).trans hI)) c3⟩
    ·cases hd
   ·cases hd
 |.obj f::ps,azs,vs,x,s,t,m,hr,hd=>by
  cases azs with
  |nil=>simp[AF] at hd
  |cons a azs=>
   simp only[RelL] at hr
   obtain ⟨v,vs',rfl,h1,h2⟩:=hr
   simp only[AF] at hd
   split at hd
   ·rename_i l hl
    split at hd
    ·rename_i hns
     split at hd
     ·rename_i y u hy
      split at hd
      ·rename_i r s1 t1 m2 hr2
       cases hd
       obtain ⟨us,o1,o2⟩:=XL hl h1
       obtain ⟨u1,u2,rfl,d1,zu,d2,d3,d4,d5⟩:=IF (b:=0) (p:=⟨0,0,0,0,0,false⟩) hc f (.inl hns) l us y [] u o1 hy
       simp only[RelL] at d1;subst d1
       obtain ⟨zs,zt,g⟩:=Dn hc V ps azs vs' r s t1 m h2 hr2
       refine ⟨zs,zu++zt,⟨g.s_eq,by simp[d2,g.t_eq],g.ty,g.lenK,by simp[cntN,d3,g.lenN],g.refs,fun z hz=>(List.mem_append.1 hz).elim (d4 z) (g.reft z),g.alive,fun I' β' k j hI ha hb' hv=>?_⟩⟩
       obtain ⟨b1,b2⟩:=MS hb'
       rw[d3] at b2
       obtain ⟨c1,c2,c3⟩:=g.vals I' β' k (j+BN f) hI ha b2 hv
       obtain ⟨c4,c5⟩:=d5 I' β' 0 j ((withRows_base m _).trans hI) (.inl hns) b1
       exact ⟨by simp only[AS,RelL];exact ⟨_,vs',rfl,o2 _ _ _ (by simpa using c4),c1⟩,c2,F6 (by rw[FW,d3]) c5 c3⟩
      ·cases hd
     ·cases hd
    ·cases hd
   ·cases hd
 |.mp t0::ps,azs,vs,x,s,t,m,hr,hd=>by
  cases azs with
  |nil=>simp[AF] at hd
  |cons a azs=>
   simp only[RelL] at hr
   obtain ⟨v,vs',rfl,h1,h2⟩:=hr
   cases a<;>(try simp[AF] at hd;done)
   simp only[AF] at hd
   split at hd
   ·rename_i b _ t' l' hb
    split at hd
    ·rename_i e;subst e
     split at hd
     ·rename_i r s1 t1 m2 hr2
      cases hd
      simp only[RelV] at h1
      obtain ⟨q,hq,hqk,rfl⟩:=h1
      obtain ⟨q',hq',_,hrow⟩:=hc.rows _ _ hb
      rw[hq] at hq';cases hq'
      obtain ⟨zs,zt,g⟩:=Dn hc V ps azs vs' r s1 t m h2 hr2
      refine ⟨(.mp b,q,none)::zs,zt,⟨by simp[g.s_eq],g.t_eq,by simp[tyK,g.ty],by simp[cntK,g.lenK],g.lenN,fun z hz=>(List.mem_cons.1 hz).elim (fun h=>h ▸ ⟨b,q,_,rfl,hb,hq,rfl,rfl,fun _=>rfl,fun h=>by cases h⟩) (g.refs z),g.reft,g.alive,fun I' β' k j hI ha hb' hv=>?_⟩⟩
      obtain ⟨a1,a2⟩:=FN ha
      obtain ⟨c1,c2,c3⟩:=g.vals I' β' (k+1) j hI a2 hb' hv
      exact ⟨by simp only[AS,RelL,RelV];exact ⟨_,vs',rfl,⟨q,a1,hqk,rfl⟩,c1⟩,FS (Lo ((withRows_base m _).trans hI) (fun _=>rfl) _ (by simp) hrow) c2,c3⟩
     ·cases hd
    ·cases hd
   ·cases hd
 |.view i0::ps,azs,vs,x,s,t,m,hr,hd=>by
  cases azs with
  |nil=>simp[AF] at hd
  |cons a azs=>
   simp only[RelL] at hr
   obtain ⟨v,vs',rfl,h1,h2⟩:=hr
   have fin:∀ (b n:Nat) (p:Place) (r:Ao ps) (s t:List AV) (m:List Nat),V[i0]?=some (.vw b)->β b=some p->Cz p 0 n v->AF H V ps azs=some (r,s,t,m)->∃ zs zt,DecOK w I β H V (.view i0::ps) (n,r) (v::vs') s t m zs zt:=by
    intro b n p r s t m hv1 hv2 hv3 hr2
    obtain ⟨zs,zt,g⟩:=Dn hc V ps azs vs' r s t m h2 hr2
    refine ⟨zs,zt,⟨g.s_eq,g.t_eq,g.ty,g.lenK,g.lenN,g.refs,g.reft,g.alive,fun I' β' k j hI ha hb' hv=>?_⟩⟩
    obtain ⟨c1,c2⟩:=g.vals I' β' k j hI ha hb' hv
    exact ⟨by simp only[AS,RelL];exact ⟨v,vs',rfl,Ei.2 ⟨p,hv i0 b p hv1 hv2,hv3⟩,c1⟩,c2⟩
   cases a<;>(try simp[AF] at hd;done)
   case vw b=>
    simp only[AF] at hd
    split at hd
    ·rename_i b' e l e1 e2
     split at hd
     ·rename_i e3;subst e3
      split at hd
      ·rename_i r s1 t1 m2 hr2
       cases hd
       obtain ⟨p,hp,hv⟩:=Gk.1 h1
       obtain ⟨hn,_⟩:=Dj hc e2 hp
       rw[hn] at hv
       exact fin _ _ p _ _ _ _ e1 hp hv hr2
      ·cases hd
     ·cases hd
    ·cases hd
   case pre b n=>
    simp only[AF] at hd
    split at hd
    ·rename_i b' e1
     split at hd
     ·rename_i e3;subst e3
      split at hd
      ·rename_i r s1 t1 m2 hr2
       cases hd
       obtain ⟨p,hp,hv⟩:=Ei.1 h1
       exact fin _ _ p _ _ _ _ e1 hp hv hr2
      ·cases hd
     ·cases hd
    ·cases hd
end Go.AM
end
section
namespace Go.AM
open Go.RowKit (Below)
theorem Nn:∀ (azs:List AV) (rs H:Ai),(BU azs rs H).length=H.length
 |[],_,_=>rfl
 |_::_,[],_=>rfl
 |_::_,none::_,_=>rfl
 |a::azs,some r::rs,H=>by
  simp only[BU]
  split
  ·rw[Nn,List.length_set]
  ·rw[Nn]
theorem Kc:∀ (l:List Nat),BZ l=true->l.Nodup
 |[],_=>List.nodup_nil
 |a::l,h=>by
  simp only[BZ,qY0,Bool.not_eq_true',List.contains_eq_mem,decide_eq_false_iff_not] at h
  exact List.nodup_cons.2 ⟨h.1,Kc l h.2⟩
theorem Gt:∀ {azs:List AV} {i:Nat} {a:AV} {b:Nat},azs[i]?=some a->a.row=some b->b∈Ax azs
 |[],i,a,b,h,_=>by simp at h
 |x::azs,0,a,b,h,hb=>by simp at h;subst h;simp[Ax,hb]
 |x::azs,i+1,a,b,h,hb=>by
  have:=Gt (azs:=azs) (by simpa using h) hb
  simp only[Ax]
  split
  ·exact qY13 _ this
  ·exact this
theorem Ll:∀ {azs:List AV} {b:Nat},b∈Ax azs->∃ (i:Nat) (a:AV),azs[i]?=some a/\a.row=some b
 |[],b,h=>by simp[Ax] at h
 |x::azs,b,h=>by
  simp only[Ax] at h
  split at h
  ·rename_i c hc
   rcases List.mem_cons.1 h with rfl | h
   ·exact ⟨0,x,rfl,hc⟩
   ·obtain ⟨i,a,h1,h2⟩:=Ll h
    exact ⟨i+1,a,by simpa using h1,h2⟩
  ·obtain ⟨i,a,h1,h2⟩:=Ll h
   exact ⟨i+1,a,by simpa using h1,h2⟩
theorem Ji:∀ (azs:List AV) (rs H:Ai) (b:Nat),b∉Ax azs->(BU azs rs H)[b]?=H[b]?
 |[],_,_,_,_=>rfl
 |_::_,[],_,_,_=>rfl
 |_::_,none::_,_,_,_=>rfl
 |a::azs,some r::rs,H,b,h=>by
  simp only[BU]
  simp only[Ax] at h
  split
  ·rename_i c hc
   rw[hc] at h
   simp only[qY12,not_or] at h
   rw[Ji _ _ _ _ h.2,List.getElem?_set_ne (fun e=>h.1 e.symm)]
  ·rename_i hc
   rw[hc] at h
   exact Ji _ _ _ _ h
theorem Lc:∀ (azs:List AV) (rs H:Ai),BZ (Ax azs)=true->(∀ r∈rs,∃ r',r=some r')->∀ (i:Nat) a r b,azs[i]?=some a->rs[i]?=some (some r)->a.row=some b->b < H.length->(BU azs rs H)[b]?=some (some (Du a (H[b]?.getD none) r))
 |[],_,_,_,_,i,a,r,b,h,_,_,_=>by simp at h
 |_::_,[],_,_,_,i,a,r,b,_,h,_,_=>by simp at h
 |x::azs,none::rs,_,_,hs,i,a,r,b,h1,h2,_,_=>by obtain ⟨r',h⟩:=hs none (by simp);cases h
 |x::azs,some y::rs,H,hn,hs,i,a,r,b,h1,h2,hb,hlt=>by
  have hn':=Kc _ hn
  simp only[BU]
  cases i with
  |zero=>
   simp at h1 h2;subst h1 h2
   simp only[Ax,hb] at hn'
   rw[hb]
   simp only
   rw[Ji _ _ _ _ (List.nodup_cons.1 hn').1,List.getElem?_set_self hlt]
  |succ i=>
   have hmem:=Gt (azs:=azs) (by simpa using h1) hb
   split
   ·rename_i c hc
    simp only[Ax,hc] at hn' hn
    have hne:c≠b:=fun e=>(List.nodup_cons.1 hn').1 (e ▸ hmem)
    simp only[BZ,qY0] at hn
    rw[Lc azs rs _ hn.2 (fun r hr=>hs r (qY13 _ hr)) i a r b (by simpa using h1) (by simpa using h2) hb (by rw[List.length_set];exact hlt),List.getElem?_set_ne hne]
   ·rename_i hc
    simp only[Ax,hc] at hn
    exact Lc azs rs _ hn (fun r hr=>hs r (qY13 _ hr)) i a r b (by simpa using h1) (by simpa using h2) hb hlt
theorem ME (m:List Nat):∀ H:Ai,(killAll m H).length=H.length:=by
 induction m with
 |nil=>exact fun _=>rfl
 |cons b m ih=>intro H;simp only[killAll,List.foldl_cons];exact (ih _).trans List.length_set
theorem HG (m:List Nat):∀ (H:Ai) (b:Nat) r,(killAll m H)[b]?=some (some r)->b∉m/\H[b]?=some (some r):=by
 induction m with
 |nil=>exact fun _ _ _ h=>⟨by simp,h⟩
 |cons c m ih=>
  intro H b r h
  simp only[killAll,List.foldl_cons] at h
  obtain ⟨h1,h2⟩:=ih _ b r h
  by_cases e:c=b
  ·subst e
   rw[List.getElem?_set] at h2
   simp only[if_true] at h2
   split at h2<;>simp at h2
  ·rw[List.getElem?_set_ne e] at h2
   exact ⟨by simp[h1];exact fun e'=>e e'.symm,h2⟩
theorem Pg (m:List Nat):∀ (H:Ai) (b:Nat),b∉m->(killAll m H)[b]?=H[b]?:=by
 induction m with
 |nil=>exact fun _ _ _=>rfl
 |cons c m ih=>
  intro H b h
  simp only[qY12,not_or] at h
  simp only[killAll,List.foldl_cons]
  refine (ih _ b h.2).trans (List.getElem?_set_ne fun e=>h.1 e.symm)
theorem Ls {Γ:Base} {st:St} {a:Act} {w:World} {β:Nat->Option Place} (h:SimB Γ st a w β) {H':Ai} (hl:H'.length=st.heap.length) (hs:∀ (b:Nat) r,H'[b]?=some (some r)->st.heap[b]?=some (some r)) :
 SimB Γ { st with heap:=H' } a w β/\∀ B,(Γ.after w β st.heap B\/(AN st.heap β B/\¬ AN H' β B))->Γ.after w β H' B:=by
 have hlive:∀ B,AN H' β B->AN st.heap β B:=by
  rintro B ⟨b,r,q,hb,hq⟩;exact ⟨b,r,q,hs b r hb,hq⟩
 have himm:∀ B,(Γ.after w β st.heap B\/(AN st.heap β B/\¬ AN H' β B))->Γ.after w β H' B:=by
  rintro B (hB | ⟨⟨b,r,p,hb,hp,hk,rfl⟩,hn⟩)
  ·exact ⟨hB.1,hB.2.1,fun hl=>hB.2.2 (hlive B hl)⟩
  ·obtain ⟨q,hq,hg,_⟩:=h.ctx.rows b r hb
   rw[hp] at hq;cases hq
   refine ⟨(hg hk).2,?_,hn⟩
   rcases h.own b r p hb hp hk with h' | h'
   ·exact .inr (.inr h')
   ·exact .inr (.inl h')
 have hmono:Mono (Ad w) (Γ.after w β st.heap) (Ad w) (Γ.after w β H'):=⟨fun B hB=>himm B (.inl hB),fun _ _ _ _ h=>h⟩
 refine ⟨⟨⟨fun b' r' hb'=>?_,fun b1 b2 r1 r2 p1 p2 hb1 hb2 hp1 hp2 k1 k2 hB=>?_,fun B hB=>⟨hB.1,hB.2.2⟩,fun b' hb'=>h.ctx.dom b' (by rw[<-hl];exact hb')⟩,h.frm,h.len,fun t x hx=>?_,h.defers,fun j b' hb'=>?_,h.gbw,h.low,fun b' r' q hb' hq hk'=>?_⟩,himm⟩
 ·obtain ⟨q,hq,hg,hrr⟩:=h.ctx.rows b' r' (hs b' r' hb')
  exact ⟨q,hq,hg,DF hmono (fun _ _ h=>h) (fun _=>rfl) r' hrr⟩
 ·exact h.ctx.apart b1 b2 _ _ p1 p2 (hs _ _ hb1) (hs _ _ hb2) hp1 hp2 k1 k2 hB
 ·obtain ⟨v,hv,hrel⟩:=h.tmps t x hx
  exact ⟨v,hv,CA hmono (fun _ _ h=>h) x v hrel⟩
 ·obtain ⟨g1,g2,g3⟩:=h.orig j b' hb'
  exact ⟨g1,by simp only[hl];exact g2,fun r' q hr' hq hk'=>g3 r' q (hs _ _ hr') hq hk'⟩
 ·exact h.own b' r' q (hs _ _ hb') hq hk'
mutual
theorem UJ {rd:Nat->Nat->Option Value} {I:Nat->Prop} {β β':Nat->Option Place} {ρ:Nat->Option Nat} (h:∀ b c,ρ b=some c->β' c=β b):∀ (x:AV) (v:Value),RelV rd I β x v->RelV rd I β' (x.ren ρ) v
 |.any,_,hr | .undef,_,hr | .nils,_,hr | .int _ _,_,hr | .bool _,_,hr | .str _,_,hr | .err _,_,hr | .sl _ _ _,_,hr | .nilptr,_,hr | .iptr _ _ _,_,hr | .nilmap,_,hr | .dat _ _,_,hr=>by simp only[AV.ren,RelV] at hr ⊢;try exact hr
 |.vw b,v,hr | .pre b _,v,hr | .sub b _ _,v,hr | .ptr b _ _,v,hr | .mp b,v,hr=>by
  simp only[AV.ren,RelV] at hr ⊢
  obtain ⟨p,hp,hh⟩:=hr
  split
  ·rename_i c hc;simp only[RelV];exact ⟨p,(h b c hc).trans hp,hh⟩
  ·simp only[RelV]
 |.selfp b,v,hr=>by
  simp only[AV.ren,RelV] at hr ⊢
  split
  ·rename_i c hc;simp only[RelV];exact hr.imp id fun ⟨p,hp,hh⟩=>⟨p,(h b c hc).trans hp,hh⟩
  ·simp only[RelV]
 |.fn f l,v,hr=>by simp only[AV.ren,RelV] at hr ⊢;obtain ⟨us,rfl,hh⟩:=hr;exact ⟨us,rfl,relL_ren h l us hh⟩
 |.agg l,v,hr=>by simp only[AV.ren,RelV] at hr ⊢;obtain ⟨us,rfl,hh,hp⟩:=hr;exact ⟨us,rfl,relL_ren h l us hh,hp⟩
 |.tup l,v,hr=>by simp only[AV.ren,RelV] at hr ⊢;obtain ⟨us,rfl,hh⟩:=hr;exact ⟨us,rfl,relL_ren h l us hh⟩
theorem relL_ren {rd:Nat->Nat->Option Value} {I:Nat->Prop} {β β':Nat->Option Place} {ρ:Nat->Option Nat} (h:∀ b c,ρ b=some c->β' c=β b):∀ (l:List AV) (us:List Value),RelL rd I β l us->RelL rd I β' (renL ρ l) us
 |[],_,hr=>by simpa only[renL,RelL] using hr
 |x::l,_,hr=>by
  simp only[renL,RelL] at hr ⊢
  obtain ⟨u,us',rfl,h1,h2⟩:=hr
  exact ⟨u,us',rfl,UJ h x u h1,relL_ren h l us' h2⟩
end
theorem Ip (ρ:Nat->Option Nat):∀ l:List AV,(renL ρ l).length=l.length
 |[]=>rfl
 |_::l=>by simp[renL,Ip ρ l]
theorem ABf (ρ:Nat->Option Nat):∀ l:List AV,Bz (renL ρ l)=true->Bz l=true
 |[],h=>h
 |a::l,h=>by
  cases a<;>first | rfl | (simp only[renL,Bz,AV.ren] at h;first | (split at h<;>cases h;done) | cases h)
theorem Of {w:World} {I:Nat->Prop} {β β':Nat->Option Place} {p:Place} {ρ:Nat->Option Nat} (h:∀ b c,ρ b=some c->β' c=β b):∀ r:Row,Bo w I β p r->Bo w I β' p (r.ren ρ)
 |.typed _ _,hr=>hr
 |.mapr _ _,hr=>hr
 |.cells l,hr=>by
  obtain ⟨h1,h2,h3,cs,ty,g1,g2,us,g3,g4,g5,g6⟩:=hr
  simp only[Row.ren]
  exact ⟨by rw[Ip];exact h1,h2,h3,cs,ty,g1,⟨by rw[Ip];exact g2.1,g2.2.1,fun h=>g2.2.2 (ABf ρ l h)⟩,us,by rw[Ip];exact g3,fun j hj=>g4 j (by rw[Ip] at hj;exact hj),relL_ren h l us g5,g6⟩
def Bb (Z:List (BQ)) (i:Nat):Option Place:=(Z[i]?).map (·.2.1)
theorem GJ (A zs B:List (BQ)):At (Bb (A++(zs++B))) A.length zs:=fun i z hi=>by
 unfold Bb
 rw[qY9 (by omega),Nat.add_sub_cancel_left,qY8 (List.getElem?_eq_some_iff.1 hi).1,hi];rfl
theorem Ki {β:Nat->Option Place} {H:Ai}:∀ (Z:List (BQ)),(∀ z∈Z,Cg β H z)->∀ (i:Nat),(Ax (Z.map (·.1)))[i]?=(Z[i]?).bind (·.1.row)
 |[],_,_=>by simp[Ax]
 |z::Z,h,i=>by
  obtain ⟨b,_,_,hb,_⟩:=h z (by simp)
  simp only[List.map_cons,Ax,hb]
  cases i with
  |zero=>simp[hb]
  |succ i=>simpa using Ki Z (fun z hz=>h z (by simp[hz])) i
section
variable {Γ:Base} {a:Act} {w:World} {β:Nat->Option Place} {st:St}
theorem UN {Z:List (BQ)} (hs:SimB Γ st a w β) (hr:∀ z∈Z,Cg β st.heap z) (hnd:BZ (Ax (Z.map (·.1)))=true) {i j:Nat} {z z':BQ} (hi:Z[i]?=some z) (hj:Z[j]?=some z') (hk:z.2.1.backed=true) (hk':z'.2.1.backed=true) (hB:z.2.1.B=z'.2.1.B):i=j:=by
 obtain ⟨b,p,r0,c1,c2,c3,c4,c5,_⟩:=hr z (qY14 hi)
 obtain ⟨b',p',r0',d1,d2,d3,d4,d5,_⟩:=hr z' (qY14 hj)
 have:=hs.ctx.apart b b' _ _ p p' c2 d2 c3 d3 (c5 ▸ hk) (d5 ▸ hk') (by rw[<-c4,<-d4,hB])
 subst this
 have e1:=Ki Z hr i
 have e2:=Ki Z hr j
 rw[hi] at e1;rw[hj] at e2
 simp only[Option.bind_some,c1,d1] at e1 e2
 have hlt:=(List.getElem?_eq_some_iff.1 e1).1
 exact (List.getElem?_inj hlt (Kc _ hnd)).1 (e1.trans e2.symm)
theorem Uj (hs:SimB Γ st a w β) {Z:List (BQ)} {m:List Nat} {rows:Ai} (hr:∀ z∈Z,Cg β st.heap z) (hnd:BZ (Ax (Z.map (·.1)))=true) (hdj:∀ b∈Ax (Z.map (·.1)),b∉m) (hm:∀ b∈m,∃ r,st.heap[b]?=some (some r))
 (hl:rows.length=Z.length) (hR:DO w (Bp (Γ.after w β st.heap) β m) (Bb Z) rows Z):Ctx Γ.gb w (Bp (Γ.after w β st.heap) β m) (Bb Z) rows:=by
 have hof:∀ (i:Nat) (r:Row),rows[i]?=some (some r)->∃ z,Z[i]?=some z/\z∈Z:=fun i r h=>by
  have hi:=(List.getElem?_eq_some_iff.1 h).1
  exact ⟨_,qZ5 (by omega),List.getElem_mem _⟩
 have hlive:∀ B,AN rows (Bb Z) B->∃ z b p r0,z∈Z/\z.1.row=some b/\st.heap[b]?=some (some r0)/\β b=some p/\p.backed=true/\p.B=B:=by
  rintro B ⟨i,r,q,e1,e2,e3,rfl⟩
  obtain ⟨z,hz,hm⟩:=hof i r e1
  simp only[Bb,hz,Option.map_some,Option.some.injEq] at e2;subst e2
  obtain ⟨b,p,r0,c1,c2,c3,c4,c5,_⟩:=hr z hm
  exact ⟨z,b,p,r0,hm,c1,c2,c3,c5 ▸ e3,c4.symm⟩
 refine ⟨fun i r h=>?_,fun i j r r' p p' h h' hp hp' hk hk' hB=>?_,fun B hB=>?_,fun i hi=>by simp only[Bb];rw[List.getElem?_eq_none (by omega)];rfl⟩
 ·obtain ⟨z,hz,hmem⟩:=hof i r h
  obtain ⟨b,p,r0,c1,c2,c3,c4,c5,_⟩:=hr z hmem
  refine ⟨z.2.1,by simp only[Bb,hz];rfl,fun hk=>?_,hR i r z h hz⟩
  obtain ⟨p',hp',hg,_⟩:=hs.ctx.rows b r0 c2
  rw[c3] at hp';cases hp'
  rw[c4];exact hg (c5 ▸ hk)
 ·obtain ⟨z,hz,hmem⟩:=hof i r h
  obtain ⟨z',hz',hmem'⟩:=hof j r' h'
  simp only[Bb,hz,hz',Option.map_some,Option.some.injEq] at hp hp'
  subst hp hp'
  exact UN hs hr hnd hz hz' hk hk' hB
 ·rcases hB with hB | ⟨b,hb,p,hp,hk,rfl⟩
  ·refine ⟨hB.1,fun hl=>hB.2.2 ?_⟩
   obtain ⟨z,b,p,r0,_,_,c2,c3,c4,c5⟩:=hlive B hl
   exact ⟨b,r0,p,c2,c3,c4,c5⟩
  ·obtain ⟨r,hrr⟩:=hm b hb
   obtain ⟨p',hp',hgg,_⟩:=hs.ctx.rows b r hrr
   rw[hp] at hp';cases hp'
   refine ⟨(hgg hk).2,fun hl=>?_⟩
   obtain ⟨z,b',p2,r0,c0,c1,c2,c3,c4,c5⟩:=hlive _ hl
   have:=hs.ctx.apart b b' _ _ p p2 hrr c2 hp c3 hk c4 c5.symm
   subst this
   exact hdj b (Gt (List.mem_iff_getElem?.1 (List.mem_map_of_mem c0)).choose_spec c1) hb
theorem ADE {x:AV} (h:x.whole=true) (r0:Option Row) (r:Row):Du x r0 r=r:=by
 cases x<;>(try (simp[AV.whole] at h;done))<;>cases r<;>simp[Du]
theorem J0:∀ (l m:List AV),Ax (l++m)=Ax l++Ax m
 |[],m=>rfl
 |x::l,m=>by
  simp only[qY5,Ax]
  split<;>simp[J0 l m]
theorem R2:∀ (l m:List Nat),BZ (l++m)=true->BZ l=true
 |[],_,_=>rfl
 |x::l,m,h=>by
  simp only[qY5,BZ,qY0,Bool.not_eq_true',List.contains_eq_mem,decide_eq_false_iff_not] at h ⊢
  exact ⟨fun hx=>h.1 (List.mem_append.2 (.inl hx)),R2 l m h.2⟩
theorem Yt (hs:SimB Γ st a w β) {w':World} {zs zt:List (BQ)} {s t:List AV} (es:s=zs.map (·.1)) (et:t=zt.map (·.1)) (hrs:∀ z∈zs,Cg β st.heap z) (hrt:∀ z∈zt,Cg β st.heap z) (hnd:BZ (Ax (s++t))=true)
 {Hin Hout:Ai} {I1 I':Nat->Prop} {β':Nat->Option Place} (hin:Hin.length=zs.length+zt.length) (hf:FrmC w w' (AN Hin (Bb (zs++zt)))) (ho:OutOK w w' Γ.gb I1 (Bb (zs++zt)) Hin Hout zs.length I' β')
 (hsome:∀ r∈Hout,∃ r',r=some r') (hK:zs.length<=Hout.length) (hty:∀ (i:Nat) z e,zs[i]?=some z->z.2.2=some e->∃ l,Hout[i]?=some (some (.typed e l)))
 (hI1:(∀ B,I1 B->Γ.after w β st.heap B)\/∀ r,some r∈Hout->r.free=true) {H1:Ai} (hH1:H1=killAll (Ax t) st.heap) {ρ:Nat->Option Nat} (hρ:ρ=Gu s H1.length)
 {H':Ai} (hH':H'=BU s ((Hout.take s.length).map (·.map (Row.ren ρ))) H1++(Hout.drop s.length).map (·.map (Row.ren ρ))) :
 ∃ β2,SimB Γ { st with heap:=H' } a w' β2/\(∀ b c,ρ b=some c->β2 c=β' b)/\((∀ B,I1 B->Γ.after w β st.heap B)->∀ B,I' B->Γ.after w' β2 H' B)/\∀ B,Γ.after w β st.heap B->Γ.after w' β2 H' B:=by
 have hsl:s.length=zs.length:=by rw[es,List.length_map]
 have hn1:H1.length=st.heap.length:=by rw[hH1,ME]
 have hids:Ax ((zs++zt).map (·.1))=Ax (s++t):=by rw[List.map_append,<-es,<-et]
 have hrZ:∀ z∈zs++zt,Cg β st.heap z:=fun z hz=>(List.mem_append.1 hz).elim (hrs z) (hrt z)
 have hndZ:BZ (Ax ((zs++zt).map (·.1)))=true:=by rw[hids];exact hnd
 have hnds:BZ (Ax s)=true/\∀ b∈Ax s,b∉Ax t:=by
  have:=Kc _ hnd
  rw[J0,List.nodup_append] at this
  refine ⟨?_,fun b hb hb'=>this.2.2 b hb b hb' rfl⟩
  clear hndZ
  rw[J0] at hnd
  exact R2 _ _ hnd
 have hliveZ:∀ B,AN Hin (Bb (zs++zt)) B->∃ (i:Nat) (z:BQ) (b:Nat) (p:Place) (r0:Row),(zs++zt)[i]?=some z/\z.1.row=some b/\st.heap[b]?=some (some r0)/\β b=some p/\p.backed=true/\p.B=B/\z.2.1.B=B/\z.2.1.backed=true:=by
  rintro B ⟨i,r,q,e1,e2,e3,rfl⟩
  have hi:=(List.getElem?_eq_some_iff.1 e1).1
  obtain ⟨z,hz⟩:∃ z,(zs++zt)[i]?=some z:=⟨_,qZ5 (by simp;omega)⟩
  simp only[Bb,hz,Option.map_some,Option.some.injEq] at e2;subst e2
  obtain ⟨b,p,r0,c1,c2,c3,c4,c5,_⟩:=hrZ z (qY14 hz)
  exact ⟨i,z,b,p,r0,hz,c1,c2,c3,c5 ▸ e3,c4.symm,rfl,e3⟩
 have hL:∀ B,AN Hin (Bb (zs++zt)) B->AN st.heap β B:=fun B h=>by
  obtain ⟨i,z,b,p,r0,_,_,c2,c3,c4,c5,_⟩:=hliveZ B h
  exact ⟨b,r0,p,c2,c3,c4,c5⟩
 have hmem:∀ {i:Nat} {z:BQ} {b:Nat},(zs++zt)[i]?=some z->z.1.row=some b->b∈Ax s\/b∈Ax t:=by
  intro i z b hz hb
  have:=Gt (azs:=(zs++zt).map (·.1)) (i:=i) (by rw[List.getElem?_map,hz];rfl) hb
  rw[hids,J0] at this
  exact List.mem_append.1 this
 have hwl:(BU s ((Hout.take s.length).map (·.map (Row.ren ρ))) H1).length=st.heap.length:=by rw[Nn,hn1]
 have hlenH:H'.length=st.heap.length+(Hout.length - zs.length):=by rw[hH',qZ6,hwl,List.length_map,List.length_drop,hsl]
 have hold:∀ b,b < st.heap.length->H'[b]?=(BU s ((Hout.take s.length).map (·.map (Row.ren ρ))) H1)[b]?:=fun b hb=>by rw[hH',qY8 (by omega)]
 have hother:∀ b r,b < st.heap.length->b∉Ax s->H'[b]?=some (some r)->st.heap[b]?=some (some r)/\b∉Ax t:=fun b r hb hid h=>by
  rw[hold b hb,Ji _ _ _ _ hid,hH1] at h
  exact (HG _ _ b r h).symm
 have hkept:∀ b,b∈Ax s->∃ (i:Nat) (z:BQ) (r1 r0:Row) (p:Place),zs[i]?=some z/\z.1.row=some b/\Hout[i]?=some (some r1)/\st.heap[b]?=some (some r0)/\β b=some p/\Cg β st.heap z/\H'[b]?=some (some (Du z.1 (some r0) (r1.ren ρ))):=by
  intro b hb
  obtain ⟨i,x,e1,e2⟩:=Ll hb
  have e1':=e1
  rw[es,List.getElem?_map] at e1'
  obtain ⟨z,hz,rfl⟩:=Option.map_eq_some_iff.1 e1'
  have hi:=(List.getElem?_eq_some_iff.1 hz).1
  obtain ⟨r1,hr1⟩:=hsome Hout[i] (List.getElem_mem _)
  have hr1':Hout[i]?=some (some r1):=by rw[qZ5 (by omega),hr1]
  have href:=hrs z (qY14 hz)
  obtain ⟨b',p,r0,c1,c2,c3,_⟩:=href
  rw[e2] at c1;cases c1
  refine ⟨i,z,r1,r0,p,hz,e2,hr1',c2,c3,hrs z (qY14 hz),?_⟩
  have hlt:=(List.getElem?_eq_some_iff.1 c2).1
  rw[hold b hlt,Lc s _ H1 hnds.1 (fun r hr=>by
   obtain ⟨r2,h2,rfl⟩:=List.mem_map.1 hr
   obtain ⟨r3,rfl⟩:=hsome r2 (List.mem_of_mem_take h2)
   exact ⟨_,rfl⟩) i z.1 (r1.ren ρ) b e1 (by rw[List.getElem?_map,List.getElem?_take,if_pos (by omega),hr1'];rfl) e2 (by omega)]
  rw[hH1,Pg _ _ _ (hnds.2 b hb),c2]
  rfl
 have hnew:∀ b,st.heap.length<=b->H'[b]?=(Hout[zs.length+(b - st.heap.length)]?).map (·.map (Row.ren ρ)):=fun b hb=>by
  rw[hH',qY9 (by omega),hwl,List.getElem?_map,List.getElem?_drop,hsl]
 have hnewr:∀ b r,st.heap.length<=b->H'[b]?=some (some r)->∃ r1,Hout[zs.length+(b - st.heap.length)]?=some (some r1)/\r=r1.ren ρ:=fun b r hb h=>by
  rw[hnew b hb] at h
  obtain ⟨x,hx,h⟩:=Option.map_eq_some_iff.1 h
  cases x with
  |none=>cases h
  |some r1=>simp only[Option.map_some,Option.some.injEq] at h;exact ⟨r1,hx,h.symm⟩
 let β2:Nat->Option Place:=fun b=>if b < st.heap.length then β b else β' (zs.length+(b - st.heap.length))
 have hp1:∀ b,b < st.heap.length->β2 b=β b:=fun b hb=>if_pos hb
 have hp2:∀ b,st.heap.length<=b->β2 b=β' (zs.length+(b - st.heap.length)):=fun b hb=>if_neg (by omega)
 have hkp:∀ (i:Nat) z,zs[i]?=some z->β' i=some z.2.1:=fun i z hz=>by
  have hi:=(List.getElem?_eq_some_iff.1 hz).1
  rw[(ho.kept i hi).1];simp only[Bb];rw[qY8 hi,hz];rfl
 have hren:∀ b c,ρ b=some c->β2 c=β' b:=by
  intro i c hc
  rw[hρ] at hc
  unfold Gu at hc
  split at hc
  ·rename_i x hx
   rw[es,List.getElem?_map] at hx
   obtain ⟨z,hz,rfl⟩:=Option.map_eq_some_iff.1 hx
   split at hc
   ·rename_i hw
    obtain ⟨b',p,r0,c1,c2,c3,_,_,c6,_⟩:=hrs z (qY14 hz)
    rw[c1] at hc;cases hc
    rw[hp1 _ (List.getElem?_eq_some_iff.1 c2).1,c3,hkp i z hz,c6 hw]
   ·cases hc
  ·rename_i hx
   cases hc
   have hi:=List.getElem?_eq_none_iff.1 hx
   rw[hp2 _ (by omega),hn1]
   congr 1;omega
 have hapart:∀ (j:Nat) r q,Hout[j]?=some (some r)->β' j=some q->q.backed=true->∀ (b2:Nat) r2 p2,b2 < st.heap.length->H'[b2]?=some (some r2)->β b2=some p2->p2.backed=true->p2.B=q.B->b2∈Ax s/\∃ z,zs[j]?=some z/\z.1.row=some b2:=by
  intro j r q hj hq hk b2 r2 p2 hlt hb2 hp2' hk2 hB
  have halive:∃ r0,st.heap[b2]?=some (some r0):=by
   by_cases hid:b2∈Ax s
   ·obtain ⟨i,z,r1,r0,p,_,_,_,h,_⟩:=hkept b2 hid;exact ⟨r0,h⟩
   ·exact ⟨_,(hother b2 r2 hlt hid hb2).1⟩
  obtain ⟨r0,h0⟩:=halive
  rcases ho.own j r q hj hq hk with h | h
  ·obtain ⟨i,z,b,p,r0',hz,c1,c2,c3,c4,c5,c6,c7⟩:=hliveZ _ h
   have:=hs.ctx.apart b2 b _ _ p2 p h0 c2 hp2' c3 hk2 c4 (by rw[hB,c5])
   subst this
   rcases hmem hz c1 with hid | hid
   ·refine ⟨hid,?_⟩
    have hi:i < zs.length:=by
     rcases Nat.lt_or_ge i zs.length with h' | h'
     ·exact h'
     ·rw[qY9 h'] at hz
      have:=Gt (azs:=t) (i:=i - zs.length) (by rw[et,List.getElem?_map,hz];rfl) c1
      exact absurd this (hnds.2 _ hid)
    rw[qY8 hi] at hz
    obtain ⟨r1,hr1⟩:=hsome Hout[i] (List.getElem_mem _)
    have:=ho.ctx.apart j i _ r1 q z.2.1 hj (by rw[qZ5 (by omega),hr1]) hq (hkp i z hz) hk c7 c6.symm
    subst this
    exact ⟨z,hz,c1⟩
   ·by_cases hid':b2∈Ax s
    ·exact absurd hid (hnds.2 _ hid')
    ·exact absurd hid (hother b2 r2 hlt hid' hb2).2
  ·obtain ⟨p',hp',hg,_⟩:=hs.ctx.rows b2 r0 h0
   rw[hp2'] at hp';cases hp'
   have:=(hg hk2).2;omega
 have hI':(∀ B,I1 B->Γ.after w β st.heap B)->∀ B,I' B->Γ.after w' β2 H' B:=by
  intro hI B hB
  refine ⟨(ho.ctx.imm B hB).1,?_,?_⟩
  ·rcases ho.imm B hB with h | h | h
   ·exact (hI B h).2.1
   ·obtain ⟨b,r,p,c1,c2,c3,c4⟩:=hL B h
    rcases hs.own b r p c1 c2 c3 with h' | h'
    ·exact .inr (.inr (c4 ▸ h'))
    ·exact .inr (.inl (c4 ▸ h'))
   ·exact .inr (.inr (Nat.le_trans hs.frm.size h))
  ·rintro ⟨b,r,p,hb,hp,hk,rfl⟩
   rcases Nat.lt_or_ge b st.heap.length with hlt | hge
   ·rw[hp1 b hlt] at hp
    by_cases hid:b∈Ax s
    ·obtain ⟨i,z,r1,r0,p',hz,c1,c2,c3,c4,c5,c6⟩:=hkept b hid
     obtain ⟨b',p2,r2,d1,d2,d3,d4,d5,_⟩:=c5
     rw[c1] at d1;cases d1
     rw[hp] at d3;cases d3
     exact (ho.ctx.imm _ hB).2 ⟨i,r1,z.2.1,c2,hkp i z hz,d5 ▸ hk,d4⟩
    ·obtain ⟨h0,ht⟩:=hother b r hlt hid hb
     rcases ho.imm _ hB with h | h | h
     ·exact (hI _ h).2.2 ⟨b,r,p,h0,hp,hk,rfl⟩
     ·obtain ⟨i,z,b',p',r0',hz,c1,c2,c3,c4,c5,_⟩:=hliveZ _ h
      have:=hs.ctx.apart b b' _ _ p p' h0 c2 hp c3 hk c4 c5.symm
      subst this
      exact (hmem hz c1).elim hid ht
     ·obtain ⟨p',hp',hg,_⟩:=hs.ctx.rows b r h0
      rw[hp] at hp';cases hp'
      have:=(hg hk).2;omega
   ·rw[hp2 b hge] at hp
    obtain ⟨r1,hr1,_⟩:=hnewr b r hge hb
    exact (ho.ctx.imm _ hB).2 ⟨_,r1,p,hr1,hp,hk,rfl⟩
 have hrow:∀ (j:Nat) r q,Hout[j]?=some (some r)->β' j=some q->Bo w' (Γ.after w' β2 H') β' q r:=by
  intro j r q hj hq
  obtain ⟨q',hq',_,hr⟩:=ho.ctx.rows j r hj
  rw[hq] at hq';cases hq'
  rcases hI1 with h | h
  ·exact DF ⟨hI' h,fun _ _ _ _ h=>h⟩ (fun _ _ h=>h) (fun _=>rfl) r hr
  ·exact Yr r (h r (qY14 hj)) hr
 have main:=VO (β':=β2) (H':=H') hs hf hL (by omega) hp1 (fun b hb=>by
  rw[hlenH] at hb
  rw[hp2 b (by omega)]
  exact ho.ctx.dom _ (by omega)) (fun b r' hb=>by
  rcases Nat.lt_or_ge b st.heap.length with hlt | hge
  ·refine .inl ⟨hlt,?_⟩
   by_cases hid:b∈Ax s
   ·obtain ⟨i,z,r1,r0,p,_,_,_,h,_⟩:=hkept b hid;exact ⟨r0,h⟩
   ·exact ⟨_,(hother b r' hlt hid hb).1⟩
  ·obtain ⟨r1,hr1,_⟩:=hnewr b r' hge hb
   obtain ⟨q,hq,hg,_⟩:=ho.ctx.rows _ r1 hr1
   refine .inr ⟨hge,q,by rw[hp2 b hge];exact hq,fun hk=>⟨(hg hk).2,?_⟩⟩
   rcases ho.own _ r1 q hr1 hq hk with h | h
   ·refine .inr ⟨hL _ h,fun b2 r2 p2 hlt hb2 hp2' hk2 hB=>?_⟩
    obtain ⟨_,z,hz,_⟩:=hapart _ r1 q hr1 hq hk b2 r2 p2 hlt hb2 hp2' hk2 hB
    have:=(List.getElem?_eq_some_iff.1 hz).1;omega
   ·exact .inl h) (fun b1 b2 q1 q2 k1 k2 e1 e2 c1 c2 hB=>by
  rw[hp2 b1 k1] at e1
  rw[hp2 b2 k2] at e2
  have hsm:∀ (j:Nat) q,β' j=some q->∃ r,Hout[j]?=some (some r):=fun j q hq=>by
   have hj:j < Hout.length:=by
    rcases Nat.lt_or_ge j Hout.length with h | h
    ·exact h
    ·rw[ho.ctx.dom j h] at hq;cases hq
   obtain ⟨r,hr⟩:=hsome Hout[j] (List.getElem_mem _)
   exact ⟨r,by rw[qZ5 hj,hr]⟩
  obtain ⟨r1,hr1⟩:=hsm _ _ e1
  obtain ⟨r2,hr2⟩:=hsm _ _ e2
  have:=ho.ctx.apart _ _ r1 r2 q1 q2 hr1 hr2 e1 e2 c1 c2 hB
  omega) (fun hmono b r' q hb hq=>by
  rcases Nat.lt_or_ge b st.heap.length with hlt | hge
  ·rw[hp1 b hlt] at hq
   by_cases hid:b∈Ax s
   ·right
    obtain ⟨i,z,r1,r0,p,hz,c1,c2,c3,c4,c5,c6⟩:=hkept b hid
    rw[hq] at c4;cases c4
    rw[hb] at c6
    simp only[Option.some.injEq] at c6
    have hi:=(List.getElem?_eq_some_iff.1 hz).1
    have hq1:=hkp i z hz
    have hsame:z.2.1.backed=true->Co w w' z.2.1:=(ho.kept i hi).2 z.2.1 (by rw[<-(ho.kept i hi).1];exact hq1)
    obtain ⟨b',p2,r0',d1,d2,d3,d4,d5,d6,d7⟩:=c5
    rw[c1] at d1;cases d1
    rw[hq] at d3;cases d3
    rw[c3] at d2;cases d2
    cases hwh:z.1.whole with
    |true=>
     have e:=d6 hwh
     rw[c6,ADE hwh,<-e]
     exact ⟨Of hren r1 (hrow i r1 _ c2 hq1),fun _ hk=>hsame hk⟩
    |false=>
     obtain ⟨e,L,off,n,f1,f2,f3,f4,f5⟩:=d7 hwh
     subst f2
     obtain ⟨l,hl⟩:=hty i z e hz f1
     rw[c2] at hl;cases hl
     have hr1:=hrow i _ _ c2 hq1
     obtain ⟨p',hp',_,hrw⟩:=hs.ctx.rows b _ c3
     rw[hq] at hp';cases hp'
     have hln:l.length=n:=by have:=hr1.2.1;rw[f4] at this;exact this.symm
     rw[f4] at hr1 hsame
     have:=AEq (β':=β2) hrw f3 hmono hr1 hsame
     rw[c6,show Row.ren ρ (.typed e l)=.typed e l from rfl,f5 l hln]
     exact ⟨this.1,fun _=>this.2⟩
   ·left
    obtain ⟨h0,ht⟩:=hother b r' hlt hid hb
    refine ⟨hlt,h0,fun hk hl=>?_⟩
    obtain ⟨i,z,b',p',r0',hz,c1,c2,c3,c4,c5,_⟩:=hliveZ _ hl
    have:=hs.ctx.apart b b' _ _ q p' h0 c2 hq c3 hk c4 c5.symm
    subst this
    exact (hmem hz c1).elim hid ht
  ·right
   obtain ⟨r1,hr1,rfl⟩:=hnewr b r' hge hb
   rw[hp2 b hge] at hq
   exact ⟨Of hren r1 (hrow _ r1 q hr1 hq),fun h=>by omega⟩)
 exact ⟨β2,main.1,hren,hI',main.2.imm⟩
end
end Go.AM
end
section
namespace Go.AM
open Go.RowKit (Below)
theorem O5 {rd:Nat->Nat->Option Value} {I:Nat->Prop} {β β':Nat->Option Place}:∀ (rk:List PK) (y:Ao rk) (k j:Nat) (us:List Value),rk.all PK.isVal=true->RelL rd I β (AS rk y k j) us->RelL rd I β' (AS rk y k j) us
 |[],_,_,_,_,_,h=>h
 |p::rk,y,k,j,us,hv,h=>by
  simp only[List.all_cons,qY0] at hv
  cases p<;>(try (simp[PK.isVal] at hv;done))
  simp only[AS,RelL] at h ⊢
  obtain ⟨u,us',rfl,h1,h2⟩:=h
  exact ⟨u,us',rfl,Dt (AA3 h1),O5 rk y.2 k j us' hv.2 h2⟩
theorem MQ:∀ (ps:List PK),ps.all PK.isVal=true->cntK ps=0/\cntN ps=0/\opsOf ps=[]
 |[],_=>⟨rfl,rfl,rfl⟩
 |p::ps,hv=>by
  simp only[List.all_cons,qY0] at hv
  cases p<;>(try (simp[PK.isVal] at hv;done))
  exact MQ ps hv.2
theorem AD7 (ps:List PK) (x:Ao ps) (k j:Nat) (h:ps.all PK.isVal=true):BD ps x k j=[]/\BX ps x j=[]:=by
 obtain ⟨h1,h2,_⟩:=MQ ps h
 exact ⟨List.eq_nil_of_length_eq_zero (by rw[E5,h1]),List.eq_nil_of_length_eq_zero (by rw[HA,h2])⟩
theorem He (ps:List PK) (x:Ao ps):(AQ ps x).length=cntK ps+cntN ps:=by simp[AQ,E5,HA]
theorem T2 (ps rk:List PK) (o:BM ps) (y:Ao rk):(Cu ps rk o y).length=Dv ps+(cntK rk+cntN rk):=by simp[Cu,Dv,E5,HA,Iq,Nat.add_assoc]
theorem XE (ps rk:List PK) (o:BM ps) (y:Ao rk):∀ r∈Cu ps rk o y,∃ r',r=some r':=by
 intro r hr
 simp only[Cu,qZ7] at hr
 rcases hr with (hr | hr) | (hr | hr)
 ·exact GD _ _ _ _ r hr
 ·exact GU _ _ _ r hr
 ·exact GD _ _ _ _ r hr
 ·exact GU _ _ _ r hr
theorem MV {a b:List Nat} (h:B7 a b=true):∀ x∈a,x∉b:=by
 intro x hx
 have:=List.all_eq_true.1 h x hx
 simpa using this
section
variable {V:Env} {Γ:Base} {st:St} {o:Oper} {ρ:Type} {z:ρ}
theorem Ns {a:Act} {w:World} {β:Nat->Option Place} (hs:SimB Γ st a w β) {ps:List PK} {x:Ao ps} {vs:List Value} {s t:List AV} {m:List Nat} {zs zt:List BQ} (D:DecOK w (Γ.after w β st.heap) β st.heap [] ps x vs s t m zs zt) (hnd:BZ (Ax (s++t))=true) (hdj:B7 (Ax (s++t)) m=true) :
 Ctx Γ.gb w (Bp (Γ.after w β st.heap) β m) (Bb (zs++zt)) (AQ ps x)/\RelL (Ad w) (Bp (Γ.after w β st.heap) β m) (Bb (zs++zt)) (AS ps x 0 (cntK ps)) vs:=by
 have hids:Ax ((zs++zt).map (·.1))=Ax (s++t):=by rw[List.map_append,<-D.s_eq,<-D.t_eq]
 obtain ⟨h1,h2,h3⟩:=D.vals (Bp (Γ.after w β st.heap) β m) (Bb (zs++zt)) 0 (cntK ps) ⟨fun _ h=>h,fun _ _ _ _ h=>h⟩ (GJ [] zs zt) (by have:=GJ zs zt [];rw[qY4,D.lenK] at this;exact this) (fun i b p h=>by simp at h)
 exact ⟨Uj hs (fun z hz=>(List.mem_append.1 hz).elim (D.refs z) (D.reft z)) (by rw[hids];exact hnd) (by rw[hids];exact MV hdj) D.alive (by rw[He,qZ6,D.lenK,D.lenN]) (F6 (by rw[E5,D.lenK]) h2 h3),h1⟩
theorem L_ {a:Act} {w:World} {β:Nat->Option Place} (hs:SimB Γ st a w β) {c:Call} {f:Operand} {k:FuncId} {caps:List AV} (hf:st.ev f=.fn k caps) :
 ∃ us:List Value,a.eval f=.func (.func k) #[] us.toArray/\RelL (Ad w) (Γ.after w β st.heap) β (c.args.toList.map st.ev++caps) (c.args.map a.eval++us.toArray).toList:=by
 have e1:=Aq hs f
 rw[hf] at e1;simp only[RelV] at e1
 obtain ⟨us,e1,e2⟩:=e1
 refine ⟨us,e1,?_⟩
 have:=DA (DW hs c.args.toList) e2
 simpa [<-Array.toList_map] using this
theorem callQ_ok {K:AV->Option ρ} (hg:Γ.gb=V.gb) (h0:V.G Γ.w) {c:Call} (h:o.op=.call c) {f:Operand} (hc:c.callee=.value f) {k:FuncId} {caps:List AV} (hf:st.ev f=.fn k caps) {d:Callee} (hd:Good V k d)
 (hq:Fr st.heap d (c.args.toList.map st.ev++caps) K=some z):∃ y,K y=some z/\AD V.P Γ st o y st.heap:=by
 unfold Fr at hq
 split at hq
 case h_2=>cases hq
 rename_i x s t m hx
 split at hq
 case isFalse=>cases hq
 rename_i hcond
 simp only[qY0] at hcond
 obtain ⟨⟨hall,hrv⟩,hm⟩:=hcond
 obtain ⟨⟨y,ou⟩,hgx,hK⟩:=Af hq
 refine ⟨_,hK,fun a w β hs next Q hn=>?_⟩
 obtain ⟨us,e1,hargs⟩:=L_ (c:=c) hs hf
 obtain ⟨zs,zt,D⟩:=Dn hs.ctx [] d.ps _ _ x s t m hargs hx
 obtain ⟨k1,k2,k3⟩:=MQ d.ps hall
 have ezs:zs=[]:=List.eq_nil_of_length_eq_zero (by rw[D.lenK,k1])
 have ezt:zt=[]:=List.eq_nil_of_length_eq_zero (by rw[D.lenN,k2])
 have es:=D.s_eq;have et:=D.t_eq
 subst ezs ezt
 simp only[List.map_nil] at es et;subst es et
 obtain ⟨hctx,hrel⟩:=Ns hs D rfl rfl
 obtain ⟨hG,hgb⟩:=hs.G hg h0
 rw[hg] at hctx
 refine LF h hc hd.enters e1 (Calls.mono (hd.spec _ _ _ hgx w _ _ _ hG hgb hctx hrel) ?_)
 rintro e w' ⟨vs,I',β',rfl,hfr,hout,hres⟩
 refine ⟨_,rfl,hn _ w' ?_⟩
 have hin:AQ d.ps x=[]:=by obtain ⟨g1,g2⟩:=AD7 d.ps x 0 (cntK d.ps) hall;simp[AQ,g1,g2]
 rw[hin] at hfr hout
 have hext:=Ext.of_frmC hfr Gr
 have hs':=hs.ext hext
 have hres':=O5 (β':=β) d.rk y _ _ vs hrv hres
 refine ⟨β,hs'.put o.dst (N5 ?_)⟩
 simp only[Bool.or_eq_true,List.isEmpty_iff] at hm
 rcases hm with hm | hm
 ·subst hm
  refine relL_mono ⟨fun B hB=>?_,fun _ _ _ _ h=>h⟩ (fun _ _ h=>h) _ _ hres'
  rcases hout.imm B hB with hB1 | hB1 | hB1
  ·exact Tj hext ((FH (Ad w)).imm B hB1)
  ·exact absurd hB1 (Gr B)
  ·refine ⟨(hout.ctx.imm B hB).1,.inr (.inr (Nat.le_trans hs.frm.size hB1)),?_⟩
   rintro ⟨b',r,p,hb',hp,hk,rfl⟩
   obtain ⟨p',hp',hgg,_⟩:=hs.ctx.rows b' r hb'
   rw[hp] at hp';cases hp'
   have:=(hgg hk).2;omega
 ·exact relL_free _ _ (IE _ _ _ _ hm) hres'
theorem Nk {a:AV} {b:Nat}:∀ {l:List AV},a∈l->a.row=some b->b∈Ax l
 |x::l,h,hb=>by
  simp only[Ax]
  rcases List.mem_cons.1 h with rfl | h
  ·rw[hb];exact List.mem_cons_self
  ·cases x.row with
   |none=>exact Nk h hb
   |some c=>exact qY13 _ (Nk h hb)
theorem Mo (e:GT) (a:AV) (H:Ai) (b:Nat) (r:Row) (h:H[b]?=some (some r)):∃ r',(BE e a H).2[b]?=some (some r'):=by
 have hb:=(List.getElem?_eq_some_iff.1 h).1
 unfold BE
 split
 ·exact ⟨r,by rw[<-h];exact qY8 hb⟩
 ·exact ⟨r,by rw[<-h];exact qY8 hb⟩
 ·exact ⟨r,h⟩
theorem JO:∀ (f:BF) (l:List AV) (H:Ai) (b:Nat) (r:Row),H[b]?=some (some r)->∃ r',(A8 f l H).2[b]?=some (some r')
 |.own e,[],H,b,r,h=>⟨r,h⟩
 |.own e,a::l,H,b,r,h=>Mo e a H b r h
 |.pair f g,l,H,b,r,h=>by
  obtain ⟨r1,h1⟩:=JO f l H b r h
  exact JO g _ _ b r1 h1
 |.dat _,l,H,b,r,h=>⟨r,h⟩
 |.slf,l,H,b,r,h=>⟨r,h⟩
 |.mp _,l,H,b,r,h=>⟨r,h⟩
 |.box _,l,H,b,r,h=>⟨r,h⟩
theorem NQ (f:BF) (n:Nat) (H:Ai) (b:Nat) (r:Row) (h:H[b]?=some (some r)):∃ r',(Dy f n H)[b]?=some (some r'):=by
 unfold Dy
 split
 ·rename_i l hl
  obtain ⟨r1,h1⟩:=JO f l H b r h
  by_cases e:n=b
  ·subst e;exact ⟨_,by rw[List.getElem?_set,if_pos rfl,if_pos (List.getElem?_eq_some_iff.1 h1).1]⟩
  ·exact ⟨r1,by rw[List.getElem?_set_ne e];exact h1⟩
 ·exact ⟨r,h⟩
theorem EH:∀ (ps:List PK) (azs:List AV) (H:Ai) (b:Nat) (r:Row),H[b]?=some (some r)->∃ r',(lift ps azs H).2[b]?=some (some r')
 |[],azs,H,b,r,h=>⟨r,by simpa [lift] using h⟩
 |p::ps,[],H,b,r,h=>⟨r,by cases p<;>simpa [lift] using h⟩
 |p::ps,a::azs,H,b,r,h=>by
  cases p with
  |row e=>obtain ⟨r1,h1⟩:=Mo e a H b r h;simp only[lift];exact EH ps azs _ b r1 h1
  |own e=>obtain ⟨r1,h1⟩:=Mo e a H b r h;simp only[lift];exact EH ps azs _ b r1 h1
  |val t=>simp only[lift];exact EH ps azs _ b r h
  |mp t=>simp only[lift];exact EH ps azs _ b r h
  |view t=>simp only[lift];exact EH ps azs _ b r h
  |box f=>
   by_cases hp:∃ n,a=.ptr n 0 0
   ·obtain ⟨n,rfl⟩:=hp
    obtain ⟨r1,h1⟩:=NQ f n H b r h
    simp only[lift];exact EH ps azs _ b r1 h1
   ·have e1:lift (.box f::ps) (a::azs) H=(a::(lift ps azs H).1,(lift ps azs H).2):=by
     cases a<;>(try rfl)
     rename_i n i k
     cases i<;>cases k<;>first | rfl | exact absurd ⟨_,rfl⟩ hp
    rw[e1];exact EH ps azs _ b r h
  |obj f=>
   have ho:∃ r',(C4 f a H).2[b]?=some (some r'):=by
    unfold C4
    split
    ·exact NQ _ _ _ _ _ h
    ·exact JO _ _ _ _ _ h
    ·exact ⟨r,h⟩
   obtain ⟨r1,h1⟩:=ho
   simp only[lift];exact EH ps azs _ b r1 h1
theorem Mb {K:AV->Ai->Option ρ} (hg:Γ.gb=V.gb) (h0:V.G Γ.w) {d:Callee} {azs:List AV} (hq:Dx st.heap d azs K=some z) :
 ∃ x y ou,d.g x=some (y,ou)/\(∃ s t m,AF (lift d.ps azs st.heap).2 [] d.ps (lift d.ps azs st.heap).1=some (x,s,t,m))/\∃ v H,K v H=some z/\∀ a w β0,SimB Γ st a w β0->∀ us:List Value,RelL (Ad w) (Γ.after w β0 st.heap) β0 azs us->
  ∃ I βc,V.G w/\V.gb<=w.heap.size/\Ctx V.gb w I βc (AQ d.ps x)/\RelL (Ad w) I βc (AS d.ps x 0 (cntK d.ps)) us/\(∀ B,Γ.after w β0 st.heap B->I B)/\
   (∀ s t m,AF (lift d.ps azs st.heap).2 [] d.ps (lift d.ps azs st.heap).1=some (x,s,t,m)->∀ b r p,st.heap[b]?=some (some r)->β0 b=some p->p.backed=true->b∉Ax (s++t)->¬ AN (AQ d.ps x) βc p.B)/\
   ∀ (w':World) (vs:List Value) (I':Nat->Prop) (β':Nat->Option Place),FrmC w w' (AN (AQ d.ps x) βc)->OutOK w w' V.gb I βc (AQ d.ps x) (Cu d.ps d.rk ou y) (cntK d.ps) I' β'->RelL (Ad w') I' β' (D8 d.ps d.rk y) vs->
    ∃ β2,SimB Γ { st with heap:=H } a w' β2/\RelV (Ad w') (Γ.after w' β2 H) β2 v (EI vs)/\∀ B,Γ.after w β0 st.heap B->Γ.after w' β2 H B:=by
 unfold Dx at hq
 split at hq
 case h_2=>cases hq
 rename_i x s t m hx
 split at hq
 case isFalse=>cases hq
 rename_i hcond
 simp only[qY0] at hcond
 obtain ⟨hnd,hdj⟩:=hcond
 have hdisj:=MV hdj
 obtain ⟨H0,hH0⟩:∃ H0,H0=(if (m.isEmpty||(d.rk.all PK.scalar&&(opsOf d.ps).all PK.scalar))=true then (lift d.ps azs st.heap).2 else killAll m (lift d.ps azs st.heap).2):=⟨_,rfl⟩
 simp only[<-hH0] at hq
 obtain ⟨⟨y,ou⟩,hgx,hK⟩:=Af hq
 refine ⟨x,y,ou,hgx,⟨s,t,m,hx⟩,_,_,hK,fun a w β0 hs0 us hargs0=>?_⟩
 obtain ⟨β,hl,hargs⟩:=Fh d.ps _ _ hs0 hargs0
 obtain ⟨HL,hHL⟩:∃ HL,HL=(lift d.ps azs st.heap).2:=⟨_,rfl⟩
 rw[<-hHL] at hx hl hargs hH0
 have hs:=hl.sim
 obtain ⟨zs,zt,D⟩:=Dn hs.ctx [] d.ps _ _ x s t m hargs hx
 obtain ⟨hG,hgb⟩:=hs.G hg h0
 obtain ⟨hctx,hrel⟩:=Ns hs D hnd hdj
 rw[hg] at hctx
 refine ⟨_,_,hG,hgb,hctx,hrel,fun B hB=>.inl (hl.mono.imm B hB),fun s' t' m' hx' b r p hb hp hk hno hlv=>?_,fun w' vs I' β' hfr hout hres=>?_⟩
 ·rw[<-hHL,hx] at hx'
  cases hx'
  obtain ⟨i,r1,q,hr1,hq,hqk,hqB⟩:=hlv
  simp only[Bb] at hq
  obtain ⟨zz,hz,hzq⟩:=Option.map_eq_some_iff.1 hq
  obtain ⟨b',p',r0,c1,c2,c3,c4,c5,_⟩:=((List.mem_append.1 (qY14 hz)).elim (D.refs zz) (D.reft zz))
  obtain ⟨r2,hr2⟩:=EH d.ps azs st.heap b r hb
  rw[<-hHL] at hr2
  have hbe:b=b':=hs.ctx.apart b b' r2 r0 p p' hr2 c2 (hl.sub b p hp) c3 hk (by rw[<-c5,hzq];exact hqk) (by rw[<-c4,hzq];exact hqB.symm)
  apply hno
  rw[D.s_eq,D.t_eq,<-List.map_append,hbe]
  exact Nk (List.mem_map.2 ⟨zz,qY14 hz,rfl⟩) c1
 have hall:SimB Γ { st with heap:=H0 } a w β/\(∀ b∈Ax (s++t),H0[b]?=HL[b]?)/\((∀ B,Bp (Γ.after w β HL) β m B->Γ.after w β H0 B)\/(d.rk.all PK.scalar&&(opsOf d.ps).all PK.scalar)=true)/\∀ B,Γ.after w β HL B->Γ.after w β H0 B:=by
  by_cases hm:(m.isEmpty||(d.rk.all PK.scalar&&(opsOf d.ps).all PK.scalar))=true
  ·rw[if_pos hm] at hH0
   subst hH0
   refine ⟨hs,fun _ _=>rfl,?_,fun _ h=>h⟩
   rw[Bool.or_eq_true] at hm
   rcases hm with hm | hm
   ·simp only[List.isEmpty_iff] at hm;subst hm;exact .inl (FH (Ad w)).imm
   ·exact .inr hm
  ·rw[if_neg hm] at hH0
   obtain ⟨k1,k2⟩:=Ls (H':=H0) hs (by rw[hH0];exact ME m HL) (fun b r hr=>by rw[hH0] at hr;exact (HG m _ b r hr).2)
   refine ⟨k1,fun b hb=>by rw[hH0];exact Pg m _ b (hdisj b hb),.inl fun B hB=>k2 B ?_,fun B hB=>k2 B (.inl hB)⟩
   rcases hB with hB | ⟨b,hb,p,hp,hk,rfl⟩
   ·exact .inl hB
   ·obtain ⟨r,hr⟩:=D.alive b hb
    refine .inr ⟨⟨b,r,p,hr,hp,hk,rfl⟩,?_⟩
    rintro ⟨b2,r2,p2,e1,e2,e3,e4⟩
    rw[hH0] at e1
    obtain ⟨e5,e6⟩:=HG m _ b2 r2 e1
    exact e5 ((hs.ctx.apart b2 b _ _ p2 p e6 hr e2 hp e3 hk e4) ▸ hb)
 obtain ⟨hs1,hkeep,hI1,hsub⟩:=hall
 have hmem:∀ z∈zs++zt,∀ b,z.1.row=some b->b∈Ax (s++t):=fun z hz b hb=>by
  rw[D.s_eq,D.t_eq,<-List.map_append]
  exact Gt (List.mem_iff_getElem?.1 (List.mem_map_of_mem hz)).choose_spec hb
 have hrf:∀ z∈zs++zt,Cg β HL z->Cg β H0 z:=fun z hz ⟨b,p,r0,c1,c2,c3⟩=>⟨b,p,r0,c1,by rw[hkeep b (hmem z hz b c1)];exact c2,c3⟩
 obtain ⟨β2,g1,g2,g3,g4⟩:=Yt hs1 D.s_eq D.t_eq (fun z hz=>hrf z (List.mem_append.2 (.inl hz)) (D.refs z hz)) (fun z hz=>hrf z (List.mem_append.2 (.inr hz)) (D.reft z hz)) hnd
  (by rw[He,D.lenK,D.lenN]) hfr (by rw[D.lenK,hg];exact hout) (XE d.ps d.rk ou y) (by rw[T2,D.lenK,Dv];omega) (fun i z e hz he=>by
   have:(tyK d.ps)[i]?=some (some e):=by rw[<-D.ty,List.getElem?_map,hz,Option.map_some,he]
   obtain ⟨l,hl⟩:=HS d.ps ou 0 (cntK d.ps) i e this
   exact ⟨l,by unfold Cu;rw[qZ1,qY8 (List.getElem?_eq_some_iff.1 hl).1];exact hl⟩)
  (hI1.imp id fun h=>(RZ ou y h).1) rfl rfl rfl
 refine ⟨β2,g1,N5 (relL_ren g2 _ _ ?_),fun B hB=>g4 B (hsub B (hl.mono.imm B hB))⟩
 rcases hI1 with h' | h'
 ·exact relL_mono ⟨g3 h',fun _ _ _ _ h=>h⟩ (fun _ _ h=>h) _ _ hres
 ·exact relL_free _ _ (RZ ou y h').2 hres
theorem callE_ok {K:AV->Ai->Option ρ} (hg:Γ.gb=V.gb) (h0:V.G Γ.w) {c:Call} (h:o.op=.call c) {f:Operand} (hc:c.callee=.value f) {k:FuncId} {caps:List AV} (hf:st.ev f=.fn k caps) {d:Callee} (hd:Good V k d)
 (hq:Dx st.heap d (c.args.toList.map st.ev++caps) K=some z):∃ y H,K y H=some z/\AD V.P Γ st o y H:=by
 obtain ⟨x,y,ou,hgx,_,v,H,hK,hcore⟩:=Mb hg h0 hq
 refine ⟨v,H,hK,fun a w β hs next Q hn=>?_⟩
 obtain ⟨us,e1,hargs⟩:=L_ (c:=c) hs hf
 obtain ⟨I,βc,hG,hgb,hctx,hrel,_,_,hend⟩:=hcore a w β hs _ hargs
 refine LF h hc hd.enters e1 (Calls.mono (hd.spec _ _ _ hgx w _ _ _ hG hgb hctx hrel) ?_)
 rintro e w' ⟨vs,I',β',rfl,hfr,hout,hres⟩
 obtain ⟨β2,g1,g2,_⟩:=hend w' vs I' β' hfr hout hres
 exact ⟨_,rfl,hn _ w' ⟨β2,g1.put o.dst g2⟩⟩
end
end Go.AM
end
section
namespace Go.AM
open Go.RowKit (Below)
theorem KG (a b:ByteArray):(a==b)=(a.data.toList==b.data.toList):=by
 show (a.data==b.data)=_
 by_cases h:a.data=b.data
 ·rw[h];simp
 ·rw[beq_eq_false_iff_ne.2 h]
  exact (beq_eq_false_iff_ne.2 fun e=>h (Array.toList_inj.1 e)).symm
theorem AC8 {a b:ByteArray} (h:(a==b)=true):a=b:=by
 rw[KG] at h
 cases a;cases b
 simp only[ByteArray.mk.injEq]
 exact Array.toList_inj.1 (eq_of_beq h)
def Ca (rd:Nat->Nat->Option Value) (I:Nat->Prop) (t:GT):List (qBs×t.ty)->List MapEntry->Prop
 |[],es=>es=[]
 |x::l,es=>∃ e es' kb,es=e::es'/\e.key=.string kb/\kb.data.toList=x.1/\TV rd I t x.2 e.val/\Ca rd I t l es'
theorem K8 {rd:Nat->Nat->Option Value} {I:Nat->Prop} {t:GT}:∀ (l:List (qBs×t.ty)) (es:List MapEntry),es.length=l.length->
 (∀ (i:Nat) x,l[i]?=some x->∃ e kb,es[i]?=some e/\e.key=.string kb/\kb.data.toList=x.1/\TV rd I t x.2 e.val)->Ca rd I t l es
 |[],es,hl,_=>List.eq_nil_of_length_eq_zero (by simpa using hl)
 |x::l,[],hl,_=>by simp at hl
 |x::l,e::es,hl,h=>by
  obtain ⟨e',kb,h1,h2,h3,h4⟩:=h 0 x rfl
  simp at h1;subst h1
  exact ⟨e,es,kb,rfl,h2,h3,h4,K8 l es (by simpa using hl) fun i y hy=>by
   have:=h (i+1) y (by simpa using hy)
   simpa using this⟩
theorem S5 {rd:Nat->Nat->Option Value} {I:Nat->Prop} {t:GT}:∀ (l:List (qBs×t.ty)) (es:List MapEntry),Ca rd I t l es->es.length=l.length/\
 ∀ (i:Nat) x,l[i]?=some x->∃ e kb,es[i]?=some e/\e.key=.string kb/\kb.data.toList=x.1/\TV rd I t x.2 e.val
 |[],es,h=>by simp only[Ca] at h;subst h;exact ⟨rfl,fun i x h=>by simp at h⟩
 |x::l,es,h=>by
  simp only[Ca] at h
  obtain ⟨e,es',kb,rfl,h1,h2,h3,h4⟩:=h
  obtain ⟨g1,g2⟩:=S5 l es' h4
  refine ⟨by simp[g1],fun i y hy=>?_⟩
  cases i with
  |zero=>simp at hy;subst hy;exact ⟨e,kb,rfl,h1,h2,h3⟩
  |succ i=>simpa using g2 i y (by simpa using hy)
theorem Kf {rd:Nat->Nat->Option Value} {I:Nat->Prop} {t:GT} (sb:ByteArray):∀ (l:List (qBs×t.ty)) (es:List MapEntry) (i:Nat),Ca rd I t l es->
 ∃ r,Instr.findNow .string (.string sb) es i=some r/\((r=none/\AY sb.data.toList l=none)\/∃ j v x,r=some (i+j,v)/\AY sb.data.toList l=some x/\TV rd I t x v/\j < es.length)
 |[],es,i,h=>by simp only[Ca] at h;subst h;exact ⟨none,rfl,.inl ⟨rfl,rfl⟩⟩
 |x::l,es,i,h=>by
  simp only[Ca] at h
  obtain ⟨e,es',kb,rfl,h1,h2,h3,h4⟩:=h
  obtain ⟨k,y⟩:=x
  simp only at h2 h3
  simp only[Instr.findNow,h1,Instr.sameNow,AY,<-h2]
  have hb:(sb==kb)=(kb.data.toList==sb.data.toList):=by rw[KG];exact Bool.beq_comm ..
  rw[hb]
  cases hc:(kb.data.toList==sb.data.toList) with
  |true=>exact ⟨_,rfl,.inr ⟨0,e.val,y,rfl,rfl,h3,by simp⟩⟩
  |false=>
   obtain ⟨r,g1,g2⟩:=Kf sb l es' (i+1) h4
   refine ⟨r,g1,?_⟩
   rcases g2 with g2 | ⟨j,v,z,g2,g3,g4,g5⟩
   ·exact .inl g2
   ·exact .inr ⟨j+1,v,z,by rw[g2];congr 2;omega,g3,g4,by simp;omega⟩
section
variable {V:Env} {Γ:Base} {st:St} {o:Oper} {ρ:Type}
theorem HF {k:TypeId} (hk:V.P.underlying k=some .string) (b:Bool) (s:ByteArray) (w:World):(Instr.checkKey b 10000 k (.string s)).run V.P w=.ok () w:=by
 unfold Instr.checkKey
 simp only[Sem.run_bind,A2 hk,Result.andThen_ok]
 rfl
theorem AE3 {t:TypeId} (h:o.op=.makeMap t none) (g:GT):AD V.P Γ st o (.mp st.heap.length) (st.heap++[some (.mapr g [])]):=
 DL fun a w β hs=>by
  obtain ⟨β',h1,h2,h3,h4⟩:=FU hs (Ext.alloc w (.map #[] 0)) (.mapr g []) ⟨w.heap.size,0,0,0,0,true⟩ (fun _=>⟨Nat.le_refl _,by simp⟩) (fun β' hβ hm=>
   ⟨rfl,#[],0,Iz _ _,rfl,fun i x hi=>by simp at hi⟩)
  refine ⟨.map (some w.heap.size),w.alloc (.map #[] 0),?_,β',h1,?_⟩
  ·simp only[execOp,h]
   rfl
  ·simp only[RelV];exact ⟨_,h2,rfl,rfl⟩
theorem N_ (rd:Nat->Nat->Option Value) (I:Nat->Prop) (g:GT):TV rd I g g.zero (Cs g):=by
 unfold TV Cs
 have h:=Ct rd I g
 split
 ·exact ⟨_,rfl,h⟩
 ·rename_i hn
  have hn':g.isAgg=false:=by simpa using hn
  have hl:=DI g
  have hc:g.cells=1:=by cases g<;>simp[GT.isAgg] at hn'<;>rfl
  rw[hc] at hl
  match hz:AC g,hl with
  |[v],_=>rw[hz] at h;exact h
theorem YB {rd:Nat->Nat->Option Value} {I:Nat->Prop} {β:Nat->Option Place} {g:GT} {r:Option g.ty} {v:Value} {ok:Bool} (hv:RelV rd I β (enc g (r.getD g.zero)) v) :
 RelV rd I β (Hl g ok r) (if ok then .tuple #[v,.bool r.isSome] else v):=by
 unfold Hl
 cases ok with
 |false=>exact hv
 |true=>
  simp only[cond_true,if_true,RelV,RelL]
  exact ⟨[v,.bool r.isSome],rfl,v,_,rfl,hv,_,[],rfl,rfl,rfl⟩
theorem SX {w:World} {I:Nat->Prop} {g:GT} {m:List (qBs×g.ty)} {v:Value} (h:RelC (Ad w) I (.map g) m [v]):(v=.map none/\m=[])\/
 ∃ (B:Nat) (es:Array MapEntry) (c:Nat),v=.map (some B)/\w.heap[B]?=some (.map es c)/\es.size=m.length/\∀ (i:Nat) y,m[i]?=some y->∃ e kb,es[i]?=some e/\e.key=.string kb/\kb.data.toList=y.1/\TV (Ad w) I g y.2 e.val:=by
 simp only[RelC] at h
 obtain ⟨o,hv,h0,h1⟩:=h
 have hv:=(List.cons.inj hv).1
 cases o with
 |none=>exact .inl ⟨hv,h0 rfl⟩
 |some B=>
  obtain ⟨_,h2,h3⟩:=h1 B rfl
  obtain ⟨es,c,hh⟩:=ACF h2
  obtain ⟨r1,r2⟩:=TA hh
  rw[r1] at h2
  refine .inr ⟨B,es,c,hv,hh,by have h2:=congrArg (fun v=>v.getD undef) h2;simp at h2;exact Int.ofNat.inj h2,fun i y hy=>?_⟩
  obtain ⟨kb,us,h4,h5,h6⟩:=h3 i y hy
  rw[r2] at h4
  obtain ⟨e,he,h4⟩:=Option.map_eq_some_iff.1 h4
  simp only[Value.tuple.injEq,Array.mk.injEq,List.cons.injEq,and_true] at h4
  exact ⟨e,kb,he,h4.1,h5,MU.2 ⟨us,h4.2,h6⟩⟩
theorem con_lookup {K:AV->Option ρ} {t k e:TypeId} {x ix:Operand} {ok:Bool} (h:o.op=.lookup t x ix ok) {i j l:TI} (ht:TOk V.P t i) (hd:i.d=.map k e) (hk:TOk V.P k j) (hj:j.d=.str) (he:TOk V.P e l) {g:GT} (hg:l.gt=some g)
 {s:qBs} (hs':st.ev ix=.str s) {z:ρ} (hq:Ek st.heap g (st.ev x) s ok K=some z):∃ y,K y=some z/\AD V.P Γ st o y st.heap:=by
 have key:∀ (r:Option g.ty),(∀ a w β,SimB Γ st a w β->∃ v,(Instr.lookup t (a.eval x) (a.eval ix) ok).run V.P w=.ok (if ok then .tuple #[v,.bool r.isSome] else v) w/\RelV (Ad w) (Γ.after w β st.heap) β (enc g (r.getD g.zero)) v)->AD V.P Γ st o (Hl g ok r) st.heap:=
  fun r hr=>con_pure fun a w β hs=>by
   obtain ⟨v,h1,h2⟩:=hr a w β hs
   refine ⟨_,?_,YB h2⟩
   simp only[execOp,h,Sem.run_bind,h1,Result.andThen_ok]
   rfl
 have und:=A2 (ht.map hd)
 have uks:=hk.str hj
 have hzero:=he.run_zero hg
 have found:∀ (m:List (qBs×g.ty)) (a:Act) (w:World) (β:Nat->Option Place) (sb:ByteArray) (B:Nat) (es:Array MapEntry) (c:Nat),a.eval x=.map (some B)->a.eval ix=.string sb->w.heap[B]?=some (.map es c)->es.size=m.length->
  (∀ (i:Nat) y,m[i]?=some y->∃ e kb,es[i]?=some e/\e.key=.string kb/\kb.data.toList=y.1/\TV (Ad w) (Γ.after w β st.heap) g y.2 e.val)->
  ∃ v,(Instr.lookup t (a.eval x) (a.eval ix) ok).run V.P w=.ok (if ok then .tuple #[v,.bool (AY sb.data.toList m).isSome] else v) w/\RelV (Ad w) (Γ.after w β st.heap) β (enc g ((AY sb.data.toList m).getD g.zero)) v:=by
  intro m a w β sb B es c e1 e2 hh hsz hent
  have hE:=K8 m es.toList (by simpa using hsz) fun i y hy=>by
   obtain ⟨e,kb,c1,c2,c3,c4⟩:=hent i y hy
   exact ⟨e,kb,by rw[Array.getElem?_toList];exact c1,c2,c3,c4⟩
  obtain ⟨r,f1,f2⟩:=Kf sb m es.toList 0 hE
  have hgo:(getObj B).run V.P w=.ok (.map es c) w:=MapKept.run_getObj_map hh
  have hfind:(Instr.findKey k (.string sb) es.toList).run V.P w=.ok r w:=by
   unfold Instr.findKey
   simp only[Sem.run_bind,A2 uks,Result.andThen_ok,f1,Sem.run_pure]
  rcases f2 with ⟨rfl,f2⟩ | ⟨j',v,y,rfl,f2,f3,_⟩
  ·rw[f2]
   refine ⟨_,?_,Dt (N_ _ _ g)⟩
   rw[e1,e2]
   unfold Instr.lookup
   simp only[Sem.run_bind,und,Result.andThen_ok,hgo,Sem.run_pure,HF uks,hfind,hzero,Option.isSome_none]
  ·rw[f2]
   refine ⟨v,?_,Dt f3⟩
   rw[e1,e2]
   unfold Instr.lookup
   simp only[Sem.run_bind,und,Result.andThen_ok,hgo,Sem.run_pure,HF uks,hfind,Option.isSome_some]
 have nothing:∀ (a:Act) (w:World) (β:Nat->Option Place) (sb:ByteArray),a.eval x=.map none->a.eval ix=.string sb->∃ v,(Instr.lookup t (a.eval x) (a.eval ix) ok).run V.P w=.ok (if ok then .tuple #[v,.bool (none:Option g.ty).isSome] else v) w/\RelV (Ad w) (Γ.after w β st.heap) β (enc g ((none:Option g.ty).getD g.zero)) v:=by
  intro a w β sb e1 e2
  have hfind:(Instr.findKey k (.string sb) []).run V.P w=.ok none w:=by
   unfold Instr.findKey
   simp only[Sem.run_bind,A2 uks,Result.andThen_ok,Instr.findNow,Sem.run_pure]
  refine ⟨_,?_,Dt (N_ _ _ g)⟩
  rw[e1,e2]
  unfold Instr.lookup
  simp only[Sem.run_bind,und,Result.andThen_ok,Sem.run_pure,HF uks,hfind,hzero,Option.isSome_none]
 unfold Ek at hq
 split at hq
 ·rename_i b hx
  split at hq
  ·rename_i g' m hb
   split at hq
   ·rename_i hgg;subst hgg
    refine ⟨_,hq,key _ fun a w β hs=>?_⟩
    have e1:=Aq hs x;have e2:=Aq hs ix
    rw[hx] at e1;rw[hs'] at e2;simp only[RelV] at e1 e2
    obtain ⟨p,hp,hk',e1⟩:=e1
    obtain ⟨sb,e2,rfl⟩:=e2
    obtain ⟨p',hp',_,_,es,c,hh,hsz,hent⟩:=hs.ctx.rows b _ hb
    rw[hp] at hp';cases hp'
    exact found m a w β sb p.B es c e1 e2 hh hsz hent
   ·cases hq
  ·cases hq
 ·rename_i hx
  refine ⟨_,hq,key _ fun a w β hs=>?_⟩
  have e1:=Aq hs x;have e2:=Aq hs ix
  rw[hx] at e1;rw[hs'] at e2;simp only[RelV] at e1 e2
  obtain ⟨sb,e2,rfl⟩:=e2
  exact nothing a w β sb e1 e2
 ·rename_i g' m hx
  split at hq
  ·rename_i hgg;subst hgg
   refine ⟨_,hq,key _ fun a w β hs=>?_⟩
   have e1:=Aq hs x;have e2:=Aq hs ix
   rw[hx] at e1;rw[hs'] at e2;simp only[RelV] at e1 e2
   obtain ⟨sb,e2,rfl⟩:=e2
   obtain ⟨e3,h0⟩ | ⟨B,es,c,e3,hh,hsz,hent⟩:=SX e1
   ·subst h0;exact nothing a w β sb e3 e2
   ·exact found m a w β sb B es c e3 e2 hh hsz hent
  ·cases hq
 ·cases hq
theorem con_lenMap {c:Call} (h:o.op=.call c) (hc:c.callee=.builtin .len) {K:AV->Option ρ} {x:Operand} {t k e:TypeId} (ha:c.args.toList=[x]) (hat:c.argTypes.toList=[t]) {i:TI} (ht:TOk V.P t i) (hd:i.d=.map k e) {z:ρ} (hq:ED st.heap (st.ev x) K=some z) :
 ∃ y,K y=some z/\AD V.P Γ st o y st.heap:=by
 have ea:c.args=#[x]:=by have:=congrArg List.toArray ha;simpa using this
 have et:c.argTypes=#[t]:=by have:=congrArg List.toArray hat;simpa using this
 unfold ED at hq
 split at hq
 ·rename_i b hx
  split at hq
  ·rename_i g l hb
   refine ⟨_,hq,FM h hc fun a w β hs=>⟨.int .i64 l.length,?_,by simp only[RelV]⟩⟩
   have e1:=Aq hs x
   rw[hx] at e1;simp only[RelV] at e1
   obtain ⟨p,hp,hk',e1⟩:=e1
   obtain ⟨p',hp',_,_,es,c',hh,hsz,_⟩:=hs.ctx.rows b _ hb
   rw[hp] at hp';cases hp'
   have hgo:(getObj p.B).run V.P w=.ok (.map es c') w:=MapKept.run_getObj_map hh
   simp[builtin,ea,et,Builtin.len_,A2 (ht.map hd),goInt,e1,hgo,hsz]
  ·cases hq
 ·rename_i hx
  refine ⟨_,hq,FM h hc fun a w β hs=>⟨.int .i64 0,?_,by simp only[RelV]⟩⟩
  have e1:=Aq hs x
  rw[hx] at e1;simp only[RelV] at e1
  simp[builtin,ea,et,Builtin.len_,A2 (ht.map hd),goInt,e1]
 ·rename_i g m hx
  refine ⟨_,hq,FM h hc fun a w β hs=>⟨.int .i64 m.length,?_,by simp only[RelV]⟩⟩
  have e1:=Aq hs x
  rw[hx] at e1;simp only[RelV] at e1
  obtain ⟨e3,h0⟩ | ⟨B,es,c,e3,hh,hsz,hent⟩:=SX e1
  ·subst h0;simp[builtin,ea,et,Builtin.len_,A2 (ht.map hd),goInt,e3]
  ·have hgo:(getObj B).run V.P w=.ok (.map es c) w:=MapKept.run_getObj_map hh
   simp[builtin,ea,et,Builtin.len_,A2 (ht.map hd),goInt,e3,hgo,hsz]
 ·cases hq
theorem Qj {rd:Nat->Nat->Option Value} {I:Nat->Prop} {t:GT} (sb:ByteArray) (v:Value) (x:t.ty) (hv:TV rd I t x v):∀ (l:List (qBs×t.ty)) (es:List MapEntry) (i:Nat),Ca rd I t l es->
 (Instr.findNow .string (.string sb) es i=some none->∀ n,Ca rd I t (Bn sb.data.toList x l) (es++[{ key:=.string sb,val:=v,born:=n }]))/\
 (∀ j old,Instr.findNow .string (.string sb) es i=some (some (i+j,old))->Ca rd I t (Bn sb.data.toList x l) (es.modify j fun e=>{ e with key:=.string sb,val:=v })/\∃ e,es[j]?=some e/\e.key=.string sb)
 |[],es,i,h=>by
  simp only[Ca] at h;subst h
  refine ⟨fun _ n=>?_,fun j old h=>by simp[Instr.findNow] at h⟩
  simp only[Bn,qY15,Ca]
  exact ⟨_,[],sb,rfl,rfl,rfl,hv,rfl⟩
 |y::l,es,i,h=>by
  simp only[Ca] at h
  obtain ⟨e,es',kb,rfl,h1,h2,h3,h4⟩:=h
  obtain ⟨k,y⟩:=y
  simp only at h2 h3
  have hb:(sb==kb)=(kb.data.toList==sb.data.toList):=by rw[KG];exact Bool.beq_comm ..
  simp only[Instr.findNow,h1,Instr.sameNow,Bn,<-h2,hb]
  cases hc:(kb.data.toList==sb.data.toList) with
  |true=>
   have hks:kb=sb:=by rw[<-hb] at hc;exact (AC8 hc).symm
   subst hks
   refine ⟨fun h=>by simp at h,fun j old hj=>?_⟩
   simp only[Option.some.injEq,Prod.mk.injEq] at hj
   have:j=0:=by omega
   subst this
   refine ⟨?_,e,rfl,h1⟩
   simp only[cond_true,List.modify_zero_cons,Ca]
   exact ⟨_,es',kb,rfl,rfl,rfl,hv,h4⟩
  |false=>
   obtain ⟨g1,g2⟩:=Qj sb v x hv l es' (i+1) h4
   simp only[cond_false]
   refine ⟨fun h n=>?_,fun j old hj=>?_⟩
   ·simp only[qY5,Ca]
    exact ⟨e,_,kb,rfl,h1,rfl,h3,g1 h n⟩
   ·obtain ⟨r,f1,f2⟩:=Kf sb l es' (i+1) h4
    rw[f1] at hj
    rcases f2 with ⟨rfl,_⟩ | ⟨j',v',z,rfl,_⟩
    ·cases hj
    ·simp only[Option.some.injEq,Prod.mk.injEq] at hj
     have hj':j=j'+1:=by omega
     subst hj'
     obtain ⟨k1,e',k2,k3⟩:=g2 j' v' f1
     refine ⟨?_,e',by simpa using k2,k3⟩
     simp only[List.modify_succ_cons,Ca]
     exact ⟨e,_,kb,rfl,h1,rfl,h3,k1⟩
theorem Xo {t k e:TypeId} {m ix v:Operand} (h:o.op=.mapUpdate t m ix v) {i j:TI} (ht:TOk V.P t i) (hd:i.d=.map k e) (hk:TOk V.P k j) (hj:j.d=.str) {b:Nat} (hm:st.ev m=.mp b) {s:qBs} (hs':st.ev ix=.str s)
 {g:GT} {L:List (qBs×g.ty)} (hb:st.heap[b]?=some (some (.mapr g L))) {x:g.ty} (hx:Dh st.heap g (st.ev v)=some (x,[])):AD V.P Γ st o .undef (st.heap.set b (some (.mapr g (Bn s x L)))):=
 fun a w β hs next Q hn=>by
  have und:=A2 (ht.map hd)
  have uks:=hk.str hj
  have e1:=Aq hs m;have e2:=Aq hs ix;have e3:=Aq hs v
  rw[hm] at e1;rw[hs'] at e2;simp only[RelV] at e1 e2
  obtain ⟨p,hp,hk',e1⟩:=e1
  obtain ⟨sb,e2,rfl⟩:=e2
  obtain ⟨p',hp',hgp,_,es,c,hh,hsz,hent⟩:=hs.ctx.rows b _ hb
  rw[hp] at hp';cases hp'
  have htv:=FA (FH (Ad w)) (decV_ok hs.ctx e3 hx)
  have hE:=K8 L es.toList (by simpa using hsz) fun i y hy=>by
   obtain ⟨e,kb,c1,c2,c3,c4⟩:=hent i y hy
   exact ⟨e,kb,by rw[Array.getElem?_toList];exact c1,c2,c3,c4⟩
  obtain ⟨r,f1,f2⟩:=Kf sb L es.toList 0 hE
  obtain ⟨p1,p2⟩:=Qj sb (a.eval v) x htv L es.toList 0 hE
  have hgo:(getObj p.B).run V.P w=.ok (.map es c) w:=MapKept.run_getObj_map hh
  have hfind:(Instr.findKey k (.string sb) es.toList).run V.P w=.ok r w:=by
   unfold Instr.findKey
   simp only[Sem.run_bind,A2 uks,Result.andThen_ok,f1,Sem.run_pure]
  have hfin:∃ es' c',Ca (Ad w) (Γ.after w β st.heap) g (Bn sb.data.toList x L) es'.toList/\(Instr.mapUpdate t (a.eval m) (a.eval ix) (a.eval v)).run V.P w=.ok () { w with heap:=w.heap.setIfInBounds p.B (.map es' c') }:=by
   rcases f2 with ⟨rfl,f2⟩ | ⟨j',v',y,rfl,f2,f3,_⟩
   ·refine ⟨es.push { key:=.string sb,val:=a.eval v,born:=c },c+1,by simpa using p1 f1 c,?_⟩
    rw[e1,e2]
    unfold Instr.mapUpdate
    simp only[Sem.run_bind,und,Result.andThen_ok,hgo,HF uks,hfind]
    exact MapKept.run_setObj_map _ hh
   ·obtain ⟨q1,e',q2,q3⟩:=p2 j' v' (by simpa using f1)
    refine ⟨es.modify (0+j') fun e=>{ e with key:=.string sb,val:=a.eval v },c,by simpa using q1,?_⟩
    have q2':es[0+j']?=some e':=by rw[<-q2];simp
    have hst:(Instr.keyThatStays (((es[0+j']?).map (·.key)).getD (.string sb)) (.string sb)).run V.P w=.ok (.string sb) w:=by
     rw[q2'];simp only[Option.map_some,Option.getD_some,q3]
     have hb2:Instr.sameBits 10000 (.string sb) (.string sb)=true:=by
      unfold Instr.sameBits;rw[KG];simp
     unfold Instr.keyThatStays;rw[hb2];rfl
    rw[e1,e2]
    unfold Instr.mapUpdate
    simp only[Sem.run_bind,und,Result.andThen_ok,hgo,HF uks,hfind,hst]
    exact MapKept.run_setObj_map _ hh
  obtain ⟨es',c',hE',hrun⟩:=hfin
  have hlt:=(hgp hk').2
  have hh':({ w with heap:=w.heap.setIfInBounds p.B (.map es' c') }:World).heap[p.B]?=some (.map es' c'):=by simp[hlt]
  have hother:∀ B,B≠p.B->({ w with heap:=w.heap.setIfInBounds p.B (.map es' c') }:World).heap[B]?=w.heap[B]?:=fun B hB=>by
   simp only[Array.getElem?_setIfInBounds];rw[if_neg (Ne.symm hB)]
  have hlp:AN st.heap β p.B:=⟨b,_,p,hb,hp,hk',rfl⟩
  have hlive:∀ B,AN (st.heap.set b (some (.mapr g (Bn sb.data.toList x L)))) β B->AN st.heap β B:=by
   rintro B ⟨b',r',q,hb',hq⟩
   rw[List.getElem?_set] at hb'
   split at hb'
   ·rename_i e;subst e;exact ⟨b,_,q,hb,hq⟩
   ·exact ⟨b',r',q,hb',hq⟩
  have hmono:Mono (Ad w) (Γ.after w β st.heap) (Ad { w with heap:=w.heap.setIfInBounds p.B (.map es' c') }) (Γ.after { w with heap:=w.heap.setIfInBounds p.B (.map es' c') } β (st.heap.set b (some (.mapr g (Bn sb.data.toList x L))))):=
   Gh (fun B hB=>⟨by simpa using hB.1,hB.2.1,fun hl=>hB.2.2 (hlive B hl)⟩) fun B hB=>hother B fun e=>hB.2.2 (e ▸ hlp)
  obtain ⟨g1,g2⟩:=S5 _ _ hE'
  have hs':=Mk (r:=.mapr g (Bn sb.data.toList x L)) hs hb hp hk' (w':={ w with heap:=w.heap.setIfInBounds p.B (.map es' c') }) rfl rfl rfl (by simp) hother (.inl ⟨es,c,es',c',hh,hh'⟩) ⟨hk',es',c',hh',by simpa using g1,fun i y hy=>by
   obtain ⟨e,kb,c1,c2,c3,c4⟩:=g2 i y hy
   exact ⟨e,kb,by rw[<-Array.getElem?_toList];exact c1,c2,c3,FA hmono c4⟩⟩
  unfold Oper.wp
  have hexec:(execOp a.eval o).run V.P w=.ok .skip { w with heap:=w.heap.setIfInBounds p.B (.map es' c') }:=by
   simp only[execOp,h,Sem.run_bind,hrun,Result.andThen_ok]
   rfl
  rw[hexec]
  exact hn undef _ ⟨β,hs'.put o.dst (by simp[RelV])⟩
end
end Go.AM
end
section
namespace Go.AM
open Go.RowKit (Below)
section
variable {P:Program} {Γ:Base} {st:St} {o:Oper} {ρ:Type} {z:ρ}
theorem TOk.array {t:TypeId} {i:TI} (h:TOk P t i) {n:Nat} {e:TypeId} (hd:i.d=.array n e):P.underlying t=some (.array n e):=by
 obtain ⟨d,hu,he⟩:=h.desc;rw[hd] at he;cases d<;>simp[Di] at he;rw[hu,he.1,he.2]
theorem Nr {gb:Nat} {w:World} {I:Nat->Prop} {β:Nat->Option Place} {H:Ai} (hc:Ctx gb w I β H) {g:GT}:∀ (n:Nat) (cs:List AV) (us:List Value) (xs:List g.ty),RelL (Ad w) I β cs us->EG g n cs=some xs->
 xs.length=n/\us.length=n * g.cells/\∀ (i:Nat) x,xs[i]?=some x->∃ vs:List Value,vs.length=g.cells/\(∀ j,j < g.cells->us[i * g.cells+j]?=vs[j]?)/\RelC (Ad w) I g x vs
 |0,[],us,xs,hr,h=>by
  simp only[EG,Option.some.injEq] at h;subst h
  have:=Cx _ _ hr
  exact ⟨rfl,by simpa using this,fun i x hx=>by simp at hx⟩
 |0,c::cs,us,xs,hr,h=>by simp[EG] at h
 |n+1,cs,us,xs,hr,h=>by
  simp only[EG] at h
  split at h
  ·rename_i x r m hd
   split at h
   ·rename_i l hl
    cases h
    obtain ⟨hd',rfl⟩:=Mi (H:=H) _ _ _ _ _ hd
    obtain ⟨u1,u2,rfl,r1,r2⟩:=Fl hc _ _ _ _ _ _ hr hd'
    have r1:=relC_mono (FH (Ad w)) _ _ _ r1
    have hlen:=C6 _ _ _ r1
    obtain ⟨a1,a2,a3⟩:=Nr hc n r u2 l r2 hl
    refine ⟨by simp[a1],by rw[qZ6,hlen,a2,Nat.add_mul];omega,fun i y hy=>?_⟩
    cases i with
    |zero=>
     simp only[List.getElem?_cons_zero,Option.some.injEq] at hy;subst hy
     exact ⟨u1,hlen,fun j hj=>by rw[Nat.zero_mul,Nat.zero_add,qY8 (by omega)],r1⟩
    |succ i=>
     obtain ⟨vs,b1,b2,b3⟩:=a3 i y (by simpa using hy)
     refine ⟨vs,b1,fun j hj=>?_,b3⟩
     rw[qY9 (by rw[Nat.add_mul];omega),<-b2 j hj]
     congr 1;rw[Nat.add_mul];omega
   ·cases h
  ·cases h
theorem AFn {w:World} {I:Nat->Prop} {e:TypeId} {j:TI} (hj:TOk P e j) {g:GT} (hg:j.gt=some g) {us:List Value} {x:g.ty} {off:Nat} {vs:List Value} (hl:vs.length=g.cells) (hlt:off+g.cells<=us.length) (hv:∀ k,k < g.cells->us[off+k]?=vs[k]?) (hr:RelC (Ad w) I g x vs) :
 (part e us.toArray off).run P w=.ok (Hp g vs) w:=by
 obtain ⟨_,hsz,hag⟩:=hj.zero g hg
 unfold part Hp
 rw[hag]
 cases ha:j.d.agg with
 |true=>
  simp only[Sem.run_bind,hj.run_agg,ha,Result.andThen_ok,if_true,hj.run_size]
  have:us.toArray.extract off (off+j.size)=vs.toArray:=by
   rw[<-hsz]
   apply Array.ext'
   simp only[Array.toList_extract,List.extract_eq_take_drop]
   apply List.ext_getElem?
   intro k
   by_cases hk:k < g.cells
   ·rw[List.getElem?_take,if_pos (by omega),List.getElem?_drop,hv k hk]
   ·rw[List.getElem?_eq_none (by simp;omega),List.getElem?_eq_none (by omega)]
  simp[this]
 |false=>
  rw[ha] at hag
  have h1:g.cells=1:=by cases g<;>first | rfl | simp[GT.isAgg] at hag
  have:=hv 0 (by omega)
  rw[Nat.add_zero] at this
  cases vs with
  |nil=>simp at hl;omega
  |cons v vs=>
   simp only[List.getElem?_cons_zero] at this
   simp[hj.run_agg,ha,this]
theorem AEF {t e:TypeId} {x ix:Operand} (h:o.op=.index t x ix) {i j:TI} (ht:TOk P t i) {n:Nat} (hd:i.d=.array n e) (hj:TOk P e j) {g:GT} (hg:j.gt=some g) {l:List AV} (hx:st.ev x=.agg l) {k:IntKind} {m:Int} (hix:st.ev ix=.int k m) {xs:List g.ty} (ha:EG g n l=some xs) (h0:0<=m) (h1:m < n) :
 AD P Γ st o (enc g (xs.getD m.toNat g.zero)) st.heap:=
 B3 (fun ev=>Instr.index t (ev x) (ev ix)) (fun _=>by simp only[execOp,h]) _ fun a w β hs=>by
  have e1:=Aq hs x;have e2:=Aq hs ix
  rw[hx] at e1;rw[hix] at e2;simp only[RelV] at e1 e2
  obtain ⟨us,e1,hr,_⟩:=e1
  obtain ⟨a1,a2,a3⟩:=Nr hs.ctx n l us xs hr ha
  have hlt:m.toNat < xs.length:=by omega
  obtain ⟨vs,b1,b2,b3⟩:=a3 m.toNat xs[m.toNat] (qZ5 hlt)
  have hb:m.toNat * g.cells+g.cells<=us.length:=by
   have:(m.toNat+1) * g.cells<=n * g.cells:=Nat.mul_le_mul_right _ (by omega)
   rw[Nat.add_mul,Nat.one_mul] at this;omega
  refine ⟨Hp g vs,?_,?_⟩
  ·rw[e1,e2]
   unfold Instr.index
   have hsz:=(hj.zero g hg).2.1
   simp only[asIntOf,Sem.run_bind,Sem.run_pure,Result.andThen_ok,A2 (ht.array hd)]
   rw[if_pos ⟨h0,h1⟩]
   simp only[Sem.run_bind,hj.run_size,Result.andThen_ok,<-hsz]
   exact AFn hj hg b1 hb b2 b3
  ·rw[qZ4,qZ5 hlt]
   exact Dt (MU.2 ⟨vs,rfl,b3⟩)
theorem XJ {t e:TypeId} {x ix:Operand} (h:o.op=.indexAddr t x ix) {i j:TI} (ht:TOk P t i) {n:Nat} (hd:i.d=.array n e) (hj:TOk P e j) {g:GT} (hg:j.gt=some g) {l:List AV} (hx:MT (st.ev x)=some (l,true)) {k:IntKind} {m:Int} (hix:st.ev ix=.int k m) {xs:List g.ty} (ha:EG g n l=some xs) (h0:0<=m) (h1:m < n) :
 AD P Γ st o (.iptr g (xs.getD m.toNat g.zero) 0) st.heap:=
 B3 (fun ev=>Instr.indexAt t (ev x) (ev ix)) (fun _=>by simp only[execOp,h]) _ fun a w β hs=>by
  have e1:=Aq hs x;have e2:=Aq hs ix
  rw[hix] at e2;simp only[RelV] at e2
  have key:∃ B o',a.eval x=.pointer (some ⟨B,o',none⟩)/\Γ.after w β st.heap B/\∃ us:List Value,(∀ q,q < us.length->Ad w B (o'+q)=us[q]?)/\RelL (Ad w) (Γ.after w β st.heap) β l us:=by
   revert hx e1
   generalize st.ev x=xv
   intro hx e1
   unfold MT at hx
   split at hx
   ·rename_i g' y
    simp only[Option.some.injEq,Prod.mk.injEq] at hx
    obtain ⟨rfl,hy⟩:=hx
    cases y with
    |none=>cases hy
    |some v=>
     simp only[RelV,RelC] at e1
     obtain ⟨B,o',hv,hB,us,u1,u2,u3⟩:=e1
     exact ⟨B,o',by simpa using hv,hB,us,fun q hq=>u2 q (by omega),BO _ _ _ u3⟩
   ·rename_i g' y
    simp only[Option.some.injEq,Prod.mk.injEq] at hx
    obtain ⟨rfl,_⟩:=hx
    simp only[RelV] at e1
    obtain ⟨B,o',hv,hB,us,u1,u2,u3⟩:=e1
    exact ⟨B,o',by simpa using hv,hB,us,fun q hq=>u2 q (by omega),BO _ _ _ u3⟩
   ·cases hx
  obtain ⟨B,o',hv,hB,us,u2,u3⟩:=key
  obtain ⟨a1,a2,a3⟩:=Nr hs.ctx n l us xs u3 ha
  have hlt:m.toNat < xs.length:=by omega
  obtain ⟨vs,b1,b2,b3⟩:=a3 m.toNat xs[m.toNat] (qZ5 hlt)
  have hb:m.toNat * g.cells+g.cells<=us.length:=by
   have:(m.toNat+1) * g.cells<=n * g.cells:=Nat.mul_le_mul_right _ (by omega)
   rw[Nat.add_mul,Nat.one_mul] at this;omega
  refine ⟨.pointer (some ⟨B,o'+m.toNat * g.cells,none⟩),?_,?_⟩
  ·rw[hv,e2]
   have hsz:=(hj.zero g hg).2.1
   unfold Instr.indexAt
   simp only[asIntOf,Sem.run_bind,Sem.run_pure,Result.andThen_ok,A2 (ht.array hd),Instr.sureAddr]
   simp[A2 (ht.array hd),h0,h1,hj.run_size,<-hsz,add_plain]
  ·simp only[RelV]
   refine ⟨B,o'+m.toNat * g.cells,rfl,hB,vs,b1,fun q hq=>?_,?_⟩
   ·rw[Nat.add_assoc,u2 _ (by omega),b2 q hq]
   ·rw[qZ4,qZ5 hlt]
    exact b3
theorem con_buildArr {t e:TypeId} {parts:Array (Nat×Operand)} (h:o.op=.build t parts) {i j:TI} (ht:TOk P t i) {n:Nat} (hd:i.d=.array n e) (hj:TOk P e j) {g:GT} (hg:i.gt=some g) {l:List AV}
 (hq:EL (fun i=>some (i * j.size,j.size)) (B6 g) (parts.toList.map fun p=>(p.1,st.ev p.2))=some l):AD P Γ st o (.agg l) st.heap:=
 B3 (fun ev=>Instr.build t (parts.map fun (i,x)=>(i,ev x))) (fun _=>by simp only[execOp,h]) _ fun a w β hs=>by
  have hagg:g.isAgg=true:=by rw[(ht.zero g hg).2.2,hd];rfl
  have hzv:(Cs g).cells=(AC g).toArray:=by unfold Cs;rw[if_pos hagg];rfl
  obtain ⟨cs,c1,c2,c3⟩:=Nu (rd:=Ad w) (I:=Γ.after w β st.heap) (β:=β) (place':=fun i=>some (i * j.size,j.size)) (fun j p hj=>hj) (parts.toList.map fun p=>(p.1,st.ev p.2)) (parts.toList.map fun p=>(p.1,a.eval p.2)) (B6 g) (AC g).toArray l (GM _ _ _ g) (by simpa using Fi g) (by simp) (by
   simp only[List.map_map]
   have h:=DW hs (parts.toList.map Prod.snd)
   simp only[List.map_map] at h
   exact h) hq
  refine ⟨.agg cs,?_,?_⟩
  ·unfold Instr.build
   simp only[Sem.run_bind,ht.run_zero hg,Result.andThen_ok,A2 (ht.array hd),hzv,hj.run_size]
   simp[c1]
  ·simp only[RelV]
   exact ⟨cs.toList,by simp,c2,c3⟩
theorem N8 {H:Ai} {e:GT}:∀ (ps:List (Nat×AV)) (n:Nat) (l:List e.ty),C0 H e n ps=some (l,[])->CX H e n ps=some l
 |[],_,l,h=>by simp only[C0,Option.some.injEq,Prod.mk.injEq] at h;simp[CX,h.1]
 |(i,v)::ps,n,l,h=>by
  simp only[C0] at h
  simp only[CX]
  split at h
  ·rename_i hi
   rw[if_pos hi]
   split at h
   ·rename_i x m hx
    split at h
    ·rename_i l' m' hl
     simp only[Option.some.injEq,Prod.mk.injEq,List.append_eq_nil_iff] at h
     obtain ⟨h1,h2,h3⟩:=h
     subst h2;subst h3
     rw[hx]
     simp only
     rw[N8 ps (n+1) l' hl]
     simp only
     rw[h1]
    ·cases h
   ·cases h
  ·cases h
theorem QR {H:Ai} {e:GT}:∀ (ps:List (Nat×AV)) (n:Nat) (l:List e.ty) (m:List Nat),C0 H e n ps=some (l,m)->∀ b∈m,∃ r,H[b]?=some (some r)
 |[],_,l,m,h,b,hb=>by simp only[C0,Option.some.injEq,Prod.mk.injEq] at h;rw[<-h.2] at hb;simp at hb
 |(i,v)::ps,n,l,m,h,b,hb=>by
  simp only[C0] at h
  split at h
  ·split at h
   ·rename_i x m1 hx
    split at h
    ·rename_i l' m' hl
     simp only[Option.some.injEq,Prod.mk.injEq] at h
     rw[<-h.2] at hb
     rcases List.mem_append.1 hb with hb | hb
     ·exact P' hx b hb
     ·exact QR ps (n+1) l' m' hl b hb
    ·cases h
   ·cases h
  ·cases h
theorem ACZ {I:Nat->Prop} {β:Nat->Option Place} {m M:List Nat} (rd:Nat->Nat->Option Value) (h:∀ b∈m,b∈M):Mono rd (Bp I β m) rd (Bp I β M):=
 ⟨fun B hB=>by
  rcases hB with hB | ⟨b,hb,q⟩
  ·exact .inl hB
  ·exact .inr ⟨b,h b hb,q⟩,fun _ _ _ _ h=>h⟩
theorem Oy {gb:Nat} {w:World} {I:Nat->Prop} {β:Nat->Option Place} {H:Ai} (hc:Ctx gb w I β H) {g:GT} (M:List Nat):∀ (ps:List (Nat×AV)) (vs:List (Nat×Value)) (n:Nat) (l:List g.ty) (m:List Nat) (cs:Array Value),
 ps.map Prod.fst=vs.map Prod.fst->RelL (Ad w) I β (ps.map Prod.snd) (vs.map Prod.snd)->C0 H g n ps=some (l,m)->(∀ b∈m,b∈M)->(n+l.length) * g.cells<=cs.size->
 ∃ cs',Instr.fill (fun i=>some (i * g.cells,g.cells)) cs vs=some cs'/\cs'.size=cs.size/\(∀ m,m < n * g.cells->cs'[m]?=cs[m]?)/\
  ∀ (i:Nat) x,l[i]?=some x->∃ us:List Value,us.length=g.cells/\(∀ j,j < g.cells->cs'[(n+i) * g.cells+j]?=us[j]?)/\RelC (Ad w) (Bp I β M) g x us
 |[],vs,n,l,m,cs,e,_,hq,_,_=>by
  cases vs with
  |nil=>simp only[C0,Option.some.injEq,Prod.mk.injEq] at hq;obtain ⟨rfl,rfl⟩:=hq;exact ⟨cs,rfl,rfl,fun _ _=>rfl,fun i x h=>by simp at h⟩
  |cons v vs=>simp at e
 |(i,y)::ps,vs,n,l,m,cs,e,hr,hq,hM,hsz=>by
  cases vs with
  |nil=>simp at e
  |cons v vs=>
   obtain ⟨j,v⟩:=v
   simp only[List.map_cons,List.cons.injEq] at e
   obtain ⟨rfl,e⟩:=e
   simp only[List.map_cons,RelL] at hr
   obtain ⟨u,us',e1,h1,h2⟩:=hr
   cases e1
   simp only[C0] at hq
   split at hq
   ·rename_i hi;subst hi
    split at hq
    ·rename_i x m1 hx
     split at hq
     ·rename_i l' m2 hl'
      simp only[Option.some.injEq,Prod.mk.injEq] at hq
      obtain ⟨rfl,rfl⟩:=hq
      have hcell:=SE (FA (ACZ (Ad w) (fun b hb=>hM b (List.mem_append_left _ hb))) (decV_ok hc h1 hx))
      have hlen:=C6 _ _ _ hcell
      have hlen':v.cells.size=g.cells:=by rw[<-Array.length_toList];exact hlen
      simp only[qY11] at hsz
      have hfit:i * g.cells+v.cells.toList.length<=cs.size:=by
       rw[hlen]
       have:(i+1) * g.cells<=(i+(l'.length+1)) * g.cells:=Nat.mul_le_mul_right _ (by omega)
       rw[Nat.add_mul,Nat.one_mul] at this;omega
      have hzip:v.cells.zipIdx.foldl (fun cs (c,j)=>cs.setIfInBounds (i * g.cells+j) c) cs=v.cells.toList.zipIdx.foldl (fun cs (c,j)=>cs.setIfInBounds (i * g.cells+j) c) cs:=by
       rw[<-Array.foldl_toList,Array.toList_zipIdx]
      obtain ⟨s1,s2⟩:=JY (i * g.cells) v.cells.toList 0 cs (by omega)
      obtain ⟨cs',c1,c2,c3,c4⟩:=Oy hc M ps vs (i+1) l' m2 (v.cells.zipIdx.foldl (fun cs (c,j)=>cs.setIfInBounds (i * g.cells+j) c) cs) e h2 hl' (fun b hb=>hM b (List.mem_append_right _ hb)) (by
       rw[hzip,s1];rw[show i+1+l'.length=i+(l'.length+1) from by omega];exact hsz)
      refine ⟨cs',?_,by rw[c2,hzip,s1],fun m hm=>?_,fun q y' hy=>?_⟩
      ·simp only[Instr.fill]
       rw[if_neg]
       ·exact c1
       ·simp[hlen'];rw[hlen] at hfit;exact hfit
      ·rw[c3 m (by rw[Nat.add_mul];omega),hzip,s2,if_neg (by omega)]
      ·cases q with
       |zero=>
        simp at hy;subst hy
        refine ⟨v.cells.toList,hlen,fun q hq=>?_,hcell⟩
        rw[Nat.add_zero,c3 _ (by rw[Nat.add_mul];omega),hzip,s2,if_pos (by omega)]
        congr 1;omega
       |succ q=>
        obtain ⟨us,u1,u2,u3⟩:=c4 q y' (by simpa using hy)
        exact ⟨us,u1,fun k hk=>by rw[<-u2 k hk,show i+(q+1)=i+1+q from by omega],u3⟩
     ·cases hq
    ·cases hq
   ·cases hq
theorem ACN {t e:TypeId} {n:Nat} {parts:Array (Nat×Operand)} (h:o.op=.buildSlice t n parts) {i j:TI} (ht:TOk P t i) (hd:i.d=.slice e) (hj:TOk P e j) {g:GT} (hg:j.gt=some g) {l:List g.ty} {m:List Nat} (hsz:l.length=n) (hlim:n * g.cells<=2 ^ 24)
 (hq:C0 st.heap g 0 (parts.toList.map fun p=>(p.1,st.ev p.2))=some (l,m)) {a:Act} {w:World} {β:Nat->Option Place} (hs:SimB Γ st a w β):∃ cs:Array Value,cs.size=n * g.cells/\
  (execOp a.eval o).run P w=.ok (.value (.slice (some ⟨w.heap.size,0,none⟩) n n)) (w.alloc (.cells cs e))/\
  ∀ (k:Nat) y,l[k]?=some y->∃ us:List Value,us.length=g.cells/\(∀ q,q < g.cells->cs[k * g.cells+q]?=us[q]?)/\RelC (Ad w) (Bp (Γ.after w β st.heap) β m) g y us:=by
 have hgc:j.size=g.cells:=(hj.zero g hg).2.1.symm
 have hzc:(Cs g).cells=(AC g).toArray:=by
  unfold Cs
  split
  ·rfl
  ·rename_i hna
   have hna':g.isAgg=false:=by simpa using hna
   have hlen:=DI g
   have hp:=Fi g
   cases hz:AC g with
   |nil=>rw[hz] at hlen;cases g<;>simp[GT.isAgg,GT.cells] at hna' hlen
   |cons v vs=>
    have:vs=[]:=by
     rw[hz] at hlen
     cases g<;>simp[GT.isAgg,GT.cells] at hna' hlen<;>exact hlen
    subst this
    have:=hp v (by rw[hz];simp)
    simp only[List.headD_cons]
    cases v<;>simp[Value.oneCell'] at this<;>rfl
 obtain ⟨cells0,hc0⟩:∃ c:Array Value,c=(Array.range (n * j.size)).map ((if n * j.size=0 then (#[]:Array Value) else (AC g).toArray)[· % (if n * j.size=0 then (#[]:Array Value) else (AC g).toArray).size]!):=⟨_,rfl⟩
 have hsize0:cells0.size=n * g.cells:=by rw[hc0];simp[hgc]
 obtain ⟨cs,c1,c2,_,c4⟩:=Oy hs.ctx m (parts.toList.map fun p=>(p.1,st.ev p.2)) (parts.toList.map fun p=>(p.1,a.eval p.2)) 0 l m cells0 (by simp) (by
  have h:=DW hs (parts.toList.map Prod.snd)
  simp only[List.map_map] at h ⊢
  exact h) hq (fun _ h=>h) (by rw[hsize0,Nat.zero_add,hsz];exact Nat.le_refl _)
 have hrun:(Instr.buildSlice t n (parts.map fun (i,x)=>(i,a.eval x))).run P w=.ok (.slice (some ⟨w.heap.size,0,none⟩) n n) (w.alloc (.cells cs e)):=by
  unfold Instr.buildSlice
  simp only[Sem.run_bind,A2 (ht.slice hd),Result.andThen_ok,hj.run_size]
  rw[if_neg (by rw[hgc];omega)]
  have hfill:Instr.fill (fun i=>some (i * j.size,j.size)) cells0 (parts.map fun (i,x)=>(i,a.eval x)).toList=some cs:=by rw[hgc];simpa using c1
  by_cases hz:n * j.size=0
  ·simp only[hz,if_true] at hc0 ⊢
   simp only[Sem.run_bind,Sem.run_pure,Result.andThen_ok]
   rw[<-hc0,hfill]
   rfl
  ·simp only[hz,if_false] at hc0 ⊢
   simp only[Sem.run_bind,Sem.run_pure,Result.andThen_ok,hj.run_zero hg,hzc]
   rw[<-hc0,hfill]
   rfl
 exact ⟨cs,by rw[c2,hsize0],by simp only[execOp,h,Sem.run_bind,hrun,Result.andThen_ok,Sem.run_pure],fun k y hk=>by
  obtain ⟨us,u1,u2,u3⟩:=c4 k y hk
  exact ⟨us,u1,fun q hq=>by rw[<-u2 q hq,Nat.zero_add],u3⟩⟩
theorem VI {t e:TypeId} {n:Nat} {parts:Array (Nat×Operand)} (h:o.op=.buildSlice t n parts) {i j:TI} (ht:TOk P t i) (hd:i.d=.slice e) (hj:TOk P e j) {g:GT} (hg:j.gt=some g) {l:List g.ty} {m:List Nat} (hsz:l.length=n) (hlim:n * g.cells<=2 ^ 24)
 (hq:C0 st.heap g 0 (parts.toList.map fun p=>(p.1,st.ev p.2))=some (l,m)):AD P Γ st o (.sl g true l) (killAll m st.heap):=
 DL fun a w β hs=>by
  obtain ⟨cs,_,hrun,c4⟩:=ACN h ht hd hj hg hsz hlim hq hs
  obtain ⟨k1,k2⟩:=Ls (H':=killAll m st.heap) hs (ME m _) (fun b r hr=>(HG m _ b r hr).2)
  have hI:Mono (Ad w) (Bp (Γ.after w β st.heap) β m) (Ad w) (Γ.after w β (killAll m st.heap)):=⟨fun B hB=>k2 B (by
   rcases hB with hB | ⟨b,hb,p,hp,hk,rfl⟩
   ·exact .inl hB
   ·obtain ⟨r,hr⟩:=QR _ _ _ _ hq b hb
    refine .inr ⟨⟨b,r,p,hr,hp,hk,rfl⟩,?_⟩
    rintro ⟨b2,r2,p2,e1,e2,e3,e4⟩
    obtain ⟨e5,e6⟩:=HG m _ b2 r2 e1
    exact e5 ((hs.ctx.apart b2 b _ _ p2 p e6 hr e2 hp e3 hk e4) ▸ hb)),fun _ _ _ _ h=>h⟩
  refine ⟨.slice (some ⟨w.heap.size,0,none⟩) n n,w.alloc (.cells cs e),hrun,β,k1.ext (Ext.alloc w _),?_⟩
  simp only[RelV,RelC]
  refine ⟨⟨_,_,by rw[hsz],by rw[hsz];exact Nat.le_refl _,fun hne=>⟨w.heap.size,0,rfl,⟨by simp,.inr (.inr hs.frm.size),?_⟩,fun k y hk=>?_⟩⟩,fun _=>⟨_,by rw[hsz]⟩⟩
  ·rintro ⟨b',r,p,hb',hp,hk,hB⟩
   obtain ⟨p',hp',hgg,_⟩:=k1.ctx.rows b' r hb'
   rw[hp] at hp';cases hp'
   have:=(hgg hk).2;omega
  ·obtain ⟨us,u1,u2,u3⟩:=c4 k y hk
   refine ⟨us,u1,fun q hq=>?_,relC_mono (Kg (Ext.alloc w _)) _ _ _ (relC_mono hI _ _ _ u3)⟩
   have hh:(w.alloc (.cells cs e)).heap[w.heap.size]?=some (.cells cs e (0,0)):=by show (w.heap.push _)[w.heap.size]?=_;simp
   exact Hc hh (by rw[<-u2 q hq,Nat.zero_add]) (CJ _ _ _ u3)
end
end Go.AM
end
section
namespace Go.AM
open Go.RowKit (Below)
structure TabOK (V:Env) (E:Tab):Prop where
 ti:∀ t i,E.ti t=some i->TOk V.P t i
 fn:∀ k azs c,E.fn k azs=some c->Good V k c
 bk:∀ k kb,D0 E.bk k=some kb->GK V.P k kb
section
variable {V:Env} {Γ:Base} {st:St} {o:Oper} {ρ:Type} {z:ρ} {E:Tab}
theorem con_back {c:Call} (h:o.op=.call c) {f:Operand} (hc:c.callee=.value f) {x:Operand} (ha:c.args.toList=[x]) {k kb:FuncId} (hf:st.ev f=.fn k []) (hb:GK V.P k kb) (hp:(st.ev x).isSl=true) :
 AD V.P Γ st o (.fn kb [.ptr st.heap.length 0 0]) (st.heap++[some (.cells [st.ev x])]):=by
 intro a w β hs next Q hn
 obtain ⟨us,e1,hargs⟩:=L_ (c:=c) hs hf
 have hu:us=[]:=by
  have:=Aq hs f
  rw[hf,e1] at this
  simp only[RelV,RelL] at this
  obtain ⟨us',e,h⟩:=this
  subst h
  simpa using e
 subst hu
 have ea:c.args=#[x]:=by have:=congrArg List.toArray ha;simpa using this
 have hx:=Aq hs x
 have hv:∃ ad n c,a.eval x=.slice ad n c:=by
  revert hp hx
  cases st.ev x<;>intro hp hx<;>(try (simp[AV.isSl] at hp;done))<;>simp only[RelV] at hx
  ·exact ⟨_,_,_,hx⟩
  ·simp only[RelC] at hx
   obtain ⟨⟨ad,c,e,_⟩,_⟩:=hx
   exact ⟨ad,_,c,by simpa using e⟩
  ·obtain ⟨p,_,ad,c,e,_⟩:=hx;exact ⟨ad,_,c,e⟩
  ·obtain ⟨p,_,_,ad,c,e,_⟩:=hx;exact ⟨ad,_,c,e⟩
  ·obtain ⟨p,_,_,ad,c,e,_⟩:=hx;exact ⟨ad,_,c,e⟩
 have hone:(a.eval x).oneCell'=true:=by obtain ⟨ad,n,c,e⟩:=hv;rw[e];rfl
 have c1:RelL (Ad w) (Γ.after w β st.heap) β [st.ev x] [a.eval x]:=by simp only[RelL];exact ⟨_,[],rfl,hx,rfl⟩
 have hargs':c.args.map a.eval++([]:List Value).toArray=#[a.eval x]:=by rw[ea];simp
 refine LF h hc hb.1 e1 (Calls.mono (by rw[hargs'];exact hb.2 (a.eval x) w hone) ?_)
 rintro e w' ⟨ty,rfl,hext,hsz,hh⟩
 obtain ⟨β',h1,h2,h3,h4⟩:=FU hs hext (.cells [st.ev x]) ⟨w.heap.size,0,1,1,1,true⟩ (fun _=>⟨Nat.le_refl _,by simp;omega⟩) (fun β' hβ hm=>
  ⟨rfl,rfl,rfl,#[a.eval x],ty,hh,⟨by simp,by simp,fun h=>by have:(st.ev x).isSelf=true:=h;cases hx':st.ev x<;>rw[hx'] at this hp<;>first | (cases this;done) | (cases hp;done)⟩,[a.eval x],rfl,fun j hj=>by simp,relL_mono hm hβ _ _ c1,by simpa using hone⟩)
 refine ⟨_,rfl,hn _ w' ⟨β',h1.put o.dst ?_⟩⟩
 simp only[RelV,RelL]
 exact ⟨[_],rfl,_,[],rfl,⟨_,h2,rfl,by simp⟩,rfl⟩
theorem ADb {K:AV->Option ρ} (hE:TabOK V E) (hg:Γ.gb=V.gb) (h0:V.G Γ.w) (hq:AR E st o K=some z):∃ y,K y=some z/\AD V.P Γ st o y st.heap:=by
 unfold AR at hq
 split at hq
 ·rename_i x h;exact ⟨_,hq,con_move (.inl h)⟩
 ·rename_i x h;exact ⟨_,hq,con_move (.inr h)⟩
 ·rename_i c a b h
  split at hq
  ·rename_i t hc
   refine ⟨_,?_,ADH h hc⟩
   cases t<;>exact hq
  ·cases hq
 ·rename_i x h;exact con_nilCheck h hq
 ·rename_i op xt x yt h
  split at hq
  ·rename_i i hi;exact nilQ_ok h (hE.ti _ _ hi) hq
  ·cases hq
 ·rename_i op xt x y yt _ h
  split at hq
  ·rename_i k a k' b hx hy;exact binQ_int h hx hy hq
  ·rename_i a b hx hy;exact binQ_str h hx hy hq
  ·split at hq
   ·rename_i i hi;exact eqQ_ok h (hE.ti _ _ hi) hq
   ·cases hq
 ·rename_i op xt x h
  split at hq
  ·rename_i b hx;exact ⟨_,hq,(con_unop h).1 _ rfl hx⟩
  ·rename_i k n hx;exact ⟨_,hq,(con_unop h).2 _ _ rfl hx⟩
  ·cases hq
 ·rename_i src dst x h
  split at hq
  ·rename_i s d hs hd
   split at hq
   ·rename_i k' k k2 n h1 h2 hx;exact ⟨_,hq,con_convInt h (hE.ti _ _ hs) (hE.ti _ _ hd) h1 h2 hx⟩
   ·rename_i t h1 h2 hx;exact ⟨_,hq,con_convStr h (hE.ti _ _ hs) (hE.ti _ _ hd) h1 h2 hx⟩
   ·rename_i e t h1 h2 hx
    split at hq
    ·rename_i hj;exact ⟨_,hq,con_convBytes h (hE.ti _ _ hs) (hE.ti _ _ hd) (hE.ti _ _ hj) h1 h2 rfl hx⟩
    ·cases hq
   ·rename_i e v h1 h2
    split at hq
    ·rename_i hj
     split at hq
     ·rename_i l m hl;exact ⟨_,hq,con_convBack h (hE.ti _ _ hs) (hE.ti _ _ hd) (hE.ti _ _ hj) h1 h2 rfl hl⟩
     ·cases hq
    ·cases hq
   ·cases hq
  ·cases hq
 ·rename_i f first captured h
  split at hq
  ·rename_i hf;exact ⟨_,hq,con_makeFunc h hf⟩
  ·cases hq
 ·rename_i t x lo hi mx h
  split at hq
  ·rename_i ht
   split at hq
   ·rename_i s hx;exact con_sliceStr h (hE.ti _ _ ht) rfl hx hq
   ·cases hq
  ·rename_i e ht
   split at hq
   ·cases hq
   ·rename_i i hi hns
    exact ADV h (hE.ti _ _ ht) rfl (hE.ti _ _ hi) (fun s hs=>hns s hs) hq
   ·cases hq
  ·rename_i e mx ht
   split at hq
   ·rename_i i hi'
    unfold MF at hq
    split at hq
    ·rename_i k p e2 f2 l2 k' q hlo hhi hx hmx
     cases lo with
     |some _=>cases hlo
     |none=>cases hi with
      |none=>cases hhi
      |some hi=>
       split at hq
       ·rename_i hc
        obtain ⟨hb,hq⟩:=A7 hq
        simp only[qY0,decide_eq_true_eq,beq_iff_eq] at hb
        exact ⟨_,hq,AD4 h (hE.ti _ _ ht) rfl (hE.ti _ _ hi') hx hc (Option.some.inj hhi) hmx ⟨hb.1.1,hb.1.2,hb.2⟩⟩
       ·cases hq
    ·cases hq
   ·cases hq
  ·cases hq
 ·rename_i s x f h
  split at hq
  ·rename_i fs hs
   split at hq
   ·rename_i off t hf
    split at hq
    ·rename_i i hi
     split at hq
     ·cases hq
     ·rename_i hz
      exact ADU h (hE.ti _ _ hs) rfl hf (hE.ti _ _ hi) hz hq
    ·cases hq
   ·cases hq
  ·cases hq
 ·rename_i s x f h
  split at hq
  ·rename_i fs hs
   split at hq
   ·rename_i off t l hf hx
    split at hq
    ·rename_i i hi
     split at hq
     ·rename_i y hy;exact ⟨_,hq,con_field h (hE.ti _ _ hs) rfl hf (hE.ti _ _ hi) hx hy⟩
     ·cases hq
    ·cases hq
   ·cases hq
  ·cases hq
 ·rename_i t x ix h
  split at hq
  ·rename_i e k n ht hix
   split at hq
   ·rename_i j hj;exact con_indexAddr h (hE.ti _ _ ht) rfl (hE.ti _ _ hj) hix hq
   ·cases hq
  ·rename_i n e k m ht hix
   split at hq
   ·rename_i g l b hj hx
    split at hq
    ·rename_i xs hxs
     obtain ⟨hb',hq'⟩:=A7 hq
     subst hb'
     obtain ⟨hb,hq⟩:=A7 hq'
     simp only[qY0,decide_eq_true_eq] at hb
     exact ⟨_,hq,XJ h (hE.ti _ _ ht) rfl (hE.ti _ _ hj) rfl hx hix hxs hb.1 hb.2⟩
    ·cases hq
   ·cases hq
  ·cases hq
 ·rename_i t x ix h
  split at hq
  ·rename_i s k n ht hx hix
   obtain ⟨hb,hq⟩:=A7 hq
   simp only[qY0,decide_eq_true_eq] at hb
   exact ⟨_,hq,AEN h (hE.ti _ _ ht) rfl hx hix hb.1 hb.2⟩
  ·rename_i n e l k m ht hx hix
   split at hq
   ·rename_i g hj
    split at hq
    ·rename_i xs hxs
     obtain ⟨hb,hq⟩:=A7 hq
     simp only[qY0,decide_eq_true_eq] at hb
     exact ⟨_,hq,AEF h (hE.ti _ _ ht) rfl (hE.ti _ _ hj) rfl hx hix hxs hb.1 hb.2⟩
    ·cases hq
   ·cases hq
  ·cases hq
 ·rename_i t x h
  split at hq
  ·rename_i i l k ht hat
   obtain ⟨hth,hq⟩:=A7 hq
   split at hq
   ·rename_i v hv;exact ⟨_,hq,con_load h (hE.ti _ _ ht) hat hth hv⟩
   ·cases hq
  ·cases hq
 ·rename_i t x ix ok h
  split at hq
  ·rename_i k e s ht hix
   split at hq
   ·rename_i g hk he;exact con_lookup h (hE.ti _ _ ht) rfl (hE.ti _ _ hk) rfl (hE.ti _ _ he) rfl hix hq
   ·cases hq
  ·cases hq
 ·rename_i x i h
  split at hq
  ·rename_i l hx
   split at hq
   ·rename_i y hy;exact ⟨_,hq,con_extract h hx hy⟩
   ·cases hq
  ·cases hq
 ·rename_i t parts h
  split at hq
  ·rename_i fs g ht
   split at hq
   ·rename_i hall
    split at hq
    ·rename_i l hl;exact ⟨_,hq,con_build h hE.ti (hE.ti _ _ ht) rfl rfl hall hl⟩
    ·cases hq
   ·cases hq
  ·rename_i n e g ht
   split at hq
   ·rename_i j hj
    split at hq
    ·rename_i l hl;exact ⟨_,hq,con_buildArr h (hE.ti _ _ ht) rfl (hE.ti _ _ hj) rfl hl⟩
    ·cases hq
   ·cases hq
  ·cases hq
 ·rename_i t n parts h
  split at hq
  ·rename_i e ht
   split at hq
   ·rename_i g hj
    split at hq
    ·rename_i l hl
     split at hq
     ·rename_i hn;exact ⟨_,hq,con_buildSlice h (hE.ti _ _ ht) rfl (hE.ti _ _ hj) rfl hn.1 hn.2 hl⟩
     ·cases hq
    ·cases hq
   ·cases hq
  ·cases hq
 ·rename_i args argTypes h
  split at hq
  ·rename_i x t ha hat
   split at hq
   ·rename_i ht
    split at hq
    ·rename_i s hx;exact ⟨_,hq,con_lenStr h rfl ha hat (hE.ti _ _ ht) rfl hx⟩
    ·cases hq
   ·rename_i ht;exact con_len h rfl ha hat (hE.ti _ _ ht) rfl hq
   ·rename_i ht;exact con_lenMap h rfl ha hat (hE.ti _ _ ht) rfl hq
   ·cases hq
  ·cases hq
 ·rename_i args argTypes h
  split at hq
  ·rename_i k a r ha
   split at hq
   ·rename_i n hn;exact ⟨_,hq,con_max h rfl ha hn⟩
   ·cases hq
  ·cases hq
 ·rename_i args argTypes h
  split at hq
  ·rename_i k a r ha
   split at hq
   ·rename_i n hn;exact ⟨_,hq,con_min h rfl ha hn⟩
   ·cases hq
  ·cases hq
 ·rename_i f args argTypes h
  split at hq
  ·rename_i k caps hf
   split at hq
   ·rename_i c hc;exact callQ_ok hg h0 h rfl hf (hE.fn _ _ _ hc) hq
   ·cases hq
  ·cases hq
 ·cases hq
theorem WS {K:AV->Ai->Option ρ} (hE:TabOK V E) (hg:Γ.gb=V.gb) (h0:V.G Γ.w) (hq:Br E st o K=some z):∃ y H,K y H=some z/\AD V.P Γ st o y H:=by
 unfold Br at hq
 split at hq
 ·rename_i t h
  split at hq
  ·rename_i g ht;exact ⟨_,_,hq,con_alloc h (hE.ti _ _ ht) rfl⟩
  ·cases hq
 ·rename_i t x h
  split at hq
  ·rename_i i ht
   simp only at hq
   split at hq
   ·rename_i hp
    split at hq
    ·rename_i hsz;exact ⟨_,_,hq,con_box h hp hsz.2⟩
    ·cases hq
   ·cases hq
  ·cases hq
 ·rename_i t a x h
  split at hq
  ·rename_i i ht
   simp only at hq
   split at hq
   ·rename_i hp
    split at hq
    ·rename_i hsz
     split at hq
     ·rename_i b j k ha
      split at hq
      ·rename_i l hb
       split at hq
       ·rename_i hjk;exact ⟨_,_,hq,con_store h (hE.ti _ _ ht) hp hsz ha hb (.inl ⟨l,rfl,hjk.1,hjk.2.1,hjk.2.2,rfl⟩)⟩
       ·cases hq
      ·rename_i e l hb
       split at hq
       ·rename_i hk
        split at hq
        ·rename_i y m hy
         obtain ⟨hj,hq⟩:=A7 hq
         simp only[decide_eq_true_eq] at hj
         rw[DZ] at hk
         exact ⟨_,_,hq,con_store h (hE.ti _ _ ht) hp hsz ha hb (.inr ⟨e,l,y,m,rfl,hk,hj,hy,rfl⟩)⟩
        ·cases hq
       ·cases hq
      ·cases hq
     ·cases hq
    ·cases hq
   ·cases hq
  ·cases hq
 ·rename_i t l c h
  split at hq
  ·rename_i e ht
   split at hq
   ·rename_i g bytes hj
    split at hq
    ·rename_i a b hl hc
     split at hq
     ·rename_i hb
      obtain ⟨hh,hq⟩:=A7 hq
      simp only[qY0,decide_eq_true_eq] at hh
      exact ⟨_,_,hq,YP h (hE.ti _ _ ht) rfl (hE.ti _ _ hj) rfl hl hc hh.1.1 hh.1.2 hh.2 hb.1 (u8Ok_eq hb.2)⟩
     ·cases hq
    ·cases hq
   ·cases hq
  ·cases hq
 ·rename_i t r h
  split at hq
  ·split at hq
   ·exact ⟨_,_,hq,AE3 h _⟩
   ·cases hq
  ·cases hq
 ·rename_i t m k v h
  split at hq
  ·rename_i kt e b s ht hm hk
   split at hq
   ·rename_i g hkt he
    split at hq
    ·rename_i g' l x hb hx
     split at hq
     ·rename_i hg';subst hg'
      exact ⟨_,_,hq,Xo h (hE.ti _ _ ht) rfl (hE.ti _ _ hkt) rfl hm hk hb hx⟩
     ·cases hq
    ·cases hq
   ·cases hq
  ·cases hq
 ·rename_i args argTypes h
  split at hq
  ·rename_i s x ts tx ha hat
   split at hq
   ·rename_i e e' hts htx
    split at hq
    ·rename_i g bytes hj
     split at hq
     ·rename_i hb
      split at hq
      ·rename_i l' m hl;exact con_append h rfl ha hat (hE.ti _ _ hts) rfl (hE.ti _ _ hj) rfl hb.1 (u8Ok_eq hb.2) (fun a w β hs=>(H3 hs (Aq hs _) hl).app ((hE.ti _ _ htx).slice rfl)) hq
      ·cases hq
     ·cases hq
    ·cases hq
   ·rename_i e hts htx
    split at hq
    ·rename_i bytes t hj hx
     split at hq
     ·rename_i hb
      refine con_append h rfl ha hat (hE.ti _ _ hts) rfl (hE.ti _ _ hj) rfl hb.1 (u8Ok_eq hb.2) (fun a w β hs=>?_) hq
      have e1:=Aq hs x
      rw[hx] at e1
      simp only[RelV] at e1
      obtain ⟨b,e2,hbt⟩:=e1
      rw[e2]
      subst hbt
      exact WU ((hE.ti _ _ htx).str rfl) b
     ·cases hq
    ·cases hq
   ·cases hq
  ·cases hq
 ·rename_i f args argTypes h
  split at hq
  ·rename_i k caps hf
   split at hq
   ·rename_i kb hkb
    split at hq
    ·rename_i x ha
     split at hq
     ·rename_i hp;exact ⟨_,_,hq,con_back h rfl ha hf (hE.bk _ _ hkb) hp⟩
     ·cases hq
    ·cases hq
   ·split at hq
    ·rename_i c hc;exact callE_ok hg h0 h rfl hf (hE.fn _ _ _ hc) hq
    ·cases hq
  ·cases hq
 ·cases hq
theorem Zo {dr:Bool} {pr:Option (List Nat×List Nat)} {K:AV->Ai->Option ρ} (hE:TabOK V E) (hg:Γ.gb=V.gb) (h0:V.G Γ.w) (hq:Bl E dr pr st o K=some z):∃ y H,K y H=some z/\AD V.P Γ st o y H:=by
 unfold Bl at hq
 split at hq
 ·exact WS hE hg h0 (A7 hq).2
 ·split at hq
  ·unfold JX at hq
   split at hq
   ·rename_i t len parts h
    split at hq
    ·rename_i e _ _ _ he
     split at hq
     ·rename_i g _ _ _ hj
      split at hq
      ·rename_i l m hl
       split at hq
       ·rename_i hc
        cases m with
        |nil=>exact ⟨_,_,hq,Yu h (hE.ti _ _ he) rfl (hE.ti _ _ hj) rfl hc.1 hc.2.1 (u8Ok_eq hc.2.2) (N8 _ _ _ hl)⟩
        |cons b m=>exact ⟨_,_,hq,VI h (hE.ti _ _ he) rfl (hE.ti _ _ hj) rfl hc.1 hc.2.1 hl⟩
       ·cases hq
      ·cases hq
     ·cases hq
    ·cases hq
   ·cases hq
  ·obtain ⟨y,h1,h2⟩:=ADb hE hg h0 (A7 hq).2
   exact ⟨y,_,h1,h2⟩
end
end Go.AM
end
section
namespace Go.AM
open Go.RowKit (Below)
section
variable {ρ:Type} {E:Tab} {st st':St} {o:Oper}
theorem Cj {α:Type} {b:Bool} {x:Option α} {f:α->Option ρ}:(Ab b x).bind f=Ab b (x.bind f):=by cases b<;>rfl
theorem Sf (op:BinOp) (x y:AV) (K:AV->Option ρ):Er op x y K=(Er op x y some).bind K:=by
 cases x<;>cases y<;>simp only[Er]<;>(try rfl)
 ·split
  ·cases op<;>simp[Cj]
  ·rfl
 ·cases op<;>simp[Cj]
theorem AFl (op:BinOp) (d:TD) (x y:AV) (K:AV->Option ρ):G2 op d x y K=(G2 op d x y some).bind K:=by
 unfold G2
 split
 ·rename_i v
  cases KA v<;>cases op<;>rfl
 ·cases Jt d x y with
  |none=>rfl
  |some r=>cases op<;>rfl
theorem Vl (op:BinOp) (d:TD) (x:AV) (K:AV->Option ρ):GV op d x K=(GV op d x some).bind K:=by
 unfold GV
 split<;>rfl
theorem Nb (n:Nat) (lo hi:Option AV) (f:Option Int->Option Int->AV) (K:AV->Option ρ):CG n lo hi (fun a b=>K (f a b))=(CG n lo hi (fun a b=>some (f a b))).bind K:=by
 unfold CG
 split<;>simp[Cj]
theorem Oi (H:Ai) (s:Nat) (x:AV) (lo hi:Option AV) (K:AV->Option ρ):Dr H s x lo hi K=(Dr H s x lo hi some).bind K:=by
 have hm:∀ (f g h i:AV) (n:Nat),True:=fun _ _ _ _ _=>trivial
 cases x<;>simp only[Dr]<;>(try rfl)
 ·exact Nb _ _ _ _ K
 ·exact Nb _ _ _ _ K
 ·split
  ·exact Nb _ _ _ _ K
  ·rfl
 all_goals
  split
  ·rename_i n hn
   unfold CG
   split<;>simp[Cj]
  ·rfl
theorem Wx (H:Ai) (x:AV) (K:AV->Option ρ):Ep H x K=(Ep H x some).bind K:=by
 cases x<;>simp only[Ep]<;>(try rfl)
 split<;>rfl
theorem V2 (H:Ai) (x:AV) (K:AV->Option ρ):ED H x K=(ED H x some).bind K:=by
 unfold ED
 split
 ·split<;>rfl
 all_goals rfl
theorem M' (x:AV) (K:AV->Option ρ):DS x K=(DS x some).bind K:=by
 unfold DS
 split<;>first | rfl | (rw[Cj];rfl)
theorem ACn (H:Ai) (g:GT) (x:AV) (s:qBs) (ok:Bool) (K:AV->Option ρ):Ek H g x s ok K=(Ek H g x s ok some).bind K:=by
 unfold Ek
 split
 ·split
  ·split<;>rfl
  ·rfl
 ·rfl
 ·split<;>rfl
 ·rfl
theorem ZL (H:Ai) (s:Nat) (x:AV) (i:Int) (K:AV->Option ρ):D9 H s x i K=(D9 H s x i some).bind K:=by
 cases x<;>simp only[D9]<;>(try rfl)<;>split<;>simp[Cj]
theorem AEi (H:Ai) (c:Callee) (azs:List AV) (K:AV->Option ρ):Fr H c azs K=(Fr H c azs some).bind K:=by
 unfold Fr
 split
 ·split
  ·cases c.g _<;>rfl
  ·rfl
 ·rfl
theorem FB (K:AV->Option ρ):AR E st o K=(AR E st o some).bind K:=by
 unfold AR
 split
 ·rfl
 ·rfl
 ·split
  ·rename_i t _;cases t<;>rfl
  ·rfl
 ·exact M' _ K
 ·split
  ·exact Vl _ _ _ K
  ·rfl
 ·split
  ·exact Sf _ _ _ K
  ·exact Sf _ _ _ K
  ·split
   ·exact AFl _ _ _ _ K
   ·rfl
 ·split<;>rfl
 ·split
  ·split
   ·rfl
   ·rfl
   ·split<;>rfl
   ·split
    ·split<;>rfl
    ·rfl
   ·rfl
  ·rfl
 ·split<;>rfl
 ·split
  ·split
   ·exact Oi _ _ _ _ _ K
   ·rfl
  ·split
   ·rfl
   ·exact Oi _ _ _ _ _ K
   ·rfl
  ·split
   ·unfold MF
    split
    ·split
     ·rw[Cj];rfl
     ·rfl
    ·rfl
   ·rfl
  ·rfl
 ·split
  ·split
   ·split
    ·split
     ·rfl
     ·refine (M' _ _).trans (Eq.trans ?_ (congrArg (·.bind K) (M' _ _).symm))
      cases DS (st.ev _) some with
      |none=>rfl
      |some y=>cases y<;>rfl
    ·rfl
   ·rfl
  ·rfl
 ·split
  ·split
   ·split
    ·split<;>rfl
    ·rfl
   ·rfl
  ·rfl
 ·split
  ·split
   ·exact ZL _ _ _ _ K
   ·rfl
  ·split
   ·split
    ·rw[Cj,Cj];rfl
    ·rfl
   ·rfl
  ·rfl
 ·split
  ·rw[Cj];rfl
  ·split
   ·split
    ·rw[Cj];rfl
    ·rfl
   ·rfl
  ·rfl
 ·split
  ·rw[Cj];split<;>rfl
  ·rfl
 ·split
  ·split
   ·exact ACn _ _ _ _ _ K
   ·rfl
  ·rfl
 ·split
  ·split<;>rfl
  ·rfl
 ·split
  ·split
   ·split<;>rfl
   ·rfl
  ·split
   ·split<;>rfl
   ·rfl
  ·rfl
 ·split
  ·split
   ·split
    ·split<;>rfl
    ·rfl
   ·rfl
  ·rfl
 ·split
  ·split
   ·split<;>rfl
   ·exact Wx _ _ K
   ·exact V2 _ _ K
   ·rfl
  ·rfl
 ·split
  ·split<;>rfl
  ·rfl
 ·split
  ·split<;>rfl
  ·rfl
 ·split
  ·split
   ·exact AEi _ _ _ K
   ·rfl
  ·rfl
 ·rfl
theorem Rb (H:Ai) (e:GT) (s:AV) (l':List e.ty) (K:AV->Ai->Option ρ):Em H e s l' K=(Em H e s l' fun y H=>some (y,H)).bind fun r=>K r.1 r.2:=by
 cases s<;>simp only[Em]<;>(try rfl)
 ·rw[Cj];rfl
 ·rename_i e' f l
  cases f
  ·rfl
  ·simp only
   split
   ·cases decide (0 < l'.length)
    ·rfl
    ·simp only[cond_true];rw[Cj];rfl
   ·rfl
 all_goals
  split
  ·split
   ·rw[Cj];rfl
   ·rfl
  ·rfl
theorem Yv (H:Ai) (c:Callee) (azs:List AV) (K:AV->Ai->Option ρ):Dx H c azs K=(Dx H c azs fun y H=>some (y,H)).bind fun r=>K r.1 r.2:=by
 unfold Dx
 split
 ·simp only
  split
  ·cases c.g _<;>rfl
  ·rfl
 ·rfl
theorem ADr (K:AV->Ai->Option ρ):Br E st o K=(Br E st o fun y H=>some (y,H)).bind fun r=>K r.1 r.2:=by
 unfold Br
 split
 ·split<;>rfl
 ·split
  ·simp only
   split
   ·split<;>rfl
   ·rfl
  ·rfl
 ·split
  ·simp only
   split
   ·split
    ·split
     ·split
      ·split<;>rfl
      ·split
       ·split
        ·rw[Cj];rfl
        ·rfl
       ·rfl
      ·rfl
     ·rfl
    ·rfl
   ·rfl
  ·rfl
 ·split
  ·split
   ·split
    ·split
     ·rw[Cj];rfl
     ·rfl
    ·rfl
   ·rfl
  ·rfl
 ·split
  ·split<;>rfl
  ·rfl
 ·split
  ·split
   ·split
    ·split<;>rfl
    ·rfl
   ·rfl
  ·rfl
 ·split
  ·split
   ·split
    ·split
     ·split
      ·exact Rb _ _ _ _ K
      ·rfl
     ·rfl
    ·rfl
   ·split
    ·split
     ·exact Rb _ _ _ _ K
     ·rfl
    ·rfl
   ·rfl
  ·rfl
 ·split
  ·split
   ·split
    ·split<;>rfl
    ·rfl
   ·split
    ·exact Yv _ _ _ K
    ·rfl
  ·rfl
 ·rfl
theorem ACa {dr:Bool} {pr:Option (List Nat×List Nat)} (K:AV->Ai->Option ρ):Bl E dr pr st o K=(Bl E dr pr st o fun y H=>some (y,H)).bind fun r=>K r.1 r.2:=by
 unfold Bl
 split
 ·rw[ADr K]
  cases (!dr||F_ E pr st o)<;>rfl
 ·split
  ·unfold JX
   split
   ·split
    ·split
     ·split
      ·rename_i m _
       split
       ·cases m<;>rfl
       ·rfl
      ·rfl
     ·rfl
    ·rfl
   ·rfl
  rw[FB (fun v=>K v st.heap),FB (fun v=>some (v,st.heap))]
  cases (!dr||ES E pr st o)<;>cases AR E st o some<;>rfl
theorem E0 {l:List Operand} (h:∀ x∈l,st.ev x=st'.ev x):l.map st.ev=l.map st'.ev:=List.map_congr_left h
theorem Mx {l:List (Nat×Operand)} (h:∀ x∈l.map (·.2),st.ev x=st'.ev x):(l.map fun p=>(p.1,st.ev p.2))=l.map fun p=>(p.1,st'.ev p.2):=
 List.map_congr_left fun p hp=>by rw[h p.2 (List.mem_map.2 ⟨p,hp,rfl⟩)]
theorem QH {l:Option Operand} (h:∀ x∈l.toList,st.ev x=st'.ev x):l.map st.ev=l.map st'.ev:=by
 cases l with
 |none=>rfl
 |some x=>simp[h x (by simp)]
theorem L' (K:AV->Option ρ) (h:∀ x∈o.op.operands.toList,st.ev x=st'.ev x) (hh:st.heap=st'.heap\/Db E o.op=true):AR E st o K=AR E st' o K:=by
 obtain ⟨dst,op,type,pos,after,guard⟩:=o
 simp only at h hh
 have hp:∀ {b:Bool},(st.heap=st'.heap\/b=true)->b=false->st.heap=st'.heap:=fun h e=>h.resolve_right (by rw[e];simp)
 cases op<;>(try rfl)
 case call c=>
  obtain ⟨callee,args,argTypes⟩:=c
  cases callee with
  |value f=>
   have hH:=hp hh rfl
   have h1:st.ev f=st'.ev f:=h f (by simp[Op.operands,Call.operands])
   have h2:=E0 (st:=st) (st':=st') (l:=args.toList) fun x hx=>h x (by simp[Op.operands,Call.operands] at hx ⊢;exact .inr hx)
   simp only[AR,h1,h2,hH]
  |invoke r m=>rfl
  |builtin b=>
   have h2:=E0 (st:=st) (st':=st') (l:=args.toList) fun x hx=>h x (by simpa [Op.operands,Call.operands] using hx)
   cases b<;>(try rfl)
   case len=>
    have hH:=hp hh rfl
    have h3:∀ x,args.toList=[x]->st.ev x=st'.ev x:=fun x e=>by rw[e] at h2;simpa using h2
    simp only[AR,hH]
    split
    ·rename_i x t e1 e2
     rw[h3 x e1]
    ·rfl
   case max=>simp only[AR,h2]
   case min=>simp only[AR,h2]
 case build t ps=>
  have h2:=Mx (st:=st) (st':=st') (l:=ps.toList) fun x hx=>h x (by simpa [Op.operands] using hx)
  simp only[AR,h2]
 case buildSlice t n ps=>
  have h2:=Mx (st:=st) (st':=st') (l:=ps.toList) fun x hx=>h x (by simpa [Op.operands] using hx)
  simp only[AR,h2,hp hh rfl]
 case makeFunc x first captured=>
  cases x<;>(try rfl)
  have h2:=E0 (st:=st) (st':=st') (l:=captured.toList) fun x hx=>h x (by simp[Op.operands] at hx ⊢;exact .inr hx)
  simp only[AR,h2]
 case slice t x lo hi mx=>
  have h1:st.ev x=st'.ev x:=h x (by simp[Op.operands])
  have h2:=QH (st:=st) (st':=st') (l:=lo) fun y hy=>h y (by simp[Op.operands] at hy ⊢;exact .inr (.inl hy))
  have h3:=QH (st:=st) (st':=st') (l:=hi) fun y hy=>h y (by simp[Op.operands] at hy ⊢;exact .inr (.inr (.inl hy)))
  have h4:∀ y,mx=some y->st.ev y=st'.ev y:=fun y hy=>h y (by subst hy;simp[Op.operands])
  rcases hh with hh | hh
  ·simp only[AR,h1,h2,h3,hh]
   cases E.ti t with
   |none=>rfl
   |some i=>
    obtain ⟨d,sz,by',gt⟩:=i
    cases mx with
    |none=>cases d<;>rfl
    |some m=>
     have:=h4 m rfl
     cases d<;>first | rfl | (dsimp only;rw[this])
  ·simp only[Db] at hh
   simp only[AR,h1,h2,h3]
   cases ht:E.ti t with
   |none=>rfl
   |some i=>
    rw[ht] at hh
    obtain ⟨d,sz,by',gt⟩:=i
    cases d<;>simp only[] at hh<;>first | rfl | cases hh
    cases mx<;>rfl
 case convert src dst x=>
  have h1:st.ev x=st'.ev x:=h x (by simp[Op.operands])
  rcases hh with hh | hh
  ·simp only[AR,h1,hh]
  ·simp only[Db] at hh
   simp only[AR,h1]
   cases hs:E.ti src with
   |none=>rfl
   |some s=>
    rw[hs] at hh
    obtain ⟨d,sz,by',gt⟩:=s
    cases E.ti dst with
    |none=>rfl
    |some d2=>
     obtain ⟨d2,sz2,by2,gt2⟩:=d2
     have hns:∀ e,d≠.slice e:=by rintro e rfl;cases hh
     cases d<;>cases d2<;>(try rfl)<;>cases st'.ev x<;>(try rfl)<;>exact absurd rfl (hns _)
 case move x=>simp only[AR,h x (by simp[Op.operands])]
 case assign x=>simp only[AR,h x (by simp[Op.operands])]
 case nilCheck x=>simp only[AR,h x (by simp[Op.operands])]
 case extract x n=>simp only[AR,h x (by simp[Op.operands])]
 case unOp u t x=>simp only[AR,h x (by simp[Op.operands])]
 case fieldAddr t x n=>simp only[AR,h x (by simp[Op.operands])]
 case field t x n=>simp only[AR,h x (by simp[Op.operands])]
 case load t x=>simp only[AR,h x (by simp[Op.operands]),hp hh rfl]
 case pick c x y=>simp only[AR,h c (by simp[Op.operands]),h x (by simp[Op.operands]),h y (by simp[Op.operands])]
 case binOp b t x y t'=>
  have h1:=h x (by simp[Op.operands])
  have h2:=h y (by simp[Op.operands])
  cases y with
  |const v=>cases v<;>simp only[AR,h1,h2]
  |tmp _=>simp only[AR,h1,h2]
  |func _=>simp only[AR,h1,h2]
  |global _=>simp only[AR,h1,h2]
 case indexAddr t x y=>simp only[AR,h x (by simp[Op.operands]),h y (by simp[Op.operands]),hp hh rfl]
 case index t x y=>simp only[AR,h x (by simp[Op.operands]),h y (by simp[Op.operands])]
 case lookup t x y ok=>simp only[AR,h x (by simp[Op.operands]),h y (by simp[Op.operands]),hp hh rfl]
theorem XW (K:AV->Ai->Option ρ) (h:∀ x∈o.op.operands.toList,st.ev x=st'.ev x) (hh:st.heap=st'.heap):Br E st o K=Br E st' o K:=by
 obtain ⟨dst,op,type,pos,after,guard⟩:=o
 simp only at h hh
 cases op<;>(try rfl)
 case call c=>
  obtain ⟨callee,args,argTypes⟩:=c
  cases callee with
  |value f=>
   have h1:st.ev f=st'.ev f:=h f (by simp[Op.operands,Call.operands])
   have h2:=E0 (st:=st) (st':=st') (l:=args.toList) fun x hx=>h x (by simp[Op.operands,Call.operands] at hx ⊢;exact .inr hx)
   simp only[Br,h1,h2,hh]
   split
   ·split
    ·split
     ·rename_i x ha _
      have h3:st.ev x=st'.ev x:=by rw[ha] at h2;simpa using h2
      rw[h3]
     ·rfl
    ·rfl
   ·rfl
  |invoke r m=>rfl
  |builtin b=>
   cases b<;>(try rfl)
   case append=>
    simp only[Br,hh]
    split
    ·rename_i s x ts tx ha hat
     have h1:st.ev s=st'.ev s:=h s (by simp[Op.operands,Call.operands,Array.mem_def,ha])
     have h2:st.ev x=st'.ev x:=h x (by simp[Op.operands,Call.operands,Array.mem_def,ha])
     rw[h1,h2]
    ·rfl
 case alloc t=>simp only[Br,hh]
 case makeMap t r=>simp only[Br,hh]
 case mapUpdate t m k v=>simp only[Br,h m (by simp[Op.operands]),h k (by simp[Op.operands]),h v (by simp[Op.operands]),hh]
 case box t x=>simp only[Br,h x (by simp[Op.operands]),hh]
 case store t x y=>simp only[Br,h x (by simp[Op.operands]),h y (by simp[Op.operands]),hh]
 case makeSlice t x y=>simp only[Br,h x (by simp[Op.operands]),h y (by simp[Op.operands]),hh]
theorem TP (h:∀ x∈o.op.operands.toList,st.ev x=st'.ev x) (hh:st.heap=st'.heap\/Db E o.op=true):Bc E st o=Bc E st' o:=by
 obtain ⟨dst,op,type,pos,after,guard⟩:=o
 simp only at h hh
 cases op<;>(try rfl)
 case call c=>
  obtain ⟨callee,args,argTypes⟩:=c
  cases callee with
  |value f=>
   have hH:st.heap=st'.heap:=hh.resolve_right (by simp[Db])
   have h1:st.ev f=st'.ev f:=h f (by simp[Op.operands,Call.operands])
   have h2:=E0 (st:=st) (st':=st') (l:=args.toList) fun x hx=>h x (by simp[Op.operands,Call.operands] at hx ⊢;exact .inr hx)
   simp only[Bc,h1,h2,hH]
  |invoke r m=>rfl
  |builtin b=>
   cases b<;>(try rfl)
   have h2:=E0 (st:=st) (st':=st') (l:=args.toList) fun x hx=>h x (by simpa [Op.operands,Call.operands] using hx)
   simp only[Bc]
   split
   ·rename_i x ha
    rw[ha] at h2
    have:st.ev x=st'.ev x:=by simpa using h2
    rw[this]
   ·rfl
 case load t x=>simp only[Bc,h x (by simp[Op.operands])]
 case indexAddr t x y=>simp only[Bc,h x (by simp[Op.operands])]
 case slice t x lo hi mx=>simp only[Bc,h x (by simp[Op.operands])]
 case lookup t x y ok=>simp only[Bc,h x (by simp[Op.operands])]
 case convert t t' x=>simp only[Bc,h x (by simp[Op.operands])]
theorem OW {pr:Option (List Nat×List Nat)} (h:∀ x∈o.op.operands.toList,st.ev x=st'.ev x) (hh:st.heap=st'.heap\/Db E o.op=true):ES E pr st o=ES E pr st' o:=by
 unfold ES
 rw[TP h hh]
theorem AFc {pr:Option (List Nat×List Nat)} (h:∀ x∈o.op.operands.toList,st.ev x=st'.ev x) (hh:st.heap=st'.heap):F_ E pr st o=F_ E pr st' o:=by
 obtain ⟨dst,op,type,pos,after,guard⟩:=o
 simp only at h
 cases pr with
 |none=>rfl
 |some l=>
 obtain ⟨l,ex⟩:=l
 unfold F_
 rw[hh]
 have hkey:Eu ⟨dst,op,type,pos,after,guard⟩=Eu ⟨dst,op,type,pos,after,guard⟩:=rfl
 congr 2
 cases op<;>(try rfl)
 case call c=>
  obtain ⟨callee,args,argTypes⟩:=c
  cases callee with
  |value f=>
   cases f<;>(try rfl)
   have h2:=E0 (st:=st) (st':=st') (l:=args.toList) fun x hx=>h x (by simp[Op.operands,Call.operands] at hx ⊢;exact .inr hx)
   simp only[h2]
  |invoke r m=>rfl
  |builtin b=>
   cases b<;>(try rfl)
   have h2:=E0 (st:=st) (st':=st') (l:=args.toList) fun x hx=>h x (by simpa [Op.operands,Call.operands] using hx)
   simp only
   split
   ·rename_i x y ha
    rw[ha] at h2
    simp only[List.map_cons,List.map_nil,List.cons.injEq] at h2
    rw[h2.1]
   ·rfl
 case store t x y=>simp only[h x (by simp[Op.operands])]
 case mapUpdate t m k v=>simp only[h m (by simp[Op.operands])]
theorem AAQ {dr:Bool} {pr:Option (List Nat×List Nat)} (K:AV->Ai->Option ρ) (h:∀ x∈o.op.operands.toList,st.ev x=st'.ev x) (hh:st.heap=st'.heap):Bl E dr pr st o K=Bl E dr pr st' o K:=by
 unfold Bl
 split
 ·rw[XW K h hh,AFc h hh]
 ·split
  ·unfold JX
   split
   ·rename_i t len parts ho
    have e:(parts.toList.map fun p=>(p.1,st.ev p.2))=parts.toList.map fun p=>(p.1,st'.ev p.2):=Mx fun x hx=>h x (by rw[ho];simpa [Op.operands] using hx)
    rw[e,hh]
   ·rfl
  ·rw[OW h (.inl hh),hh];exact congrArg _ (L' _ h (.inl hh))
end
end Go.AM
end
section
namespace Go.AM
open Go.RowKit (Below)
section
variable {V:Env} {Γ:Base} {E:Tab} {ops:Array Oper} {dr:Bool} {pr:Option (List Nat×List Nat)} {ro:Option Nat}
def BB (E:Tab) (dr:Bool) (pr:Option (List Nat×List Nat)) (ops:Array Oper) (o:Oper) (st:St):Option (AV×Ai):=
 match o.guard with
 |none=>Bl E dr pr st o fun v H=>some (v,H)
 |some (j,want)=>match (ops[j]?).bind (·.dst) with
  |none=>none
  |some d=>match st.tmps[d]? with
   |some (.bool g)=>if g=want then Bl E dr pr st o fun v H=>some (v,H) else some (.undef,st.heap)
   |some .undef=>some (.undef,st.heap)
   |_=>none
def St.give (st:St) (d:Option Tmp) (r:AV×Ai):St:={ st with heap:=r.2 }.put d r.1
def Dp (E:Tab) (dr:Bool) (pr:Option (List Nat×List Nat)) (ops:Array Oper) (o:Oper) (st:St):Option St:=(BB E dr pr ops o st).map (st.give o.dst)
theorem N9 {st:St} {d:Nat} {x:AV} (h:st.tmps[d]?=some x):st.put (some d) x=st:=by
 obtain ⟨tmps,heap,orig⟩:=st
 simp only[St.put,St.mk.injEq,and_true]
 simp only at h
 apply List.ext_getElem?
 intro i
 rw[List.getElem?_set]
 split
 ·rename_i e;subst e;rw[h];simp[(List.getElem?_eq_some_iff.1 h).1]
 ·rfl
theorem MR {ρ:Type} {st:St} {o:Oper} {K:AV->Ai->Option ρ} {z:ρ} (h:Bl E dr pr st o K=some z):∃ v H,(Bl E dr pr st o fun v H=>some (v,H))=some (v,H)/\K v H=some z:=by
 rw[ACa] at h
 obtain ⟨⟨v,H⟩,h1,h2⟩:=Af h
 exact ⟨v,H,h1,h2⟩
theorem LS {ρ:Type} {o:Oper} {r:List Oper} {st:St} {K:St->Option ρ} {z:ρ} (h:Cy E dr pr ops (o::r) st K=some z):∃ st',Dp E dr pr ops o st=some st'/\Cy E dr pr ops r st' K=some z:=by
 simp only[Cy] at h
 unfold Dp BB
 split at h
 ·rename_i hg
  obtain ⟨v,H,h1,h2⟩:=MR h
  rw[hg]
  exact ⟨_,by simp only[h1];rfl,h2⟩
 ·rename_i j want hg
  rw[hg]
  simp only
  split at h
  ·cases h
  ·rename_i d hd
   rw[hd]
   simp only
   split at h
   ·rename_i g ht
    rw[ht]
    have e:=N9 ht
    cases g<;>cases want<;>simp only[cond] at h<;>rw[e] at h
    ·obtain ⟨v,H,h1,h2⟩:=MR h
     exact ⟨_,by simp only[h1];rfl,h2⟩
    ·exact ⟨_,by simp;rfl,h⟩
    ·exact ⟨_,by simp;rfl,h⟩
    ·obtain ⟨v,H,h1,h2⟩:=MR h
     exact ⟨_,by simp only[h1];rfl,h2⟩
   ·rename_i ht
    rw[ht]
    exact ⟨_,rfl,h⟩
   ·cases h
theorem Px {st:St} {a:Act} {w:World} (hs:Bw Γ st a w) (d:Option Tmp):Bw Γ (st.give d (.undef,st.heap)) (a.put d undef) w:=by
 obtain ⟨β,hs⟩:=hs
 exact ⟨β,SimB.put (st:={ st with heap:=st.heap }) hs d (by simp[RelV])⟩
theorem Zn {o:Oper} {tmps:Array Value} {j d:Nat} {want g:Bool} (hgd:o.guard=some (j,want)) (hd:((ops[j]?).bind (·.dst))=some d) (hv:tmps[d]?=some (.bool g)):Region.wanted o (yielded ops tmps)=(some g==some want):=by
 unfold Region.wanted yielded
 simp[hgd,hd,hv]
theorem YK {o:Oper} {tmps:Array Value} {j d:Nat} {want:Bool} (hgd:o.guard=some (j,want)) (hd:((ops[j]?).bind (·.dst))=some d) (hv:tmps[d]?=some undef):Region.wanted o (yielded ops tmps)=false:=by
 unfold Region.wanted yielded
 simp[hgd,hd,hv,undef]
def FR (ro:Option Nat):Fence:={ Fence.wide with round:=ro }
theorem V5 {P:Program} {o:Oper} {a:Act} {w:World} {K:Act->World->Prop} {Q:Exit->Act->World->Prop} (ro:Option Nat) (hp:∀ c,o.op≠.defer c) (h:o.wp P a w K Q):o.wpIn (FR ro) 0 P a w K Q:=by
 refine ⟨fun _ _=>trivial,?_⟩
 rw[Oper.semAt_eq _ _ _ hp]
 unfold Oper.wp at h
 revert h
 cases (execOp a.eval o).run P w with
 |ok x w'=>
  cases x with
  |enter f args=>exact fun h=>⟨fun h=>(by cases h),callsIn_wide.2 h⟩
  |row f args=>exact fun h=>⟨fun h=>(by cases h),fun c cs _=>let ⟨v,w',r,s⟩:=h c cs;⟨v,w',r,stepsIn_wide.2 s⟩⟩
  |round l f tmps assign body=>exact fun h=>h.elim
  |_=>exact fun h=>h
 |halt x w'=>cases x<;>exact fun h=>h
theorem Za {ρ:Type} {E:Tab} {dr:Bool} {pr:Option (List Nat×List Nat)} {st:St} {o:Oper} {K:AV->Ai->Option ρ} {z:ρ} (h:Bl E dr pr st o K=some z):∀ c,o.op≠.defer c:=by
 intro c hc
 unfold Bl at h
 simp[hc,Op.eff,Ke,AR,Ab] at h
theorem J' (hE:TabOK V E) (hg:Γ.gb=V.gb) (h0:V.G Γ.w) {o:Oper} {i:Nat} (hi:ops[i]?=some o) {st st':St} (h:Dp E dr pr ops o st=some st') {a:Act} {w:World} (hs:Bw Γ st a w) {K:Act->World->Prop} {Q:Exit->Act->World->Prop} (hk:∀ a' w',Bw Γ st' a' w'->K a' w'):wpOpIn (FR ro) 0 V.P ops Q i K a w:=by
 have run:∀ {r:AV×Ai},(Bl E dr pr st o fun v H=>some (v,H))=some r->st'=st.give o.dst r->o.wpIn (FR ro) 0 V.P a w K Q:=by
  intro r hr e
  have hp:=Za hr
  obtain ⟨y,H,h1,h2⟩:=Zo hE hg h0 hr
  cases h1
  obtain ⟨β,hb⟩:=hs
  exact V5 ro hp <| h2 a w β hb K Q fun v w' hv=>hk _ _ (by rw[e];exact hv)
 unfold Dp at h
 cases hv:BB E dr pr ops o st with
 |none=>rw[hv] at h;cases h
 |some r=>
  rw[hv] at h
  simp only[Option.map_some,Option.some.injEq] at h
  unfold BB at hv
  unfold wpOpIn
  rw[hi]
  simp only
  split at hv
  ·rename_i hgd
   have:Region.wanted o (yielded ops a.tmps)=true:=by unfold Region.wanted;rw[hgd]
   rw[this,if_pos rfl]
   exact run hv h.symm
  ·rename_i j want hgd
   split at hv
   ·cases hv
   ·rename_i d hd
    split at hv
    ·rename_i g ht
     obtain ⟨β,hb⟩:=hs
     obtain ⟨v,hv1,hv2⟩:=hb.tmps d _ ht
     simp only[RelV] at hv2;subst hv2
     rw[Zn hgd hd hv1]
     split at hv
     ·rename_i e;subst e
      rw[if_pos (by simp)]
      exact run hv h.symm
     ·rename_i e
      rw[if_neg (by simpa using e)]
      cases hv
      exact ⟨fun _ _=>trivial,hk _ _ (by rw[<-h];exact Px ⟨β,hb⟩ _)⟩
    ·rename_i ht
     obtain ⟨β,hb⟩:=hs
     obtain ⟨v,hv1,hv2⟩:=hb.tmps d _ ht
     simp only[RelV] at hv2;subst hv2
     rw[YK hgd hd hv1,if_neg (by simp)]
     cases hv
     exact ⟨fun _ _=>trivial,hk _ _ (by rw[<-h];exact Px ⟨β,hb⟩ _)⟩
    ·cases hv
theorem AEW (hE:TabOK V E) (hg:Γ.gb=V.gb) (h0:V.G Γ.w) {ρ:Type} {z:ρ} {K:St->Option ρ} {Q:Exit->Act->World->Prop} (hQ:∀ st a w,Bw Γ st a w->K st=some z->Q .normal a w) :
 ∀ (n k:Nat),k+n=ops.size->∀ st a w,Cy E dr pr ops (ops.toList.drop k) st K=some z->Bw Γ st a w->wpOpsIn (FR ro) 0 V.P ops Q (List.range' k n) a w:=by
 intro n
 induction n with
 |zero=>
  intro k hk st a w h hs
  rw[qY7 (by simp;omega)] at h
  exact hQ st a w hs h
 |succ n ih=>
  intro k hk st a w h hs
  have hlt:k < ops.toList.length:=by simp;omega
  rw[qY6 hlt] at h
  obtain ⟨st',h1,h2⟩:=LS h
  rw[List.range'_succ,wpOpsIn_cons]
  exact J' hE hg h0 (by simp) h1 hs fun a' w' hs'=>ih (k+1) (by omega) st' a' w' h2 hs'
theorem AEs (hE:TabOK V E) (hg:Γ.gb=V.gb) (h0:V.G Γ.w) {ρ:Type} {z:ρ} {K:St->Option ρ} {Q:Exit->Act->World->Prop} (hQ:∀ st a w,Bw Γ st a w->K st=some z->Q .normal a w) {id:Nat} {st:St} {a:Act} {w:World}
 (h:Cy E false pr ops ops.toList st K=some z) (hs:Bw Γ st a w):(Code.region id ops false).wpIn (FR ro) 0 V.P Q a w:=by
 refine wpIn_region ?_
 rw[List.range_eq_range']
 exact AEW hE hg h0 hQ ops.size 0 (by omega) st a w (by simpa using h) hs
theorem St.ev_congr {st st':St} (x:Operand) (h:∀ t,x=.tmp t->st.tmps[t]?=st'.tmps[t]?):st.ev x=st'.ev x:=by
 cases x with
 |tmp t=>simp only[St.ev,qZ4,h t rfl]
 |const v=>rfl
 |func f=>rfl
 |global g=>rfl
theorem L9 {o:Oper} {t:Nat} (h:Operand.tmp t∈o.op.operands.toList):t∈o.looksAt ops:=
 List.mem_append_left _ (List.mem_filterMap.2 ⟨.tmp t,h,rfl⟩)
theorem K1 {o:Oper} {j d:Nat} {want:Bool} (hg:o.guard=some (j,want)) (hd:((ops[j]?).bind (·.dst))=some d):d∈o.looksAt ops:=by
 refine List.mem_append_right _ ?_
 rw[hg];simp[hd]
theorem TZ {op:Op} (h:Db E op=true):Op.eff E true op=false:=by
 cases op<;>(try rfl)<;>(try (simp[Db] at h;done))
 rename_i c
 obtain ⟨callee,args,argTypes⟩:=c
 cases callee<;>(try rfl)<;>(try (simp[Db] at h;done))
 rename_i b
 cases b<;>(try rfl)<;>simp[Db] at h
theorem M5 {o:Oper} {st st':St} (h:∀ t∈o.looksAt ops,st.tmps[t]?=st'.tmps[t]?) (hh:st.heap=st'.heap):BB E dr pr ops o st=BB E dr pr ops o st':=by
 have hop:∀ x∈o.op.operands.toList,st.ev x=st'.ev x:=fun x hx=>St.ev_congr x fun t e=>h t (L9 (by rw[<-e];exact hx))
 unfold BB
 rw[AAQ _ hop hh]
 split
 ·rfl
 ·rename_i j want hg
  split
  ·rfl
  ·rename_i d hd
   rw[h d (K1 hg hd),hh]
theorem MA (o:Oper):Ke E true o=false:=by unfold Ke;split<;>rfl
theorem J3 {o:Oper} {st:St} {v:AV} {H:Ai} (hq:Op.eff E true o.op=false) (h:BB E true pr ops o st=some (v,H)):H=st.heap:=by
 have hx:∀ {r:AV×Ai},(Bl E true pr st o fun v H=>some (v,H))=some r->r.2=st.heap:=by
  intro r hr
  unfold Bl at hr
  rw[hq,MA] at hr
  simp only[Bool.false_eq_true,if_false] at hr
  have hr:=(A7 hr).2
  rw[FB] at hr
  obtain ⟨y,_,h2⟩:=Af hr
  cases h2;rfl
 unfold BB at h
 split at h
 ·exact hx h
 ·split at h
  ·cases h
  ·split at h
   ·split at h
    ·exact hx h
    ·cases h;rfl
   ·cases h;rfl
   ·cases h
theorem ABE {o:Oper} {st st':St} (h:∀ t∈o.looksAt ops,st.tmps[t]?=st'.tmps[t]?) (hf:Db E o.op=true) {v:AV} {H:Ai} (hv:BB E true pr ops o st=some (v,H)):BB E true pr ops o st'=some (v,st'.heap):=by
 have hq:=TZ hf
 have hH:=J3 hq hv
 have hop:∀ x∈o.op.operands.toList,st.ev x=st'.ev x:=fun x hx=>St.ev_congr x fun t e=>h t (L9 (by rw[<-e];exact hx))
 have hx:(Bl E true pr st o fun v H=>some (v,H))=some (v,H)->(Bl E true pr st' o fun v H=>some (v,H))=some (v,st'.heap):=by
  intro hr
  unfold Bl at hr ⊢
  rw[hq,MA] at hr ⊢
  simp only[Bool.false_eq_true,if_false] at hr ⊢
  obtain ⟨hg,hr⟩:=A7 hr
  rw[OW hop (.inr hf)] at hg
  rw[hg]
  rw[FB,L' _ hop (.inr hf)] at hr
  simp only[Ab,cond_true]
  rw[FB]
  obtain ⟨y,h1,h2⟩:=Af hr
  cases h2
  rw[h1];rfl
 unfold BB at hv ⊢
 split at hv
 ·exact hx hv
 ·rename_i j want hg
  split at hv
  ·cases hv
  ·rename_i d hd
   rw[<-h d (K1 hg hd)]
   split at hv
   ·split at hv
    ·rename_i hgw;rw[if_pos hgw];exact hx hv
    ·rename_i hgw;rw[if_neg hgw];cases hv;rfl
   ·cases hv;rfl
   ·cases hv
theorem NV {st:St} {d:Option Tmp} {r:AV×Ai} {t:Nat} (h:d≠some t):(st.give d r).tmps[t]?=st.tmps[t]?:=by
 cases d with
 |none=>rfl
 |some d=>
  simp only[St.give,St.put]
  rw[List.getElem?_set_ne (fun e=>h (by rw[e]))]
theorem E9 {st:St} {d:Option Tmp} {r:AV×Ai}:(st.give d r).heap=r.2:=by cases d<;>rfl
theorem M8 {st:St} {d e:Option Tmp} {x y:AV} {H1 H2 H:Ai} (h:∀ t,d=some t->e≠some t):(st.give d (x,H1)).give e (y,H)=(st.give e (y,H2)).give d (x,H):=by
 cases d<;>cases e<;>simp only[St.give,St.put,St.mk.injEq,and_true]
 rename_i t u
 rw[List.set_comm]
 exact fun e=>h t rfl (by rw[e])
theorem decC_agree {H H':Ai}:∀ (t:GT) (l:List AV) x r m,decC H t l=some (x,r,m)->(∀ b∈m,H'[b]?=H[b]?)->decC H' t l=some (x,r,m):=by
 intro t
 induction t with
 |int k=>intro l x r m hd _;cases l with
  |nil=>simp[decC] at hd
  |cons a l=>cases a<;>exact hd
 |bool=>intro l x r m hd _;cases l with
  |nil=>simp[decC] at hd
  |cons a l=>cases a<;>exact hd
 |str=>intro l x r m hd _;cases l with
  |nil=>simp[decC] at hd
  |cons a l=>cases a<;>exact hd
 |err=>intro l x r m hd _;cases l with
  |nil=>simp[decC] at hd
  |cons a l=>cases a<;>exact hd
 |unit=>intro l x r m hd _;exact hd
 |sl e _=>
  intro l x r m hd hm
  cases l with
  |nil=>simp[decC] at hd
  |cons a l=>
   cases a<;>(try exact hd)
   case dat t2 y=>cases t2<;>exact hd
   all_goals
    simp only[decC] at hd ⊢
    split at hd
    ·rename_i e' l' hb
     split at hd
     ·rename_i he
      cases hd
      rw[hm _ (by simp),hb]
      simp[he]
     ·cases hd
    ·cases hd
 |pair a b iha ihb=>
  intro l x r m hd hm
  simp only[decC] at hd ⊢
  split at hd
  ·rename_i x1 r1 m1 h1
   split at hd
   ·rename_i x2 r2 m2 h2
    cases hd
    rw[iha _ _ _ _ h1 (fun b hb=>hm b (by simp[hb]))]
    simp only
    rw[ihb _ _ _ _ h2 (fun b hb=>hm b (by simp[hb]))]
   ·cases hd
  ·cases hd
 |ptr e ih=>
  intro l x r m hd hm
  cases l with
  |nil=>simp[decC] at hd
  |cons a l=>
   cases a<;>(try exact hd)
   case dat t2 y=>cases t2<;>exact hd
   case iptr e2 y k=>cases k<;>exact hd
   case ptr b i k=>
    cases i with
    |succ i=>simp[decC] at hd
    |zero=>cases k with
     |succ k=>simp[decC] at hd
     |zero=>
      simp only[decC] at hd ⊢
      split at hd
      ·rename_i l' hb
       split at hd
       ·rename_i y m1 h1
        cases hd
        rw[hm b (by simp),hb]
        simp only
        rw[ih _ _ _ _ h1 (fun b' hb'=>hm b' (by simp[hb']))]
       ·cases hd
      ·cases hd
 |fnv f c ih=>
  intro l x r m hd hm
  cases l with
  |nil=>simp[decC] at hd
  |cons a l=>
   cases a<;>(try exact hd)
   simp only[decC] at hd ⊢
   split at hd
   ·rename_i he
    rw[if_pos he]
    split at hd
    ·rename_i y m1 h1
     cases hd
     rw[ih _ _ _ _ h1 hm]
    ·cases hd
   ·cases hd
 |map t=>
  intro l x r m hd hm
  cases l with
  |nil=>simp[decC] at hd
  |cons a l=>
   cases a<;>(try exact hd)
   case dat t2 y=>cases t2<;>exact hd
   case mp b=>
    simp only[decC] at hd ⊢
    split at hd
    ·rename_i t' l' hb
     split at hd
     ·rename_i he
      cases hd
      rw[hm b (by simp),hb]
      simp[he]
     ·cases hd
    ·cases hd
 |osl e=>
  intro l x r m hd hm
  cases l with
  |nil=>simp[decC] at hd
  |cons a l=>
   cases a<;>(try exact hd)
   case dat t2 y=>cases t2<;>exact hd
 |chain e ih=>
  intro l x r m hd hm
  cases l with
  |nil=>simp[decC] at hd
  |cons a l=>
   cases a<;>(try exact hd)
   case dat t2 y=>cases t2<;>exact hd
   case ptr b i k=>
    cases i with
    |succ i=>simp[decC] at hd
    |zero=>cases k with
     |succ k=>simp[decC] at hd
     |zero=>
      simp only[decC] at hd ⊢
      split at hd
      ·rename_i l' hb
       split at hd
       ·rename_i y e' c m1 h1
        split at hd
        ·rename_i he
         cases hd
         rw[hm b (by simp),hb]
         simp only
         rw[ih _ _ _ _ h1 (fun b' hb'=>hm b' (by simp[hb']))]
         simp[he]
        ·cases hd
       ·rename_i y m1 h1
        cases hd
        rw[hm b (by simp),hb]
        simp only
        rw[ih _ _ _ _ h1 (fun b' hb'=>hm b' (by simp[hb']))]
       ·cases hd
      ·cases hd
theorem OA {H H':Ai} {t:GT} {a:AV} {x:t.ty} {m:List Nat} (hd:Dh H t a=some (x,m)) (hm:∀ b∈m,H'[b]?=H[b]?):Dh H' t a=some (x,m):=by
 unfold Dh at hd ⊢
 split
 ·rename_i ht
  rw[if_pos ht] at hd
  split at hd
  ·split at hd
   ·rename_i hx;cases hd;rw[decC_agree _ _ _ _ _ hx hm]
   ·cases hd
  ·cases hd
 ·rename_i ht
  rw[if_neg ht] at hd
  split at hd
  ·rename_i hx;cases hd;rw[decC_agree _ _ _ _ _ hx hm]
  ·cases hd
theorem Od {H H':Ai} {vs:List AV}:∀ (ps:List PK) (azs:List AV) (x:Ao ps) (s t:List AV) (m:List Nat),ps.all PK.isVal=true->AF H vs ps azs=some (x,s,t,m)->(∀ b∈m,H'[b]?=H[b]?)->AF H' vs ps azs=some (x,s,t,m)
 |[],[],x,s,t,m,_,hd,_=>by simpa [AF] using hd
 |[],a::azs,x,s,t,m,_,hd,_=>by simp[AF] at hd
 |.val t0::ps,[],x,s,t,m,_,hd,_=>by simp[AF] at hd
 |.val t0::ps,a::azs,x,s,t,m,hp,hd,hm=>by
  simp only[List.all_cons,qY0] at hp
  simp only[AF] at hd ⊢
  split at hd
  ·rename_i y m1 h1
   split at hd
   ·rename_i y2 s2 t2 m2 h2
    cases hd
    rw[OA h1 (fun b hb=>hm b (by simp[hb]))]
    simp only
    rw[Od ps azs _ _ _ _ hp.2 h2 (fun b hb=>hm b (by simp[hb]))]
   ·cases hd
  ·cases hd
 |.box _::ps,_,_,_,_,_,hp,_,_ | .row _::ps,_,_,_,_,_,hp,_,_ | .own _::ps,_,_,_,_,_,hp,_,_ | .mp _::ps,_,_,_,_,_,hp,_,_ | .view _::ps,_,_,_,_,_,hp,_,_ | .obj _::ps,_,_,_,_,_,hp,_,_=>by simp[PK.isVal] at hp
theorem PY {H H':Ai} {e:GT}:∀ (ps:List (Nat×AV)) (n:Nat) (l:List e.ty),CX H e n ps=some l->CX H' e n ps=some l
 |[],n,l,h=>h
 |(i,v)::ps,n,l,h=>by
  simp only[CX] at h ⊢
  split at h
  ·rename_i he
   rw[if_pos he]
   split at h
   ·rename_i x hx
    rw[OA (H':=H') hx (by simp)]
    simp only
    split at h
    ·rename_i l2 hl
     rw[PY ps _ _ hl];exact h
    ·cases h
   ·cases h
  ·cases h
theorem Vn {H H':Ai} {a:AV} (h:∀ b∈Cb a,H[b]?=H'[b]?):H.at a=H'.at a/\H.there a=H'.there a:=by
 cases a
 case ptr b i k=>simp only[Ai.at,Ai.there];rw[h b (by simp[Cb,AV.row])];exact ⟨rfl,rfl⟩
 case dat t x=>cases t<;>exact ⟨rfl,rfl⟩
 all_goals exact ⟨rfl,rfl⟩
theorem M1 {H H':Ai} {b:Nat} (h:H[b]?=H'[b]?):H.len b=H'.len b/\∀ s,H.lenS s b=H'.lenS s b:=by simp[Ai.len,Ai.lenS,h]
theorem ABc {st st':St} {o:Oper} {v:AV} (hop:∀ x∈o.op.operands.toList,st.ev x=st'.ev x) {F:List Nat} (hF:Bc E st o=some F) (hr:∀ b∈F,st.heap[b]?=st'.heap[b]?) (hv:AR E st o some=some v):AR E st' o some=some v/\Bc E st' o=some F:=by
 have ev':∀ y,St.ev { st' with heap:=st.heap } y=st'.ev y:=fun y=>by cases y<;>rfl
 have evf:St.ev { st' with heap:=st.heap }=st'.ev:=funext ev'
 have e0:AR E st o some=AR E { st' with heap:=st.heap } o some:=L' some (fun y hy=>by rw[hop y hy,ev']) (.inl rfl)
 have e1:Bc E st o=Bc E { st' with heap:=st.heap } o:=TP (fun y hy=>by rw[hop y hy,ev']) (.inl rfl)
 rw[e0] at hv
 rw[e1] at hF
 clear e0 e1
 obtain ⟨dst,op,type,pos,after,guard⟩:=o
 simp only at hop
 have mk:∀ (a:AV),Cb a=F->∀ b,a.row=some b->st.heap[b]?=st'.heap[b]?:=fun a ha b hb=>hr b (by rw[<-ha];simp[Cb,hb])
 cases op<;>(try (simp[Bc] at hF;done))
 case load t a=>
  simp only[Bc,ev',Option.some.injEq] at hF
  obtain ⟨h1,h2⟩:=Vn (a:=st'.ev a) (H:=st.heap) (H':=st'.heap) (fun b hb=>hr b (by rw[<-hF];exact hb))
  refine ⟨?_,by simp only[Bc,hF]⟩
  rw[<-hv]
  simp only[AR,ev',h1,h2]
 case indexAddr t a i=>
  simp only[Bc,ev',Option.some.injEq] at hF
  refine ⟨?_,by simp only[Bc,hF]⟩
  rw[<-hv]
  simp only[AR,ev']
  have:∀ s n,D9 st.heap s (st'.ev a) n some=D9 st'.heap s (st'.ev a) n some:=fun s n=>by
   have hm:=mk _ hF
   cases hx:st'.ev a<;>simp only[D9]<;>rw[hx] at hm<;>rw[(M1 (hm _ rfl)).2]
  simp only[this]
 case slice t a lo hi mx=>
  simp only[Bc,ev',Option.some.injEq] at hF
  refine ⟨?_,by simp only[Bc,hF]⟩
  rw[<-hv]
  simp only[AR,evf]
  have:∀ s l h,Dr st.heap s (st'.ev a) l h some=Dr st'.heap s (st'.ev a) l h some:=fun s l h=>by
   have hm:=mk _ hF
   cases hx:st'.ev a<;>simp only[Dr]<;>rw[hx] at hm<;>rw[(M1 (hm _ rfl)).2]
  cases E.ti t with
  |none=>rfl
  |some i=>
   obtain ⟨d,sz,by',gt⟩:=i
   cases d<;>(try rfl)
   case str=>cases mx<;>first | rfl | cases st'.ev a<;>rfl
   case slice e=>
    cases mx<;>(try rfl)
    dsimp only
    cases hx:st'.ev a<;>cases E.ti e<;>(try rfl)<;>(rw[hx] at this;exact (this _ _ _).symm)
 case lookup t a i ok=>
  simp only[Bc,ev',Option.some.injEq] at hF
  refine ⟨?_,by simp only[Bc,hF]⟩
  rw[<-hv]
  simp only[AR,ev']
  have:∀ g s,Ek st.heap g (st'.ev a) s ok some=Ek st'.heap g (st'.ev a) s ok some:=fun g s=>by
   have hm:=mk _ hF
   cases hx:st'.ev a
   case mp b=>rw[hx] at hm;simp only[Ek];rw[hm b rfl]
   case dat t x=>cases t<;>rfl
   all_goals rfl
  simp only[this]
 case convert src dst' a=>
  simp only[Bc,ev',Option.some.injEq] at hF
  refine ⟨?_,by simp only[Bc,hF]⟩
  rw[<-hv]
  simp only[AR,ev']
  have:decC st.heap (.sl (.int .u8)) [st'.ev a]=decC st'.heap (.sl (.int .u8)) [st'.ev a]:=by
   have hm:=mk _ hF
   cases hx:st'.ev a
   case dat t2 y=>cases t2<;>rfl
   all_goals first | rfl | (rw[hx] at hm;simp only[decC];rw[hm _ rfl])
  cases E.ti src with
  |none=>rfl
  |some i1=>
   cases E.ti dst' with
   |none=>rfl
   |some i2=>
    obtain ⟨d1,_,_,_⟩:=i1
    obtain ⟨d2,_,_,_⟩:=i2
    cases d1<;>cases d2<;>first | rfl | (cases st'.ev a<;>rfl) | (dsimp only;rw[this])
 case buildSlice t n ps=>
  simp only[Bc,Option.some.injEq] at hF
  refine ⟨?_,by simp only[Bc,hF]⟩
  simp only[AR,evf] at hv ⊢
  split at hv
  ·split at hv
   ·split at hv
    ·rename_i l hl
     rw[PY (H':=st'.heap) _ _ _ hl]
     exact hv
    ·cases hv
   ·cases hv
  ·cases hv
 case call c=>
  obtain ⟨callee,args,at'⟩:=c
  cases callee with
  |invoke r m=>simp[Bc] at hF
  |value f=>
   simp only[Bc,evf] at hF ⊢
   simp only[AR,evf] at hv ⊢
   cases hfv:st'.ev f<;>rw[hfv] at hF hv<;>(try (cases hF;done))
   rename_i k caps
   simp only at hF hv ⊢
   cases hc:E.fn k (List.map st'.ev args.toList++caps) with
   |none=>rw[hc] at hF;cases hF
   |some c=>
    rw[hc] at hF hv
    simp only at hF hv ⊢
    cases hd:AF st.heap [] c.ps (List.map st'.ev args.toList++caps) with
    |none=>rw[hd] at hF;cases hF
    |some r=>
     obtain ⟨x,s,t,m⟩:=r
     rw[hd] at hF
     simp only[Option.some.injEq] at hF
     subst hF
     unfold Fr at hv ⊢
     rw[hd] at hv
     simp only at hv
     split at hv
     ·rename_i hcond
      have hcond':=hcond
      simp only[qY0] at hcond'
      rw[Od c.ps _ _ _ _ _ hcond'.1.1 hd (fun b hb=>(hr b hb).symm)]
      simp only
      rw[if_pos hcond]
      exact ⟨hv,trivial⟩
     ·cases hv
  |builtin b=>
   cases b<;>(try (simp[Bc] at hF;done))
   simp only[Bc,evf] at hF ⊢
   split at hF
   ·rename_i y ha
    cases hF
    refine ⟨?_,rfl⟩
    rw[<-hv]
    simp only[AR,evf]
    split
    ·rename_i y' t ha' ht
     rw[ha] at ha'
     cases ha'
     have hm:=mk _ rfl
     have h1:Ep st.heap (st'.ev y) some=Ep st'.heap (st'.ev y) some:=by
      cases hx:st'.ev y<;>simp only[Ep]<;>rw[hx] at hm<;>rw[(M1 (hm _ rfl)).1]
     have h2:ED st.heap (st'.ev y) some=ED st'.heap (st'.ev y) some:=by
      cases hx:st'.ev y
      case mp b=>rw[hx] at hm;simp only[ED];rw[hm b rfl]
      case dat t x=>cases t<;>rfl
      all_goals rfl
     rw[h1,h2]
    ·rfl
   ·cases hF
theorem AAL {o:Oper} {st st':St} {l ex:List Nat} (hex:ex.contains (Eu o)=false) (h:∀ t∈o.looksAt ops,st.tmps[t]?=st'.tmps[t]?) (hrd:IJ o.op=true) (hq:Op.eff E true o.op=false) (hl:∀ b∈l,st.heap[b]?=st'.heap[b]?) {v:AV} {H:Ai} (hv:BB E true (some (l,ex)) ops o st=some (v,H)):BB E true (some (l,ex)) ops o st'=some (v,st'.heap):=by
 have hop:∀ x∈o.op.operands.toList,st.ev x=st'.ev x:=fun x hx=>St.ev_congr x fun t e=>h t (L9 (by rw[<-e];exact hx))
 have hxx:(Bl E true (some (l,ex)) st o fun v H=>some (v,H))=some (v,H)->(Bl E true (some (l,ex)) st' o fun v H=>some (v,H))=some (v,st'.heap):=by
  intro hr
  unfold Bl at hr ⊢
  rw[hq,MA] at hr ⊢
  simp only[Bool.false_eq_true,if_false] at hr ⊢
  obtain ⟨hg,hr⟩:=A7 hr
  rw[FB] at hr
  obtain ⟨y,h1,h2⟩:=Af hr
  cases h2
  simp only[qY2,Bool.false_or,ES,hex] at hg
  cases hF:Bc E st o with
  |none=>rw[hF] at hg;simp[hrd] at hg
  |some F=>
   rw[hF] at hg
   simp only[qY3] at hg
   obtain ⟨g1,g2⟩:=ABc hop hF (fun b hb=>hl b (by simpa using hg b hb)) h1
   have hg':ES E (some (l,ex)) st' o=true:=by simp only[ES,g2,hex,Bool.false_or,qY3];exact hg
   rw[hg',FB,g1];rfl
 unfold BB at hv ⊢
 split at hv
 ·exact hxx hv
 ·rename_i j want hg
  split at hv
  ·cases hv
  ·rename_i d hd
   rw[<-h d (K1 hg hd)]
   split at hv
   ·split at hv
    ·rename_i hgw;rw[if_pos hgw];exact hxx hv
    ·rename_i hgw;rw[if_neg hgw];cases hv;rfl
   ·cases hv;rfl
   ·cases hv
theorem Jj (e:GT) (a:AV) (H:Ai):H.length<=(BE e a H).2.length/\∀ b,b < H.length->(BE e a H).2[b]?=H[b]?:=by
 unfold BE
 split
 ·exact ⟨by simp,fun b hb=>qY8 hb⟩
 ·exact ⟨by simp,fun b hb=>qY8 hb⟩
 ·exact ⟨Nat.le_refl _,fun b hb=>rfl⟩
theorem Jr:∀ (f:BF) (l:List AV) (H:Ai),H.length<=(A8 f l H).2.length/\∀ b,b < H.length->(A8 f l H).2[b]?=H[b]?
 |.own e,[],H=>⟨Nat.le_refl _,fun b hb=>rfl⟩
 |.own e,a::r,H=>Jj e a H
 |.pair f g,l,H=>by
  obtain ⟨a1,a2⟩:=Jr f l H
  obtain ⟨b1,b2⟩:=Jr g ((A8 f l H).1.drop f.cells) (A8 f l H).2
  exact ⟨Nat.le_trans a1 b1,fun b hb=>(b2 b (by omega)).trans (a2 b hb)⟩
 |.dat _,l,H=>⟨Nat.le_refl _,fun b hb=>rfl⟩
 |.slf,l,H=>⟨Nat.le_refl _,fun b hb=>rfl⟩
 |.mp _,l,H=>⟨Nat.le_refl _,fun b hb=>rfl⟩
 |.box _,l,H=>⟨Nat.le_refl _,fun b hb=>rfl⟩
theorem Ok (f:BF) (n:Nat) (H:Ai):H.length<=(Dy f n H).length/\∀ b,b < H.length->b≠n->(Dy f n H)[b]?=H[b]?:=by
 unfold Dy
 split
 ·rename_i l hl
  obtain ⟨a1,a2⟩:=Jr f l H
  exact ⟨by simpa using a1,fun b hb hn=>by rw[List.getElem?_set_ne (fun e=>hn e.symm)];exact a2 b hb⟩
 ·exact ⟨Nat.le_refl _,fun b hb _=>rfl⟩
theorem WE:∀ (ps:List PK) (azs:List AV) (H:Ai),H.length<=(lift ps azs H).2.length/\∀ b,b < H.length->b∉B1 ps azs->(lift ps azs H).2[b]?=H[b]?:=by
 intro ps
 induction ps with
 |nil=>intro azs H;simp only[lift];exact ⟨Nat.le_refl _,fun b hb _=>trivial⟩
 |cons p ps ih=>
  intro azs H
  cases azs with
  |nil=>cases p<;>simp only[lift]<;>exact ⟨Nat.le_refl _,fun b hb _=>trivial⟩
  |cons a azs=>
   have step1:∀ e,(BE e a H).2.length<=(lift ps azs (BE e a H).2).2.length/\∀ b,b < H.length->b∉B1 ps azs->(lift ps azs (BE e a H).2).2[b]?=H[b]?:=fun e=>by
    obtain ⟨a1,a2⟩:=Jj e a H
    obtain ⟨b1,b2⟩:=ih azs (BE e a H).2
    exact ⟨b1,fun b hb hn=>(b2 b (by omega) hn).trans (a2 b hb)⟩
   cases p with
   |row e=>
    obtain ⟨a1,a2⟩:=Jj e a H
    obtain ⟨c1,c2⟩:=step1 e
    simp only[lift,B1]
    exact ⟨Nat.le_trans a1 c1,c2⟩
   |own e=>
    obtain ⟨a1,a2⟩:=Jj e a H
    obtain ⟨c1,c2⟩:=step1 e
    simp only[lift,B1]
    exact ⟨Nat.le_trans a1 c1,c2⟩
   |val t=>simp only[lift,B1];exact ih azs H
   |mp t=>simp only[lift,B1];exact ih azs H
   |view t=>simp only[lift,B1];exact ih azs H
   |obj f=>
    have ho:H.length<=(C4 f a H).2.length/\∀ b,b < H.length->b∉B1 (.obj f::ps) (a::azs)->(C4 f a H).2[b]?=H[b]?/\b∉B1 ps azs:=by
     cases f with
     |box g=>
      by_cases hp:∃ n,a=.ptr n 0 0
      ·obtain ⟨n,rfl⟩:=hp
       obtain ⟨a1,a2⟩:=Ok g n H
       refine ⟨a1,fun b hb hn=>?_⟩
       simp only[B1,qY12,not_or] at hn
       exact ⟨a2 b hb hn.1,hn.2⟩
      ·have e1:C4 (.box g) a H=(a,H):=by
        cases a<;>(try rfl)
        rename_i n i k
        cases i<;>cases k<;>first | rfl | exact absurd ⟨_,rfl⟩ hp
       have e2:B1 (.obj (.box g)::ps) (a::azs)=B1 ps azs:=by
        cases a<;>(try rfl)
        rename_i n i k
        cases i<;>cases k<;>first | rfl | exact absurd ⟨_,rfl⟩ hp
       rw[e1,e2];exact ⟨Nat.le_refl _,fun b hb hn=>⟨rfl,hn⟩⟩
     |pair g h=>
      cases a<;>(try exact ⟨Nat.le_refl _,fun b hb hn=>⟨rfl,hn⟩⟩)
      rename_i l
      obtain ⟨a1,a2⟩:=Jr (.pair g h) l H
      exact ⟨a1,fun b hb hn=>⟨a2 b hb,hn⟩⟩
     |_=>exact ⟨Nat.le_refl _,fun b hb hn=>⟨rfl,hn⟩⟩
    obtain ⟨a1,a2⟩:=ho
    obtain ⟨b1,b2⟩:=ih azs (C4 f a H).2
    simp only[lift]
    exact ⟨Nat.le_trans a1 b1,fun b hb hn=>(b2 b (by omega) (a2 b hb hn).2).trans (a2 b hb hn).1⟩
   |box f=>
    by_cases hp:∃ n,a=.ptr n 0 0
    ·obtain ⟨n,rfl⟩:=hp
     obtain ⟨a1,a2⟩:=Ok f n H
     obtain ⟨b1,b2⟩:=ih azs (Dy f n H)
     simp only[lift,B1]
     exact ⟨Nat.le_trans a1 b1,fun b hb hn=>by
      simp only[qY12,not_or] at hn
      exact (b2 b (by omega) hn.2).trans (a2 b hb hn.1)⟩
    ·have e1:lift (.box f::ps) (a::azs) H=(a::(lift ps azs H).1,(lift ps azs H).2):=by
      cases a<;>(try rfl)
      rename_i n i k
      cases i<;>cases k<;>first | rfl | exact absurd ⟨_,rfl⟩ hp
     have e2:B1 (.box f::ps) (a::azs)=B1 ps azs:=by
      cases a<;>(try rfl)
      rename_i n i k
      cases i<;>cases k<;>first | rfl | exact absurd ⟨_,rfl⟩ hp
     rw[e1,e2];exact ih azs H
theorem Nf:∀ (m:List Nat) (H:Ai),(killAll m H).length=H.length/\∀ b,b∉m->(killAll m H)[b]?=H[b]?
 |[],H=>⟨rfl,fun b _=>rfl⟩
 |n::m,H=>by
  obtain ⟨a1,a2⟩:=Nf m (H.set n none)
  simp only[killAll,List.foldl_cons] at a1 a2 ⊢
  exact ⟨by rw[a1];simp,fun b hb=>by
   simp only[qY12,not_or] at hb
   rw[a2 b hb.2,List.getElem?_set_ne (fun e=>hb.1 e.symm)]⟩
theorem M4:∀ (s:List AV) (rs:Ai) (H:Ai),(BU s rs H).length=H.length/\∀ b,b∉Ax s->(BU s rs H)[b]?=H[b]?
 |[],rs,H=>⟨by simp[BU],fun b _=>by simp[BU]⟩
 |a::s,[],H=>⟨by simp[BU],fun b _=>by simp[BU]⟩
 |a::s,none::rs,H=>⟨by simp[BU],fun b _=>by simp[BU]⟩
 |a::s,some r::rs,H=>by
  simp only[BU,Ax]
  split
  ·rename_i n hn
   obtain ⟨a1,a2⟩:=M4 s rs (H.set n (some (Du a (H[n]?.getD none) r)))
   exact ⟨by rw[a1];simp,fun b hb=>by
    simp only[qY12,not_or] at hb
    rw[a2 b hb.2,List.getElem?_set_ne (fun e=>hb.1 e.symm)]⟩
  ·exact M4 s rs H
theorem Gd {l m:List Nat} (h:B7 l m=true):∀ b∈l,b∉m:=fun b hb=>by
 have:=List.all_eq_true.1 h b hb
 simpa using this
theorem ZQ {H:Ai} {c:Callee} {azs:List AV} {v:AV} {H':Ai} (h:(Dx H c azs fun v H=>some (v,H))=some (v,H')) {l:List Nat}
 (hk:(match AF (lift c.ps azs H).2 [] c.ps (lift c.ps azs H).1 with
  |some (_,s,t,m)=>B7 l (B1 c.ps azs)&&B7 l (Ax s)&&B7 l (Ax t)&&B7 l m&&l.all (fun b=>decide (b < H.length))
  |none=>false)=true):∀ b∈l,H'[b]?=H[b]?:=by
 unfold Dx at h
 split at h
 ·rename_i x s t m hd
  rw[hd] at hk
  simp only[qY0,qY3,decide_eq_true_eq] at hk
  obtain ⟨⟨⟨⟨k1,k2⟩,k3⟩,k4⟩,k5⟩:=hk
  split at h
  ·obtain ⟨r,_,h⟩:=Af h
   simp only[Option.some.injEq,Prod.mk.injEq] at h
   obtain ⟨_,rfl⟩:=h
   intro b hb
   obtain ⟨l1,l2⟩:=WE c.ps azs H
   have hlt:=k5 b hb
   have e0:=l2 b hlt (Gd k1 b hb)
   have hm:∀ H1:Ai,H1=(if (m.isEmpty||(c.rk.all PK.scalar&&(opsOf c.ps).all PK.scalar))=true then (lift c.ps azs H).2 else killAll m (lift c.ps azs H).2)->H1.length=(lift c.ps azs H).2.length/\H1[b]?=H[b]?:=by
    rintro H1 rfl
    split
    ·exact ⟨rfl,e0⟩
    ·obtain ⟨q1,q2⟩:=Nf m (lift c.ps azs H).2
     exact ⟨q1,(q2 b (Gd k4 b hb)).trans e0⟩
   obtain ⟨m1,m2⟩:=hm _ rfl
   generalize (if (m.isEmpty||(c.rk.all PK.scalar&&(opsOf c.ps).all PK.scalar))=true then (lift c.ps azs H).2 else killAll m (lift c.ps azs H).2)=H1 at m1 m2 ⊢
   obtain ⟨q1,q2⟩:=Nf (Ax t) H1
   obtain ⟨w1,w2⟩:=M4 s (((Cu c.ps c.rk r.2 r.1).take s.length).map (·.map (Row.ren (Gu s (killAll (Ax t) H1).length)))) (killAll (Ax t) H1)
   rw[qY8 (by omega),w2 b (Gd k2 b hb),q2 b (Gd k3 b hb),m2]
  ·cases h
 ·cases h
theorem T9 {H H':Ai} {e:GT} {s:AV} {l':List e.ty} {v:AV} (h:(Em H e s l' fun v H=>some (v,H))=some (v,H')) {b:Nat} (hb:b < H.length) (hn:b∉Cb s):H'[b]?=H[b]?:=by
 have app:∀ (G:Ai) (x:Option Row),G.length=H.length->G[b]?=H[b]?->(G++[x])[b]?=H[b]?:=fun G x h1 h2=>by rw[qY8 (by omega)];exact h2
 have sett:∀ n,b≠n->(H.set n none)[b]?=H[b]?:=fun n hn=>List.getElem?_set_ne (fun e=>hn e.symm)
 unfold Em at h
 split at h
 ·obtain ⟨_,h⟩:=A7 h;cases h;exact app H _ rfl rfl
 ·split at h
  ·cases hx:decide (0 < l'.length) with
   |true=>rw[hx] at h;simp only[cond_true] at h;obtain ⟨_,h⟩:=A7 h;cases h;exact app H _ rfl rfl
   |false=>rw[hx] at h;simp only[cond_false] at h;cases h;rfl
  ·cases h
 ·rename_i n
  have hne:b≠n:=fun e=>hn (by simp[Cb,AV.row,e])
  split at h
  ·split at h
   ·obtain ⟨_,h⟩:=A7 h;cases h;exact app _ _ (by simp) (sett n hne)
   ·cases h
  ·cases h
 ·rename_i n m
  have hne:b≠n:=fun e=>hn (by simp[Cb,AV.row,e])
  split at h
  ·split at h
   ·obtain ⟨_,h⟩:=A7 h;cases h;exact app _ _ (by simp) (sett n hne)
   ·cases h
  ·cases h
 ·cases h
theorem WD {st:St} {o:Oper} {l ex:List Nat} (hex:ex.contains (Eu o)=false) (hk:F_ E (some (l,ex)) st o=true) {v:AV} {H:Ai} (hr:(Br E st o fun v H=>some (v,H))=some (v,H)):∀ b∈l,H[b]?=st.heap[b]?:=by
 obtain ⟨dst,op,type,pos,after,guard⟩:=o
 simp only[F_,hex,Bool.false_or,qY0,qY3,decide_eq_true_eq] at hk
 obtain ⟨hlt,hk⟩:=hk
 intro b hb
 have hbl:=hlt b hb
 have app:∀ (x:Option Row),(st.heap++[x])[b]?=st.heap[b]?:=fun x=>qY8 hbl
 have sett:∀ n (x:Option Row),b≠n->(st.heap.set n x)[b]?=st.heap[b]?:=fun n x hn=>List.getElem?_set_ne (fun e=>hn e.symm)
 cases op<;>(try (simp[Br] at hr;done))<;>(try (simp at hk;done))
 case alloc t=>
  simp only[Br] at hr
  split at hr
  ·cases hr;exact app _
  ·cases hr
 case box t x=>
  simp only[Br] at hr
  split at hr
  ·split at hr
   ·split at hr
    ·cases hr;exact app _
    ·cases hr
   ·cases hr
  ·cases hr
 case makeSlice t x y=>
  simp only[Br] at hr
  split at hr
  ·split at hr
   ·split at hr
    ·split at hr
     ·obtain ⟨_,hr⟩:=A7 hr;cases hr;exact app _
     ·cases hr
    ·cases hr
   ·cases hr
  ·cases hr
 case makeMap t r=>
  simp only[Br] at hr
  split at hr
  ·split at hr
   ·cases hr;exact app _
   ·cases hr
  ·cases hr
 case mapUpdate t m k x=>
  have hd:=Gd hk b hb
  simp only[Br] at hr
  split at hr
  ·rename_i n _ _ hm _
   split at hr
   ·split at hr
    ·split at hr
     ·cases hr;exact sett _ _ fun e=>hd (by rw[hm];simp[Cb,AV.row,e])
     ·cases hr
    ·cases hr
   ·cases hr
  ·cases hr
 case store t a x=>
  have hd:=Gd hk b hb
  simp only[Br] at hr
  split at hr
  ·split at hr
   ·split at hr
    ·split at hr
     ·rename_i n j k ha
      have hne:b≠n:=fun e=>hd (by rw[ha];simp[Cb,AV.row,e])
      split at hr
      ·split at hr
       ·cases hr;exact sett _ _ hne
       ·cases hr
      ·split at hr
       ·split at hr
        ·obtain ⟨_,hr⟩:=A7 hr;cases hr;exact sett _ _ hne
        ·cases hr
       ·cases hr
      ·cases hr
     ·cases hr
    ·cases hr
   ·cases hr
  ·cases hr
 case call c=>
  obtain ⟨callee,args,at'⟩:=c
  cases callee with
  |invoke r m=>simp[Br] at hr
  |builtin bi=>
   cases bi<;>(try (simp[Br] at hr;done))
   simp only at hk
   split at hk
   ·rename_i s x ha
    have hd:=Gd hk b hb
    simp only[Br,ha] at hr
    split at hr
    ·rename_i s' x' ts tx e1 _
     cases e1
     split at hr
     ·split at hr
      ·split at hr
       ·split at hr
        ·exact T9 hr hbl hd
        ·cases hr
       ·cases hr
      ·cases hr
     ·split at hr
      ·split at hr
       ·exact T9 hr hbl hd
       ·cases hr
      ·cases hr
     ·cases hr
    ·cases hr
   ·cases hk
  |value f=>
   cases f<;>(try (simp at hk;done))
   rename_i k
   have hev:st.ev (.func k)=.fn k []:=rfl
   simp only[Br,hev,qY4] at hr
   simp only at hk
   cases hbk:D0 E.bk k with
   |some kb=>
    rw[hbk] at hr
    simp only at hr
    split at hr
    ·split at hr
     ·cases hr;exact app _
     ·cases hr
    ·cases hr
   |none=>
   rw[hbk] at hr
   simp only at hr
   cases hf:E.fn k (args.toList.map st.ev) with
   |none=>rw[hf] at hk;cases hk
   |some c=>
    rw[hf] at hk
    rw[hf] at hr
    refine ZQ hr (l:=l) ?_ b hb
    simp only at hk ⊢
    split at hk
    ·rename_i hd
     rw[hd]
     simp only[qY0] at hk ⊢
     exact ⟨hk,by simpa [qY3] using hlt⟩
    ·cases hk
theorem AAu {o:Oper} {st:St} {l ex:List Nat} (hex:ex.contains (Eu o)=false) (he:Op.eff E true o.op=true) {v:AV} {H:Ai} (hv:BB E true (some (l,ex)) ops o st=some (v,H)):∀ b∈l,H[b]?=st.heap[b]?:=by
 have hx:(Bl E true (some (l,ex)) st o fun v H=>some (v,H))=some (v,H)->∀ b∈l,H[b]?=st.heap[b]?:=by
  intro hr
  unfold Bl at hr
  simp only[he,if_true] at hr
  obtain ⟨hk,hr⟩:=A7 hr
  simp only[qY2,Bool.false_or] at hk
  exact WD hex hk hr
 unfold BB at hv
 split at hv
 ·exact hx hv
 ·split at hv
  ·cases hv
  ·split at hv
   ·split at hv
    ·exact hx hv
    ·cases hv;exact fun b _=>rfl
   ·cases hv;exact fun b _=>rfl
   ·cases hv
theorem V3 {x y:Oper} (hc:Dc E (pr.map (·.2)) ops x y=false) {st st1 st2:St} (h1:Dp E true pr ops x st=some st1) (h2:Dp E true pr ops y st1=some st2):∃ st1',Dp E true pr ops y st=some st1'/\Dp E true pr ops x st1'=some st2:=by
 simp only[Dc,Bool.or_eq_false_iff,Bool.not_eq_false',Bool.and_eq_false_iff] at hc
 obtain ⟨⟨hap,hxe⟩,hye⟩:=hc
 obtain ⟨a1,a2,a3⟩:=Oper.apart_spec hap
 unfold Dp at h1 h2 ⊢
 cases hx:BB E true pr ops x st with
 |none=>rw[hx] at h1;cases h1
 |some r=>
  obtain ⟨v,H⟩:=r
  rw[hx] at h1
  simp only[Option.map_some,Option.some.injEq] at h1
  subst h1
  cases hy:BB E true pr ops y (st.give x.dst (v,H)) with
  |none=>rw[hy] at h2;cases h2
  |some r=>
   obtain ⟨u,H2⟩:=r
   rw[hy] at h2
   simp only[Option.map_some,Option.some.injEq] at h2
   subst h2
   have ly:∀ t∈y.looksAt ops,(st.give x.dst (v,H)).tmps[t]?=st.tmps[t]?:=fun t ht=>NV fun e=>a1 t e ht
   have lx:∀ r,∀ t∈x.looksAt ops,st.tmps[t]?=(st.give y.dst r).tmps[t]?:=fun r t ht=>(NV fun e=>a3 t e ht).symm
   have hcomm:∀ t,x.dst=some t->y.dst≠some t:=fun t e=>a2 t e
   have pass:∀ {x y:Oper} {H:Ai} {v:AV} {st:St},Op.eff E true x.op=true->GP E (pr.map (·.2)) x y=true->BB E true pr ops x st=some (v,H)->(∀ (z:Oper) (s1 s2:St) (u:AV) (H2:Ai),z=y->(∀ t∈z.looksAt ops,s1.tmps[t]?=s2.tmps[t]?)->(s1.heap=H/\s2.heap=st.heap\/s1.heap=st.heap/\s2.heap=H)->BB E true pr ops z s1=some (u,H2)->BB E true pr ops z s2=some (u,s2.heap))/\Op.eff E true y.op=false:=by
    intro x y H v st hex hp hx
    unfold GP at hp
    rw[Bool.or_eq_true] at hp
    rcases hp with hf | hp
    ·exact ⟨fun z s1 s2 u H2 e hl _ hv=>by subst e;exact ABE hl hf hv,TZ hf⟩
    ·cases pr with
     |none=>cases hp
     |some l=>
      obtain ⟨l,ex⟩:=l
      simp only[Option.map_some,qY0,Bool.not_eq_true'] at hp
      obtain ⟨⟨⟨hrd,hyq⟩,hx1⟩,hy1⟩:=hp
      refine ⟨fun z s1 s2 u H2 e hll hh hv=>?_,hyq⟩
      subst e
      have hk:=AAu hx1 hex hx
      exact AAL hy1 hll hrd hyq (fun b hb=>by rcases hh with ⟨h1,h2⟩ | ⟨h1,h2⟩<;>rw[h1,h2,hk b hb]) hv
   by_cases hex:Op.eff E true x.op=true
   ·have hfy:GP E (pr.map (·.2)) x y=true:=by
     rcases hxe with h | h
     ·rw[hex] at h;cases h
     ·exact h
    obtain ⟨pk,hyq⟩:=pass hex hfy hx
    have hH2:H2=H:=by rw[J3 hyq hy,E9]
    subst hH2
    have hy':=pk y _ st u H2 rfl ly (.inl ⟨E9,rfl⟩) hy
    refine ⟨_,by rw[hy'];rfl,?_⟩
    have hx':BB E true pr ops x (st.give y.dst (u,st.heap))=some (v,H2):=by
     rw[<-hx];exact (M5 (lx _) (by rw[E9])).symm
    rw[hx']
    simp only[Option.map_some,Option.some.injEq]
    exact (M8 hcomm).symm
   ·have hxq:Op.eff E true x.op=false:=by simpa using hex
    have hH:H=st.heap:=J3 hxq hx
    subst hH
    have hy':BB E true pr ops y st=some (u,H2):=by rw[<-hy];exact (M5 ly (by rw[E9])).symm
    refine ⟨_,by rw[hy'];rfl,?_⟩
    by_cases hey:Op.eff E true y.op=true
    ·have hfx:GP E (pr.map (·.2)) y x=true:=by
      rcases hye with h | h
      ·rw[hey] at h;cases h
      ·exact h
     have hx':=(pass hey hfx hy').1 x st (st.give y.dst (u,H2)) v _ rfl (lx _) (.inr ⟨rfl,E9⟩) hx
     rw[hx',E9]
     simp only[Option.map_some,Option.some.injEq]
     exact (M8 hcomm).symm
    ·have hyq:Op.eff E true y.op=false:=by simpa using hey
     have hH2:H2=st.heap:=by rw[J3 hyq hy,E9]
     subst hH2
     have hx':BB E true pr ops x (st.give y.dst (u,st.heap))=some (v,st.heap):=by
      rw[<-hx];exact (M5 (lx _) (by rw[E9])).symm
     rw[hx']
     simp only[Option.map_some,Option.some.injEq]
     exact (M8 hcomm).symm
def CC (E:Tab) (pr:Option (List Nat×List Nat)) (ops:Array Oper):List Nat->St->Option St
 |[],st=>some st
 |i::r,st=>match ops[i]? with
  |some o=>(Dp E true pr ops o st).bind (CC E pr ops r)
  |none=>none
theorem Kq:∀ (l1:List Nat) {i:Nat} {l2:List Nat} {st stn:St} {y:Oper},ops[i]?=some y->(∀ k∈l1,∀ x,ops[k]?=some x->Dc E (pr.map (·.2)) ops x y=false)->CC E pr ops (l1++i::l2) st=some stn->
 ∃ st',Dp E true pr ops y st=some st'/\CC E pr ops (l1++l2) st'=some stn
 |[],i,l2,st,stn,y,hi,_,h=>by
  simp only[qY15,CC,hi] at h
  obtain ⟨st',h1,h2⟩:=Af h
  exact ⟨st',h1,h2⟩
 |k::l1,i,l2,st,stn,y,hi,hc,h=>by
  simp only[qY5,CC] at h
  split at h
  ·rename_i x hx
   obtain ⟨st1,h1,h2⟩:=Af h
   obtain ⟨st2,h3,h4⟩:=Kq l1 hi (fun k hk=>hc k (qY13 _ hk)) h2
   obtain ⟨st1',h5,h6⟩:=V3 (hc k List.mem_cons_self x hx) h1 h3
   refine ⟨st1',h5,?_⟩
   simp only[qY5,CC,hx,h6,Option.bind_some]
   exact h4
  ·cases h
def OU (ops:Array Oper) (j m:Nat):Prop:=∀ i,m.testBit i=true->∀ D:Nat->Prop,(∀ k o,ops[k]?=some o->D k->∀ e∈o.after.toList,Region.binds .any e=true->D e.on)->
 ∀ o,ops[j]?=some o->(∀ e∈o.after.toList,Region.binds .any e=true->D e.on)->D i
theorem OQ (acc:List Nat) (i:Nat):∀ (l:List Edge) (s:Nat),(l.foldl (fun s e=>if Region.binds .any e then s||| (2 ^ e.on||| acc.getD e.on 0) else s) s).testBit i=true->
 s.testBit i=true\/∃ e∈l,Region.binds .any e=true/\(i=e.on\/(acc.getD e.on 0).testBit i=true)
 |[],s,h=>.inl h
 |e::l,s,h=>by
  simp only[List.foldl_cons] at h
  rcases OQ acc i l _ h with h | ⟨e',he',hb,h⟩
  ·split at h
   ·rename_i hb
    simp only[Nat.testBit_or,Nat.testBit_two_pow,Bool.or_eq_true,decide_eq_true_eq] at h
    rcases h with h | h | h
    ·exact .inl h
    ·exact .inr ⟨e,List.mem_cons_self,hb,.inl h.symm⟩
    ·exact .inr ⟨e,List.mem_cons_self,hb,.inr h⟩
   ·exact .inl h
  ·exact .inr ⟨e',qY13 _ he',hb,h⟩
theorem Nq:∀ (l:List Oper) (acc:List Nat),(∀ n,ops[acc.length+n]?=l[n]?)->(∀ j m,acc[j]?=some m->OU ops j m)->∀ j m,(E2 l acc)[j]?=some m->OU ops j m
 |[],acc,_,h,j,m,hm=>h j m hm
 |o::l,acc,hl,h,j,m,hm=>by
  simp only[E2] at hm
  refine Nq l _ (fun n=>?_) (fun j m hj=>?_) j m hm
  ·rw[qZ6,List.length_singleton,Nat.add_assoc,Nat.add_comm 1 n,hl (n+1)];simp
  ·rw[List.getElem?_append] at hj
   split at hj
   ·exact h j m hj
   ·rename_i hge
    have hj0:j=acc.length:=by
     cases hn:j - acc.length with
     |zero=>omega
     |succ n=>rw[hn] at hj;simp at hj
    subst hj0
    rw[Nat.sub_self] at hj
    simp only[List.getElem?_cons_zero,Option.some.injEq] at hj
    subst hj
    intro i hi D hD o' ho' hed
    have:o'=o:=by
     have:=hl 0
     rw[Nat.add_zero,ho'] at this
     simpa using this
    subst this
    rcases OQ acc i _ _ hi with h' | ⟨e,he,hb,h'⟩
    ·simp at h'
    ·have hDe:=hed e he hb
     rcases h' with rfl | h'
     ·exact hDe
     ·rw[qZ4] at h'
      cases hm':acc[e.on]? with
      |none=>rw[hm'] at h';simp at h'
      |some m'=>
       rw[hm'] at h'
       simp only[Option.getD_some] at h'
       have h0:=hl 0
       simp only[Nat.add_zero,List.getElem?_cons_zero] at h0
       have hlt:e.on < ops.size:=by
        have:=(List.getElem?_eq_some_iff.1 hm').1
        have:=(Array.getElem?_eq_some_iff.1 h0).1
        omega
       exact h e.on m' hm' i h' D hD _ (Array.getElem?_eq_getElem hlt) (hD e.on _ (Array.getElem?_eq_getElem hlt) hDe)
theorem NH {bad:Nat->Nat->Bool} (h:Gl E bad (pr.map (·.2)) ops=true):(∀ (j:Nat) y,ops[j]?=some y->∀ e∈y.after.toList,Region.binds .any e=true->e.on < j)/\
 ∀ (i j:Nat) x y,i < j->bad i j=false->ops[i]?=some x->ops[j]?=some y->Dc E (pr.map (·.2)) ops x y=true->∀ D:Nat->Prop,(∀ k o,ops[k]?=some o->D k->∀ e∈o.after.toList,Region.binds .any e=true->D e.on)->(∀ e∈y.after.toList,Region.binds .any e=true->D e.on)->D i:=by
 unfold Gl at h
 simp only[qY3,List.mem_range] at h
 refine ⟨fun j y hy e he hb=>?_,fun i j x y hij hbad hx hy hc D hD hed=>?_⟩
 ·have:=h j (Array.getElem?_eq_some_iff.1 hy).1
  rw[hy] at this
  simp only[qY0] at this
  have:=List.all_eq_true.1 this.1 e he
  simpa [hb] using this
 ·have:=h j (Array.getElem?_eq_some_iff.1 hy).1
  rw[hy] at this
  simp only[qY0] at this
  have:=List.all_eq_true.1 this.2 i (List.mem_range.2 hij)
  rw[hx] at this
  simp only[hc,qY2,Bool.false_or,hbad,Bool.or_false] at this
  rw[qZ4] at this
  cases hm:(E2 ops.toList [])[j]? with
  |none=>rw[hm] at this;simp at this
  |some m=>
   rw[hm] at this
   exact Nq ops.toList [] (fun n=>by simp) (fun j m hj=>by simp at hj) j m hm i this D hD y hy hed
theorem Sq {bad:Nat->Nat->Bool} (hE:TabOK V E) (hg:Γ.gb=V.gb) (h0:V.G Γ.w) (hd:Gl E bad (pr.map (·.2)) ops=true) {stn:St} {Q:Exit->Act->World->Prop} (hQ:∀ a w,Bw Γ stn a w->Q .normal a w) :
 ∀ (R:List Nat) (listed:Array Bool) (st:St) (a:Act) (w:World),listed.size=ops.size->R.Pairwise (· < ·)->(∀ i,i∈R ↔ i < ops.size/\listed.getD i true=false)->
  (∀ k o,ops[k]?=some o->listed.getD k false=true->∀ e∈o.after.toList,Region.binds .any e=true->listed.getD e.on false=true)->
  CC E pr ops R st=some stn->(∀ p q,bad p q=true->p∉R\/q∉R)->Bw Γ st a w->wpAnyIn (FR ro) 0 V.P .any ops Q R.length listed a w:=by
 obtain ⟨d1,d2⟩:=NH hd
 intro R
 generalize hn:R.length=n
 induction n generalizing R with
 |zero=>
  intro listed st a w hsz hR hmem hcl hst _ hs
  have:R=[]:=List.eq_nil_of_length_eq_zero hn
  subst this
  simp only[CC,Option.some.injEq] at hst
  subst hst
  refine ⟨?_,hQ a w hs⟩
  apply List.eq_nil_iff_forall_not_mem.2
  intro i hi
  obtain ⟨h1,o,h2,_⟩:=mem_ready.1 hi
  have:=(hmem i).2 ⟨(Array.getElem?_eq_some_iff.1 h2).1,h1⟩
  simp at this
 |succ n ih=>
  intro listed st a w hsz hR hmem hcl hst hbad hs
  have hlf:∀ {i:Nat},i < ops.size->listed.getD i true=false->listed.getD i false=false:=by
   intro i hi h
   simp only[Array.getD_eq_getD_getElem?,Array.getElem?_eq_getElem (by omega:i < listed.size),Option.getD_some] at h ⊢
   exact h
  have hlt:∀ {i:Nat},listed.getD i false=true->i < ops.size/\listed.getD i true=true:=by
   intro i h
   by_cases hi:i < listed.size
   ·simp only[Array.getD_eq_getD_getElem?,Array.getElem?_eq_getElem hi,Option.getD_some] at h ⊢
    exact ⟨by omega,h⟩
   ·simp[Array.getD_eq_getD_getElem?,Array.getElem?_eq_none (by omega:listed.size<=i)] at h
  refine ⟨fun hr=>?_,fun i hi=>?_⟩
  ·exfalso
   cases R with
   |nil=>simp at hn
   |cons r R=>
    obtain ⟨h1,h2⟩:=(hmem r).1 List.mem_cons_self
    have:r∈Region.ready .any ops listed:=by
     refine mem_ready.2 ⟨h2,_,Array.getElem?_eq_getElem h1,fun e he hb=>?_⟩
     have hlt':=d1 r _ (Array.getElem?_eq_getElem h1) e (by simpa using he) hb
     have hno:e.on∉r::R:=by
      intro hm
      rcases List.mem_cons.1 hm with h | h
      ·omega
      ·have:=(List.pairwise_cons.1 hR).1 _ h;omega
     have:¬ (e.on < ops.size/\listed.getD e.on true=false):=fun h=>hno ((hmem e.on).2 h)
     have hlo:e.on < listed.size:=by omega
     simp only[Array.getD_eq_getD_getElem?,Array.getElem?_eq_getElem hlo,Option.getD_some] at this ⊢
     cases hx:listed[e.on] with
     |true=>rfl
     |false=>exact absurd ⟨by omega,hx⟩ this
    rw[hr] at this
    simp at this
  ·obtain ⟨h1,y,hy,hed⟩:=mem_ready.1 hi
   have hiR:i∈R:=(hmem i).2 ⟨(Array.getElem?_eq_some_iff.1 hy).1,h1⟩
   obtain ⟨l1,l2,rfl⟩:=List.append_of_mem hiR
   have hpw:=List.pairwise_append.1 hR
   obtain ⟨st',s1,s2⟩:=Kq l1 hy (fun k hk x hx=>by
    cases hcl':Dc E (pr.map (·.2)) ops x y with
    |false=>rfl
    |true=>
     have hki:k < i:=hpw.2.2 k hk i List.mem_cons_self
     have:=d2 k i x y hki (by cases e:bad k i with | false=>rfl | true=>exact ((hbad k i e).elim (fun h=>h (List.mem_append_left _ hk)) fun h=>h hiR).elim) hx hy hcl' (fun k=>listed.getD k false=true) hcl (fun e he hb=>hed e (by simpa using he) hb)
     have h2:=((hmem k).1 (List.mem_append_left _ hk)).2
     have:=(hlt this).2
     rw[h2] at this;cases this) hst
   refine J' hE hg h0 hy s1 hs fun a' w' hs'=>?_
   have hset:∀ k (d:Bool),(listed.setIfInBounds i true).getD k d=if k=i then (if i < ops.size then true else d) else listed.getD k d:=by
    intro k d
    by_cases e:k=i
    ·subst e
     rw[if_pos rfl,if_pos (Array.getElem?_eq_some_iff.1 hy).1]
     simp[Array.getD_eq_getD_getElem?,hsz,(Array.getElem?_eq_some_iff.1 hy).1]
    ·rw[if_neg e];exact getD_set_ne d (fun h=>e h.symm)
   have hilt:=(Array.getElem?_eq_some_iff.1 hy).1
   refine ih (l1++l2) (by simp at hn ⊢;omega) _ st' a' w' (by simpa using hsz) ?_ (fun k=>?_) (fun k o ho hk e he hb=>?_) s2 (fun p q e=>(hbad p q e).imp (fun h hm=>h (by simp only[qZ7,qY12] at hm ⊢;exact hm.imp id .inr)) (fun h hm=>h (by simp only[qZ7,qY12] at hm ⊢;exact hm.imp id .inr))) hs'
   ·refine List.pairwise_append.2 ⟨hpw.1,(List.pairwise_cons.1 hpw.2.1).2,fun x hx y hy=>hpw.2.2 x hx y (qY13 _ hy)⟩
   ·rw[hset]
    have hm:=hmem k
    simp only[qZ7,qY12] at hm ⊢
    by_cases e:k=i
    ·subst e
     simp only[if_pos hilt]
     constructor
     ·rintro (h | h)
      ·have:=hpw.2.2 k h k List.mem_cons_self;omega
      ·have:=(List.pairwise_cons.1 hpw.2.1).1 k h;omega
     ·rintro ⟨_,h⟩;cases h
    ·simp only[if_neg e]
     rw[<-hm]
     constructor
     ·rintro (h | h)
      ·exact .inl h
      ·exact .inr (.inr h)
     ·rintro (h | h | h)
      ·exact .inl h
      ·exact absurd h e
      ·exact .inr h
   ·rw[hset] at hk ⊢
    have key:listed.getD e.on false=true:=by
     by_cases ek:k=i
     ·subst ek
      rw[hy] at ho;cases ho
      exact hed e (by simpa using he) hb
     ·rw[if_neg ek] at hk
      exact hcl k o ho hk e he hb
    split
    ·rfl
    ·exact key
theorem ZS {ρ:Type} {K:St->Option ρ} {z:ρ}:∀ (n k:Nat),k+n=ops.size->∀ st,Cy E true pr ops (ops.toList.drop k) st K=some z->∃ stn,CC E pr ops (List.range' k n) st=some stn/\K stn=some z:=by
 intro n
 induction n with
 |zero=>
  intro k hk st h
  rw[qY7 (by simp;omega)] at h
  exact ⟨st,rfl,h⟩
 |succ n ih=>
  intro k hk st h
  have hlt:k < ops.toList.length:=by simp;omega
  rw[qY6 hlt] at h
  obtain ⟨st',h1,h2⟩:=LS h
  obtain ⟨stn,h3,h4⟩:=ih (k+1) (by omega) st' h2
  refine ⟨stn,?_,h4⟩
  rw[List.range'_succ]
  have:ops[k]?=some (ops.toList[k]):=by simp
  simp only[CC,this,h1,Option.bind_some]
  exact h3
theorem ADI (hE:TabOK V E) (hg:Γ.gb=V.gb) (h0:V.G Γ.w) (hd:Gl E Ko (pr.map (·.2)) ops=true) {ρ:Type} {z:ρ} {K:St->Option ρ} {Q:Exit->Act->World->Prop} (hQ:∀ st a w,Bw Γ st a w->K st=some z->Q .normal a w) {id:Nat} {st:St} {a:Act} {w:World}
 (h:Cy E true pr ops ops.toList st K=some z) (hs:Bw Γ st a w):(Code.region id ops true).wpIn (FR ro) 0 V.P Q a w:=by
 obtain ⟨stn,h1,h2⟩:=ZS (ops:=ops) ops.size 0 (by omega) st (by simpa using h)
 refine wpIn_region_any V.mixed ?_
 rw[<-List.range_eq_range'] at h1
 have hl:(List.range ops.size).length=ops.size:=List.length_range
 have:=Sq (ro:=ro) hE hg h0 hd (stn:=stn) (Q:=Q) (fun a w hs=>hQ stn a w hs h2) (List.range ops.size) (Array.replicate ops.size false) st a { w with drawn:=w.drawn+1 } (by simp) List.pairwise_lt_range (fun i=>by
  rw[List.mem_range]
  constructor
  ·intro hi;exact ⟨hi,by simp[hi]⟩
  ·exact fun h=>h.1) (fun k o ho hk=>by
   have:=(Array.getElem?_eq_some_iff.1 ho).1
   simp[this] at hk) h1 (fun p q e=>by simp[Ko] at e) (by
   obtain ⟨β,hb⟩:=hs
   exact ⟨β,hb.ext (Ext.drew w)⟩)
 rw[hl] at this
 exact this
end
end Go.AM
end
