/- Law TermRebuild: a part of its proof. No conditions. -/
import Derived.Orders
import Derived.Below
import Derived.Eval
import Derived.Laws.Cells
import Derived.Laws.Entries
import Derived.Laws.StructEq
import Derived.Laws.Slices
import Derived.Laws.BytesArg
import Derived.Lib.ConvBytes
import Derived.Laws.AppendOwn
import Derived.IntWalk
import Derived.Laws.CopyRow
abbrev qBs:=List UInt8
abbrev qI (x:Int):Int:=Go.IntKind.i64.wrap x
abbrev qU (x:Int):Int:=Go.IntKind.u64.wrap x
theorem qY0 (a b:Bool):((a&&b)=true)=(a=true∧b=true):=Bool.and_eq_true a b
theorem qY1 :(!false)=true:=rfl
theorem qY2 :(!true)=false:=rfl
theorem qY3.{u} {α:Type u} {p:α→Bool} {l:List α}:l.all p=true↔∀ x∈l,p x=true:=List.all_eq_true
theorem qY4.{u} {α:Type u} (l:List α):l++[]=l:=List.append_nil l
theorem qY5.{u} {α:Type u} {a:α} {l r:List α}:a::l++r=a::(l++r):=List.cons_append
theorem qY6.{u} {α:Type u} {i:Nat} {l:List α} (h:i<l.length):l.drop i=l[i]::l.drop (i+1):=List.drop_eq_getElem_cons h
theorem qY7.{u} {α:Type u} {l:List α} {i:Nat} (h:l.length≤i):l.drop i=[]:=List.drop_eq_nil_of_le h
theorem qY8.{u} {α:Type u} {l r:List α} {n:Nat} (h:n<l.length):(l++r)[n]?=l[n]?:=List.getElem?_append_left h
theorem qY9.{u} {α:Type u} {l r:List α} {n:Nat} (h:l.length≤n):(l++r)[n]?=r[n-l.length]?:=List.getElem?_append_right h
theorem qY11.{u} {α:Type u} {a:α} {l:List α}:(a::l).length=l.length+1:=List.length_cons
theorem qY12.{u} {α:Type u} {a b:α} {l:List α}:a∈b::l↔a=b∨a∈l:=List.mem_cons
theorem qY13.{u} {α:Type u} (b:α) {a:α} {l:List α} (h:a∈l):a∈b::l:=List.mem_cons_of_mem b h
theorem qY14.{u} {α:Type u} {l:List α} {i:Nat} {a:α} (h:l[i]?=some a):a∈l:=List.mem_of_getElem? h
theorem qY15.{u} {α:Type u} (l:List α):[]++l=l:=List.nil_append l
theorem qY16.{u} {α:Type u} {a:α}:¬a∈[]:=List.not_mem_nil
theorem qZ0 (n:Nat):(n:Int).toNat=n:=Int.toNat_natCast n
theorem qZ1.{u} {α:Type u} (a b c:List α):a++b++c=a++(b++c):=List.append_assoc a b c
theorem qZ2.{u} {α:Type u} {x d:α} {l:List α} {n:Nat}:(x::l).getD (n+1) d=l.getD n d:=List.getD_cons_succ
theorem qZ3.{u} {α:Type u} {x d:α} {l:List α}:(x::l).getD 0 d=x:=List.getD_cons_zero
theorem qZ4.{u} {α:Type u} {l:List α} {i:Nat} {d:α}:l.getD i d=l[i]?.getD d:=List.getD_eq_getElem?_getD
theorem qZ5.{u} {α:Type u} {l:List α} {i:Nat} (h:i<l.length):l[i]?=some l[i]:=List.getElem?_eq_getElem h
theorem qZ6.{u} {α:Type u} {a b:List α}:(a++b).length=a.length+b.length:=List.length_append
theorem qZ7.{u} {α:Type u} {a:α} {s t:List α}:a∈s++t↔a∈s∨a∈t:=List.mem_append
theorem qZ8.{u} {α:Type u} {a b:α}:a∈[b]↔a=b:=List.mem_singleton
theorem qZ9 {p:Prop} [d:Decidable p] (h:¬p):decide p=false:=decide_eq_false h
theorem qZ10 {p:Prop} [d:Decidable p] (h:p):decide p=true:=decide_eq_true h
set_option linter.unusedSimpArgs false
set_option linter.unusedVariables false
section
namespace Go.AM
open Go.RowKit (Below)
inductive GT where
 |int (k:IntKind) | bool | str | err | sl (e:GT) | unit | pair (a b:GT) | ptr (e:GT) | fnv (f:FuncId) (c:GT) | map (v:GT) | chain (e:GT) | osl (e:GT)
 deriving DecidableEq
@[reducible] def GT.ty:GT->Type
 |.int _=>Int
 |.bool=>Bool
 |.str=>qBs
 |.err=>Bool
 |.sl e=>List e.ty
 |.unit=>Unit
 |.pair a b=>a.ty×b.ty
 |.ptr e=>Option e.ty
 |.fnv _ c=>c.ty
 |.map v=>List (qBs×v.ty)
 |.chain e=>List e.ty
 |.osl e=>Option (List e.ty)
def GT.cells:GT->Nat
 |.unit=>0
 |.pair a b=>a.cells+b.cells
 |_=>1
def GT.zero:(t:GT)->t.ty
 |.int _=>(0:Int)
 |.bool=>false
 |.str=>([]:qBs)
 |.err=>false
 |.sl _=>[]
 |.unit=>()
 |.pair a b=>(a.zero,b.zero)
 |.ptr _=>none
 |.fnv _ c=>c.zero
 |.map _=>[]
 |.chain _=>[]
 |.osl _=>none
inductive AV where
 |any | undef | nils
 |int (k:IntKind) (n:Int) | bool (b:Bool) | str (s:qBs) | err (b:Bool)
 |sl (e:GT) (full:Bool) (l:List e.ty)
 |vw (b:Nat) | pre (b n:Nat) | sub (b off n:Nat)
 |ptr (b i k:Nat)
 |nilptr | iptr (e:GT) (x:e.ty) (k:Nat)
 |fn (f:FuncId) (caps:List AV)
 |agg (l:List AV) | tup (l:List AV)
 |mp (b:Nat) | nilmap | selfp (b:Nat)
 |dat (t:GT) (x:t.ty)
def AS:(t:GT)->t.ty->List AV
 |.int k,n=>[.int k n]
 |.bool,b=>[.bool b]
 |.str,s=>[.str s]
 |.err,b=>[.err b]
 |.sl e,l=>[.sl e false l]
 |.unit,_=>[]
 |.pair a b,x=>AS a x.1++AS b x.2
 |.ptr e,x=>[.dat (.ptr e) x]
 |.fnv f c,x=>[.fn f (AS c x)]
 |.map v,x=>[.dat (.map v) x]
 |.chain e,x=>[.dat (.chain e) x]
 |.osl e,x=>[.dat (.osl e) x]
def Cl:GT->List AV
 |.sl e=>[.sl e true []]
 |.pair a b=>Cl a++Cl b
 |t=>AS t t.zero
def GT.isAgg:GT->Bool
 |.unit | .pair ..=>true
 |_=>false
def enc (t:GT) (x:t.ty):AV:=
 match t.isAgg,AS t x with
 |true,l=>.agg l
 |false,[a]=>a
 |false,_=>.any
def Ih (t:GT) (us:List Value):Value:=if t.isAgg then .agg us.toArray else us.headD undef
section
variable (rd:Nat->Nat->Option Value) (I:Nat->Prop)
def Cy {α:Type} (n:Nat) (R:α->List Value->Prop):List α->Value->Prop
 |[],v=>v=.pointer none
 |x::l,v=>∃ B o,v=.pointer (some ⟨B,o,none⟩)/\I B/\∃ (us:List Value) (u:Value),us.length=n/\(∀ j,j < n+1->rd B (o+j)=(us++[u])[j]?)/\R x us/\Cy n R l u/\u.oneCell'=true
def RelC:(t:GT)->t.ty->List Value->Prop
 |.int k,n,vs=>vs=[.int k n]
 |.bool,b,vs=>vs=[.bool b]
 |.str,s,vs=>∃ b:ByteArray,vs=[.string b]/\b.data.toList=s
 |.err,b,vs=>∃ v,vs=[v]/\(b=false->v=.nilIface)/\(b=true->∃ t x,v=.iface t x)
 |.sl e,l,vs=>∃ (a:Option Addr) (c:Nat),vs=[.slice a l.length c]/\l.length<=c/\
  (l≠[]->∃ B o,a=some ⟨B,o,none⟩/\I B/\∀ (i:Nat) x,l[i]?=some x->
   ∃ us:List Value,us.length=e.cells/\(∀ j,j < e.cells->rd B (o+i * e.cells+j)=us[j]?)/\RelC e x us)
 |.unit,_,vs=>vs=[]
 |.pair a b,x,vs=>∃ v1 v2,vs=v1++v2/\RelC a x.1 v1/\RelC b x.2 v2
 |.ptr _,none,vs=>vs=[.pointer none]
 |.ptr e,some x,vs=>∃ B o,vs=[.pointer (some ⟨B,o,none⟩)]/\I B/\
  ∃ us:List Value,us.length=e.cells/\(∀ j,j < e.cells->rd B (o+j)=us[j]?)/\RelC e x us
 |.fnv f c,x,vs=>∃ us:List Value,vs=[.func (.func f) #[] us.toArray]/\RelC c x us
 |.map t,l,vs=>∃ o:Option Nat,vs=[.map o]/\(o=none->l=[])/\∀ B,o=some B->I B/\rd B 0=some (.tuple #[.int .i64 l.length])/\∀ (i:Nat) x,l[i]?=some x->
  ∃ (kb:ByteArray) (us:List Value),rd B (i+1)=some (.tuple #[.string kb,Ih t us])/\kb.data.toList=x.1/\RelC t x.2 us
 |.chain e,l,vs=>∃ v,vs=[v]/\Cy rd I e.cells (RelC e) l v
 |.osl _,none,vs=>vs=[.slice none 0 0]
 |.osl e,some l,vs=>∃ (a:Option Addr) (c:Nat),vs=[.slice a l.length c]/\l.length<=c/\
  (l≠[]->∃ B o,a=some ⟨B,o,none⟩/\I B/\∀ (i:Nat) x,l[i]?=some x->
   ∃ us:List Value,us.length=e.cells/\(∀ j,j < e.cells->rd B (o+i * e.cells+j)=us[j]?)/\RelC e x us)
end
structure Place where
 B:Nat
 O:Nat
 s:Nat
 n:Nat
 z:Nat
 backed:Bool
section
variable (rd:Nat->Nat->Option Value) (I:Nat->Prop) (β:Nat->Option Place)
mutual
def RelV:AV->Value->Prop
 |.any,_=>True
 |.undef,v=>v=undef
 |.nils,v=>v=.slice none 0 0
 |.int k n,v=>v=.int k n
 |.bool b,v=>v=.bool b
 |.str s,v=>∃ b:ByteArray,v=.string b/\b.data.toList=s
 |.err b,v=>(b=false->v=.nilIface)/\(b=true->∃ t x,v=.iface t x)
 |.sl e full l,v=>RelC rd I (.sl e) l [v]/\(full=true->∃ a,v=.slice a l.length l.length)
 |.vw b,v=>∃ p,β b=some p/\∃ (a:Option Addr) (c:Nat),v=.slice a p.n c/\p.n<=c/\(c=0\/(p.backed=true/\a=some ⟨p.B,p.O,none⟩/\p.O+c * p.s<=p.z))
 |.pre b m,v=>∃ p,β b=some p/\m<=p.n/\∃ (a:Option Addr) (c:Nat),v=.slice a m c/\p.n<=c/\(c=0\/(p.backed=true/\a=some ⟨p.B,p.O,none⟩/\p.O+c * p.s<=p.z))
 |.sub b off m,v=>∃ p,β b=some p/\off+m<=p.n/\∃ (a:Option Addr) (c:Nat),v=.slice a m c/\p.n<=off+c/\(c=0\/(p.backed=true/\a=some ⟨p.B,p.O+off * p.s,none⟩/\p.O+(off+c) * p.s<=p.z))
 |.ptr b i k,v=>∃ p,β b=some p/\p.backed=true/\v=.pointer (some ⟨p.B,p.O+i * p.s+k,none⟩)
 |.nilptr,v=>v=.pointer none
 |.iptr e x k,v=>∃ B o,v=.pointer (some ⟨B,o+k,none⟩)/\I B/\
  ∃ us:List Value,us.length=e.cells/\(∀ j,j < e.cells->rd B (o+j)=us[j]?)/\RelC rd I e x us
 |.fn f cs,v=>∃ us:List Value,v=.func (.func f) #[] us.toArray/\RelL cs us
 |.agg l,v=>∃ us:List Value,v=.agg us.toArray/\RelL l us/\∀ u∈us,u.oneCell'=true
 |.tup l,v=>∃ us:List Value,v=.tuple us.toArray/\RelL l us
 |.mp b,v=>∃ p,β b=some p/\p.backed=true/\v=.map (some p.B)
 |.nilmap,v=>v=.map none
 |.dat t x,v=>RelC rd I t x [v]
 |.selfp b,v=>v=.pointer none\/∃ p,β b=some p/\p.backed=true/\v=.pointer (some ⟨p.B,p.O,none⟩)
def RelL:List AV->List Value->Prop
 |[],us=>us=[]
 |a::l,us=>∃ u us',us=u::us'/\RelV a u/\RelL l us'
end
end
structure Mono (rd:Nat->Nat->Option Value) (I:Nat->Prop) (rd':Nat->Nat->Option Value) (I':Nat->Prop):Prop where
 imm:∀ B,I B->I' B
 read:∀ B,I B->∀ o v,rd B o=some v->rd' B o=some v
theorem Dm {rd:Nat->Nat->Option Value} {I:Nat->Prop}:∀ (t:GT) (x:t.ty) (vs:List Value),RelC rd I t x vs->vs.length=t.cells
 |.int _,_,_,h=>by simp only[RelC] at h;subst h;rfl
 |.bool,_,_,h=>by simp only[RelC] at h;subst h;rfl
 |.str,_,_,h=>by simp only[RelC] at h;obtain ⟨_,rfl,_⟩:=h;rfl
 |.err,_,_,h=>by simp only[RelC] at h;obtain ⟨_,rfl,_⟩:=h;rfl
 |.sl _,_,_,h=>by simp only[RelC] at h;obtain ⟨_,_,rfl,_⟩:=h;rfl
 |.unit,_,_,h=>by simp only[RelC] at h;subst h;rfl
 |.pair a b,x,_,h=>by
  simp only[RelC] at h;obtain ⟨v1,v2,rfl,h1,h2⟩:=h
  simp[GT.cells,Dm a x.1 v1 h1,Dm b x.2 v2 h2]
 |.ptr _,none,_,h=>by simp only[RelC] at h;subst h;rfl
 |.ptr _,some _,_,h=>by simp only[RelC] at h;obtain ⟨_,_,rfl,_⟩:=h;rfl
 |.fnv _ _,_,_,h=>by simp only[RelC] at h;obtain ⟨_,rfl,_⟩:=h;rfl
 |.map _,_,_,h=>by simp only[RelC] at h;obtain ⟨_,rfl,_⟩:=h;rfl
 |.chain _,_,_,h=>by simp only[RelC] at h;obtain ⟨_,rfl,_⟩:=h;rfl
 |.osl _,none,_,h=>by simp only[RelC] at h;subst h;rfl
 |.osl _,some _,_,h=>by simp only[RelC] at h;obtain ⟨_,_,rfl,_⟩:=h;rfl
theorem XW {rd:Nat->Nat->Option Value} {I:Nat->Prop} {α:Type} {n:Nat} {R:α->List Value->Prop} {l:List α} {v:Value} (h:Cy rd I n R l v):v.oneCell'=true:=by
 cases l with
 |nil=>simp only[Cy] at h;subst h;rfl
 |cons x l=>simp only[Cy] at h;obtain ⟨_,_,rfl,_⟩:=h;rfl
theorem Dq {rd:Nat->Nat->Option Value} {I:Nat->Prop}:∀ (t:GT) (x:t.ty) (vs:List Value),RelC rd I t x vs->∀ v∈vs,v.oneCell'=true
 |.int _,_,_,h=>by simp only[RelC] at h;subst h;simp[Value.oneCell']
 |.bool,_,_,h=>by simp only[RelC] at h;subst h;simp[Value.oneCell']
 |.str,_,_,h=>by simp only[RelC] at h;obtain ⟨_,rfl,_⟩:=h;simp[Value.oneCell']
 |.err,b,_,h=>by
  simp only[RelC] at h;obtain ⟨v,rfl,h1,h2⟩:=h
  cases b with
  |false=>rw[h1 rfl];simp[Value.oneCell']
  |true=>obtain ⟨t,x,rfl⟩:=h2 rfl;simp[Value.oneCell']
 |.sl _,_,_,h=>by simp only[RelC] at h;obtain ⟨_,_,rfl,_⟩:=h;simp[Value.oneCell']
 |.unit,_,_,h=>by simp only[RelC] at h;subst h;simp
 |.pair a b,x,_,h=>by
  simp only[RelC] at h;obtain ⟨v1,v2,rfl,h1,h2⟩:=h
  intro v hv
  rcases List.mem_append.1 hv with hv | hv
  ·exact Dq a x.1 v1 h1 v hv
  ·exact Dq b x.2 v2 h2 v hv
 |.ptr _,none,_,h=>by simp only[RelC] at h;subst h;simp[Value.oneCell']
 |.ptr _,some _,_,h=>by simp only[RelC] at h;obtain ⟨_,_,rfl,_⟩:=h;simp[Value.oneCell']
 |.fnv _ _,_,_,h=>by simp only[RelC] at h;obtain ⟨_,rfl,_⟩:=h;simp[Value.oneCell']
 |.map _,_,_,h=>by simp only[RelC] at h;obtain ⟨_,rfl,_⟩:=h;simp[Value.oneCell']
 |.chain _,_,_,h=>by simp only[RelC] at h;obtain ⟨_,rfl,h⟩:=h;simp[XW h]
 |.osl _,none,_,h=>by simp only[RelC] at h;subst h;simp[Value.oneCell']
 |.osl _,some _,_,h=>by simp only[RelC] at h;obtain ⟨_,_,rfl,_⟩:=h;simp[Value.oneCell']
theorem Ju {rd rd':Nat->Nat->Option Value} {I I':Nat->Prop} (h:Mono rd I rd' I') {B o n:Nat} (hB:I B) {us:List Value} (hl:us.length=n)
 (hr:∀ j,j < n->rd B (o+j)=us[j]?):∀ j,j < n->rd' B (o+j)=us[j]?:=by
 intro j hj
 have:=hr j hj
 rw[qZ5 (by omega)] at this ⊢
 exact h.read B hB _ _ this
theorem chain_mono {rd rd':Nat->Nat->Option Value} {I I':Nat->Prop} (h:Mono rd I rd' I') {α:Type} {n:Nat} {R R':α->List Value->Prop} (hR:∀ x vs,R x vs->R' x vs):∀ (l:List α) (v:Value),Cy rd I n R l v->Cy rd' I' n R' l v
 |[],_,hr=>by simpa only[Cy] using hr
 |x::l,_,hr=>by
  simp only[Cy] at hr ⊢
  obtain ⟨B,o,rfl,hB,us,u,hl,hrd,hx,ht,hu⟩:=hr
  exact ⟨B,o,rfl,h.imm B hB,us,u,hl,Ju h hB (by simp[hl]) hrd,hR x us hx,chain_mono h hR l u ht,hu⟩
theorem relC_mono {rd rd':Nat->Nat->Option Value} {I I':Nat->Prop} (h:Mono rd I rd' I'):∀ (t:GT) (x:t.ty) (vs:List Value),RelC rd I t x vs->RelC rd' I' t x vs
 |.int _,_,_,hr=>by simpa only[RelC] using hr
 |.bool,_,_,hr=>by simpa only[RelC] using hr
 |.str,_,_,hr=>by simpa only[RelC] using hr
 |.err,_,_,hr=>by simpa only[RelC] using hr
 |.sl e,l,_,hr=>by
  simp only[RelC] at hr ⊢
  obtain ⟨a,c,rfl,hc,hh⟩:=hr
  refine ⟨a,c,rfl,hc,fun hne=>?_⟩
  obtain ⟨B,o,rfl,hB,hx⟩:=hh hne
  refine ⟨B,o,rfl,h.imm B hB,fun i x hi=>?_⟩
  obtain ⟨us,hl,hrd,hrel⟩:=hx i x hi
  exact ⟨us,hl,Ju h hB hl hrd,relC_mono h e x us hrel⟩
 |.unit,_,_,hr=>by simpa only[RelC] using hr
 |.pair a b,x,_,hr=>by
  simp only[RelC] at hr ⊢
  obtain ⟨v1,v2,rfl,h1,h2⟩:=hr
  exact ⟨v1,v2,rfl,relC_mono h a x.1 v1 h1,relC_mono h b x.2 v2 h2⟩
 |.ptr _,none,_,hr=>by simpa only[RelC] using hr
 |.ptr e,some x,_,hr=>by
  simp only[RelC] at hr ⊢
  obtain ⟨B,o,rfl,hB,us,hl,hrd,hrel⟩:=hr
  exact ⟨B,o,rfl,h.imm B hB,us,hl,Ju h hB hl hrd,relC_mono h e x us hrel⟩
 |.fnv _ c,x,_,hr=>by
  simp only[RelC] at hr ⊢
  obtain ⟨us,rfl,hh⟩:=hr
  exact ⟨us,rfl,relC_mono h c x us hh⟩
 |.map t,l,_,hr=>by
  simp only[RelC] at hr ⊢
  obtain ⟨o,rfl,h0,hh⟩:=hr
  refine ⟨o,rfl,h0,fun B hB=>?_⟩
  obtain ⟨h1,h2,h3⟩:=hh B hB
  refine ⟨h.imm B h1,h.read B h1 _ _ h2,fun i x hi=>?_⟩
  obtain ⟨kb,us,h4,h5,h6⟩:=h3 i x hi
  exact ⟨kb,us,h.read B h1 _ _ h4,h5,relC_mono h t x.2 us h6⟩
 |.chain e,l,_,hr=>by
  simp only[RelC] at hr ⊢
  obtain ⟨v,rfl,hh⟩:=hr
  exact ⟨v,rfl,chain_mono h (relC_mono h e) l v hh⟩
 |.osl _,none,_,hr=>by simpa only[RelC] using hr
 |.osl e,some l,_,hr=>by
  simp only[RelC] at hr ⊢
  obtain ⟨a,c,rfl,hc,hh⟩:=hr
  refine ⟨a,c,rfl,hc,fun hne=>?_⟩
  obtain ⟨B,o,rfl,hB,hx⟩:=hh hne
  refine ⟨B,o,rfl,h.imm B hB,fun i x hi=>?_⟩
  obtain ⟨us,hl,hrd,hrel⟩:=hx i x hi
  exact ⟨us,hl,Ju h hB hl hrd,relC_mono h e x us hrel⟩
theorem TA {rd:Nat->Nat->Option Value} {I:Nat->Prop} {e:GT} {x:Option (List e.ty)} {vs:List Value} (h:RelC rd I (.osl e) x vs):RelC rd I (.sl e) (x.getD []) vs:=by
 cases x with
 |none=>simp only[RelC] at h ⊢;exact ⟨none,0,by simpa using h,by simp,fun hn=>absurd rfl hn⟩
 |some l=>simp only[RelC,Option.getD_some] at h ⊢;exact h
mutual
theorem CS {rd rd':Nat->Nat->Option Value} {I I':Nat->Prop} {β β':Nat->Option Place} (h:Mono rd I rd' I') (hb:∀ b p,β b=some p->β' b=some p) :
 ∀ (x:AV) (v:Value),RelV rd I β x v->RelV rd' I' β' x v
 |.any,_,_=>by simp only[RelV]
 |.undef,_,hr=>by simpa only[RelV] using hr
 |.nils,_,hr=>by simpa only[RelV] using hr
 |.int _ _,_,hr=>by simpa only[RelV] using hr
 |.bool _,_,hr=>by simpa only[RelV] using hr
 |.str _,_,hr=>by simpa only[RelV] using hr
 |.err _,_,hr=>by simpa only[RelV] using hr
 |.sl e full l,v,hr=>by simp only[RelV] at hr ⊢;exact ⟨relC_mono h (.sl e) l [v] hr.1,hr.2⟩
 |.vw b,_,hr=>by simp only[RelV] at hr ⊢;obtain ⟨p,hp,hh⟩:=hr;exact ⟨p,hb b p hp,hh⟩
 |.pre b m,_,hr=>by simp only[RelV] at hr ⊢;obtain ⟨p,hp,hh⟩:=hr;exact ⟨p,hb b p hp,hh⟩
 |.sub b _ m,_,hr=>by simp only[RelV] at hr ⊢;obtain ⟨p,hp,hh⟩:=hr;exact ⟨p,hb b p hp,hh⟩
 |.ptr b _ _,_,hr=>by simp only[RelV] at hr ⊢;obtain ⟨p,hp,hh⟩:=hr;exact ⟨p,hb b p hp,hh⟩
 |.nilptr,_,hr=>by simpa only[RelV] using hr
 |.iptr e x _,_,hr=>by
  simp only[RelV] at hr ⊢
  obtain ⟨B,o,rfl,hB,us,hl,hrd,hrel⟩:=hr
  exact ⟨B,o,rfl,h.imm B hB,us,hl,Ju h hB hl hrd,relC_mono h e x us hrel⟩
 |.fn _ cs,_,hr=>by
  simp only[RelV] at hr ⊢;obtain ⟨us,rfl,hh⟩:=hr;exact ⟨us,rfl,relL_mono h hb cs us hh⟩
 |.agg l,_,hr=>by
  simp only[RelV] at hr ⊢;obtain ⟨us,rfl,hh,hp⟩:=hr;exact ⟨us,rfl,relL_mono h hb l us hh,hp⟩
 |.tup l,_,hr=>by
  simp only[RelV] at hr ⊢;obtain ⟨us,rfl,hh⟩:=hr;exact ⟨us,rfl,relL_mono h hb l us hh⟩
 |.mp b,_,hr=>by simp only[RelV] at hr ⊢;obtain ⟨p,hp,hh⟩:=hr;exact ⟨p,hb b p hp,hh⟩
 |.nilmap,_,hr=>by simpa only[RelV] using hr
 |.dat t x,v,hr=>by simp only[RelV] at hr ⊢;exact relC_mono h t x [v] hr
 |.selfp b,_,hr=>by simp only[RelV] at hr ⊢;exact hr.imp id fun ⟨p,hp,hh⟩=>⟨p,hb b p hp,hh⟩
theorem relL_mono {rd rd':Nat->Nat->Option Value} {I I':Nat->Prop} {β β':Nat->Option Place} (h:Mono rd I rd' I') (hb:∀ b p,β b=some p->β' b=some p) :
 ∀ (l:List AV) (us:List Value),RelL rd I β l us->RelL rd' I' β' l us
 |[],_,hr=>by simpa only[RelL] using hr
 |a::l,_,hr=>by
  simp only[RelL] at hr ⊢
  obtain ⟨u,us',rfl,h1,h2⟩:=hr
  exact ⟨u,us',rfl,CS h hb a u h1,relL_mono h hb l us' h2⟩
end
section
variable {rd:Nat->Nat->Option Value} {I:Nat->Prop} {β:Nat->Option Place}
theorem CP:∀ (l:List AV) (us:List Value),RelL rd I β l us->us.length=l.length
 |[],_,h=>by simp only[RelL] at h;subst h;rfl
 |_::l,_,h=>by simp only[RelL] at h;obtain ⟨u,us',rfl,_,h2⟩:=h;simp[CP l us' h2]
theorem Dl:∀ (l:List AV) (us:List Value),RelL rd I β l us->∀ (i:Nat) x,l[i]?=some x->∃ v,us[i]?=some v/\RelV rd I β x v
 |[],_,_,i,x,hx=>by simp at hx
 |a::l,_,h,i,x,hx=>by
  simp only[RelL] at h;obtain ⟨u,us',rfl,h1,h2⟩:=h
  cases i with
  |zero=>simp at hx;subst hx;exact ⟨u,rfl,h1⟩
  |succ i=>exact Dl l us' h2 i x (by simpa using hx)
theorem I4:∀ (l:List AV) (us:List Value),us.length=l.length->(∀ (i:Nat) x v,l[i]?=some x->us[i]?=some v->RelV rd I β x v)->RelL rd I β l us
 |[],us,hl,_=>by simp only[RelL];exact List.eq_nil_of_length_eq_zero (by simpa using hl)
 |a::l,[],hl,_=>by simp at hl
 |a::l,u::us,hl,h=>by
  simp only[RelL]
  exact ⟨u,us,rfl,h 0 a u rfl rfl,I4 l us (by simpa using hl) fun i x v hx hv=>h (i+1) x v (by simpa using hx) (by simpa using hv)⟩
theorem DX {l m:List AV} {us vs:List Value} (h:RelL rd I β l us) (k:RelL rd I β m vs):RelL rd I β (l++m) (us++vs):=by
 refine I4 _ _ (by simp[CP _ _ h,CP _ _ k]) fun i x v hx hv=>?_
 have e1:=CP _ _ h
 by_cases hi:i < l.length
 ·rw[qY8 hi] at hx
  rw[qY8 (by omega)] at hv
  obtain ⟨v',hv',hr⟩:=Dl _ _ h i x hx
  rw[hv] at hv';cases hv';exact hr
 ·rw[qY9 (by omega)] at hx
  rw[qY9 (by omega),e1] at hv
  obtain ⟨v',hv',hr⟩:=Dl _ _ k _ x hx
  rw[hv] at hv';cases hv';exact hr
theorem QK {l m:List AV}:∀ {us:List Value},RelL rd I β (l++m) us->∃ u1 u2,us=u1++u2/\RelL rd I β l u1/\RelL rd I β m u2:=by
 induction l with
 |nil=>exact fun {us} h=>⟨[],us,rfl,by simp[RelL],h⟩
 |cons a l ih=>
  intro us h
  simp only[qY5,RelL] at h
  obtain ⟨u,us',rfl,h1,h2⟩:=h
  obtain ⟨u1,u2,rfl,h3,h4⟩:=ih h2
  exact ⟨u::u1,u2,rfl,by simp only[RelL];exact ⟨u,u1,rfl,h1,h3⟩,h4⟩
end
theorem BY {rd:Nat->Nat->Option Value} {I:Nat->Prop} {β:Nat->Option Place}:∀ (t:GT) (x:t.ty) (vs:List Value),RelC rd I t x vs->RelL rd I β (AS t x) vs
 |.int _,_,_,h=>by simp only[RelC] at h;subst h;simp[AS,RelL,RelV]
 |.bool,_,_,h=>by simp only[RelC] at h;subst h;simp[AS,RelL,RelV]
 |.str,_,_,h=>by simp only[RelC] at h;obtain ⟨b,rfl,hb⟩:=h;simp[AS,RelL,RelV,hb]
 |.err,_,_,h=>by simp only[RelC] at h;obtain ⟨v,rfl,hv⟩:=h;simp only[AS,RelL,RelV];exact ⟨v,[],rfl,hv,rfl⟩
 |.sl e,l,vs,h=>by
  have h':=h
  simp only[RelC] at h;obtain ⟨a,c,rfl,_⟩:=h
  simp only[AS,RelL]
  exact ⟨_,[],rfl,by simp only[RelV];exact ⟨h',by simp⟩,rfl⟩
 |.unit,_,_,h=>by simp only[RelC] at h;subst h;simp[AS,RelL]
 |.pair a b,x,_,h=>by
  simp only[RelC] at h;obtain ⟨v1,v2,rfl,h1,h2⟩:=h
  exact DX (BY a x.1 v1 h1) (BY b x.2 v2 h2)
 |.ptr e,x,vs,h=>by
  obtain ⟨v,rfl⟩:=List.length_eq_one_iff.1 (Dm (.ptr e) x vs h)
  simp only[AS,RelL,RelV];exact ⟨v,[],rfl,h,rfl⟩
 |.fnv f c,x,_,h=>by
  simp only[RelC] at h;obtain ⟨us,rfl,hh⟩:=h
  simp only[AS,RelL]
  exact ⟨_,[],rfl,by simp only[RelV];exact ⟨us,rfl,BY c x us hh⟩,rfl⟩
 |.map t,x,vs,h=>by
  obtain ⟨v,rfl⟩:=List.length_eq_one_iff.1 (Dm (.map t) x vs h)
  simp only[AS,RelL,RelV];exact ⟨v,[],rfl,h,rfl⟩
 |.chain t,x,vs,h=>by
  obtain ⟨v,rfl⟩:=List.length_eq_one_iff.1 (Dm (.chain t) x vs h)
  simp only[AS,RelL,RelV];exact ⟨v,[],rfl,h,rfl⟩
 |.osl t,x,vs,h=>by
  obtain ⟨v,rfl⟩:=List.length_eq_one_iff.1 (Dm (.osl t) x vs h)
  simp only[AS,RelL,RelV];exact ⟨v,[],rfl,h,rfl⟩
theorem El:∀ (t:GT) (x:t.ty),(AS t x).length=t.cells
 |.int _,_=>rfl
 |.bool,_=>rfl
 |.str,_=>rfl
 |.err,_=>rfl
 |.sl _,_=>rfl
 |.unit,_=>rfl
 |.pair a b,x=>by simp[AS,GT.cells,El a,El b]
 |.ptr _,_=>rfl
 |.fnv _ _,_=>rfl
 |.map _,_=>rfl
 |.chain _,_=>rfl
 |.osl _,_=>rfl
end Go.AM
end
section
namespace Go.AM
open Go.RowKit (Below)
inductive Row where
 |typed (e:GT) (l:List e.ty)
 |cells (l:List AV)
 |mapr (t:GT) (l:List (qBs×t.ty))
abbrev Al:=List (Option Row)
def decC (H:Al):(t:GT)->List AV->Option (t.ty×List AV×List Nat)
 |.int k,.int k' n::r=>if k'=k then some (n,r,[]) else none
 |.bool,.bool b::r=>some (b,r,[])
 |.str,.str s::r=>some (s,r,[])
 |.err,.err b::r=>some (b,r,[])
 |.sl e,.sl e' _ l::r=>if h:e'=e then some (h ▸ l,r,[]) else none
 |.sl _,.nils::r=>some ([],r,[])
 |.sl e,.vw b::r=>
  match H[b]? with
  |some (some (.typed e' l))=>if h:e'=e then some (h ▸ l,r,[b]) else none
  |_=>none
 |.sl e,.pre b m::r=>
  match H[b]? with
  |some (some (.typed e' l))=>if h:e'=e then some ((h ▸ l:List e.ty).take m,r,[b]) else none
  |_=>none
 |.sl e,.sub b off m::r=>
  match H[b]? with
  |some (some (.typed e' l))=>if h:e'=e then some (((h ▸ l:List e.ty).drop off).take m,r,[b]) else none
  |_=>none
 |.unit,r=>some ((),r,[])
 |.pair a b,cs=>
  match decC H a cs with
  |some (x,r,m)=>
   match decC H b r with
   |some (y,r',m')=>some ((x,y),r',m++m')
   |none=>none
  |none=>none
 |.ptr _,.nilptr::r=>some (none,r,[])
 |.ptr e,.iptr e' x 0::r=>if h:e'=e then some (some (h ▸ x),r,[]) else none
 |.ptr e,.ptr b 0 0::r=>
  match H[b]? with
  |some (some (.cells l))=>
   match decC H e l with
   |some (x,[],m)=>some (some x,r,b::m)
   |_=>none
  |_=>none
 |.fnv f c,.fn f' cs::r=>
  if f'=f then
   match decC H c cs with
   |some (x,[],m)=>some (x,r,m)
   |_=>none
  else none
 |.ptr e,.dat (.ptr e') x::r=>if h:e'=e then some (h ▸ x,r,[]) else none
 |.map t,.dat (.map t') x::r=>if h:t'=t then some (h ▸ x,r,[]) else none
 |.map _,.nilmap::r=>some ([],r,[])
 |.map t,.mp b::r=>
  match H[b]? with
  |some (some (.mapr t' l))=>if h:t'=t then some (h ▸ l,r,[b]) else none
  |_=>none
 |.chain e,.dat (.chain e') x::r=>if h:e'=e then some (h ▸ x,r,[]) else none
 |.chain _,.nilptr::r=>some ([],r,[])
 |.chain e,.ptr b 0 0::r=>
  match H[b]? with
  |some (some (.cells l))=>
   match decC H e l with
   |some (x,[.dat (.chain e') y],m)=>if h:e'=e then some (x::(h ▸ y:List e.ty),r,b::m) else none
   |some (x,[.nilptr],m)=>some ([x],r,b::m)
   |_=>none
  |_=>none
 |.sl e,.dat (.osl e') x::r=>if h:e'=e then some ((h ▸ x:Option (List e.ty)).getD [],r,[]) else none
 |.osl _,.nils::r=>some (none,r,[])
 |.osl e,.dat (.osl e') x::r=>if h:e'=e then some (h ▸ x,r,[]) else none
 |.osl e,.sl e' _ l::r=>if h:e'=e then some (some (h ▸ l:List e.ty),r,[]) else none
 |_,_=>none
def Dv (H:Al) (t:GT) (v:AV):Option (t.ty×List Nat):=
 if t.isAgg then
  match v with
  |.agg l=>match decC H t l with
   |some (x,[],m)=>some (x,m)
   |_=>none
  |_=>none
 else
  match decC H t [v] with
  |some (x,[],m)=>some (x,m)
  |_=>none
def TV (rd:Nat->Nat->Option Value) (I:Nat->Prop) (t:GT) (x:t.ty) (v:Value):Prop:=
 if t.isAgg then ∃ us:List Value,v=.agg us.toArray/\RelC rd I t x us else RelC rd I t x [v]
def Iq (v:Value):Value:=if v.oneCell' then v else undef
def Ag (w:World) (B o:Nat):Option Value:=
 match w.heap[B]? with
 |some (.map es _)=>if o=0 then some (.tuple #[.int .i64 es.size]) else (es[o - 1]?).map fun e=>.tuple #[e.key,e.val]
 |_=>(w.cell? ⟨B,o,none⟩).map Iq
theorem Px {w w':World} {B:Nat} (h:w'.heap[B]?=w.heap[B]?) (o:Nat):Ag w' B o=Ag w B o:=by simp[Ag,World.cell?,h]
theorem H4 {w:World} {B:Nat} {cs:Array Value} {ty:TypeId} {fr:Nat×Nat} (h:w.heap[B]?=some (.cells cs ty fr)) {o j:Nat} {us:List Value} (he:cs[o]?=us[j]?) (hp:∀ u∈us,u.oneCell'=true):Ag w B o=us[j]?:=by
 simp only[Ag,World.cell?,h,he]
 cases hu:us[j]? with
 |none=>rfl
 |some u=>simp[Iq,hp u (qY14 hu)]
theorem GE {w:World} {B o:Nat} {v:Value} (h:Ag w B o=some v) (hv:v.oneCell'=true):w.cell? ⟨B,o,none⟩=some v:=by
 unfold Ag at h
 split at h
 ·split at h
  ·cases h;simp[Value.oneCell'] at hv
  ·simp only[Option.map_eq_some_iff] at h;obtain ⟨_,_,rfl⟩:=h;simp[Value.oneCell'] at hv
 ·obtain ⟨u,hu,rfl⟩:=Option.map_eq_some_iff.1 h
  unfold Iq at hv ⊢
  split at hv
  ·rename_i hp;rw[if_pos hp];exact hu
  ·simp[undef,Value.oneCell'] at hv
theorem AFg {w:World} {B o:Nat} {x:Value} {l:List Value} (h:Ag w B o=some (.tuple ⟨x::l⟩)):∃ es c,w.heap[B]?=some (.map es c):=by
 unfold Ag at h
 split at h
 ·rename_i es c hh;exact ⟨es,c,hh⟩
 ·obtain ⟨u,_,hu⟩:=Option.map_eq_some_iff.1 h
  unfold Iq at hu
  split at hu
  ·rename_i hp;rw[hu] at hp;simp[Value.oneCell'] at hp
  ·simp[undef] at hu
theorem Pe {w:World} {B o:Nat} {v:Value} (h:w.cell? ⟨B,o,none⟩=some v) (hp:v.oneCell'=true):Ag w B o=some v:=by
 unfold Ag
 split
 ·rename_i hh;simp[World.cell?,hh] at h
 ·simp[h,Iq,hp]
theorem P4 {w:World} {B:Nat} {es:Array MapEntry} {c:Nat} (h:w.heap[B]?=some (.map es c)):Ag w B 0=some (.tuple #[.int .i64 es.size])/\∀ i,Ag w B (i+1)=(es[i]?).map fun e=>.tuple #[e.key,e.val]:=by simp[Ag,h]
theorem Mj {rd:Nat->Nat->Option Value} {I:Nat->Prop} {t:GT} {x:t.ty} {v:Value}:TV rd I t x v ↔ ∃ us,v=Ih t us/\RelC rd I t x us:=by
 unfold TV Ih
 cases ht:t.isAgg with
 |true=>simp
 |false=>
  simp only[Bool.false_eq_true,if_false]
  constructor
  ·intro h;exact ⟨[v],rfl,h⟩
  ·rintro ⟨us,rfl,h⟩
   have hl:=Dm _ _ _ h
   have:t.cells=1:=by cases t<;>simp[GT.isAgg] at ht<;>rfl
   rw[this] at hl
   obtain ⟨u,rfl⟩:=List.length_eq_one_iff.1 hl
   exact h
def Eh:TypeId:=5
def FG:Nat:=9223372036854775807
def bldT:TypeId:=102
def AV.isSelf:AV->Bool
 |.selfp _=>true
 |_=>false
def BK:List AV->Bool
 |a::_=>a.isSelf
 |[]=>false
def BB (w:World) (I:Nat->Prop) (β:Nat->Option Place) (p:Place):Row->Prop
 |.typed e l=>p.s=e.cells/\p.n=l.length/\(p.backed=false->l=[])/\(p.backed=true->
  ∃ cs ty,w.heap[p.B]?=some (.cells cs ty (0,0))/\(p.O+p.n * p.s<=cs.size/\cs.size=p.z/\(e=.int .u8->ty=Eh)/\cs.size<=FG * e.cells)/\∀ (i:Nat) x,l[i]?=some x->
   ∃ us:List Value,us.length=e.cells/\(∀ j,j < e.cells->cs[p.O+i * e.cells+j]?=us[j]?)/\RelC (Ag w) I e x us)
 |.cells l=>p.s=l.length/\p.n=1/\p.backed=true/\∃ cs ty,w.heap[p.B]?=some (.cells cs ty (0,0))/\(p.O+l.length<=cs.size/\cs.size=p.z/\(BK l=true->ty=bldT/\p.O=0/\cs.size=2))/\
  ∃ us:List Value,us.length=l.length/\(∀ j,j < l.length->cs[p.O+j]?=us[j]?)/\RelL (Ag w) I β l us/\∀ u∈us,u.oneCell'=true
 |.mapr t l=>p.backed=true/\∃ (es:Array MapEntry) (clock:Nat),w.heap[p.B]?=some (.map es clock)/\es.size=l.length/\∀ (i:Nat) x,l[i]?=some x->
  ∃ e kb,es[i]?=some e/\e.key=.string kb/\kb.data.toList=x.1/\TV (Ag w) I t x.2 e.val
def AR (H:Al) (β:Nat->Option Place) (B:Nat):Prop:=∃ b r p,H[b]?=some (some r)/\β b=some p/\p.backed=true/\p.B=B
structure Ctx (gb:Nat) (w:World) (I:Nat->Prop) (β:Nat->Option Place) (H:Al):Prop where
 rows:∀ (b:Nat) r,H[b]?=some (some r)->∃ p,β b=some p/\(p.backed=true->gb<=p.B/\p.B < w.heap.size)/\BB w I β p r
 apart:∀ (b b':Nat) r r' p p',H[b]?=some (some r)->H[b']?=some (some r')->β b=some p->β b'=some p'->p.backed=true->p'.backed=true->p.B=p'.B->b=b'
 imm:∀ B,I B->B < w.heap.size/\¬ AR H β B
 dom:∀ b,H.length<=b->β b=none
structure Base where
 gb:Nat
 w:World
 I:Nat->Prop
 β:Nat->Option Place
 H:Al
def Base.after (Γ:Base) (w:World) (β:Nat->Option Place) (H:Al) (B:Nat):Prop:=
 B < w.heap.size/\(Γ.I B\/AR Γ.H Γ.β B\/Γ.w.heap.size<=B)/\¬ AR H β B
structure Frm (Γ:Base) (w:World):Prop where
 os:w.os=Γ.w.os
 tape:w.tape=Γ.w.tape
 output:w.output=Γ.w.output
 size:Γ.w.heap.size<=w.heap.size
 block:∀ B,B < Γ.w.heap.size->¬ AR Γ.H Γ.β B->w.heap[B]?=Γ.w.heap[B]?
structure St where
 tmps:List AV
 heap:Al
 orig:List Nat
def St.put (st:St) (d:Option Tmp) (x:AV):St:=
 match d with
 |some t=>{ st with tmps:=st.tmps.set t x }
 |none=>st
def CH (w w':World) (p:Place):Prop:=
 (∃ es c es' c',w.heap[p.B]?=some (.map es c)/\w'.heap[p.B]?=some (.map es' c'))\/
 ∃ (cs cs':Array Value) (ty:TypeId),w.heap[p.B]?=some (.cells cs ty (0,0))/\w'.heap[p.B]?=some (.cells cs' ty (0,0))/\cs'.size=cs.size/\
 ∀ o,o < p.O\/p.O+p.n * p.s<=o->cs'[o]?=cs[o]?
def IV (Γ:Base) (w:World) (ds:List Deferred):Prop:=ds.Nodup/\∀ d∈ds,∃ D,d={ target:=.collected D,args:=#[] }/\Γ.w.heap.size<=D/\w.heap[D]?=some (.deferred (some []))
theorem IV.keep {Γ:Base} {w w':World} {ds:List Deferred} (h:IV Γ w ds) (k:∀ D,D < w.heap.size->w.heap[D]?=some (.deferred (some []))->w'.heap[D]?=w.heap[D]?):IV Γ w' ds:=
 ⟨h.1,fun d hd=>by obtain ⟨D,h1,h2,h3⟩:=h.2 d hd;exact ⟨D,h1,h2,(k D (Array.getElem?_eq_some_iff.1 h3).1 h3).trans h3⟩⟩
structure SimB (Γ:Base) (st:St) (a:Act) (w:World) (β:Nat->Option Place):Prop where
 ctx:Ctx Γ.gb w (Γ.after w β st.heap) β st.heap
 frm:Frm Γ w
 len:st.tmps.length=a.tmps.size
 tmps:∀ (t:Nat) x,st.tmps[t]?=some x->∃ v,a.tmps[t]?=some v/\RelV (Ag w) (Γ.after w β st.heap) β x v
 defers:IV Γ w a.defers
 orig:∀ (j b:Nat),st.orig[j]?=some b->β b=Γ.β j/\b < st.heap.length/\∀ r p,st.heap[b]?=some (some r)->β b=some p->p.backed=true->CH Γ.w w p
 gbw:Γ.gb<=Γ.w.heap.size
 low:∀ B,AR Γ.H Γ.β B->Γ.gb<=B
 own:∀ (b:Nat) r p,st.heap[b]?=some (some r)->β b=some p->p.backed=true->Γ.w.heap.size<=p.B\/AR Γ.H Γ.β p.B
def BC (Γ:Base) (st:St) (a:Act) (w:World):Prop:=∃ β,SimB Γ st a w β
section
variable {w:World} {I:Nat->Prop} {β:Nat->Option Place} {H:Al} {gb:Nat}
def Bx (I:Nat->Prop) (β:Nat->Option Place) (m:List Nat) (B:Nat):Prop:=I B\/∃ b∈m,∃ p,β b=some p/\p.backed=true/\p.B=B
theorem withRows_mono (m m':List Nat) (h:∀ b∈m,b∈m') (rd:Nat->Nat->Option Value):Mono rd (Bx I β m) rd (Bx I β m'):=
 ⟨fun _ hB=>hB.imp id fun ⟨b,hb,r⟩=>⟨b,h b hb,r⟩,fun _ _ _ _ h=>h⟩
theorem withRows_base (m:List Nat) (rd:Nat->Nat->Option Value):Mono rd I rd (Bx I β m):=⟨fun _ hB=>.inl hB,fun _ _ _ _ h=>h⟩
theorem G7 (hc:Ctx gb w I β H) {b:Nat} {e:GT} {l:List e.ty} (hb:H[b]?=some (some (.typed e l))) {p:Place} (hp:β b=some p) (hk:p.backed=true) :
 ∀ (i:Nat) x,l[i]?=some x->∃ us:List Value,us.length=e.cells/\(∀ j,j < e.cells->Ag w p.B (p.O+i * e.cells+j)=us[j]?)/\RelC (Ag w) I e x us:=by
 obtain ⟨p',hp',_,_,_,_,hr⟩:=hc.rows b _ hb
 rw[hp] at hp';cases hp'
 obtain ⟨cs,ty,hh,_,hx⟩:=hr hk
 intro i x hi
 obtain ⟨us,h1,h2,h3⟩:=hx i x hi
 exact ⟨us,h1,fun j hj=>H4 hh (h2 j hj) (Dq _ _ _ h3),h3⟩
theorem DA (hc:Ctx gb w I β H) {b:Nat} {e:GT} {l:List e.ty} (hb:H[b]?=some (some (.typed e l))) {p:Place} (hp:β b=some p):p.n=l.length/\p.s=e.cells/\(p.backed=false->l=[]):=by
 obtain ⟨p',hp',_,h1,h2,h3,_⟩:=hc.rows b _ hb
 rw[hp] at hp';cases hp'
 exact ⟨h2,h1,h3⟩
theorem M1 {e:GT} {l:List e.ty} {I':Nat->Prop} {a:Option Addr} {c B o:Nat} (hl:l.length<=c) (ha:l≠[]->a=some ⟨B,o,none⟩) (hB:l≠[]->I' B)
 (h:∀ (i:Nat) x,l[i]?=some x->∃ us:List Value,us.length=e.cells/\(∀ j,j < e.cells->Ag w B (o+i * e.cells+j)=us[j]?)/\RelC (Ag w) I' e x us) :
 RelC (Ag w) I' (.sl e) l [.slice a l.length c]:=by
 simp only[RelC]
 exact ⟨a,c,rfl,hl,fun hne=>⟨B,o,ha hne,hB hne,h⟩⟩
theorem FV (hc:Ctx gb w I β H):∀ (t:GT) (l:List AV) (us:List Value) x r m,RelL (Ag w) I β l us->decC H t l=some (x,r,m)->
 ∃ u1 u2,us=u1++u2/\RelC (Ag w) (Bx I β m) t x u1/\RelL (Ag w) I β r u2:=by
 intro t
 induction t with
 |int k=>
  intro l us x r m hr hd
  cases l with
  |nil=>simp[decC] at hd
  |cons a l=>
   simp only[RelL] at hr;obtain ⟨u,us',rfl,h1,h2⟩:=hr
   cases a<;>(try simp only[decC,reduceCtorEq] at hd)
   rename_i k' n
   split at hd
   ·rename_i hk;subst hk
    cases hd
    refine ⟨[u],us',rfl,?_,h2⟩
    simp only[RelV] at h1;subst h1;simp[RelC]
   ·cases hd
 |bool=>
  intro l us x r m hr hd
  cases l with
  |nil=>simp[decC] at hd
  |cons a l=>
   simp only[RelL] at hr;obtain ⟨u,us',rfl,h1,h2⟩:=hr
   cases a<;>(try simp only[decC,reduceCtorEq] at hd)
   cases hd
   refine ⟨[u],us',rfl,?_,h2⟩
   simp only[RelV] at h1;subst h1;simp[RelC]
 |str=>
  intro l us x r m hr hd
  cases l with
  |nil=>simp[decC] at hd
  |cons a l=>
   simp only[RelL] at hr;obtain ⟨u,us',rfl,h1,h2⟩:=hr
   cases a<;>(try simp only[decC,reduceCtorEq] at hd)
   cases hd
   refine ⟨[u],us',rfl,?_,h2⟩
   simp only[RelV] at h1;obtain ⟨b,rfl,hb⟩:=h1;simp[RelC,hb]
 |err=>
  intro l us x r m hr hd
  cases l with
  |nil=>simp[decC] at hd
  |cons a l=>
   simp only[RelL] at hr;obtain ⟨u,us',rfl,h1,h2⟩:=hr
   cases a<;>(try simp only[decC,reduceCtorEq] at hd)
   cases hd
   refine ⟨[u],us',rfl,?_,h2⟩
   simp only[RelV] at h1;simp only[RelC];exact ⟨u,rfl,h1⟩
 |sl e _=>
  intro l us x r m hr hd
  cases l with
  |nil=>simp[decC] at hd
  |cons a l=>
   simp only[RelL] at hr;obtain ⟨u,us',rfl,h1,h2⟩:=hr
   cases a<;>(try simp only[decC,reduceCtorEq] at hd)
   case sl e' full l'=>
    split at hd
    ·rename_i he;subst he
     cases hd
     simp only[RelV] at h1
     exact ⟨[u],us',rfl,relC_mono (withRows_base _ _) _ _ _ h1.1,h2⟩
    ·cases hd
   case dat t2 x=>
    cases t2<;>(try simp only[decC,reduceCtorEq] at hd)
    split at hd
    ·rename_i he;subst he
     cases hd
     simp only[RelV] at h1
     exact ⟨[u],us',rfl,relC_mono (withRows_base _ _) _ _ _ (TA h1),h2⟩
    ·cases hd
   case nils=>
    cases hd
    simp only[RelV] at h1;subst h1
    exact ⟨[_],us',rfl,by simp only[RelC];exact ⟨none,0,rfl,by simp,fun h=>absurd rfl h⟩,h2⟩
   case vw b=>
    split at hd
    ·rename_i e' l' hb
     split at hd
     ·rename_i he;subst he
      cases hd
      simp only[RelV] at h1
      obtain ⟨p,hp,a,c,rfl,hcap,hz⟩:=h1
      obtain ⟨hn,hs,hu⟩:=DA hc hb hp
      refine ⟨[_],us',rfl,?_,h2⟩
      rw[hn] at hcap ⊢
      simp only
      cases hk:p.backed with
      |false=>
       have:=hu hk
       subst this
       simp only[RelC];exact ⟨a,c,rfl,hcap,fun h=>absurd rfl h⟩
      |true=>
       refine M1 (B:=p.B) (o:=p.O) hcap (fun hne=>?_) (fun _=>.inr ⟨b,by simp,p,hp,hk,rfl⟩) fun i x hi=>?_
       ·rcases hz with hz | hz
        ·subst hz;exact absurd (List.eq_nil_of_length_eq_zero (by omega)) hne
        ·exact hz.2.1
       ·obtain ⟨us,a1,a2,a3⟩:=G7 hc hb hp hk i x hi
        exact ⟨us,a1,a2,relC_mono (withRows_base _ _) _ _ _ a3⟩
     ·cases hd
    ·cases hd
   case pre b n=>
    split at hd
    ·rename_i e' l' hb
     split at hd
     ·rename_i he;subst he
      cases hd
      simp only[RelV] at h1
      obtain ⟨p,hp,hle,a,c,rfl,hcap,hz⟩:=h1
      obtain ⟨hn,hs,hu⟩:=DA hc hb hp
      refine ⟨[_],us',rfl,?_,h2⟩
      have hlen:(l'.take n).length=n:=by rw[List.length_take];omega
      simp only
      have key:RelC (Ag w) (Bx I β [b]) (.sl e') (l'.take n) [.slice a (l'.take n).length c]:=by
       cases hk:p.backed with
       |false=>
        have:=hu hk
        subst this
        simp only[RelC];exact ⟨a,c,rfl,by simp,fun h=>absurd (by simp) h⟩
       |true=>
        refine M1 (B:=p.B) (o:=p.O) (by omega) (fun hne=>?_) (fun _=>.inr ⟨b,by simp,p,hp,hk,rfl⟩) fun i x hi=>?_
        ·rcases hz with hz | hz
         ·subst hz
          have:n=0:=by omega
          subst this;exact absurd (by simp) hne
         ·exact hz.2.1
        ·have hi':l'[i]?=some x:=by
          rw[List.getElem?_take] at hi
          split at hi
          ·exact hi
          ·cases hi
         obtain ⟨us,a1,a2,a3⟩:=G7 hc hb hp hk i x hi'
         exact ⟨us,a1,a2,relC_mono (withRows_base _ _) _ _ _ a3⟩
      rw[hlen] at key;exact key
     ·cases hd
    ·cases hd
   case sub b off n=>
    split at hd
    ·rename_i e' l' hb
     split at hd
     ·rename_i he;subst he
      cases hd
      simp only[RelV] at h1
      obtain ⟨p,hp,hle,a,c,rfl,hcap,hz⟩:=h1
      obtain ⟨hn,hs,hu⟩:=DA hc hb hp
      refine ⟨[_],us',rfl,?_,h2⟩
      have hlen:((l'.drop off).take n).length=n:=by rw[List.length_take,List.length_drop];omega
      simp only
      have key:RelC (Ag w) (Bx I β [b]) (.sl e') ((l'.drop off).take n) [.slice a ((l'.drop off).take n).length c]:=by
       cases hk:p.backed with
       |false=>
        have:=hu hk
        subst this
        simp only[RelC];exact ⟨a,c,rfl,by simp,fun h=>absurd (by simp) h⟩
       |true=>
        refine M1 (B:=p.B) (o:=p.O+off * p.s) (by omega) (fun hne=>?_) (fun _=>.inr ⟨b,by simp,p,hp,hk,rfl⟩) fun i x hi=>?_
        ·rcases hz with hz | hz
         ·subst hz
          have:n=0:=by omega
          subst this;exact absurd (by simp) hne
         ·exact hz.2.1
        ·have hi':l'[off+i]?=some x:=by
          rw[List.getElem?_take] at hi
          split at hi
          ·rw[List.getElem?_drop] at hi;exact hi
          ·cases hi
         obtain ⟨us,a1,a2,a3⟩:=G7 hc hb hp hk _ x hi'
         refine ⟨us,a1,fun j hj=>?_,relC_mono (withRows_base _ _) _ _ _ a3⟩
         have:=a2 j hj
         rw[hs,show p.O+off * e'.cells+i * e'.cells+j=p.O+(off+i) * e'.cells+j from by rw[Nat.add_mul];omega]
         exact this
      rw[hlen] at key;exact key
     ·cases hd
    ·cases hd
 |unit=>
  intro l us x r m hr hd
  simp only[decC] at hd
  cases hd
  exact ⟨[],us,rfl,by simp[RelC],hr⟩
 |pair a b iha ihb=>
  intro l us x r m hr hd
  simp only[decC] at hd
  split at hd
  ·rename_i x1 r1 m1 h1
   split at hd
   ·rename_i x2 r2 m2 h2
    cases hd
    obtain ⟨u1,u2,rfl,ha,hr1⟩:=iha l us x1 r1 m1 hr h1
    obtain ⟨u3,u4,rfl,hb,hr2⟩:=ihb r1 u2 x2 _ m2 hr1 h2
    refine ⟨u1++u3,u4,by simp,?_,hr2⟩
    simp only[RelC]
    exact ⟨u1,u3,rfl,relC_mono (withRows_mono _ _ (by intro b hb;simp[hb]) _) _ _ _ ha,relC_mono (withRows_mono _ _ (by intro b hb;simp[hb]) _) _ _ _ hb⟩
   ·cases hd
  ·cases hd
 |ptr e ih=>
  intro l us x r m hr hd
  cases l with
  |nil=>simp[decC] at hd
  |cons a l=>
   simp only[RelL] at hr;obtain ⟨u,us',rfl,h1,h2⟩:=hr
   cases a<;>(try simp only[decC,reduceCtorEq] at hd)
   case nilptr=>
    cases hd
    simp only[RelV] at h1;subst h1
    exact ⟨[_],us',rfl,by simp[RelC],h2⟩
   case dat t x=>
    cases t<;>(try simp only[decC,reduceCtorEq] at hd)
    split at hd
    ·rename_i he;subst he
     cases hd
     simp only[RelV] at h1
     exact ⟨[u],us',rfl,relC_mono (withRows_base _ _) _ _ _ h1,h2⟩
    ·cases hd
   case iptr e' x' k=>
    cases k with
    |succ k=>simp[decC] at hd
    |zero=>
     simp only[decC] at hd
     split at hd
     ·rename_i he;subst he
      cases hd
      simp only[RelV] at h1
      obtain ⟨B,o,rfl,hB,us,hl,hrd,hrel⟩:=h1
      refine ⟨[_],us',rfl,?_,h2⟩
      refine relC_mono (I:=I) (withRows_base _ _) (.ptr e') (some x') _ ?_
      simp only[RelC]
      exact ⟨B,o,rfl,hB,us,hl,hrd,hrel⟩
     ·cases hd
   case ptr b i k=>
    cases i with
    |succ i=>simp[decC] at hd
    |zero=>
     cases k with
     |succ k=>simp[decC] at hd
     |zero=>
      simp only[decC] at hd
      split at hd
      ·rename_i l' hb
       split at hd
       ·rename_i y m1 h1'
        cases hd
        simp only[RelV] at h1
        obtain ⟨p,hp,hk,rfl⟩:=h1
        obtain ⟨p',hp',_,hs,hn,_,cs,ty,hh,hsz,vs,hvl,hvr,hvrel,_⟩:=hc.rows b _ hb
        rw[hp] at hp';cases hp'
        obtain ⟨u1,u2,rfl,hrel,hnil⟩:=ih l' vs _ [] _ hvrel h1'
        simp only[RelL] at hnil;subst hnil
        simp only[qY4] at *
        have hcl:=Dm _ _ _ hrel
        refine ⟨[_],us',rfl,?_,h2⟩
        simp only[RelC]
        refine ⟨p.B,p.O,by simp,.inr ⟨b,by simp,p,hp,hk,rfl⟩,u1,hcl,fun j hj=>?_,relC_mono (withRows_mono _ _ (by intro b hb;simp[hb]) _) _ _ _ hrel⟩
        exact H4 hh (hvr j (by omega)) (Dq _ _ _ hrel)
       ·cases hd
      ·cases hd
 |fnv f c ih=>
  intro l us x r m hr hd
  cases l with
  |nil=>simp[decC] at hd
  |cons a l=>
   simp only[RelL] at hr;obtain ⟨u,us',rfl,h1,h2⟩:=hr
   cases a<;>(try simp only[decC,reduceCtorEq] at hd)
   rename_i f' cs
   split at hd
   ·rename_i hf;subst hf
    split at hd
    ·rename_i y m1 h1'
     cases hd
     simp only[RelV] at h1
     obtain ⟨vs,rfl,hvs⟩:=h1
     obtain ⟨u1,u2,rfl,hrel,hnil⟩:=ih cs vs _ [] _ hvs h1'
     simp only[RelL] at hnil;subst hnil
     simp only[qY4] at *
     refine ⟨[_],us',rfl,?_,h2⟩
     simp only[RelC]
     exact ⟨u1,rfl,hrel⟩
    ·cases hd
   ·cases hd
 |map t=>
  intro l us x r m hr hd
  cases l with
  |nil=>simp[decC] at hd
  |cons a l=>
   simp only[RelL] at hr;obtain ⟨u,us',rfl,h1,h2⟩:=hr
   cases a<;>(try simp only[decC,reduceCtorEq] at hd)
   case nilmap=>
    cases hd
    refine ⟨[u],us',rfl,?_,h2⟩
    simp only[RelV] at h1;subst h1;simp[RelC]
   case mp b=>
    split at hd
    ·rename_i t' l' hb
     split at hd
     ·rename_i he;subst he
      cases hd
      simp only[RelV] at h1
      obtain ⟨p,hp,hk,rfl⟩:=h1
      obtain ⟨p',hp',_,_,es,c,hh,hsz,hx⟩:=hc.rows b _ hb
      rw[hp] at hp';cases hp'
      obtain ⟨r1,r2⟩:=P4 hh
      refine ⟨[_],us',rfl,?_,h2⟩
      simp only[RelC]
      refine ⟨_,rfl,by simp,fun B hB=>?_⟩
      cases hB
      refine ⟨.inr ⟨b,by simp,p,hp,hk,rfl⟩,by rw[r1,hsz],fun i x hi=>?_⟩
      obtain ⟨e,kb,g1,g2,g3,g4⟩:=hx i x hi
      obtain ⟨us,g5,g6⟩:=Mj.1 g4
      exact ⟨kb,us,by rw[r2,g1];simp[g2,g5],g3,relC_mono (withRows_base _ _) _ _ _ g6⟩
     ·cases hd
    ·cases hd
   case dat t2 x=>
    cases t2<;>(try simp only[decC,reduceCtorEq] at hd)
    split at hd
    ·rename_i he;subst he
     cases hd
     simp only[RelV] at h1
     exact ⟨[u],us',rfl,relC_mono (withRows_base _ _) _ _ _ h1,h2⟩
    ·cases hd
 |chain e ih=>
  intro l us x r m hr hd
  cases l with
  |nil=>simp[decC] at hd
  |cons a l=>
   simp only[RelL] at hr;obtain ⟨u,us',rfl,h1,h2⟩:=hr
   cases a<;>(try simp only[decC,reduceCtorEq] at hd)
   case nilptr=>
    cases hd
    refine ⟨[u],us',rfl,?_,h2⟩
    simp only[RelV] at h1;subst h1;simp[RelC,Cy]
   case dat t2 x=>
    cases t2<;>(try simp only[decC,reduceCtorEq] at hd)
    split at hd
    ·rename_i he;subst he
     cases hd
     simp only[RelV] at h1
     exact ⟨[u],us',rfl,relC_mono (withRows_base _ _) _ _ _ h1,h2⟩
    ·cases hd
   case ptr b i k=>
    cases i with
    |succ i=>simp[decC] at hd
    |zero=>
     cases k with
     |succ k=>simp[decC] at hd
     |zero=>
      simp only[decC] at hd
      simp only[RelV] at h1
      obtain ⟨p,hp,hk,rfl⟩:=h1
      split at hd
      ·rename_i l' hb
       obtain ⟨p',hp',_,hs,hn,_,cs,ty,hh,hsz,vs,hvl,hvr,hvrel,hpl⟩:=hc.rows b _ hb
       rw[hp] at hp';cases hp'
       have key:∀ y c m1 (tl:List e.ty),decC H e l'=some (y,[c],m1)->(∀ v,RelV (Ag w) I β c v->Cy (Ag w) I e.cells (RelC (Ag w) I e) tl v)->
        RelC (Ag w) (Bx I β (b::m1)) (.chain e) (y::tl) [.pointer (some ⟨p.B,p.O+0 * p.s+0,none⟩)]:=by
        intro y c m1 tl h1' htl
        obtain ⟨u1,u2,rfl,hrel,hnil⟩:=ih l' vs _ [c] _ hvrel h1'
        simp only[RelL] at hnil
        obtain ⟨u,u3,rfl,hc1,rfl⟩:=hnil
        have hcl:=Dm _ _ _ hrel
        simp only[qZ6,List.length_singleton] at hvl
        simp only[RelC,Cy]
        refine ⟨_,rfl,p.B,p.O,by simp,.inr ⟨b,by simp,p,hp,hk,rfl⟩,u1,u,hcl,fun j hj=>?_,relC_mono (withRows_mono _ _ (by intro b hb;simp[hb]) _) _ _ _ hrel,chain_mono (withRows_base _ _) (fun _ _ h=>relC_mono (withRows_base _ _) _ _ _ h) _ _ (htl u hc1),hpl u (by simp)⟩
        exact H4 hh (hvr j (by omega)) hpl
       split at hd
       ·rename_i y e' z m1 h1'
        split at hd
        ·rename_i he;subst he
         cases hd
         exact ⟨[_],us',rfl,key _ _ _ _ h1' (fun v hv=>by simp only[RelV,RelC] at hv;obtain ⟨v',he,hv⟩:=hv;cases he;exact hv),h2⟩
        ·cases hd
       ·rename_i y m1 h1'
        cases hd
        exact ⟨[_],us',rfl,key _ _ _ [] h1' (fun v hv=>by simp only[RelV] at hv;subst hv;simp[Cy]),h2⟩
       ·cases hd
      ·cases hd
 |osl e=>
  intro l us x r m hr hd
  cases l with
  |nil=>simp[decC] at hd
  |cons a l=>
   simp only[RelL] at hr;obtain ⟨u,us',rfl,h1,h2⟩:=hr
   cases a<;>(try simp only[decC,reduceCtorEq] at hd)
   case nils=>
    cases hd
    simp only[RelV] at h1;subst h1
    exact ⟨[_],us',rfl,by simp[RelC],h2⟩
   case dat t2 x=>
    cases t2<;>(try simp only[decC,reduceCtorEq] at hd)
    split at hd
    ·rename_i he;subst he
     cases hd
     simp only[RelV] at h1
     exact ⟨[u],us',rfl,relC_mono (withRows_base _ _) _ _ _ h1,h2⟩
    ·cases hd
   case sl e' full l'=>
    split at hd
    ·rename_i he;subst he
     cases hd
     simp only[RelV] at h1
     refine ⟨[u],us',rfl,?_,h2⟩
     have:=relC_mono (withRows_base (I:=I) (β:=β) [] (Ag w)) (.sl e') l' [u] h1.1
     simp only[RelC] at this ⊢
     exact this
    ·cases hd
theorem decV_ok (hc:Ctx gb w I β H) {t:GT} {a:AV} {v:Value} {x:t.ty} {m:List Nat} (hr:RelV (Ag w) I β a v) (hd:Dv H t a=some (x,m)):TV (Ag w) (Bx I β m) t x v:=by
 unfold Dv at hd;unfold TV
 split at hd
 ·rename_i ht
  rw[if_pos ht]
  split at hd
  ·rename_i l
   split at hd
   ·rename_i y m' hx
    cases hd
    simp only[RelV] at hr
    obtain ⟨us,rfl,hl,_⟩:=hr
    obtain ⟨u1,u2,rfl,hrel,hnil⟩:=FV hc t l us _ _ _ hl hx
    simp only[RelL] at hnil;subst hnil
    exact ⟨u1,by simp,hrel⟩
   ·cases hd
  ·cases hd
 ·rename_i ht
  rw[if_neg ht]
  split at hd
  ·rename_i y m' hx
   cases hd
   obtain ⟨u1,u2,he,hrel,hnil⟩:=FV hc t [a] [v] _ _ _ (by simp only[RelL];exact ⟨v,[],rfl,hr,rfl⟩) hx
   simp only[RelL] at hnil;subst hnil
   simp only[qY4] at he;subst he
   exact hrel
  ·cases hd
end
theorem P2 {t:GT} (h:t.isAgg=false) (x:t.ty):∃ a,AS t x=[a]:=by
 cases t<;>simp[GT.isAgg] at h
 all_goals exact ⟨_,rfl⟩
theorem GB {rd:Nat->Nat->Option Value} {I:Nat->Prop} {β:Nat->Option Place} {t:GT} {x:t.ty} {v:Value} (h:TV rd I t x v):RelV rd I β (enc t x) v:=by
 unfold TV at h;unfold enc
 split at h
 ·rename_i ht
  obtain ⟨us,rfl,hr⟩:=h
  rw[ht]
  simp only[RelV]
  exact ⟨us,rfl,BY t x us hr,Dq t x us hr⟩
 ·rename_i ht
  have ht':t.isAgg=false:=by simpa using ht
  obtain ⟨a,ha⟩:=P2 ht' x
  rw[ht',ha]
  have:=BY (β:=β) t x [v] h
  rw[ha] at this
  simp only[RelL] at this
  obtain ⟨u,us',he,h1,_⟩:=this
  cases he
  exact h1
theorem GR {rd rd':Nat->Nat->Option Value} {I I':Nat->Prop} (h:Mono rd I rd' I') {t:GT} {x:t.ty} {v:Value} (hv:TV rd I t x v):TV rd' I' t x v:=by
 unfold TV at hv ⊢
 split at hv
 ·rename_i ht;rw[if_pos ht];obtain ⟨us,rfl,hr⟩:=hv;exact ⟨us,rfl,relC_mono h t x us hr⟩
 ·rename_i ht;rw[if_neg ht];exact relC_mono h t x _ hv
end Go.AM
end
section
namespace Go.AM
inductive TD where
 |int (k:IntKind) | bool | str | iface | slice (e:TypeId) | struct (fs:List (Nat×TypeId)) | array (n:Nat) (e:TypeId) | pointer (e:TypeId) | map (k e:TypeId) | other
def TD.agg:TD->Bool
 |.struct _ | .array _ _=>true
 |_=>false
structure TI where
 d:TD
 size:Nat
 bytes:Nat
 gt:Option GT
inductive Ex where
 |normal | exit (id:Nat) | ret
 deriving DecidableEq
inductive BF where
 |dat (t:GT) | own (e:GT) | slf | mp (t:GT) | pair (a b:BF) | box (f:BF)
inductive PK where
 |val (t:GT) | box (f:BF) | row (e:GT) | own (e:GT) | mp (t:GT) | view (j:Nat) | obj (f:BF)
abbrev RK:=List PK
@[reducible] def CV:BF->Type
 |.dat t=>t.ty
 |.own e=>List e.ty
 |.slf=>Unit
 |.mp t=>List (qBs×t.ty)
 |.pair a b=>CV a×CV b
 |.box f=>CV f
@[reducible] def Au:List PK->Type
 |[]=>Unit
 |.val t::ps=>t.ty×Au ps
 |.box f::ps=>CV f×Au ps
 |.row e::ps=>List e.ty×Au ps
 |.own e::ps=>List e.ty×Au ps
 |.mp t::ps=>List (qBs×t.ty)×Au ps
 |.view _::ps=>Nat×Au ps
 |.obj f::ps=>CV f×Au ps
@[reducible] def opsOf:List PK->List PK
 |[]=>[]
 |.box f::ps=>.box f::opsOf ps
 |.row e::ps=>.row e::opsOf ps
 |.mp t::ps=>.mp t::opsOf ps
 |_::ps=>opsOf ps
@[reducible] def BW (ps : List PK) : Type := Au (opsOf ps)
structure Callee where
 ps:List PK
 rk:RK
 g:Au ps->Option (Au rk×BW ps)
structure LoopO where
 f:(ρ:Type)->St->(Ex->St->Option ρ)->Option ρ
structure Tab where
 ti:TypeId->Option TI
 fn:FuncId->List AV->Option Callee
 lp:Nat->Option LoopO
 lit:List Nat
 pr:List (Nat×List Nat×List Nat)
 bk:List (Nat×Nat)
def Ek {α:Type}:List (Nat×α)->Nat->Option α
 |[],_=>none
 |(k,a)::r,n=>if n=k then some a else Ek r n
def Nv:List (Nat×List Nat×List Nat)->Nat->Option (List Nat×List Nat)
 |[],_=>none
 |(k,a)::r,n=>if n=k then some a else Nv r n
def Wk:Option Nat->List AV->Bool
 |none,_=>true
 |some f,azs=>azs.any fun a=>match a with | .fn g _=>g==f | _=>false
def KB:List (Nat×Option Nat×Callee)->Nat->List AV->Option Callee
 |[],_,_=>none
 |(k,s,a)::r,n,azs=>if n=k/\Wk s azs=true then some a else KB r n azs
mutual
def BR:Value->AV
 |.int k n=>.int k n
 |.bool b=>.bool b
 |.string s=>.str s.data.toList
 |.pointer none=>.nilptr
 |.map none=>.nilmap
 |.slice none 0 0=>.nils
 |.agg ⟨l⟩=>if l.all (·.oneCell') then .agg (constL l) else .any
 |.tuple ⟨[]⟩=>.undef
 |.nilIface=>.err false
 |_=>.any
def constL:List Value->List AV
 |[]=>[]
 |v::l=>BR v::constL l
end
def St.ev (st:St):Operand->AV
 |.tmp t=>st.tmps.getD t .any
 |.const v=>BR v
 |.func f=>.fn f []
 |.global _=>.any
def Ab {ρ:Type} (b:Bool) (k:Option ρ):Option ρ:=cond b k none
def As:Nat:=2 ^ 36
def A3:Nat:=2 ^ 60
def AV.cellsOf:AV->List AV
 |.agg l=>l
 |a=>[a]
def AT {α:Type} (s:qBs):List (qBs×α)->Option α
 |[]=>none
 |(k,x)::l=>cond (k==s) (some x) (AT s l)
def Bw {α:Type} (s:qBs) (x:α):List (qBs×α)->List (qBs×α)
 |[]=>[(s,x)]
 |(k,y)::l=>cond (k==s) ((k,x)::l) ((k,y)::Bw s x l)
def AV.plain:AV->Bool
 |.any | .undef | .agg _ | .tup _=>false
 |_=>true
def AV.isSl:AV->Bool
 |.nils | .sl .. | .vw _ | .pre .. | .sub ..=>true
 |_=>false
def AV.isA:AV->Bool
 |.agg _=>true
 |_=>false
section
variable {ρ:Type} (E:Tab)
def GA (i:TI) (l:List AV) (off:Nat):Option AV:=
 if i.d.agg then
  if off+i.size<=l.length then some (.agg ((l.drop off).take i.size)) else none
 else match l[off]? with
  |some a=>some a
  |none=>none
def CZ:qBs->qBs->Bool:=Op.bytesLess
def Re (k:IntKind) (a b:Int):Int:=k.wrap (BitVec.ofInt k.bits a||| BitVec.ofInt k.bits b).toNat
def HG (op:BinOp) (d:TD) (x:AV) (K:AV->Option ρ):Option ρ:=
 match op,d,x with
 |.eql,.iface,.err b=>K (.bool !b)
 |.neq,.iface,.err b=>K (.bool b)
 |_,_,_=>none
def EV (op:BinOp) (x y:AV) (K:AV->Option ρ):Option ρ:=
 match x,y with
 |.int k a,.int k' b=>
  if k=k' then
   match op with
   |.add=>K (.int k (k.wrap (a+b)))
   |.or=>K (.int k (Re k a b))
   |.sub=>K (.int k (k.wrap (a - b)))
   |.mul=>K (.int k (k.wrap (a * b)))
   |.quo=>Ab (b !=0) (K (.int k (k.wrap (a.tdiv b))))
   |.rem=>Ab (b !=0) (K (.int k (a.tmod b)))
   |.shr=>Ab (decide (0<=b)) (K (.int k (a.fdiv (2 ^ min b.toNat k.bits))))
   |.shl=>Ab (decide (0<=b)) (K (.int k (k.wrap (a * 2 ^ min b.toNat k.bits))))
   |.eql=>K (.bool (a==b))
   |.neq=>K (.bool (a !=b))
   |.lss=>K (.bool (decide (a < b)))
   |.leq=>K (.bool (decide (a<=b)))
   |.gtr=>K (.bool (decide (a > b)))
   |.geq=>K (.bool (decide (a>=b)))
   |_=>none
  else none
 |.str a,.str b=>
  match op with
  |.add=>Ab (decide (a.length+b.length<=A3)) (K (.str (a++b)))
  |.eql=>K (.bool (a==b))
  |.neq=>K (.bool (!(a==b)))
  |.lss=>K (.bool (CZ a b))
  |.leq=>K (.bool (CZ a b||a==b))
  |.gtr=>K (.bool (!(CZ a b||a==b)))
  |.geq=>K (.bool (!CZ a b))
  |_=>none
 |_,_=>none
def KY (d:TD) (x y:AV):Option Bool:=
 match d,x,y with
 |.bool,.bool a,.bool b=>some (a==b)
 |.pointer _,.nilptr,.nilptr=>some true
 |.pointer _,.dat (.ptr _) x,.nilptr=>some x.isNone
 |.pointer _,.dat (.chain _) x,.nilptr=>some x.isEmpty
 |.pointer _,.ptr ..,.nilptr | .pointer _,.iptr ..,.nilptr=>some false
 |_,_,_=>none
def KX (op:BinOp) (r:Bool) (K:AV->Option ρ):Option ρ:=
 match op with
 |.eql=>K (.bool r)
 |.neq=>K (.bool (!r))
 |_=>none
def Hw {α:Type}:Option (List α)->Bool
 |some []=>false
 |_=>true
def HV (op:BinOp) (d:TD) (x y:AV) (K:AV->Option ρ):Option ρ:=
 match d,x,y with
 |.slice _,.dat (.osl _) v,.nils=>Ab (Hw v) (KX op v.isNone K)
 |_,_,_=>match KY d x y with
  |some r=>KX op r K
  |none=>none
def C2 (n:Nat) (lo hi:Option AV) (K:Option Int->Option Int->Option ρ):Option ρ:=
 match lo,hi with
 |none,none=>K none none
 |some (.int _ l),none=>Ab (decide (0<=l)&&decide (l<=n)) (K (some l) none)
 |none,some (.int _ h)=>Ab (decide (0<=h)&&decide (h<=n)) (K none (some h))
 |some (.int _ l),some (.int _ h)=>Ab (decide (0<=l)&&decide (l<=h)&&decide (h<=n)) (K (some l) (some h))
 |_,_=>none
def cut {α:Type} (l:List α):Option Int->Option Int->List α
 |none,none=>l
 |some a,none=>l.drop a.toNat
 |none,some b=>l.take b.toNat
 |some a,some b=>(l.take b.toNat).drop a.toNat
def Al.len (H:Al) (b:Nat):Option Nat:=
 match H[b]? with
 |some (some (.typed _ l))=>some l.length
 |_=>none
def Al.lenS (H:Al) (s b:Nat):Option Nat:=
 match H[b]? with
 |some (some (.typed e l))=>if e.cells=s then some l.length else none
 |_=>none
def NC (s:Nat) (x:AV) (lo hi:Option AV) (mx:AV) (K:AV->Option ρ):Option ρ:=
 match lo,hi,x,mx with
 |none,some (.int _ h),.sl e _ l,.int _ m=>if e.cells=s then Ab (decide (0<=h)&&decide (h<=l.length)&&(h==m)) (K (.sl e true (l.take h.toNat))) else none
 |_,_,_,_=>none
def Dx (H:Al) (s:Nat) (x:AV) (lo hi:Option AV) (K:AV->Option ρ):Option ρ:=
 match x with
 |.str t=>C2 t.length lo hi fun l h=>K (.str (cut t l h))
 |.nils=>C2 0 lo hi fun _ _=>K .nils
 |.sl e full l=>if e.cells=s then C2 l.length lo hi fun a b=>K (.sl e (match b with | none=>full | some _=>false) (cut l a b)) else none
 |.vw b=>
  match H.lenS s b with
  |some n=>C2 n lo hi fun a c=>
   match a,c with
   |none,none=>K (.vw b)
   |none,some h=>K (.pre b h.toNat)
   |some l,none=>K (.sub b l.toNat (n - l.toNat))
   |some l,some h=>K (.sub b l.toNat (h.toNat - l.toNat))
  |none=>none
 |.pre b n=>
  match H.lenS s b with
  |some _=>C2 n lo hi fun a c=>
   match a,c with
   |none,none=>K (.pre b n)
   |none,some h=>K (.pre b h.toNat)
   |some l,none=>K (.sub b l.toNat (n - l.toNat))
   |some l,some h=>K (.sub b l.toNat (h.toNat - l.toNat))
  |none=>none
 |.sub b off n=>
  match H.lenS s b with
  |some _=>C2 n lo hi fun a c=>
   match a,c with
   |none,none=>K (.sub b off n)
   |none,some h=>K (.sub b off h.toNat)
   |some l,none=>K (.sub b (off+l.toNat) (n - l.toNat))
   |some l,some h=>K (.sub b (off+l.toNat) (h.toNat - l.toNat))
  |none=>none
 |_=>none
def Fa (H:Al) (x:AV) (K:AV->Option ρ):Option ρ:=
 match x with
 |.sl _ _ l=>K (.int .i64 l.length)
 |.nils=>K (.int .i64 0)
 |.vw b=>match H.len b with
  |some n=>K (.int .i64 n)
  |none=>none
 |.pre _ n=>K (.int .i64 n)
 |.sub _ _ n=>K (.int .i64 n)
 |_=>none
def EX (H:Al) (x:AV) (K:AV->Option ρ):Option ρ:=
 match x with
 |.mp b=>match H[b]? with
  |some (some (.mapr _ l))=>K (.int .i64 l.length)
  |_=>none
 |.nilmap=>K (.int .i64 0)
 |.dat (.map _) l=>K (.int .i64 l.length)
 |_=>none
def Hk (g:GT) (ok:Bool) (r:Option g.ty):AV:=cond ok (.tup [enc g (r.getD g.zero),.bool r.isSome]) (enc g (r.getD g.zero))
def EQ (H:Al) (g:GT) (x:AV) (s:qBs) (ok:Bool) (K:AV->Option ρ):Option ρ:=
 match x with
 |.mp b=>match H[b]? with
  |some (some (.mapr g' l))=>if h:g'=g then K (Hk g ok (AT s (h ▸ l:List (qBs×g.ty)))) else none
  |_=>none
 |.nilmap=>K (Hk g ok none)
 |.dat (.map g') l=>if h:g'=g then K (Hk g ok (AT s (h ▸ l:List (qBs×g.ty)))) else none
 |_=>none
def E6 (H:Al) (s:Nat) (x:AV) (i:Int) (K:AV->Option ρ):Option ρ:=
 match x with
 |.sl e _ l=>if e.cells=s then Ab (decide (0<=i)&&decide (i < l.length)) (K (.iptr e (l.getD i.toNat e.zero) 0)) else none
 |.vw b=>match H.lenS s b with
  |some n=>Ab (decide (0<=i)&&decide (i < n)) (K (.ptr b i.toNat 0))
  |none=>none
 |.pre b n=>match H.lenS s b with
  |some _=>Ab (decide (0<=i)&&decide (i < n)) (K (.ptr b i.toNat 0))
  |none=>none
 |.sub b off n=>match H.lenS s b with
  |some _=>Ab (decide (0<=i)&&decide (i < n)) (K (.ptr b (off+i.toNat) 0))
  |none=>none
 |_=>none
def Al.at (H:Al):AV->Option (List AV×Nat)
 |.ptr b i k=>
  match H[b]? with
  |some (some (.cells l))=>if i=0 then some (l,k) else none
  |some (some (.typed e l))=>some (AS e (l.getD i e.zero),k)
  |_=>none
 |.iptr e x k=>some (AS e x,k)
 |.dat (.ptr e) x=>some (AS e (x.getD e.zero),0)
 |_=>none
def Al.there (H:Al):AV->Bool
 |.ptr b i _=>
  match H[b]? with
  |some (some (.typed _ l))=>decide (i < l.length)
  |_=>true
 |.dat (.ptr _) x=>x.isSome
 |_=>true
def Er (x:AV) (K:AV->Option ρ):Option ρ:=
 match x with
 |.ptr b i k=>K (.ptr b i k)
 |.iptr e y k=>K (.iptr e y k)
 |.fn f cs=>K (.fn f cs)
 |.dat (.ptr e) y=>Ab y.isSome (K (.iptr e (y.getD e.zero) 0))
 |.dat (.chain e) l=>Ab (!l.isEmpty) (K (.iptr (.pair e (.chain e)) (l.headD e.zero,l.tail) 0))
 |_=>none
def Ga (place:Nat->Option (Nat×Nat)) (cells:List AV):List (Nat×AV)->Option (List AV)
 |[]=>some cells
 |(i,v)::rest=>
  match place i with
  |none=>none
  |some (off,size)=>
   if v.plain||v.isA then
    if v.cellsOf.length=size/\off+size<=cells.length then
     Ga place (cells.take off++v.cellsOf++cells.drop (off+size)) rest
    else none
   else none
def Fg (g:GT):Nat->List AV->Option (List g.ty)
 |0,[]=>some []
 |0,_=>none
 |n+1,cs=>match decC [] g cs with
  |some (x,r,_)=>match Fg g n r with
   |some l=>some (x::l)
   |none=>none
  |none=>none
def OD:AV->Option (List AV×Bool)
 |.dat (.ptr g) y=>some (AS g (y.getD g.zero),y.isSome)
 |.iptr g y 0=>some (AS g y,true)
 |_=>none
def Dd (H:Al) (e:GT):Nat->List (Nat×AV)->Option (List e.ty)
 |_,[]=>some []
 |n,(i,v)::rest=>
  if i=n then
   match Dv H e v with
   |some (x,[])=>
    match Dd H e (n+1) rest with
    |some l=>some (x::l)
    |none=>none
   |_=>none
  else none
def Di (H:Al) (e:GT):Nat->List (Nat×AV)->Option (List e.ty×List Nat)
 |_,[]=>some ([],[])
 |n,(i,v)::rest=>
  if i=n then
   match Dv H e v with
   |some (x,m)=>
    match Di H e (n+1) rest with
    |some (l,m')=>some (x::l,m++m')
    |none=>none
   |none=>none
  else none
def scalar:GT->Bool
 |.int _ | .bool | .str | .err | .unit=>true
 |.pair a b=>scalar a&&scalar b
 |_=>false
def AV.row:AV->Option Nat
 |.ptr b _ _ | .vw b | .pre b _ | .sub b _ _ | .mp b=>some b
 |_=>none
def AD:List AV->List Nat
 |[]=>[]
 |a::azs=>match a.row with
  |some b=>b::AD azs
  |none=>AD azs
def BF.cells:BF->Nat
 |.dat t=>t.cells
 |.pair f g=>f.cells+g.cells
 |_=>1
def BV:BF->Nat
 |.dat _ | .slf=>0
 |.own _ | .mp _=>1
 |.pair f g=>BV f+BV g
 |.box f=>BV f+1
def BU:(f:BF)->CV f->Nat->Nat->List AV
 |.dat t,x,_,_=>AS t x
 |.own _,_,_,j=>[.vw j]
 |.slf,_,b,_=>[.selfp b]
 |.mp _,_,_,j=>[.mp j]
 |.pair f g,x,b,j=>BU f x.1 b j++BU g x.2 b (j+BV f)
 |.box _,_,_,j=>[.ptr j 0 0]
def B3:(f:BF)->CV f->Nat->Al
 |.dat _,_,_=>[]
 |.own e,x,_=>[some (.typed e x)]
 |.slf,_,_=>[]
 |.mp t,x,_=>[some (.mapr t x)]
 |.pair f g,x,j=>B3 f x.1 j++B3 g x.2 (j+BV f)
 |.box f,x,j=>some (.cells (BU f x j (j+1)))::B3 f x (j+1)
def cntK:List PK->Nat
 |[]=>0
 |.box _::ps | .row _::ps | .mp _::ps=>cntK ps+1
 |_::ps=>cntK ps
def cntN:List PK->Nat
 |[]=>0
 |.box f::ps=>BV f+cntN ps
 |.own _::ps=>cntN ps+1
 |.obj f::ps=>BV f+cntN ps
 |_::ps=>cntN ps
def H8:BF->List AV->AV
 |.pair _ _,l=>.agg l
 |_,[a]=>a
 |_,_=>.any
def Lv:BF->AV->Option (List AV)
 |.pair _ _,.agg l=>some l
 |.pair _ _,_=>none
 |_,a=>some [a]
def BF.noSlf:BF->Bool
 |.slf=>false
 |.pair f g=>f.noSlf&&g.noSlf
 |_=>true
def AY:(ps:List PK)->Au ps->Nat->Nat->List AV
 |[],_,_,_=>[]
 |.val t::ps,x,k,j=>enc t x.1::AY ps x.2 k j
 |.box f::ps,x,k,j=>.ptr k 0 0::AY ps x.2 (k+1) (j+BV f)
 |.row _::ps,x,k,j=>.vw k::AY ps x.2 (k+1) j
 |.own _::ps,x,k,j=>.vw j::AY ps x.2 k (j+1)
 |.mp _::ps,x,k,j=>.mp k::AY ps x.2 (k+1) j
 |.view i::ps,x,k,j=>.pre i x.1::AY ps x.2 k j
 |.obj f::ps,x,k,j=>H8 f (BU f x.1 0 j)::AY ps x.2 k (j+BV f)
def BP:(ps:List PK)->Au ps->Nat->Nat->Al
 |[],_,_,_=>[]
 |.box f::ps,x,k,j=>some (.cells (BU f x.1 k j))::BP ps x.2 (k+1) (j+BV f)
 |.row e::ps,x,k,j=>some (.typed e x.1)::BP ps x.2 (k+1) j
 |.mp t::ps,x,k,j=>some (.mapr t x.1)::BP ps x.2 (k+1) j
 |.own _::ps,x,k,j=>BP ps x.2 k (j+1)
 |.val _::ps,x,k,j=>BP ps x.2 k j
 |.view _::ps,x,k,j=>BP ps x.2 k j
 |.obj f::ps,x,k,j=>BP ps x.2 k (j+BV f)
def B9:(ps:List PK)->Au ps->Nat->Al
 |[],_,_=>[]
 |.box f::ps,x,j=>B3 f x.1 j++B9 ps x.2 (j+BV f)
 |.own e::ps,x,j=>some (.typed e x.1)::B9 ps x.2 (j+1)
 |.val _::ps,x,j=>B9 ps x.2 j
 |.row _::ps,x,j=>B9 ps x.2 j
 |.mp _::ps,x,j=>B9 ps x.2 j
 |.view _::ps,x,j=>B9 ps x.2 j
 |.obj f::ps,x,j=>B3 f x.1 j++B9 ps x.2 (j+BV f)
def AX (ps:List PK) (x:Au ps):Al:=BP ps x 0 (cntK ps)++B9 ps x (cntK ps)
def D6 (ps:List PK):Nat:=cntK ps+cntN (opsOf ps)
def CO (ps rk:List PK) (o:BW ps) (y:Au rk):Al:=
 BP (opsOf ps) o 0 (cntK ps)++B9 (opsOf ps) o (cntK ps)++(BP rk y (D6 ps) (D6 ps+cntK rk)++B9 rk y (D6 ps+cntK rk))
def E2 (ps rk:List PK) (y:Au rk):List AV:=AY rk y (D6 ps) (D6 ps+cntK rk)
mutual
def AV.ren (ρ:Nat->Option Nat):AV->AV
 |.vw b=>match ρ b with | some c=>.vw c | none=>.any
 |.pre b n=>match ρ b with | some c=>.pre c n | none=>.any
 |.sub b o n=>match ρ b with | some c=>.sub c o n | none=>.any
 |.ptr b i k=>match ρ b with | some c=>.ptr c i k | none=>.any
 |.mp b=>match ρ b with | some c=>.mp c | none=>.any
 |.selfp b=>match ρ b with | some c=>.selfp c | none=>.any
 |.fn f l=>.fn f (renL ρ l)
 |.agg l=>.agg (renL ρ l)
 |.tup l=>.tup (renL ρ l)
 |a=>a
def renL (ρ:Nat->Option Nat):List AV->List AV
 |[]=>[]
 |a::l=>a.ren ρ::renL ρ l
end
def Row.ren (ρ:Nat->Option Nat):Row->Row
 |.cells l=>.cells (renL ρ l)
 |r=>r
def BO (H:Al) (b:Nat):(f:BF)->List AV->Option (CV f×List AV×List AV)
 |.dat t,l=>match decC [] t l with
  |some (x,r,_)=>some (x,r,[])
  |none=>none
 |.own e,a::r=>match decC H (.sl e) [a] with
  |some (l,[],[_])=>some (l,r,[a])
  |_=>none
 |.slf,.selfp b'::r=>if b'=b then some ((),r,[]) else none
 |.mp t,.mp n::r=>match H[n]? with
  |some (some (.mapr t' l))=>if h:t'=t then some (h ▸ l,r,[.mp n]) else none
  |_=>none
 |.pair f g,l=>if f.cells=0 then none else match BO H b f l with
  |some (x,r,s)=>match BO H b g r with
   |some (y,r',s')=>some ((x,y),r',s++s')
   |none=>none
  |none=>none
 |.box f,.ptr n 0 0::r=>match H[n]? with
  |some (some (.cells l))=>match BO H n f l with
   |some (x,[],s)=>some (x,r,.ptr n 0 0::s)
   |_=>none
  |_=>none
 |_,_=>none
def AI (H:Al) (vs:List AV):(ps:List PK)->List AV->Option (Au ps×List AV×List AV×List Nat)
 |[],[]=>some ((),[],[],[])
 |.val t::ps,a::azs=>match Dv H t a with
  |some (x,m)=>match AI H vs ps azs with
   |some (y,s,t,m')=>some ((x,y),s,t,m++m')
   |none=>none
  |none=>none
 |.box f::ps,.ptr b 0 0::azs=>match H[b]? with
  |some (some (.cells l))=>match BO H b f l with
   |some (x,[],u)=>match AI H vs ps azs with
    |some (y,s,t,m)=>some ((x,y),.ptr b 0 0::s,u++t,m)
    |none=>none
   |_=>none
  |_=>none
 |.row e::ps,a::azs=>match decC H (.sl e) [a] with
  |some (l,[],[_])=>match AI H vs ps azs with
   |some (y,s,t,m)=>some ((l,y),a::s,t,m)
   |none=>none
  |_=>none
 |.own e::ps,a::azs=>match decC H (.sl e) [a] with
  |some (l,[],[_])=>match AI H vs ps azs with
   |some (y,s,t,m)=>some ((l,y),s,a::t,m)
   |none=>none
  |_=>none
 |.obj f::ps,a::azs=>match Lv f a with
  |some l=>if f.noSlf=true then match BO H 0 f l with
   |some (x,[],u)=>match AI H vs ps azs with
    |some (y,s,t,m)=>some ((x,y),s,u++t,m)
    |none=>none
   |_=>none
   else none
  |none=>none
 |.mp t::ps,.mp b::azs=>match H[b]? with
  |some (some (.mapr t' l))=>if h:t'=t then
   match AI H vs ps azs with
   |some (y,s,t,m)=>some ((h ▸ l,y),.mp b::s,t,m)
   |none=>none
   else none
  |_=>none
 |.view j::ps,.vw b::azs=>match vs[j]?,H[b]? with
  |some (.vw b'),some (some (.typed _ l))=>if b'=b then
   match AI H vs ps azs with
   |some (y,s,t,m)=>some ((l.length,y),s,t,m)
   |none=>none
   else none
  |_,_=>none
 |.view j::ps,.pre b k::azs=>match vs[j]? with
  |some (.vw b')=>if b'=b then
   match AI H vs ps azs with
   |some (y,s,t,m)=>some ((k,y),s,t,m)
   |none=>none
   else none
  |_=>none
 |_,_=>none
def BM (e:GT) (a:AV) (H:Al):AV×Al:=
 match a with
 |.nils | .sl _ true []=>(.vw H.length,H++[some (Row.typed e [])])
 |a=>(a,H)
def Bg:BF->List AV->Al->List AV×Al
 |.own e,a::r,H=>((BM e a H).1::r,(BM e a H).2)
 |.pair f g,l,H=>((Bg f l H).1.take f.cells++(Bg g ((Bg f l H).1.drop f.cells) (Bg f l H).2).1,(Bg g ((Bg f l H).1.drop f.cells) (Bg f l H).2).2)
 |_,l,H=>(l,H)
def DY (f:BF) (b:Nat) (H:Al):Al:=
 match H[b]? with
 |some (some (.cells l))=>(Bg f l H).2.set b (some (.cells (Bg f l H).1))
 |_=>H
def Dn (f:BF) (a:AV) (H:Al):AV×Al:=
 match f,a with
 |.box g,.ptr b 0 0=>(.ptr b 0 0,DY g b H)
 |.pair g h,.agg l=>(.agg (Bg (.pair g h) l H).1,(Bg (.pair g h) l H).2)
 |_,a=>(a,H)
def lift:List PK->List AV->Al->List AV×Al
 |.row e::ps,a::azs,H | .own e::ps,a::azs,H=>((BM e a H).1::(lift ps azs (BM e a H).2).1,(lift ps azs (BM e a H).2).2)
 |.box f::ps,.ptr b 0 0::azs,H=>(.ptr b 0 0::(lift ps azs (DY f b H)).1,(lift ps azs (DY f b H)).2)
 |.obj f::ps,a::azs,H=>((Dn f a H).1::(lift ps azs (Dn f a H).2).1,(lift ps azs (Dn f a H).2).2)
 |_::ps,a::azs,H=>(a::(lift ps azs H).1,(lift ps azs H).2)
 |_,azs,H=>(azs,H)
def D9 (a:AV) (r0:Option Row) (r:Row):Row:=
 match r with
 |.cells l=>.cells l
 |.mapr t l=>.mapr t l
 |.typed e o=>match a,r0 with
  |.pre _ n,some (.typed e' l)=>if h:e'=e then .typed e (o++(h ▸ l:List e.ty).drop n) else .typed e o
  |.sub _ off n,some (.typed e' l)=>if h:e'=e then .typed e ((h ▸ l:List e.ty).take off++o++(h ▸ l:List e.ty).drop (off+n)) else .typed e o
  |_,_=>.typed e o
def Cb:List AV->Al->Al->Al
 |a::azs,some r::rs,H=>match a.row with
  |some b=>Cb azs rs (H.set b (some (D9 a (H[b]?.getD none) r)))
  |none=>Cb azs rs H
 |_,_,H=>H
def AV.whole:AV->Bool
 |.vw _ | .ptr _ 0 0 | .mp _=>true
 |_=>false
def BF.scalar:BF->Bool
 |.dat t | .own t | .mp t=>AM.scalar t
 |.slf=>true
 |.pair f g=>f.scalar&&g.scalar
 |.box f=>f.scalar
def PK.scalar:PK->Bool
 |.val t | .row t | .own t | .mp t=>AM.scalar t
 |.box f | .obj f=>f.scalar
 |.view _=>true
def PK.isVal:PK->Bool
 |.val _=>true
 |_=>false
def Ls:List AV->AV
 |[]=>.undef
 |[a]=>a
 |l=>.tup l
def killAll (m:List Nat) (H:Al):Al:=m.foldl (fun H b=>H.set b none) H
def Ct (a b:List Nat):Bool:=a.all fun x=>!b.contains x
def Cj:List Nat->Bool
 |[]=>true
 |a::l=>!l.contains a&&Cj l
def H_ (s:List AV) (n:Nat) (i:Nat):Option Nat:=
 match s[i]? with
 |some a=>if a.whole then a.row else none
 |none=>some (n+(i - s.length))
def GD (H:Al) (c:Callee) (azs:List AV) (K:AV->Option ρ):Option ρ:=
 match AI H [] c.ps azs with
 |some (x,_,_,m)=>
  if c.ps.all PK.isVal&&c.rk.all PK.isVal&&(m.isEmpty||c.rk.all PK.scalar) then (c.g x).bind (fun r=>K (Ls (E2 c.ps c.rk r.1))) else none
 |none=>none
def DT (H:Al) (c:Callee) (azs:List AV) (K:AV->Al->Option ρ):Option ρ:=
 match AI (lift c.ps azs H).2 [] c.ps (lift c.ps azs H).1 with
 |some (x,s,t,m)=>
  if Cj (AD (s++t))&&Ct (AD (s++t)) m then
   let H1:=killAll (AD t) (if m.isEmpty||(c.rk.all PK.scalar&&(opsOf c.ps).all PK.scalar) then (lift c.ps azs H).2 else killAll m (lift c.ps azs H).2)
   (c.g x).bind (fun r=>K (Ls (renL (H_ s H1.length) (E2 c.ps c.rk r.1)))
    (Cb s (((CO c.ps c.rk r.2 r.1).take s.length).map (·.map (Row.ren (H_ s H1.length)))) H1++((CO c.ps c.rk r.2 r.1).drop s.length).map (·.map (Row.ren (H_ s H1.length)))))
  else none
 |none=>none
def BN (a b:Int):Int:=if b > a then b else a
def EH (a b:Int):Int:=if b < a then b else a
def FO (f:Int->Int->Int) (k:IntKind) (a:Int):List AV->Option Int
 |[]=>some a
 |.int k' b::r=>if k'=k then FO f k (f a b) r else none
 |_=>none
def AW (st:St) (o:Oper) (K:AV->Option ρ):Option ρ:=
 match o.op with
 |.move x | .assign x=>K (st.ev x)
 |.pick c a b=>match st.ev c with
  |.bool t=>cond t (K (st.ev a)) (K (st.ev b))
  |_=>none
 |.nilCheck x=>Er (st.ev x) K
 |.binOp op xt x (.const .nilIface) _=>match E.ti xt with
  |some i=>HG op i.d (st.ev x) K
  |none=>none
 |.binOp op xt x y _=>
  match st.ev x,st.ev y with
  |.int k a,.int k' b=>EV op (.int k a) (.int k' b) K
  |.str a,.str b=>EV op (.str a) (.str b) K
  |vx,vy=>match E.ti xt with
   |some i=>HV op i.d vx vy K
   |none=>none
 |.unOp op _ x=>match op,st.ev x with
  |.not,.bool b=>K (.bool !b)
  |.neg,.int k n=>K (.int k (k.wrap (0 - n)))
  |_,_=>none
 |.convert src dst x=>
  match E.ti src,E.ti dst with
  |some s,some d=>
   match s.d,d.d,st.ev x with
   |.int _,.int k,.int _ n=>K (.int k (k.wrap n))
   |.str,.str,.str t=>K (.str t)
   |.str,.slice e,.str t=>match E.ti e with
    |some { d:=.int .u8,.. }=>K (.sl (.int .u8) false (t.map fun b=>(b.toNat:Int)))
    |_=>none
   |.slice e,.str,v=>match E.ti e with
    |some { d:=.int .u8,.. }=>match decC st.heap (.sl (.int .u8)) [v] with
     |some (l,[],_)=>K (.str ((l:List Int).map fun n=>UInt8.ofNat n.toNat))
     |_=>none
    |_=>none
   |_,_,_=>none
  |_,_=>none
 |.makeFunc (.func f) first captured=>if first.isEmpty then K (.fn f (captured.toList.map st.ev)) else none
 |.slice t x lo hi mx=>
  match E.ti t,mx with
  |some { d:=.str,.. },none=>match st.ev x with
   |.str s=>Dx st.heap 0 (.str s) (lo.map st.ev) (hi.map st.ev) K
   |_=>none
  |some { d:=.slice e,.. },none=>match st.ev x,E.ti e with
   |.str _,_=>none
   |v,some i=>Dx st.heap i.size v (lo.map st.ev) (hi.map st.ev) K
   |_,none=>none
  |some { d:=.slice e,.. },some mx=>match E.ti e with
   |some i=>NC i.size (st.ev x) (lo.map st.ev) (hi.map st.ev) (st.ev mx) K
   |none=>none
  |_,_=>none
 |.fieldAddr s x f=>match E.ti s with
  |some { d:=.struct fs,.. }=>match fs[f]? with
   |some (off,t)=>match E.ti t with
    |some i=>if i.size=0 then none else Er (st.ev x) fun y=>match y with
     |.ptr b j k=>K (.ptr b j (k+off))
     |.iptr e y k=>K (.iptr e y (k+off))
     |_=>none
    |none=>none
   |none=>none
  |_=>none
 |.field s x f=>match E.ti s with
  |some { d:=.struct fs,.. }=>match fs[f]?,st.ev x with
   |some (off,t),.agg l=>match E.ti t with
    |some i=>match GA i l off with
     |some a=>K a
     |none=>none
    |none=>none
   |_,_=>none
  |_=>none
 |.indexAddr t x ix=>match E.ti t,st.ev ix with
  |some { d:=.slice e,.. },.int _ i=>match E.ti e with
   |some j=>E6 st.heap j.size (st.ev x) i K
   |none=>none
  |some { d:=.array n e,.. },.int _ i=>match E.ti e,OD (st.ev x) with
   |some { gt:=some g,.. },some (l,b)=>match Fg g n l with
    |some xs=>Ab b (Ab (decide (0<=i)&&decide (i < n)) (K (.iptr g (xs.getD i.toNat g.zero) 0)))
    |none=>none
   |_,_=>none
  |_,_=>none
 |.index t x ix=>match E.ti t,st.ev x,st.ev ix with
  |some { d:=.str,.. },.str s,.int _ i=>Ab (decide (0<=i)&&decide (i < s.length)) (K (.int .u8 (s.getD i.toNat 0).toNat))
  |some { d:=.array n e,.. },.agg l,.int _ i=>match E.ti e with
   |some { gt:=some g,.. }=>match Fg g n l with
    |some xs=>Ab (decide (0<=i)&&decide (i < n)) (K (enc g (xs.getD i.toNat g.zero)))
    |none=>none
   |_=>none
  |_,_,_=>none
 |.load t a=>match E.ti t,st.heap.at (st.ev a) with
  |some i,some (l,k)=>Ab (st.heap.there (st.ev a)) (match GA i l k with
   |some v=>K v
   |none=>none)
  |_,_=>none
 |.lookup t x ix ok=>match E.ti t,st.ev ix with
  |some { d:=.map k e,.. },.str s=>match E.ti k,E.ti e with
   |some { d:=.str,.. },some { gt:=some g,.. }=>EQ st.heap g (st.ev x) s ok K
   |_,_=>none
  |_,_=>none
 |.extract x i=>match st.ev x with
  |.tup l=>match l[i]? with
   |some a=>K a
   |none=>none
  |_=>none
 |.build t parts=>match E.ti t with
  |some { d:=.struct fs,gt:=some g,.. }=>if fs.all (fun p=>(E.ti p.2).isSome) then
   match Ga (fun i=>(fs[i]?).bind fun p=>(E.ti p.2).map fun i=>(p.1,i.size)) (Cl g) (parts.toList.map fun p=>(p.1,st.ev p.2)) with
   |some l=>K (.agg l)
   |none=>none
   else none
  |some { d:=.array _ e,gt:=some g,.. }=>match E.ti e with
   |some j=>match Ga (fun i=>some (i * j.size,j.size)) (Cl g) (parts.toList.map fun p=>(p.1,st.ev p.2)) with
    |some l=>K (.agg l)
    |none=>none
   |none=>none
  |_=>none
 |.buildSlice t len parts=>match E.ti t with
  |some { d:=.slice e,.. }=>match E.ti e with
   |some { gt:=some g,.. }=>match Dd st.heap g 0 (parts.toList.map fun p=>(p.1,st.ev p.2)) with
    |some l=>if l.length=len/\len * g.cells<=2 ^ 24 then K (.sl g true l) else none
    |none=>none
   |_=>none
  |_=>none
 |.call { callee:=.builtin .len,args,argTypes }=>match args.toList,argTypes.toList with
  |[x],[t]=>match E.ti t with
   |some { d:=.str,.. }=>match st.ev x with
    |.str s=>K (.int .i64 s.length)
    |_=>none
   |some { d:=.slice _,.. }=>Fa st.heap (st.ev x) K
   |some { d:=.map ..,.. }=>EX st.heap (st.ev x) K
   |_=>none
  |_,_=>none
 |.call { callee:=.builtin .max,args,.. }=>match args.toList.map st.ev with
  |.int k a::r=>match FO BN k a r with
   |some n=>K (.int k n)
   |none=>none
  |_=>none
 |.call { callee:=.builtin .min,args,.. }=>match args.toList.map st.ev with
  |.int k a::r=>match FO EH k a r with
   |some n=>K (.int k n)
   |none=>none
  |_=>none
 |.call { callee:=.value f,args,.. }=>match st.ev f with
  |.fn k caps=>match E.fn k (args.toList.map st.ev++caps) with
   |some c=>GD st.heap c (args.toList.map st.ev++caps) K
   |none=>none
  |_=>none
 |_=>none
def u8Ok:GT->TypeId->Bool
 |.int .u8,e=>e==Eh
 |_,_=>true
theorem u8Ok_eq {g:GT} {e:TypeId} (h:u8Ok g e=true):g=.int .u8->e=Eh:=by rintro rfl;simpa [u8Ok] using h
def E1 (H:Al) (e:GT) (s:AV) (l':List e.ty) (K:AV->Al->Option ρ):Option ρ:=
 match s with
 |.nils=>Ab (decide (l'.length<=As)) (K (.vw H.length) (H++[some (.typed e l')]))
 |.sl e' true l=>if h:e'=e then
  cond (decide (0 < l'.length)) (Ab (decide (l.length+l'.length<=As)) (K (.vw H.length) (H++[some (.typed e ((h ▸ l:List e.ty)++l'))]))) (K (.sl e' true l) H)
  else none
 |.vw b=>match H[b]? with
  |some (some (.typed e' l))=>if h:e'=e then
   Ab (decide (l.length+l'.length<=As)) (K (.vw H.length) (H.set b none++[some (.typed e ((h ▸ l:List e.ty)++l'))]))
   else none
  |_=>none
 |.pre b n=>match H[b]? with
  |some (some (.typed e' l))=>if h:e'=e then
   Ab (decide (n+l'.length<=As)) (K (.vw H.length) (H.set b none++[some (.typed e ((h ▸ l:List e.ty).take n++l'))]))
   else none
  |_=>none
 |_=>none
def JV (b:Nat) (t:TypeId) (g:GT):List AV:=if t=bldT then match g with
 |.pair (.ptr _) (.sl e)=>.selfp b::Cl (.sl e)
 |_=>Cl g else Cl g
def Ea (l:List AV):Bool:=l.all fun a=>!a.isSelf
def Bu (st:St) (o:Oper) (K:AV->Al->Option ρ):Option ρ:=
 match o.op with
 |.alloc t=>match E.ti t with
  |some { gt:=some g,.. }=>K (.ptr st.heap.length 0 0) (st.heap++[some (.cells (JV st.heap.length t g))])
  |_=>none
 |.box t x=>match E.ti t with
  |some i=>
   let v:=st.ev x
   if v.plain||v.isA then
    if v.cellsOf.length=i.size/\Ea v.cellsOf=true then K (.ptr st.heap.length 0 0) (st.heap++[some (.cells v.cellsOf)]) else none
   else none
  |none=>none
 |.store t a x=>match E.ti t with
  |some i=>
   let v:=st.ev x
   if v.plain||v.isA then
    if v.cellsOf.length=i.size then
     match st.ev a with
     |.ptr b j k=>match st.heap[b]? with
      |some (some (.cells l))=>if j=0/\k+i.size<=l.length/\Ea v.cellsOf=true then K .undef (st.heap.set b (some (.cells (l.take k++v.cellsOf++l.drop (k+i.size))))) else none
      |some (some (.typed e l))=>
       let cs:=AS e (l.getD j e.zero)
       if k+i.size<=cs.length then
        match decC [] e (cs.take k++v.cellsOf++cs.drop (k+i.size)) with
        |some (y,[],_)=>Ab (decide (j < l.length)) (K .undef (st.heap.set b (some (.typed e (l.set j y)))))
        |_=>none
       else none
      |_=>none
     |_=>none
    else none
   else none
  |none=>none
 |.makeSlice t l c=>match E.ti t with
  |some { d:=.slice e,.. }=>match E.ti e with
   |some { gt:=some g,bytes,.. }=>match st.ev l,st.ev c with
    |.int _ a,.int _ b=>if bytes<=1024/\u8Ok g e=true then
     Ab (decide (0<=a)&&decide (a<=b)&&decide (b<=As)) (K (.vw st.heap.length) (st.heap++[some (.typed g (List.replicate a.toNat g.zero))]))
     else none
    |_,_=>none
   |_=>none
  |_=>none
 |.makeMap t r=>match E.ti t with
  |some { d:=.map k e,.. }=>match E.ti k,E.ti e,r with
   |some { d:=.str,.. },some { gt:=some g,.. },none=>K (.mp st.heap.length) (st.heap++[some (.mapr g [])])
   |_,_,_=>none
  |_=>none
 |.mapUpdate t m k v=>match E.ti t,st.ev m,st.ev k with
  |some { d:=.map kt e,.. },.mp b,.str s=>match E.ti kt,E.ti e with
   |some { d:=.str,.. },some { gt:=some g,.. }=>match st.heap[b]?,Dv st.heap g (st.ev v) with
    |some (some (.mapr g' l)),some (x,[])=>if h:g'=g then K .undef (st.heap.set b (some (.mapr g (Bw s x (h ▸ l:List (qBs×g.ty)))))) else none
    |_,_=>none
   |_,_=>none
  |_,_,_=>none
 |.call { callee:=.builtin .append,args,argTypes }=>match args.toList,argTypes.toList with
  |[s,x],[ts,tx]=>match E.ti ts,E.ti tx with
   |some { d:=.slice e,.. },some { d:=.slice _,.. }=>match E.ti e with
    |some { gt:=some g,bytes,.. }=>if bytes<=1024/\u8Ok g e=true then
     match decC st.heap (.sl g) [st.ev x] with
     |some (l',[],_)=>E1 st.heap g (st.ev s) l' K
     |_=>none
     else none
    |_=>none
   |some { d:=.slice e,.. },some { d:=.str,.. }=>match E.ti e,st.ev x with
    |some { gt:=some (.int .u8),bytes,.. },.str t=>if bytes<=1024/\u8Ok (.int .u8) e=true then E1 st.heap (.int .u8) (st.ev s) (t.map fun c=>((c.toNat:Nat):Int)) K else none
    |_,_=>none
   |_,_=>none
  |_,_=>none
 |.call { callee:=.value f,args,.. }=>match st.ev f with
  |.fn k caps=>match Ek E.bk k with
   |some kb=>match args.toList,caps with
    |[x],[]=>if (st.ev x).isSl=true then K (.fn kb [.ptr st.heap.length 0 0]) (st.heap++[some (.cells [st.ev x])]) else none
    |_,_=>none
   |none=>match E.fn k (args.toList.map st.ev++caps) with
   |some c=>DT st.heap c (args.toList.map st.ev++caps) K
   |none=>none
  |_=>none
 |_=>none
def ACf:Operand->Bool
 |.func k=>match Ek E.bk k with
  |some _=>false
  |none=>match E.fn k [] with
   |some c=>!(c.ps.all PK.isVal&&c.rk.all PK.isVal)
   |none=>false
 |_=>false
def Op.eff (dr:Bool):Op->Bool
 |.alloc _ | .box .. | .store .. | .makeSlice .. | .makeMap .. | .mapUpdate ..=>true
 |.call { callee:=.builtin .append,.. }=>true
 |.call { callee:=.value f,.. }=>!dr||ACf E f
 |_=>false
def Kq (dr:Bool) (o:Oper):Bool:=match o.op,o.dst with
 |.buildSlice ..,some t=>!dr&&E.lit.contains t
 |_,_=>false
def Y1 (H:Al) (g:GT) (l:List g.ty) (K:AV->Al->Option ρ):List Nat->Option ρ
 |[]=>K (.vw H.length) (H++[some (.typed g l)])
 |b::m=>K (.sl g true l) (killAll (b::m) H)
def Kk (st:St) (o:Oper) (K:AV->Al->Option ρ):Option ρ:=
 match o.op with
 |.buildSlice t len parts=>match E.ti t with
  |some { d:=.slice e,.. }=>match E.ti e with
   |some { gt:=some g,.. }=>match Di st.heap g 0 (parts.toList.map fun p=>(p.1,st.ev p.2)) with
    |some (l,m)=>if l.length=len/\len * g.cells<=2 ^ 24/\u8Ok g e=true then Y1 st.heap g l K m else none
    |none=>none
   |_=>none
  |_=>none
 |_=>none
def JS:Op->Bool
 |.load .. | .indexAddr .. | .slice .. | .lookup .. | .convert .. | .buildSlice ..=>true
 |.call { callee:=.builtin .len,.. }=>true
 |.call { callee:=.value _,.. }=>true
 |_=>false
def Cx (a:AV):List Nat:=match a.row with
 |some b=>[b]
 |none=>[]
def Bn (st:St) (o:Oper):Option (List Nat):=match o.op with
 |.load _ x=>some (Cx (st.ev x))
 |.indexAddr _ x _=>some (Cx (st.ev x))
 |.slice _ x _ _ _=>some (Cx (st.ev x))
 |.lookup _ x _ _=>some (Cx (st.ev x))
 |.convert _ _ x=>some (Cx (st.ev x))
 |.buildSlice ..=>some []
 |.call { callee:=.builtin .len,args,.. }=>match args.toList with
  |[x]=>some (Cx (st.ev x))
  |_=>none
 |.call { callee:=.value f,args,.. }=>match st.ev f with
  |.fn k caps=>match E.fn k (args.toList.map st.ev++caps) with
   |some c=>match AI st.heap [] c.ps (args.toList.map st.ev++caps) with
    |some (_,_,_,m)=>some m
    |none=>none
   |none=>none
  |_=>none
 |_=>none
def E_ (o:Oper):Nat:=match o.dst,o.op with
 |some d,_=>d
 |none,.store _ (.tmp a) _=>a+100000
 |none,.mapUpdate _ (.tmp a) _ _=>a+100000
 |_,_=>0
def F5 (pr:Option (List Nat×List Nat)) (st:St) (o:Oper):Bool:=match pr with
 |some (l,ex)=>ex.contains (E_ o)||match Bn E st o with
  |some F=>F.all fun b=>l.contains b
  |none=>!JS o.op
 |none=>true
def Cf:List PK->List AV->List Nat
 |.box _::ps,.ptr b 0 0::azs=>b::Cf ps azs
 |.obj (.box _)::ps,.ptr b 0 0::azs=>b::Cf ps azs
 |_::ps,_::azs=>Cf ps azs
 |_,_=>[]
def Gx (pr:Option (List Nat×List Nat)) (st:St) (o:Oper):Bool:=match pr with
 |none=>true
 |some (l,ex)=>ex.contains (E_ o)||l.all (fun b=>decide (b < st.heap.length))&&match o.op with
  |.call { callee:=.value (.func k),args,.. }=>match E.fn k (args.toList.map st.ev) with
   |some c=>match AI (lift c.ps (args.toList.map st.ev) st.heap).2 [] c.ps (lift c.ps (args.toList.map st.ev) st.heap).1 with
    |some (_,s,t,m)=>Ct l (Cf c.ps (args.toList.map st.ev))&&Ct l (AD s)&&Ct l (AD t)&&Ct l m
    |none=>false
   |none=>false
  |.call { callee:=.builtin .append,args,.. }=>match args.toList with
   |[s,_]=>Ct l (Cx (st.ev s))
   |_=>false
  |.store _ a _=>Ct l (Cx (st.ev a))
  |.mapUpdate _ m _ _=>Ct l (Cx (st.ev m))
  |.alloc _ | .box .. | .makeSlice .. | .makeMap ..=>true
  |_=>false
def By (dr:Bool) (pr:Option (List Nat×List Nat)) (st:St) (o:Oper) (K:AV->Al->Option ρ):Option ρ:=
 if Op.eff E dr o.op then Ab (!dr||Gx E pr st o) (Bu E st o K) else if Kq E dr o then Kk E st o K else Ab (!dr||F5 E pr st o) (AW E st o (fun v=>K v st.heap))
def CM (dr:Bool) (pr:Option (List Nat×List Nat)) (ops:Array Oper):List Oper->St->(St->Option ρ)->Option ρ
 |[],st,K=>K st
 |o::r,st,K=>
  match o.guard with
  |none=>By E dr pr st o fun v H=>CM dr pr ops r ({ st with heap:=H }.put o.dst v) K
  |some (j,want)=>
   match (ops[j]?).bind (·.dst) with
   |none=>none
   |some d=>
    match st.tmps[d]? with
    |some (.bool g)=>
     cond g
      (cond want (By E dr pr (st.put (some d) (.bool true)) o fun v H=>CM dr pr ops r ({ st.put (some d) (.bool true) with heap:=H }.put o.dst v) K)
       (CM dr pr ops r ((st.put (some d) (.bool true)).put o.dst .undef) K))
      (cond want (CM dr pr ops r ((st.put (some d) (.bool false)).put o.dst .undef) K)
       (By E dr pr (st.put (some d) (.bool false)) o fun v H=>CM dr pr ops r ({ st.put (some d) (.bool false) with heap:=H }.put o.dst v) K))
    |some .undef=>CM dr pr ops r (st.put o.dst .undef) K
    |_=>none
def DC:Op->Bool
 |.move _ | .assign _ | .pick .. | .nilCheck _ | .binOp .. | .unOp .. | .makeFunc .. | .fieldAddr .. | .field .. | .index .. | .extract .. | .build ..=>true
 |.convert src _ _=>match E.ti src with
  |some { d:=.slice _,.. }=>false
  |_=>true
 |.slice t _ _ _ _=>match E.ti t with
  |some { d:=.str,.. }=>true
  |_=>false
 |.call { callee:=.builtin .max,.. } | .call { callee:=.builtin .min,.. }=>true
 |_=>false
def If (pr:Option (List Nat)) (x y:Oper):Bool:=DC E y.op||match pr with
 |some ex=>JS y.op&&!Op.eff E true y.op&&!ex.contains (E_ x)&&!ex.contains (E_ y)
 |none=>false
def Dw (pr:Option (List Nat)) (ops:Array Oper) (x y:Oper):Bool:=!(x.apart ops y)||(Op.eff E true x.op&&!If E pr x y)||(Op.eff E true y.op&&!If E pr y x)
def FQ:List Oper->List Nat->List Nat
 |[],acc=>acc
 |o::r,acc=>FQ r (acc++[o.after.toList.foldl (fun s e=>if Region.binds .any e then s||| (2 ^ e.on||| acc.getD e.on 0) else s) 0])
def GL (bad:Nat->Nat->Bool) (pr:Option (List Nat)) (ops:Array Oper):Bool:=
 let b:=FQ ops.toList []
 (List.range ops.size).all fun j=>
  match ops[j]? with
  |some y=>y.after.toList.all (fun e=>!Region.binds .any e||decide (e.on < j))&&(List.range j).all fun i=>
   match ops[i]? with
   |some x=>!Dw E pr ops x y||(b.getD j 0).testBit i||bad i j
   |none=>false
  |none=>false
def GW:List Nat->List AV->List AV->List AV
 |t::ts,a::azs,l=>GW ts azs (l.set t a)
 |_,_,l=>l
def Ex.same (a b:Ex):Bool:=decide (a=b)
def Jm {ρ:Type} (x:Ex):List Ex->(Ex->Option ρ)->Option ρ
 |[],_=>none
 |e::es,k=>cond (x.same e) (k e) (Jm x es k)
structure Ann where
 n:Nat
 slots:List Nat
 ps:List PK
 og:List Nat
 fz:List Nat
def EI:List Nat->St->St
 |[],st=>st
 |t::ts,st=>match st.tmps.getD t .any with
  |.vw b=>match st.heap[b]? with
   |some (some (.typed e l))=>EI ts ({ st with heap:=st.heap.set b none }.put (some t) (.sl e false l))
   |_=>EI ts st
  |_=>EI ts st
def C1 (A:Ann) (st:St):St:=
 let r:=lift A.ps (A.slots.map fun t=>st.tmps.getD t .any) st.heap
 { st with tmps:=GW A.slots r.1 st.tmps,heap:=r.2 }
def C' (A:Ann) (st:St):Option (Au A.ps):=
 match AI st.heap [] A.ps (A.slots.map fun t=>st.tmps.getD t .any) with
 |some (x,s,t,m)=>
  if st.tmps.length=A.n/\(Cj (AD (s++t))&&Ct (AD (s++t)) m&&decide (st.orig=A.og.map fun i=>(AD (s++t)).getD i st.heap.length)&&A.og.all fun i=>((s++t).getD i .any).whole)=true then some x else none
 |none=>none
def encSt (A:Ann) (x:Au A.ps):St:=⟨GW A.slots (AY A.ps x 0 (cntK A.ps)) (List.replicate A.n .any),AX A.ps x,A.og⟩
def LX:Nat->Nat->Bool:=fun _ _=>false
def OE (draw:Bool) (ops:Array Oper):Bool:=draw&&ops.toList.any (fun o=>match o.op with
 |.alloc _=>true
 |_=>false)&&decide (2<=(ops.toList.filter fun o=>match o.op with
 |.alloc _=>true
 |.call { callee:=.value _,.. }=>true
 |_=>false).length)
def FY:Code->Nat
 |.region id _ _=>id
 |.seq a b=>match a with
  |.skip=>FY b
  |a=>FY a
 |.block _ a=>FY a
 |.loop a=>FY a
 |.rangeFunc _ _ a _=>FY a
 |_=>0
def Ck:Code->Nat
 |.region id _ _=>id+1000000
 |c=>FY c
def He (id:Nat) (st:St):Option (List Nat×List Nat):=(Nv E.pr id).map fun ts=>(AD (ts.1.map fun t=>st.tmps.getD t .any),ts.2)
def St.refine (st:St) (c:Operand) (b:Bool):St:=match c with
 |.tmp t=>st.put (some t) (.bool b)
 |_=>st
def run:Code->St->(Ex->St->Option ρ)->Option ρ
 |.skip,st,K=>K .normal st
 |.region id ops draw,st,K=>if draw&&!GL E LX ((He E id st).map (·.2)) ops then (if OE draw ops then match E.lp (id+1000000) with
  |some L=>L.f ρ st K
  |none=>none else none) else CM E draw (He E id st) ops ops.toList st (K .normal)
 |.seq a b,st,K=>run a st fun ex st'=>match ex with
  |.normal=>run b st' K
  |e=>K e st'
 |.cond c a b,st,K=>match st.ev c with
  |.bool t=>cond t (run a (st.refine c true) K) (run b (st.refine c false) K)
  |_=>none
 |.block id a,st,K=>run a st fun ex st'=>match ex with
  |.exit id'=>if id'=id then K .normal st' else K (.exit id') st'
  |e=>K e st'
 |.exit id,st,K=>K (.exit id) st
 |.ret,st,K=>K .ret st
 |.loop a,st,K=>match E.lp (FY a) with
  |some L=>L.f ρ st K
  |none=>none
 |.rangeFunc _ _ a _,st,K=>match E.lp (FY a) with
  |some L=>L.f ρ st K
  |none=>none
 |_,_,_=>none
end
end Go.AM
end
section
namespace Go.AM
open Go.RowKit (Below)
structure Ext (w w':World):Prop where
 os:w'.os=w.os
 tape:w'.tape=w.tape
 output:w'.output=w.output
 size:w.heap.size<=w'.heap.size
 block:∀ B,B < w.heap.size->w'.heap[B]?=w.heap[B]?
theorem Ext.refl (w:World):Ext w w:=⟨rfl,rfl,rfl,Nat.le_refl _,fun _ _=>rfl⟩
theorem Ext.of_below {w w':World} (h:Below w.heap.size w w'):Ext w w':=⟨h.os,h.tape,h.output,h.size,h.block⟩
theorem Ext.alloc (w:World) (o:Obj):Ext w (w.alloc o):=⟨rfl,rfl,rfl,by simp,fun B h=>Below.heap_alloc w o B h⟩
theorem Ext.drew (w:World):Ext w w.drew:=⟨rfl,rfl,rfl,Nat.le_refl _,fun _ _=>rfl⟩
theorem Ext.trans {a b c:World} (h:Ext a b) (k:Ext b c):Ext a c:=
 ⟨k.os.trans h.os,k.tape.trans h.tape,k.output.trans h.output,Nat.le_trans h.size k.size,fun B hB=>(k.block B (Nat.lt_of_lt_of_le hB h.size)).trans (h.block B hB)⟩
theorem DW {w w':World} {I I':Nat->Prop} {β β':Nat->Option Place} {p:Place} (hm:Mono (Ag w) I (Ag w') I') (hb:∀ b q,β b=some q->β' b=some q)
 (hw:p.backed=true->w'.heap[p.B]?=w.heap[p.B]?):∀ (r:Row),BB w I β p r->BB w' I' β' p r
 |.typed e l,h=>by
  obtain ⟨h1,h2,h3,h4⟩:=h
  refine ⟨h1,h2,h3,fun hk=>?_⟩
  obtain ⟨cs,ty,a1,a2,a3⟩:=h4 hk
  refine ⟨cs,ty,(hw hk).trans a1,a2,fun i x hi=>?_⟩
  obtain ⟨us,b1,b2,b3⟩:=a3 i x hi
  exact ⟨us,b1,b2,relC_mono hm e x us b3⟩
 |.cells l,h=>by
  obtain ⟨h1,h2,h3,cs,ty,a1,a2,us,a3,a4,a5,a6⟩:=h
  exact ⟨h1,h2,h3,cs,ty,(hw h3).trans a1,a2,us,a3,a4,relL_mono hm hb l us a5,a6⟩
 |.mapr t l,h=>by
  obtain ⟨h1,es,c,h2,h3,h4⟩:=h
  refine ⟨h1,es,c,(hw h1).trans h2,h3,fun i x hi=>?_⟩
  obtain ⟨e,kb,e1,e2,e3,e4⟩:=h4 i x hi
  exact ⟨e,kb,e1,e2,e3,GR hm e4⟩
theorem GX {w w':World} {I I':Nat->Prop} (hi:∀ B,I B->I' B) (hw:∀ B,I B->w'.heap[B]?=w.heap[B]?):Mono (Ag w) I (Ag w') I':=
 ⟨hi,fun B hB o v h=>by rw[Px (hw B hB)];exact h⟩
theorem Frm.ext {Γ:Base} {w w':World} (h:Frm Γ w) (he:Ext w w'):Frm Γ w':=
 ⟨he.os.trans h.os,he.tape.trans h.tape,he.output.trans h.output,Nat.le_trans h.size he.size,fun B hB hl=>(he.block B (Nat.lt_of_lt_of_le hB h.size)).trans (h.block B hB hl)⟩
theorem Ra {Γ:Base} {w w':World} {β:Nat->Option Place} {H:Al} (he:Ext w w') {B:Nat} (h:Γ.after w β H B):Γ.after w' β H B:=
 ⟨Nat.lt_of_lt_of_le h.1 he.size,h.2.1,h.2.2⟩
theorem Kv {Γ:Base} {w w':World} {β:Nat->Option Place} {H:Al} (he:Ext w w'):Mono (Ag w) (Γ.after w β H) (Ag w') (Γ.after w' β H):=
 GX (fun _ h=>Ra he h) fun B h=>he.block B h.1
theorem CH.congr {w w1 w2:World} {p:Place} (h:CH w w1 p) (e:w2.heap[p.B]?=w1.heap[p.B]?):CH w w2 p:=by
 rcases h with ⟨es,c,es',c',h1,h2⟩ | ⟨cs,cs',ty,h1,h2,h3⟩
 ·exact .inl ⟨es,c,es',c',h1,e.trans h2⟩
 ·exact .inr ⟨cs,cs',ty,h1,e.trans h2,h3⟩
theorem CH.trans {w w1 w2:World} {p:Place} (h:CH w w1 p) (k:CH w1 w2 p):CH w w2 p:=by
 rcases h with ⟨es,c,es',c',h1,h2⟩ | ⟨cs,cs',ty,h1,h2,h3,h4⟩
 ·rcases k with ⟨fs,d,fs',d',k1,k2⟩ | ⟨ds,ds',ty',k1,k2,k3,k4⟩
  ·exact .inl ⟨es,c,fs',d',h1,k2⟩
  ·rw[h2] at k1;cases k1
 ·rcases k with ⟨fs,d,fs',d',k1,k2⟩ | ⟨ds,ds',ty',k1,k2,k3,k4⟩
  ·rw[h2] at k1;cases k1
  ·rw[h2] at k1;cases k1
   exact .inr ⟨cs,ds',ty,h1,k2,k3.trans h3,fun o ho=>(k4 o ho).trans (h4 o ho)⟩
theorem CH.ne_deferred {w w1:World} {p:Place} (h:CH w w1 p) {x:Option (List Deferred)}:w.heap[p.B]?≠some (.deferred x):=by
 rcases h with ⟨_,_,_,_,h1,_⟩ | ⟨_,_,_,h1,_⟩<;>rw[h1]<;>simp
theorem Ctx.live_obj {gb:Nat} {w:World} {I:Nat->Prop} {β:Nat->Option Place} {H:Al} (hc:Ctx gb w I β H) {B:Nat} (h:AR H β B):(∀ x,w.heap[B]?≠some (.deferred x))/\∀ x,w.heap[B]?≠some (.loop x):=by
 obtain ⟨b,r,p,hb,hp,hk,rfl⟩:=h
 obtain ⟨p',hp',_,hr⟩:=hc.rows b r hb
 rw[hp] at hp';cases hp'
 cases r with
 |typed e l=>obtain ⟨_,_,_,h⟩:=hr;obtain ⟨cs,ty,h1,_⟩:=h hk;rw[h1];simp
 |cells l=>obtain ⟨_,_,_,cs,ty,h1,_⟩:=hr;rw[h1];simp
 |mapr t l=>obtain ⟨_,es,c,h1,_⟩:=hr;rw[h1];simp
theorem SimB.ext {Γ:Base} {st:St} {a:Act} {w w':World} {β:Nat->Option Place} (h:SimB Γ st a w β) (he:Ext w w'):SimB Γ st a w' β:=by
 refine ⟨⟨fun b r hb=>?_,h.ctx.apart,fun B hB=>⟨hB.1,hB.2.2⟩,h.ctx.dom⟩,h.frm.ext he,h.len,fun t x hx=>?_,h.defers.keep fun D hD _=>he.block D hD,fun j b hb=>?_,h.gbw,h.low,h.own⟩
 ·obtain ⟨p,hp,hg,hr⟩:=h.ctx.rows b r hb
  refine ⟨p,hp,fun hk=>⟨(hg hk).1,Nat.lt_of_lt_of_le (hg hk).2 he.size⟩,DW (Kv he) (fun _ _ h=>h) (fun hk=>he.block _ (hg hk).2) r hr⟩
 ·obtain ⟨v,hv,hr⟩:=h.tmps t x hx
  exact ⟨v,hv,CS (Kv he) (fun _ _ h=>h) x v hr⟩
 ·obtain ⟨h1,h2,h3⟩:=h.orig j b hb
  refine ⟨h1,h2,fun r p hr hp hk=>(h3 r p hr hp hk).congr (he.block _ ?_)⟩
  obtain ⟨q,hq,hg,_⟩:=h.ctx.rows b r hr
  rw[hp] at hq;cases hq
  exact (hg hk).2
theorem VD (a:Act) (d:Option Tmp) (v:Value):(a.put d v).defers=a.defers:=by cases d<;>rfl
theorem LQ (st:St) (d:Option Tmp) (x:AV):(st.put d x).heap=st.heap:=by cases d<;>rfl
theorem XH (st:St) (d:Option Tmp) (x:AV):(st.put d x).orig=st.orig:=by cases d<;>rfl
theorem SimB.put {Γ:Base} {st:St} {a:Act} {w:World} {β:Nat->Option Place} (h:SimB Γ st a w β) (d:Option Tmp) {x:AV} {v:Value} (hv:RelV (Ag w) (Γ.after w β st.heap) β x v) :
 SimB Γ (st.put d x) (a.put d v) w β:=by
 refine ⟨by rw[LQ];exact h.ctx,h.frm,?_,fun t y hy=>?_,by rw[VD];exact h.defers,by rw[LQ,XH];exact h.orig,h.gbw,h.low,by rw[LQ];exact h.own⟩
 ·cases d<;>simp[St.put,Act.put,h.len]
 ·rw[LQ]
  cases d with
  |none=>exact h.tmps t y hy
  |some d=>
   simp only[St.put,List.getElem?_set] at hy
   simp only[Act.put,Array.getElem?_setIfInBounds]
   by_cases ht:d=t
   ·subst ht
    rw[if_pos rfl] at hy ⊢
    split at hy
    ·rename_i hl
     cases hy
     rw[if_pos (by have:=h.len;omega)]
     exact ⟨v,rfl,hv⟩
    ·cases hy
   ·rw[if_neg ht] at hy ⊢
    exact h.tmps t y hy
theorem G5 {Γ:Base} {st:St} {a:Act} {w:World} {β:Nat->Option Place} (h:SimB Γ st a w β) {w':World} (he:Ext w w') (r:Row) (p:Place)
 (hp:p.backed=true->w.heap.size<=p.B/\p.B < w'.heap.size)
 (hr:∀ β',(∀ b q,β b=some q->β' b=some q)->Mono (Ag w) (Γ.after w β st.heap) (Ag w') (Γ.after w' β' (st.heap++[some r]))->BB w' (Γ.after w' β' (st.heap++[some r])) β' p r) :
 ∃ β',SimB Γ { st with heap:=st.heap++[some r] } a w' β'/\β' st.heap.length=some p/\(∀ b q,β b=some q->β' b=some q)/\
  Mono (Ag w) (Γ.after w β st.heap) (Ag w') (Γ.after w' β' (st.heap++[some r])):=by
 let β':Nat->Option Place:=fun b=>if b=st.heap.length then some p else β b
 have hβ:∀ b q,β b=some q->β' b=some q:=by
  intro b q hq
  have:b≠st.heap.length:=fun e=>by rw[e,h.ctx.dom _ (Nat.le_refl _)] at hq;cases hq
  simp only[β',if_neg this];exact hq
 have hnew:β' st.heap.length=some p:=by simp[β']
 have hlive:∀ B,AR (st.heap++[some r]) β' B->AR st.heap β B\/(p.backed=true/\p.B=B):=by
  rintro B ⟨b,r',q,hb,hq,hk,rfl⟩
  by_cases e:b=st.heap.length
  ·subst e;rw[hnew] at hq;cases hq;exact .inr ⟨hk,rfl⟩
  ·have hlt:b < st.heap.length:=by
    rcases Nat.lt_or_ge b st.heap.length with h' | h'
    ·exact h'
    ·rw[qY9 h'] at hb
     cases hn:b - st.heap.length with
     |zero=>omega
     |succ n=>rw[hn] at hb;simp at hb
   rw[qY8 hlt] at hb
   simp only[β',if_neg e] at hq
   exact .inl ⟨b,r',q,hb,hq,hk,rfl⟩
 have himm:∀ B,Γ.after w β st.heap B->Γ.after w' β' (st.heap++[some r]) B:=fun B hB=>
  ⟨Nat.lt_of_lt_of_le hB.1 he.size,hB.2.1,fun hl=>by
   rcases hlive B hl with h1 | ⟨h1,rfl⟩
   ·exact hB.2.2 h1
   ·have:=(hp h1).1;have:=hB.1;omega⟩
 have hmono:Mono (Ag w) (Γ.after w β st.heap) (Ag w') (Γ.after w' β' (st.heap++[some r])):=GX himm fun B hB=>he.block B hB.1
 refine ⟨β',⟨⟨fun b r' hb=>?_,fun b b' r1 r2 p1 p2 hb hb' h1 h2 k1 k2 hB=>?_,fun B hB=>⟨hB.1,hB.2.2⟩,fun b hb=>?_⟩,h.frm.ext he,h.len,fun t x hx=>?_,h.defers.keep fun D hD _=>he.block D hD,fun j b hb=>?_,h.gbw,h.low,fun b r' q hb hq hk=>?_⟩,hnew,hβ,hmono⟩
 ·by_cases e:b=st.heap.length
  ·subst e
   rw[qY9 (Nat.le_refl _)] at hb
   simp at hb;subst hb
   exact ⟨p,hnew,fun hk=>⟨Nat.le_trans h.gbw (Nat.le_trans h.frm.size (hp hk).1),(hp hk).2⟩,hr β' hβ hmono⟩
  ·have hlt:b < st.heap.length:=by
    rcases Nat.lt_or_ge b st.heap.length with h' | h'
    ·exact h'
    ·rw[qY9 h'] at hb
     cases hn:b - st.heap.length with
     |zero=>omega
     |succ n=>rw[hn] at hb;simp at hb
   rw[qY8 hlt] at hb
   obtain ⟨q,hq,hg,hrr⟩:=h.ctx.rows b r' hb
   exact ⟨q,hβ b q hq,fun hk=>⟨(hg hk).1,Nat.lt_of_lt_of_le (hg hk).2 he.size⟩,DW hmono hβ (fun hk=>he.block _ (hg hk).2) r' hrr⟩
 ·have key:∀ (b:Nat) r1 p1,(st.heap++[some r])[b]?=some (some r1)->β' b=some p1->p1.backed=true->(b=st.heap.length/\p1=p)\/(b≠st.heap.length/\st.heap[b]?=some (some r1)/\β b=some p1/\p1.B < w.heap.size):=by
   intro b r1 p1 hb h1 k1
   by_cases e:b=st.heap.length
   ·subst e;rw[hnew] at h1;cases h1;exact .inl ⟨rfl,rfl⟩
   ·have hlt:b < st.heap.length:=by
     rcases Nat.lt_or_ge b st.heap.length with h' | h'
     ·exact h'
     ·rw[qY9 h'] at hb
      cases hn:b - st.heap.length with
      |zero=>omega
      |succ n=>rw[hn] at hb;simp at hb
    rw[qY8 hlt] at hb
    simp only[β',if_neg e] at h1
    obtain ⟨q,hq,hg,_⟩:=h.ctx.rows b r1 hb
    rw[h1] at hq;cases hq
    exact .inr ⟨e,hb,h1,(hg k1).2⟩
  rcases key b r1 p1 hb h1 k1 with ⟨e1,rfl⟩ | ⟨e1,c1,d1,l1⟩<;>rcases key b' r2 p2 hb' h2 k2 with ⟨e2,rfl⟩ | ⟨e2,c2,d2,l2⟩
  ·rw[e1,e2]
  ·have:=(hp k1).1;omega
  ·have:=(hp k2).1;omega
  ·exact h.ctx.apart b b' r1 r2 p1 p2 c1 c2 d1 d2 k1 k2 hB
 ·simp only[qZ6,List.length_singleton] at hb
  simp only[β',if_neg (by omega:b≠st.heap.length)]
  exact h.ctx.dom b (by omega)
 ·obtain ⟨v,hv,hrel⟩:=h.tmps t x hx
  exact ⟨v,hv,CS hmono hβ x v hrel⟩
 ·obtain ⟨h1,hlt,h3⟩:=h.orig j b hb
  have hbb:β' b=β b:=by simp only[β',if_neg (by omega:b≠st.heap.length)]
  refine ⟨hbb.trans h1,by simp;omega,fun r' q hr' hq hk=>?_⟩
  rw[qY8 hlt] at hr'
  rw[hbb] at hq
  obtain ⟨q',hq',hg,_⟩:=h.ctx.rows b r' hr'
  rw[hq] at hq';cases hq'
  exact (h3 r' q hr' hq hk).congr (he.block _ (hg hk).2)
 ·by_cases e:b=st.heap.length
  ·subst e;rw[hnew] at hq;cases hq;exact .inl (Nat.le_trans h.frm.size (hp hk).1)
  ·have hlt:b < st.heap.length:=by
    rcases Nat.lt_or_ge b st.heap.length with h' | h'
    ·exact h'
    ·rw[qY9 h'] at hb
     cases hn:b - st.heap.length with
     |zero=>omega
     |succ n=>rw[hn] at hb;simp at hb
   rw[qY8 hlt] at hb
   simp only[β',if_neg e] at hq
   exact h.own b r' q hb hq hk
theorem MR {Γ:Base} {st:St} {a:Act} {w:World} {β:Nat->Option Place} (h:SimB Γ st a w β) {b:Nat} {r0 r:Row} (hb:st.heap[b]?=some (some r0)) {p:Place} (hp:β b=some p) (hk:p.backed=true) {w':World}
 (h1:w'.os=w.os) (h2:w'.tape=w.tape) (h3:w'.output=w.output) (h4:w'.heap.size=w.heap.size) (h5:∀ B,B≠p.B->w'.heap[B]?=w.heap[B]?)
 (hout:CH w w' p) (hr:BB w' (Γ.after w' β (st.heap.set b (some r))) β p r) :
 SimB Γ { st with heap:=st.heap.set b (some r) } a w' β:=by
 have hbl:b < st.heap.length:=(List.getElem?_eq_some_iff.1 hb).1
 have hget:∀ (b':Nat),(st.heap.set b (some r))[b']?=if b=b' then some (some r) else st.heap[b']?:=by
  intro b';rw[List.getElem?_set];split<;>simp_all
 have hliveE:∀ B,AR (st.heap.set b (some r)) β B ↔ AR st.heap β B:=by
  intro B;constructor
  ·rintro ⟨b',r',q,hb',hq⟩
   rw[hget] at hb'
   split at hb'
   ·rename_i e;subst e;exact ⟨b,r0,q,hb,hq⟩
   ·exact ⟨b',r',q,hb',hq⟩
  ·rintro ⟨b',r',q,hb',hq⟩
   by_cases e:b=b'
   ·subst e;exact ⟨b,r,q,by rw[hget,if_pos rfl],hq⟩
   ·exact ⟨b',r',q,by rw[hget,if_neg e];exact hb',hq⟩
 have himm:∀ B,Γ.after w β st.heap B->Γ.after w' β (st.heap.set b (some r)) B:=fun B hB=>
  ⟨by rw[h4];exact hB.1,hB.2.1,fun hl=>hB.2.2 ((hliveE B).1 hl)⟩
 have hlp:AR st.heap β p.B:=⟨b,r0,p,hb,hp,hk,rfl⟩
 have hmono:Mono (Ag w) (Γ.after w β st.heap) (Ag w') (Γ.after w' β (st.heap.set b (some r))):=
  GX himm fun B hB=>h5 B fun e=>hB.2.2 (e ▸ hlp)
 refine ⟨⟨fun b' r' hb'=>?_,fun b1 b2 r1 r2 p1 p2 hb1 hb2 hp1 hp2 k1 k2 hB=>?_,fun B hB=>⟨hB.1,hB.2.2⟩,fun b' hb'=>h.ctx.dom b' (by simpa using hb')⟩,?_,h.len,fun t x hx=>?_,h.defers.keep fun D _ hD=>h5 D (fun e=>hout.ne_deferred (e ▸ hD)),fun j b' hb'=>?_,h.gbw,h.low,fun b' r' q hb' hq hk'=>?_⟩
 ·rw[hget] at hb'
  split at hb'
  ·rename_i e;subst e
   cases hb'
   obtain ⟨q,hq,hg,_⟩:=h.ctx.rows b r0 hb
   rw[hp] at hq;cases hq
   exact ⟨p,hp,fun hk=>by rw[h4];exact hg hk,hr⟩
  ·rename_i e
   obtain ⟨q,hq,hg,hrr⟩:=h.ctx.rows b' r' hb'
   exact ⟨q,hq,fun hk=>by rw[h4];exact hg hk,DW hmono (fun _ _ h=>h) (fun hk'=>h5 _ fun eB=>e (h.ctx.apart b b' r0 r' p q hb hb' hp hq hk hk' eB.symm)) r' hrr⟩
 ·rw[hget] at hb1 hb2
  have g1:∃ r,st.heap[b1]?=some (some r):=by
   split at hb1
   ·rename_i e;subst e;exact ⟨r0,hb⟩
   ·exact ⟨_,hb1⟩
  have g2:∃ r,st.heap[b2]?=some (some r):=by
   split at hb2
   ·rename_i e;subst e;exact ⟨r0,hb⟩
   ·exact ⟨_,hb2⟩
  obtain ⟨_,g1⟩:=g1;obtain ⟨_,g2⟩:=g2
  exact h.ctx.apart b1 b2 _ _ p1 p2 g1 g2 hp1 hp2 k1 k2 hB
 ·refine ⟨h1.trans h.frm.os,h2.trans h.frm.tape,h3.trans h.frm.output,by rw[h4];exact h.frm.size,fun B hB hl=>?_⟩
  by_cases e:B=p.B
  ·subst e
   rcases h.own b r0 p hb hp hk with h' | h'
   ·omega
   ·exact absurd h' hl
  ·rw[h5 B e];exact h.frm.block B hB hl
 ·obtain ⟨v,hv,hrel⟩:=h.tmps t x hx
  exact ⟨v,hv,CS hmono (fun _ _ h=>h) x v hrel⟩
 ·obtain ⟨g1,g2,g3⟩:=h.orig j b' hb'
  refine ⟨g1,by simpa using g2,fun r' q hr' hq hk'=>?_⟩
  rw[hget] at hr'
  split at hr'
  ·rename_i e;subst e
   rw[hp] at hq;cases hq
   exact (g3 r0 p hb hp hk).trans hout
  ·rename_i e
   exact (g3 r' q hr' hq hk').congr (h5 _ fun eB=>e (h.ctx.apart b b' r0 r' p q hb hr' hp hq hk hk' eB.symm))
 ·rw[hget] at hb'
  split at hb'
  ·rename_i e;subst e;exact h.own b r0 q hb hq hk'
  ·exact h.own b' r' q hb' hq hk'
theorem Z2 {Γ:Base} {st:St} {a:Act} {w:World} {β:Nat->Option Place} (h:SimB Γ st a w β) (b:Nat) :
 SimB Γ { st with heap:=st.heap.set b none } a w β/\Mono (Ag w) (Bx (Γ.after w β st.heap) β [b]) (Ag w) (Γ.after w β (st.heap.set b none))\/(∀ r,st.heap[b]?≠some (some r)):=by
 by_cases hal:∃ r,st.heap[b]?=some (some r)
 ·obtain ⟨r0,hb⟩:=hal
  refine .inl ?_
  have hbl:b < st.heap.length:=(List.getElem?_eq_some_iff.1 hb).1
  have hget:∀ (b':Nat) r,(st.heap.set b none)[b']?=some (some r)->b≠b'/\st.heap[b']?=some (some r):=by
   intro b' r hr
   rw[List.getElem?_set] at hr
   split at hr
   ·cases hr
   ·rename_i e;exact ⟨e,hr⟩
  have hlive:∀ B,AR (st.heap.set b none) β B->AR st.heap β B:=by
   rintro B ⟨b',r',q,hb',hq⟩
   exact ⟨b',r',q,(hget b' r' hb').2,hq⟩
  have himm:∀ B,Bx (Γ.after w β st.heap) β [b] B->Γ.after w β (st.heap.set b none) B:=by
   rintro B (hB | ⟨b',hb',p,hp,hk,rfl⟩)
   ·exact ⟨hB.1,hB.2.1,fun hl=>hB.2.2 (hlive B hl)⟩
   ·simp at hb';subst hb'
    obtain ⟨q,hq,hg,_⟩:=h.ctx.rows b' r0 hb
    rw[hp] at hq;cases hq
    refine ⟨(hg hk).2,?_,?_⟩
    ·rcases h.own b' r0 p hb hp hk with h' | h'
     ·exact .inr (.inr h')
     ·exact .inr (.inl h')
    ·rintro ⟨b2,r2,q,hb2,hq2,hk2,hB2⟩
     obtain ⟨e2,g2⟩:=hget b2 r2 hb2
     exact e2 (h.ctx.apart b' b2 r0 r2 p q hb g2 hp hq2 hk hk2 hB2.symm)
  have hmono:Mono (Ag w) (Γ.after w β st.heap) (Ag w) (Γ.after w β (st.heap.set b none)):=⟨fun B hB=>himm B (.inl hB),fun _ _ _ _ h=>h⟩
  refine ⟨⟨⟨fun b' r' hb'=>?_,fun b1 b2 r1 r2 p1 p2 hb1 hb2 hp1 hp2 k1 k2 hB=>?_,fun B hB=>⟨hB.1,hB.2.2⟩,fun b' hb'=>h.ctx.dom b' (by simpa using hb')⟩,h.frm,h.len,fun t x hx=>?_,h.defers,fun j b' hb'=>?_,h.gbw,h.low,fun b' r' q hb' hq hk'=>?_⟩,⟨himm,fun _ _ _ _ h=>h⟩⟩
  ·obtain ⟨q,hq,hg,hrr⟩:=h.ctx.rows b' r' (hget b' r' hb').2
   exact ⟨q,hq,hg,DW hmono (fun _ _ h=>h) (fun _=>rfl) r' hrr⟩
  ·exact h.ctx.apart b1 b2 _ _ p1 p2 (hget _ _ hb1).2 (hget _ _ hb2).2 hp1 hp2 k1 k2 hB
  ·obtain ⟨v,hv,hrel⟩:=h.tmps t x hx
   exact ⟨v,hv,CS hmono (fun _ _ h=>h) x v hrel⟩
  ·obtain ⟨g1,g2,g3⟩:=h.orig j b' hb'
   exact ⟨g1,by simpa using g2,fun r' q hr' hq hk'=>g3 r' q (hget _ _ hr').2 hq hk'⟩
  ·exact h.own b' r' q (hget _ _ hb').2 hq hk'
 ·exact .inr fun r hr=>hal ⟨r,hr⟩
theorem ACT {Γ:Base} {st:St} {a:Act} {w:World} {β:Nat->Option Place} (h:SimB Γ st a w β) {b:Nat} {r0:Row} (hb:st.heap[b]?=some (some r0)) {p:Place} (hp:β b=some p) (hk:p.backed=true) {w':World}
 (h1:w'.os=w.os) (h2:w'.tape=w.tape) (h3:w'.output=w.output) (h4:w'.heap.size=w.heap.size) (h5:∀ B,B≠p.B->w'.heap[B]?=w.heap[B]?)
 (r:Row) (p':Place) (hk':p'.backed=true) (hB':p'.B=p.B)
 (hr:∀ β',(∀ c q,β c=some q->β' c=some q)->Mono (Ag w) (Γ.after w β st.heap) (Ag w') (Γ.after w' β' (st.heap.set b none++[some r]))->BB w' (Γ.after w' β' (st.heap.set b none++[some r])) β' p' r) :
 ∃ β',SimB Γ { st with heap:=st.heap.set b none++[some r] } a w' β'/\β' st.heap.length=some p'/\(∀ b q,β b=some q->β' b=some q):=by
 let β':Nat->Option Place:=fun c=>if c=st.heap.length then some p' else β c
 have hbl:b < st.heap.length:=(List.getElem?_eq_some_iff.1 hb).1
 have hβ:∀ c q,β c=some q->β' c=some q:=by
  intro c q hq
  have:c≠st.heap.length:=fun e=>by rw[e,h.ctx.dom _ (Nat.le_refl _)] at hq;cases hq
  simp only[β',if_neg this];exact hq
 have hnew:β' st.heap.length=some p':=by simp[β']
 have key:∀ (c:Nat) r1,(st.heap.set b none++[some r])[c]?=some (some r1)->(c=st.heap.length/\r1=r)\/(c≠st.heap.length/\c≠b/\st.heap[c]?=some (some r1)):=by
  intro c r1 hc
  by_cases e:c=st.heap.length
  ·subst e
   rw[qY9 (by simp)] at hc
   simp at hc;exact .inl ⟨rfl,hc.symm⟩
  ·have hlt:c < st.heap.length:=by
    rcases Nat.lt_or_ge c st.heap.length with h' | h'
    ·exact h'
    ·rw[qY9 (by simpa using h')] at hc
     cases hn:c - st.heap.length with
     |zero=>omega
     |succ n=>rw[List.length_set,hn] at hc;simp at hc
   rw[qY8 (by simpa using hlt),List.getElem?_set] at hc
   split at hc
   ·cases hc
   ·rename_i eb;exact .inr ⟨e,fun e'=>eb e'.symm,hc⟩
 have keyp:∀ (c:Nat) q,c≠st.heap.length->β' c=some q->β c=some q:=by
  intro c q hc hq;simp only[β',if_neg hc] at hq;exact hq
 have hlp:AR st.heap β p.B:=⟨b,r0,p,hb,hp,hk,rfl⟩
 have hlive:∀ B,AR (st.heap.set b none++[some r]) β' B->AR st.heap β B:=by
  rintro B ⟨c,r',q,hc,hq,hkq,rfl⟩
  rcases key c r' hc with ⟨rfl,rfl⟩ | ⟨e1,e2,hc'⟩
  ·rw[hnew] at hq;cases hq;rw[hB'];exact hlp
  ·exact ⟨c,r',q,hc',keyp c q e1 hq,hkq,rfl⟩
 have himm:∀ B,Γ.after w β st.heap B->Γ.after w' β' (st.heap.set b none++[some r]) B:=fun B hB=>
  ⟨by rw[h4];exact hB.1,hB.2.1,fun hl=>hB.2.2 (hlive B hl)⟩
 have hmono:Mono (Ag w) (Γ.after w β st.heap) (Ag w') (Γ.after w' β' (st.heap.set b none++[some r])):=
  GX himm fun B hB=>h5 B fun e=>hB.2.2 (e ▸ hlp)
 have hother:∀ (c:Nat) r1 q,c≠b->st.heap[c]?=some (some r1)->β c=some q->q.backed=true->q.B≠p.B:=fun c r1 q e hc hq hkq eB=>e (h.ctx.apart c b r1 r0 q p hc hb hq hp hkq hk eB)
 refine ⟨β',⟨⟨fun c r' hc=>?_,fun c1 c2 r1 r2 p1 p2 hc1 hc2 hp1 hp2 k1 k2 hB=>?_,fun B hB=>⟨hB.1,hB.2.2⟩,fun c hc=>?_⟩,?_,h.len,fun t x hx=>?_,h.defers.keep fun D _ hD=>h5 D (fun e=>(h.ctx.live_obj hlp).1 _ (e ▸ hD)),fun j c hc=>?_,h.gbw,h.low,fun c r' q hc hq hkq=>?_⟩,hnew,hβ⟩
 ·rcases key c r' hc with ⟨rfl,rfl⟩ | ⟨e1,e2,hc'⟩
  ·obtain ⟨q,hq,hg,_⟩:=h.ctx.rows b r0 hb
   rw[hp] at hq;cases hq
   exact ⟨p',hnew,fun _=>by rw[hB',h4];exact hg hk,hr β' hβ hmono⟩
  ·obtain ⟨q,hq,hg,hrr⟩:=h.ctx.rows c r' hc'
   exact ⟨q,hβ c q hq,fun hkq=>by rw[h4];exact hg hkq,DW hmono hβ (fun hkq=>h5 _ (hother c r' q e2 hc' hq hkq)) r' hrr⟩
 ·rcases key c1 r1 hc1 with ⟨rfl,rfl⟩ | ⟨e1,e2,hc1'⟩<;>rcases key c2 r2 hc2 with ⟨rfl,rfl⟩ | ⟨e3,e4,hc2'⟩
  ·rfl
  ·rw[hnew] at hp1;cases hp1
   exact absurd (hB.symm.trans hB') (hother c2 r2 p2 e4 hc2' (keyp c2 p2 e3 hp2) k2)
  ·rw[hnew] at hp2;cases hp2
   exact absurd (hB.trans hB') (hother c1 r1 p1 e2 hc1' (keyp c1 p1 e1 hp1) k1)
  ·exact h.ctx.apart c1 c2 r1 r2 p1 p2 hc1' hc2' (keyp c1 p1 e1 hp1) (keyp c2 p2 e3 hp2) k1 k2 hB
 ·simp only[qZ6,List.length_set,List.length_singleton] at hc
  simp only[β',if_neg (by omega:c≠st.heap.length)]
  exact h.ctx.dom c (by omega)
 ·refine ⟨h1.trans h.frm.os,h2.trans h.frm.tape,h3.trans h.frm.output,by rw[h4];exact h.frm.size,fun B hB hl=>?_⟩
  by_cases e:B=p.B
  ·subst e
   rcases h.own b r0 p hb hp hk with h' | h'
   ·omega
   ·exact absurd h' hl
  ·rw[h5 B e];exact h.frm.block B hB hl
 ·obtain ⟨v,hv,hrel⟩:=h.tmps t x hx
  exact ⟨v,hv,CS hmono hβ x v hrel⟩
 ·obtain ⟨g1,g2,g3⟩:=h.orig j c hc
  have hcc:β' c=β c:=by simp only[β',if_neg (by omega:c≠st.heap.length)]
  refine ⟨hcc.trans g1,by simp;omega,fun r' q hr' hq hkq=>?_⟩
  rcases key c r' hr' with ⟨rfl,rfl⟩ | ⟨e1,e2,hc'⟩
  ·omega
  ·rw[hcc] at hq
   exact (g3 r' q hc' hq hkq).congr (h5 _ (hother c r' q e2 hc' hq hkq))
 ·rcases key c r' hc with ⟨rfl,rfl⟩ | ⟨e1,e2,hc'⟩
  ·rw[hnew] at hq;cases hq
   rw[hB'];exact h.own b r0 p hb hp hk
  ·exact h.own c r' q hc' (keyp c q e1 hq) hkq
end Go.AM
end
section
namespace Go.AM
open Go.RowKit (Below)
def Dy:TypeDesc->TD
 |.int k=>.int k
 |.bool=>.bool
 |.string=>.str
 |.slice e=>.slice e
 |.struct F=>.struct (F.toList.map fun f=>(f.offset,f.type))
 |.array n e=>.array n e
 |.pointer e=>.pointer e
 |.interface _=>.iface
 |.map k e=>.map k e
 |_=>.other
def AH:GT->List Value
 |.int k=>[.int k 0]
 |.bool=>[.bool false]
 |.str=>[.string .empty]
 |.err=>[.nilIface]
 |.sl _=>[.slice none 0 0]
 |.unit=>[]
 |.pair a b=>AH a++AH b
 |.ptr _=>[.pointer none]
 |.fnv f c=>[.func (.func f) #[] (AH c).toArray]
 |.map _=>[.map none]
 |.chain _=>[.pointer none]
 |.osl _=>[.slice none 0 0]
def CN (g:GT):Value:=if g.isAgg then .agg (AH g).toArray else (AH g).headD undef
structure TOk (P:Program) (t:TypeId) (i:TI):Prop where
 und:(P.underlying t).map Dy=some i.d
 inf:(P.info? t).map (fun j=>(j.size,j.bytes))=some (i.size,i.bytes)
 zero:∀ g,i.gt=some g->(P.info? t).map (·.zero)=some (some (CN g))/\g.cells=i.size/\g.isAgg=i.d.agg
section
variable {P:Program} {t:TypeId} {i:TI}
theorem TOk.desc (h:TOk P t i):∃ d,P.underlying t=some d/\Dy d=i.d:=by
 have:=h.und
 cases hu:P.underlying t with
 |none=>rw[hu] at this;cases this
 |some d=>rw[hu] at this;exact ⟨d,rfl,by simpa using this⟩
theorem TOk.int (h:TOk P t i) {k:IntKind} (hd:i.d=.int k):P.underlying t=some (.int k):=by
 obtain ⟨d,hu,he⟩:=h.desc;rw[hd] at he;cases d<;>simp[Dy] at he;rw[hu,he]
theorem TOk.bool (h:TOk P t i) (hd:i.d=.bool):P.underlying t=some .bool:=by
 obtain ⟨d,hu,he⟩:=h.desc;rw[hd] at he;cases d<;>simp[Dy] at he;exact hu
theorem TOk.str (h:TOk P t i) (hd:i.d=.str):P.underlying t=some .string:=by
 obtain ⟨d,hu,he⟩:=h.desc;rw[hd] at he;cases d<;>simp[Dy] at he;exact hu
theorem TOk.iface (h:TOk P t i) (hd:i.d=.iface):∃ ms,P.underlying t=some (.interface ms):=by
 obtain ⟨d,hu,he⟩:=h.desc;rw[hd] at he;cases d<;>simp[Dy] at he;exact ⟨_,hu⟩
theorem TOk.slice (h:TOk P t i) {e:TypeId} (hd:i.d=.slice e):P.underlying t=some (.slice e):=by
 obtain ⟨d,hu,he⟩:=h.desc;rw[hd] at he;cases d<;>simp[Dy] at he;rw[hu,he]
theorem TOk.map (h:TOk P t i) {k e:TypeId} (hd:i.d=.map k e):P.underlying t=some (.map k e):=by
 obtain ⟨d,hu,he⟩:=h.desc;rw[hd] at he;cases d<;>simp[Dy] at he;rw[hu,he.1,he.2]
theorem TOk.pointer (h:TOk P t i) {e:TypeId} (hd:i.d=.pointer e):P.underlying t=some (.pointer e):=by
 obtain ⟨d,hu,he⟩:=h.desc;rw[hd] at he;cases d<;>simp[Dy] at he;rw[hu,he]
theorem TOk.struct (h:TOk P t i) {fs:List (Nat×TypeId)} (hd:i.d=.struct fs):∃ F:Array Field,P.underlying t=some (.struct F)/\F.toList.map (fun f=>(f.offset,f.type))=fs:=by
 obtain ⟨d,hu,he⟩:=h.desc;rw[hd] at he;cases d<;>simp[Dy] at he;exact ⟨_,hu,by simpa using he⟩
theorem TOk.info (h:TOk P t i):∃ j,P.info? t=some j/\j.size=i.size/\j.bytes=i.bytes/\∀ g,i.gt=some g->j.zero=some (CN g):=by
 have:=h.inf
 cases hj:P.info? t with
 |none=>rw[hj] at this;cases this
 |some j=>
  rw[hj] at this
  simp at this
  exact ⟨j,rfl,this.1,this.2,fun g hg=>by have:=(h.zero g hg).1;rw[hj] at this;simpa using this⟩
theorem A6 {d:TypeDesc} (h:P.underlying t=some d) (w:World):(underlying t).run P w=.ok d w:=run_underlying h w
theorem TOk.run_size (h:TOk P t i) (w:World):(sizeOf t).run P w=.ok i.size w:=by
 obtain ⟨j,hj,hs,_⟩:=h.info
 simp[sizeOf,typeInfo,hj,hs]
theorem TOk.run_agg (h:TOk P t i) (w:World):(isAgg t).run P w=.ok i.d.agg w:=by
 obtain ⟨d,hu,he⟩:=h.desc
 unfold isAgg
 simp only[Sem.run_bind,A6 hu,Result.andThen_ok]
 rw[<-he]
 cases d<;>rfl
theorem TOk.run_zero (h:TOk P t i) {g:GT} (hg:i.gt=some g) (w:World):(zeroValue t).run P w=.ok (CN g) w:=by
 obtain ⟨j,hj,_,_,hz⟩:=h.info
 simp[zeroValue,typeInfo,hj,hz g hg]
end
theorem Es:∀ g:GT,(AH g).length=g.cells
 |.int _=>rfl
 |.bool=>rfl
 |.str=>rfl
 |.err=>rfl
 |.sl _=>rfl
 |.unit=>rfl
 |.pair a b=>by simp[AH,GT.cells,Es a,Es b]
 |.ptr _=>rfl
 |.fnv _ _=>rfl
 |.map _=>rfl
 |.chain _=>rfl
 |.osl _=>rfl
theorem F3:∀ g:GT,∀ v∈AH g,v.oneCell'=true
 |.int _,v,h=>by simp[AH] at h;subst h;rfl
 |.bool,v,h=>by simp[AH] at h;subst h;rfl
 |.str,v,h=>by simp[AH] at h;subst h;rfl
 |.err,v,h=>by simp[AH] at h;subst h;rfl
 |.sl _,v,h=>by simp[AH] at h;subst h;rfl
 |.unit,v,h=>by simp[AH] at h
 |.pair a b,v,h=>by
  simp only[AH,qZ7] at h
  rcases h with h | h
  ·exact F3 a v h
  ·exact F3 b v h
 |.ptr _,v,h=>by simp[AH] at h;subst h;rfl
 |.fnv _ _,v,h=>by simp[AH] at h;subst h;rfl
 |.map _,v,h=>by simp[AH] at h;subst h;rfl
 |.chain _,v,h=>by simp[AH] at h;subst h;rfl
 |.osl _,v,h=>by simp[AH] at h;subst h;rfl
theorem CT (rd:Nat->Nat->Option Value) (I:Nat->Prop):∀ g:GT,RelC rd I g g.zero (AH g)
 |.int _=>by simp[RelC,AH,GT.zero]
 |.bool=>by simp[RelC,AH,GT.zero]
 |.str=>by simp[RelC,AH,GT.zero]
 |.err=>by simp[RelC,AH,GT.zero]
 |.sl _=>by simp only[RelC,AH,GT.zero];exact ⟨none,0,rfl,by simp,fun h=>absurd rfl h⟩
 |.unit=>by simp[RelC,AH]
 |.pair a b=>by simp only[RelC,AH,GT.zero];exact ⟨_,_,rfl,CT rd I a,CT rd I b⟩
 |.ptr _=>by simp[RelC,AH,GT.zero]
 |.fnv f c=>by simp only[RelC,AH,GT.zero];exact ⟨_,rfl,CT rd I c⟩
 |.map _=>by simp[RelC,AH,GT.zero]
 |.chain _=>by simp[RelC,AH,GT.zero,Cy]
 |.osl _=>by simp[RelC,AH,GT.zero]
theorem Ic (rd:Nat->Nat->Option Value) (I:Nat->Prop) (β:Nat->Option Place):∀ g:GT,RelL rd I β (Cl g) (AH g)
 |.int k=>BY _ _ _ (CT rd I (.int k))
 |.bool=>BY _ _ _ (CT rd I .bool)
 |.str=>BY _ _ _ (CT rd I .str)
 |.err=>BY _ _ _ (CT rd I .err)
 |.sl e=>by
  simp only[Cl,AH,RelL]
  exact ⟨_,[],rfl,by simp only[RelV];exact ⟨CT rd I (.sl e),fun _=>⟨none,rfl⟩⟩,rfl⟩
 |.unit=>BY _ _ _ (CT rd I .unit)
 |.pair a b=>by simp only[Cl,AH];exact DX (Ic rd I β a) (Ic rd I β b)
 |.ptr e=>BY _ _ _ (CT rd I (.ptr e))
 |.fnv f c=>BY _ _ _ (CT rd I (.fnv f c))
 |.map t=>BY _ _ _ (CT rd I (.map t))
 |.chain t=>BY _ _ _ (CT rd I (.chain t))
 |.osl t=>BY _ _ _ (CT rd I (.osl t))
mutual
theorem QT (rd:Nat->Nat->Option Value) (I:Nat->Prop) (β:Nat->Option Place):∀ v:Value,RelV rd I β (BR v) v
 |.int k n=>by simp[BR,RelV]
 |.bool b=>by simp[BR,RelV]
 |.string s=>by simp[BR,RelV]
 |.pointer none=>by simp[BR,RelV]
 |.pointer (some _)=>by simp[BR,RelV]
 |.map none=>by simp[BR,RelV]
 |.map (some _)=>by simp[BR,RelV]
 |.slice none 0 0=>by simp[BR,RelV]
 |.slice none 0 (c+1)=>by simp[BR,RelV]
 |.slice none (n+1) c=>by simp[BR,RelV]
 |.slice (some _) n c=>by simp[BR,RelV]
 |.agg ⟨l⟩=>by
  unfold BR
  split
  ·rename_i h
   simp only[RelV]
   exact ⟨l,rfl,constL_ok rd I β l,by simpa using h⟩
  ·simp[RelV]
 |.tuple ⟨[]⟩=>by simp[BR,RelV,undef]
 |.tuple ⟨_::_⟩=>by simp[BR,RelV]
 |.float _ _=>by simp[BR,RelV]
 |.complex _ _ _=>by simp[BR,RelV]
 |.chan _=>by simp[BR,RelV]
 |.func _ _ _=>by simp[BR,RelV]
 |.nilFunc=>by simp[BR,RelV]
 |.iface _ _=>by simp[BR,RelV]
 |.nilIface=>by simp[BR,RelV]
theorem constL_ok (rd:Nat->Nat->Option Value) (I:Nat->Prop) (β:Nat->Option Place):∀ l:List Value,RelL rd I β (constL l) l
 |[]=>by simp[constL,RelL]
 |v::l=>by simp only[constL,RelL];exact ⟨v,l,rfl,QT rd I β v,constL_ok rd I β l⟩
end
theorem Ax {Γ:Base} {st:St} {a:Act} {w:World} {β:Nat->Option Place} (h:SimB Γ st a w β) (x:Operand):RelV (Ag w) (Γ.after w β st.heap) β (st.ev x) (a.eval x):=by
 cases x with
 |tmp t=>
  simp only[St.ev,Act.eval]
  rw[qZ4]
  cases hx:st.tmps[t]? with
  |none=>simp[RelV]
  |some y=>
   obtain ⟨v,hv,hr⟩:=h.tmps t y hx
   simp only[Option.getD_some]
   rw[show a.tmps.getD t undef=v from by simp[Array.getD_eq_getD_getElem?,hv]]
   exact hr
 |const v=>exact QT _ _ _ v
 |func f=>simp only[St.ev,Act.eval,RelV];exact ⟨[],rfl,by simp[RelL]⟩
 |global g=>simp[St.ev,RelV]
theorem Ep {Γ:Base} {st:St} {a:Act} {w:World} {β:Nat->Option Place} (h:SimB Γ st a w β):∀ l:List Operand,RelL (Ag w) (Γ.after w β st.heap) β (l.map st.ev) (l.map a.eval)
 |[]=>by simp[RelL]
 |x::l=>by simp only[List.map_cons,RelL];exact ⟨_,_,rfl,Ax h x,Ep h l⟩
def AJ (P:Program) (Γ:Base) (st:St) (o:Oper) (x:AV) (H:Al):Prop:=
 ∀ a w β,SimB Γ st a w β->∀ (next:Act->World->Prop) (Q:Exit->Act->World->Prop),
 (∀ v w',BC Γ ({ st with heap:=H }.put o.dst x) (a.put o.dst v) w'->next (a.put o.dst v) w')->o.wp P a w next Q
theorem EC {P:Program} {Γ:Base} {st:St} {o:Oper} {x:AV} {H:Al}
 (h:∀ a w β,SimB Γ st a w β->∃ v w',(execOp a.eval o).run P w=.ok (.value v) w'/\∃ β',SimB Γ { st with heap:=H } a w' β'/\RelV (Ag w') (Γ.after w' β' H) β' x v):AJ P Γ st o x H:=by
 intro a w β hs next Q hn
 obtain ⟨v,w',hr,β',hs',hv⟩:=h a w β hs
 unfold Oper.wp
 rw[hr]
 exact hn v w' ⟨β',hs'.put o.dst hv⟩
theorem con_pure {P:Program} {Γ:Base} {st:St} {o:Oper} {x:AV}
 (h:∀ a w β,SimB Γ st a w β->∃ v,(execOp a.eval o).run P w=.ok (.value v) w/\RelV (Ag w) (Γ.after w β st.heap) β x v):AJ P Γ st o x st.heap:=
 EC fun a w β hs=>by
  obtain ⟨v,hr,hv⟩:=h a w β hs
  exact ⟨v,w,hr,β,hs,hv⟩
section
variable {P:Program} {Γ:Base} {st:St} {o:Oper}
theorem con_move {x:Operand} (h:o.op=.move x\/o.op=.assign x):AJ P Γ st o (st.ev x) st.heap:=
 con_pure fun a w β hs=>⟨a.eval x,by rcases h with h | h<;>simp[execOp,h],Ax hs x⟩
theorem XS {c x y:Operand} (h:o.op=.pick c x y) {t:Bool} (hc:st.ev c=.bool t):AJ P Γ st o (if t then st.ev x else st.ev y) st.heap:=
 con_pure fun a w β hs=>by
  have:=Ax hs c
  rw[hc] at this;simp only[RelV] at this
  refine ⟨if t then a.eval x else a.eval y,by simp[execOp,h,this,asBool],?_⟩
  cases t
  ·exact Ax hs y
  ·exact Ax hs x
def Bo:AV->Value
 |.int k n=>.int k n
 |.bool b=>.bool b
 |_=>undef
theorem Db {op:BinOp} {xt yt:TypeId} {x y:Operand} (h:o.op=.binOp op xt x y yt) {k:IntKind} {p q:Int} (hx:st.ev x=.int k p) (hy:st.ev y=.int k q) {r:AV}
 (hv:∀ rd I β,RelV rd I β r (Bo r)) (hr:∀ w,(Go.binOp op xt (.int k p) (.int k q)).run P w=.ok (Bo r) w):AJ P Γ st o r st.heap:=
 con_pure fun a w β hs=>by
  have h1:=Ax hs x;have h2:=Ax hs y
  rw[hx] at h1;rw[hy] at h2;simp only[RelV] at h1 h2
  refine ⟨Bo r,?_,hv _ _ _⟩
  simp only[execOp,h,h1,h2,Sem.run_bind]
  have hg:(eqGuard op xt x y (.int k p) (.int k q)).run P w=.ok () w:=by
   unfold eqGuard
   cases op<;>rfl
  simp[hg,hr w]
theorem UH {op:BinOp} {xt yt:TypeId} {x y:Operand} (h:o.op=.binOp op xt x y yt) {p q:qBs} (hx:st.ev x=.str p) (hy:st.ev y=.str q) {r:AV}
 (hr:∀ s t:ByteArray,s.data.toList=p->t.data.toList=q->∃ v,(∀ rd I β,RelV rd I β r v)/\∀ w,(Op.stringOp op s t).run P w=.ok v w):AJ P Γ st o r st.heap:=
 con_pure fun a w β hs=>by
  have h1:=Ax hs x;have h2:=Ax hs y
  rw[hx] at h1;rw[hy] at h2;simp only[RelV] at h1 h2
  obtain ⟨s,e1,e1'⟩:=h1
  obtain ⟨t,e2,e2'⟩:=h2
  obtain ⟨v,hv,hrun⟩:=hr s t e1' e2'
  refine ⟨v,?_,hv _ _ _⟩
  simp only[execOp,h,e1,e2,Sem.run_bind]
  have hg:(eqGuard op xt x y (.string s) (.string t)).run P w=.ok () w:=by
   unfold eqGuard
   cases op<;>rfl
  have hb:Go.binOp op xt (.string s) (.string t)=Op.stringOp op s t:=by
   unfold Go.binOp
   cases op<;>rfl
  simp[hg,hb,hrun w]
theorem AEp {op:BinOp} {xt yt:TypeId} {x y:Operand} (h:o.op=.binOp op xt x y yt) {p q:qBs} (hx:st.ev x=.str p) (hy:st.ev y=.str q) {b:Bool}
 (hr:∀ s t:ByteArray,s.data.toList=p->t.data.toList=q->∀ w,(Op.stringOp op s t).run P w=.ok (.bool b) w):AJ P Γ st o (.bool b) st.heap:=
 UH h hx hy fun s t hs ht=>⟨.bool b,fun rd I β=>by simp only[RelV],hr s t hs ht⟩
theorem AGb (s:ByteArray):s.toList=s.data.toList:=ByteArray.toList_eq s
theorem size_data (s:ByteArray):s.size=s.data.toList.length:=by rw[Array.length_toList];rfl
variable {ρ:Type} {z:ρ} {K:AV->Option ρ}
theorem Be {b:Bool} {k:Option ρ} (h:Ab b k=some z):b=true/\k=some z:=by
 cases b<;>simp[Ab] at h;exact ⟨rfl,h⟩
theorem binQ_int {op:BinOp} {xt yt:TypeId} {x y:Operand} (h:o.op=.binOp op xt x y yt) {k k':IntKind} {p q:Int} (hx:st.ev x=.int k p) (hy:st.ev y=.int k' q)
 (hd:EV op (.int k p) (.int k' q) K=some z):∃ x,K x=some z/\AJ P Γ st o x st.heap:=by
 simp only[EV] at hd
 split at hd
 ·rename_i hk;subst hk
  cases op<;>simp only[reduceCtorEq] at hd
  case add=>exact ⟨_,hd,Db h hx hy (by simp[RelV,Bo]) fun w=>by simp[Go.binOp,Op.intArith,Bo]⟩
  case or=>exact ⟨_,hd,Db h hx hy (by simp[RelV,Bo]) fun w=>by simp[Go.binOp,Op.intBits,Bo,Re]⟩
  case sub=>exact ⟨_,hd,Db h hx hy (by simp[RelV,Bo]) fun w=>by simp[Go.binOp,Op.intArith,Bo]⟩
  case mul=>exact ⟨_,hd,Db h hx hy (by simp[RelV,Bo]) fun w=>by simp[Go.binOp,Op.intArith,Bo]⟩
  case quo=>
   obtain ⟨hq,hd⟩:=Be hd
   exact ⟨_,hd,Db h hx hy (by simp[RelV,Bo]) fun w=>by
    have:¬ q=0:=by simpa using hq
    simp[Go.binOp,Op.intDiv,this,Bo]⟩
  case rem=>
   obtain ⟨hq,hd⟩:=Be hd
   exact ⟨_,hd,Db h hx hy (by simp[RelV,Bo]) fun w=>by
    have:¬ q=0:=by simpa using hq
    simp[Go.binOp,Op.intDiv,this,Bo]⟩
  case shr=>
   obtain ⟨hq,hd⟩:=Be hd
   exact ⟨_,hd,Db h hx hy (by simp[RelV,Bo]) fun w=>by
    have:¬ q < 0:=by simp at hq;omega
    simp[Go.binOp,Op.shift,this,Bo]⟩
  case shl=>
   obtain ⟨hq,hd⟩:=Be hd
   exact ⟨_,hd,Db h hx hy (by simp[RelV,Bo]) fun w=>by
    have:¬ q < 0:=by simp at hq;omega
    simp[Go.binOp,Op.shift,this,Bo]⟩
  case eql=>exact ⟨_,hd,Db h hx hy (by simp[RelV,Bo]) fun w=>by simp[Go.binOp,Op.intCmp,Bo]⟩
  case neq=>exact ⟨_,hd,Db h hx hy (by simp[RelV,Bo]) fun w=>by simp[Go.binOp,Op.intCmp,Bo]⟩
  case lss=>exact ⟨_,hd,Db h hx hy (by simp[RelV,Bo]) fun w=>by simp[Go.binOp,Op.intCmp,Bo]⟩
  case leq=>exact ⟨_,hd,Db h hx hy (by simp[RelV,Bo]) fun w=>by simp[Go.binOp,Op.intCmp,Bo]⟩
  case gtr=>exact ⟨_,hd,Db h hx hy (by simp[RelV,Bo]) fun w=>by simp[Go.binOp,Op.intCmp,Bo]⟩
  case geq=>exact ⟨_,hd,Db h hx hy (by simp[RelV,Bo]) fun w=>by simp[Go.binOp,Op.intCmp,Bo]⟩
 ·cases hd
theorem binQ_str {op:BinOp} {xt yt:TypeId} {x y:Operand} (h:o.op=.binOp op xt x y yt) {p q:qBs} (hx:st.ev x=.str p) (hy:st.ev y=.str q)
 (hd:EV op (.str p) (.str q) K=some z):∃ x,K x=some z/\AJ P Γ st o x st.heap:=by
 simp only[EV] at hd
 cases op<;>simp only[reduceCtorEq] at hd
 case add=>
  obtain ⟨hq,hd⟩:=Be hd
  refine ⟨_,hd,UH h hx hy fun s t hs ht=>⟨.string (s++t),?_,fun w=>?_⟩⟩
  ·intro rd I β
   simp only[RelV]
   exact ⟨_,rfl,by rw[<-hs,<-ht];simp⟩
  ·have hq':p.length+q.length<=A3:=by simpa using hq
   simp only[Op.stringOp]
   rw[if_neg]
   ·simp
   ·rw[size_data,size_data,hs,ht]
    unfold A3 at hq'
    show ¬ _ > IntKind.i64.max
    have:IntKind.i64.max=9223372036854775807:=by decide
    omega
 all_goals exact ⟨_,hd,AEp h hx hy fun s t hs ht w=>by simp only[Op.stringOp,AGb,hs,ht];rfl⟩
theorem Lr {op:BinOp} {xt yt:TypeId} {x y:Operand} (h:o.op=.binOp op xt x y yt) {r:Bool}
 (hr:∀ a w β,SimB Γ st a w β->(∀ op,(eqGuard op xt x y (a.eval x) (a.eval y)).run P w=.ok () w)/\(Op.equal xt (a.eval x) (a.eval y)).run P w=.ok r w/\
  Go.binOp .eql xt (a.eval x) (a.eval y)=(do pure (.bool (<-Op.equal xt (a.eval x) (a.eval y))))/\Go.binOp .neq xt (a.eval x) (a.eval y)=(do pure (.bool (!(<-Op.equal xt (a.eval x) (a.eval y)))))) :
 (op=.eql->AJ P Γ st o (.bool r) st.heap)/\(op=.neq->AJ P Γ st o (.bool (!r)) st.heap):=by
 refine ⟨?_,?_⟩
 ·rintro rfl;refine con_pure fun a w β hs=>⟨.bool r,?_,by simp only[RelV]⟩;obtain ⟨h1,h2,h3,h4⟩:=hr a w β hs;simp[execOp,h,h1,h2,h3]
 ·rintro rfl;refine con_pure fun a w β hs=>⟨.bool !r,?_,by simp only[RelV]⟩;obtain ⟨h1,h2,h3,h4⟩:=hr a w β hs;simp[execOp,h,h1,h2,h4]
theorem Yp {t:TypeId} (hu:P.underlying t=some .bool) (d:Nat) (a b:Bool) (w:World):(Op.equalIn (d+1) t (.bool a) (.bool b)).run P w=.ok (a==b) w:=by
 simp[Op.equalIn,A6 hu]
theorem NT {t e:TypeId} (hu:P.underlying t=some (.pointer e)) (d:Nat) (w:World):(Op.equalIn (d+1) t (.pointer none) (.pointer none)).run P w=.ok true w:=by
 simp[Op.equalIn,A6 hu]
theorem L6 {t e:TypeId} (hu:P.underlying t=some (.pointer e)) (d:Nat) (a:Addr) (w:World):(Op.equalIn (d+1) t (.pointer (some a)) (.pointer none)).run P w=.ok false w:=by
 simp[Op.equalIn,A6 hu]
theorem AE3 {t:TypeId} {ms:Array (String×TypeId)} (hu:P.underlying t=some (.interface ms)) (d:Nat) (w:World):(Op.equalIn (d+1) t .nilIface .nilIface).run P w=.ok true w:=by
 simp[Op.equalIn,A6 hu]
theorem AF9 {t:TypeId} {ms:Array (String×TypeId)} (hu:P.underlying t=some (.interface ms)) (d:Nat) (t':TypeId) (v:Value) (w:World):(Op.equalIn (d+1) t (.iface t' v) .nilIface).run P w=.ok false w:=by
 simp[Op.equalIn,A6 hu]
theorem ACy {xt yt:TypeId} {x y:Operand} {op:BinOp} {i:TI} (ht:TOk P xt i) {r:Bool} (hd:KY i.d (st.ev x) (st.ev y)=some r):∀ a w β,SimB Γ st a w β->
 (∀ op,(eqGuard op xt x y (a.eval x) (a.eval y)).run P w=.ok () w)/\(Op.equal xt (a.eval x) (a.eval y)).run P w=.ok r w/\
 Go.binOp .eql xt (a.eval x) (a.eval y)=(do pure (.bool (<-Op.equal xt (a.eval x) (a.eval y))))/\Go.binOp .neq xt (a.eval x) (a.eval y)=(do pure (.bool (!(<-Op.equal xt (a.eval x) (a.eval y))))):=by
 intro a w β hs
 have h1:=Ax hs x;have h2:=Ax hs y
 unfold KY at hd
 split at hd
 ·rename_i ed ex ey
  rw[ex] at h1;rw[ey] at h2;simp only[RelV] at h1 h2
  rw[h1,h2]
  cases hd
  exact ⟨fun op=>by cases op<;>rfl,Yp (ht.bool ed) 9999 _ _ w,rfl,rfl⟩
 ·rename_i ed ex ey
  rw[ex] at h1;rw[ey] at h2;simp only[RelV] at h1 h2
  rw[h1,h2]
  cases hd
  exact ⟨fun op=>by cases op<;>rfl,NT (ht.pointer ed) 9999 w,rfl,rfl⟩
 ·rename_i e q ed ex ey
  rw[ex] at h1;rw[ey] at h2;simp only[RelV] at h1 h2
  rw[h2]
  cases hd
  cases q with
  |none=>
   simp only[RelC,List.cons.injEq,and_true] at h1;rw[h1]
   exact ⟨fun op=>by cases op<;>rfl,NT (ht.pointer ed) 9999 w,rfl,rfl⟩
  |some q=>
   simp only[RelC,List.cons.injEq,and_true] at h1
   obtain ⟨B,o,h1,_⟩:=h1
   rw[h1]
   exact ⟨fun op=>by cases op<;>rfl,L6 (ht.pointer ed) 9999 _ w,rfl,rfl⟩
 ·rename_i e q ed ex ey
  rw[ex] at h1;rw[ey] at h2;simp only[RelV,RelC] at h1 h2
  obtain ⟨v,h0,h1⟩:=h1
  rw[<-(List.cons.inj h0).1] at h1
  rw[h2]
  cases hd
  cases q with
  |nil=>
   simp only[Cy] at h1;rw[h1]
   exact ⟨fun op=>by cases op<;>rfl,NT (ht.pointer ed) 9999 w,rfl,rfl⟩
  |cons q l=>
   simp only[Cy] at h1
   obtain ⟨B,o,h1,_⟩:=h1
   rw[h1]
   exact ⟨fun op=>by cases op<;>rfl,L6 (ht.pointer ed) 9999 _ w,rfl,rfl⟩
 ·rename_i ed ex ey
  rw[ex] at h1;rw[ey] at h2;simp only[RelV] at h1 h2
  obtain ⟨p,_,_,h1⟩:=h1
  rw[h1,h2]
  cases hd
  exact ⟨fun op=>by cases op<;>rfl,L6 (ht.pointer ed) 9999 _ w,rfl,rfl⟩
 ·rename_i ed ex ey
  rw[ex] at h1;rw[ey] at h2;simp only[RelV] at h1 h2
  obtain ⟨B,o,h1,_⟩:=h1
  rw[h1,h2]
  cases hd
  exact ⟨fun op=>by cases op<;>rfl,L6 (ht.pointer ed) 9999 _ w,rfl,rfl⟩
 ·cases hd
theorem nilQ_ok {op:BinOp} {xt yt:TypeId} {x:Operand} (h:o.op=.binOp op xt x (.const .nilIface) yt) {i:TI} (ht:TOk P xt i) (hd:HG op i.d (st.ev x) K=some z) :
 ∃ x,K x=some z/\AJ P Γ st o x st.heap:=by
 have key:∀ b,st.ev x=.err b->i.d=.iface->∀ a w β,SimB Γ st a w β->(∀ op,(eqGuard op xt x (.const .nilIface) (a.eval x) (a.eval (.const .nilIface))).run P w=.ok () w)/\(Op.equal xt (a.eval x) (a.eval (.const .nilIface))).run P w=.ok (!b) w/\
  Go.binOp .eql xt (a.eval x) (a.eval (.const .nilIface))=(do pure (.bool (<-Op.equal xt (a.eval x) (a.eval (.const .nilIface)))))/\Go.binOp .neq xt (a.eval x) (a.eval (.const .nilIface))=(do pure (.bool (!(<-Op.equal xt (a.eval x) (a.eval (.const .nilIface)))))):=by
  intro b hx hdi a w β hs
  have h1:=Ax hs x
  rw[hx] at h1;simp only[RelV] at h1
  obtain ⟨ms,hu⟩:=ht.iface hdi
  have h2:a.eval (.const .nilIface)=.nilIface:=rfl
  rw[h2]
  cases b with
  |false=>
   rw[h1.1 rfl]
   exact ⟨fun op=>by cases op<;>simp[eqGuard],AE3 hu 9999 w,rfl,rfl⟩
  |true=>
   obtain ⟨t,v,e⟩:=h1.2 rfl
   rw[e]
   exact ⟨fun op=>by cases op<;>rfl,AF9 hu 9999 t v w,rfl,rfl⟩
 unfold HG at hd
 split at hd
 ·rename_i ex b e1 e2
  exact ⟨_,hd,(Lr (Γ:=Γ) h (key _ e2 e1)).1 rfl⟩
 ·rename_i ex b e1 e2
  have:=(Lr (Γ:=Γ) h (key _ e2 e1)).2 rfl
  rw[Bool.not_not] at this
  exact ⟨_,hd,this⟩
 ·cases hd
theorem SH {op:BinOp} {xt yt:TypeId} {x y:Operand} {r:Bool} (h:(op=.eql->AJ P Γ st o (.bool r) st.heap)/\(op=.neq->AJ P Γ st o (.bool (!r)) st.heap)) (hd:KX op r K=some z):∃ x,K x=some z/\AJ P Γ st o x st.heap:=by
 unfold KX at hd
 split at hd
 ·exact ⟨_,hd,h.1 rfl⟩
 ·exact ⟨_,hd,h.2 rfl⟩
 ·cases hd
theorem AEg {t e:TypeId} (hu:P.underlying t=some (.slice e)) (d n c:Nat) (w:World):(Op.equalIn (d+1) t (.slice none n c) (.slice none 0 0)).run P w=.ok true w:=by
 simp[Op.equalIn,A6 hu]
theorem AEA {t e:TypeId} (hu:P.underlying t=some (.slice e)) (d n c:Nat) (a:Addr) (w:World):(Op.equalIn (d+1) t (.slice (some a) n c) (.slice none 0 0)).run P w=.ok false w:=by
 simp[Op.equalIn,A6 hu]
theorem eqQ_ok {op:BinOp} {xt yt:TypeId} {x y:Operand} (h:o.op=.binOp op xt x y yt) {i:TI} (ht:TOk P xt i) (hd:HV op i.d (st.ev x) (st.ev y) K=some z) :
 ∃ x,K x=some z/\AJ P Γ st o x st.heap:=by
 unfold HV at hd
 split at hd
 ·rename_i e g v ed ex ey
  obtain ⟨hb,hd⟩:=Be hd
  refine SH (yt:=yt) (xt:=xt) (x:=x) (y:=y) (Lr (Γ:=Γ) h fun a w β hs=>?_) hd
  have h1:=Ax hs x;have h2:=Ax hs y
  rw[ex] at h1;rw[ey] at h2;simp only[RelV] at h1 h2
  rw[h2]
  cases v with
  |none=>
   simp only[RelC,List.cons.injEq,and_true] at h1;rw[h1]
   exact ⟨fun op=>by cases op<;>rfl,AEg (ht.slice ed) 9999 _ _ w,rfl,rfl⟩
  |some l=>
   cases l with
   |nil=>simp[Hw] at hb
   |cons q l=>
    simp only[RelC,List.cons.injEq,and_true] at h1
    obtain ⟨ad,c,h1,_,hx⟩:=h1
    obtain ⟨B,o,rfl,_⟩:=hx (by simp)
    rw[h1]
    exact ⟨fun op=>by cases op<;>rfl,AEA (ht.slice ed) 9999 _ _ _ w,rfl,rfl⟩
 ·split at hd
  ·rename_i r hr
   exact SH (yt:=yt) (xt:=xt) (x:=x) (y:=y) (Lr (Γ:=Γ) h (ACy (yt:=yt) (op:=op) ht hr)) hd
  ·cases hd
theorem con_unop {op:UnOp} {xt:TypeId} {x:Operand} (h:o.op=.unOp op xt x) :
 (∀ b,op=.not->st.ev x=.bool b->AJ P Γ st o (.bool !b) st.heap)/\(∀ k n,op=.neg->st.ev x=.int k n->AJ P Γ st o (.int k (k.wrap (0 - n))) st.heap):=by
 refine ⟨fun b ho hx=>con_pure fun a w β hs=>⟨.bool !b,?_,by simp only[RelV]⟩,fun k n ho hx=>con_pure fun a w β hs=>⟨.int k (k.wrap (0 - n)),?_,by simp only[RelV]⟩⟩
 ·have h1:=Ax hs x;rw[hx] at h1;simp only[RelV] at h1
  subst ho;simp[execOp,h,h1,Op.unary]
 ·have h1:=Ax hs x;rw[hx] at h1;simp only[RelV] at h1
  subst ho;simp[execOp,h,h1,Op.unary,Op.intArith]
theorem add_plain (B o n:Nat):(⟨B,o,none⟩:Addr).add n=⟨B,o+n,none⟩:=by
 unfold Addr.add;split<;>simp_all
theorem Rx {x:AV} {K:AV->Option ρ} (h:Er x K=some z):∃ y,K y=some z/\((∃ b i k,y=.ptr b i k)\/(∃ e q k,y=.iptr e q k)\/∃ f cs,y=.fn f cs)/\∀ rd I β v,RelV rd I β x v->RelV rd I β y v:=by
 unfold Er at h
 split at h
 ·exact ⟨_,h,.inl ⟨_,_,_,rfl⟩,fun _ _ _ _ h=>h⟩
 ·exact ⟨_,h,.inr (.inl ⟨_,_,_,rfl⟩),fun _ _ _ _ h=>h⟩
 ·exact ⟨_,h,.inr (.inr ⟨_,_,rfl⟩),fun _ _ _ _ h=>h⟩
 ·rename_i e q
  cases q with
  |none=>cases h
  |some q=>
   refine ⟨_,h,.inr (.inl ⟨_,_,_,rfl⟩),fun rd I β v hv=>?_⟩
   simp only[RelV,RelC] at hv ⊢
   obtain ⟨B,o,he,hr⟩:=hv
   cases he
   exact ⟨B,o,rfl,hr⟩
 ·rename_i e l
  cases l with
  |nil=>cases h
  |cons q l=>
   refine ⟨_,h,.inr (.inl ⟨_,_,_,rfl⟩),fun rd I β v hv=>?_⟩
   simp only[RelV,RelC,Cy] at hv ⊢
   obtain ⟨v',he,B,o,rfl,hB,us,u,h1,h2,h3,h4,_⟩:=hv
   cases he
   exact ⟨B,o,rfl,hB,us++[u],by simp[h1,GT.cells],h2,us,[u],rfl,h3,u,rfl,h4⟩
 ·cases h
theorem con_nilCheck {K:AV->Option ρ} {x:Operand} (h:o.op=.nilCheck x) (hq:Er (st.ev x) K=some z):∃ y,K y=some z/\AJ P Γ st o y st.heap:=by
 obtain ⟨y,hK,hy,hr⟩:=Rx hq
 refine ⟨y,hK,con_pure fun a w β hs=>?_⟩
 have h1:=hr _ _ _ _ (Ax hs x)
 refine ⟨a.eval x,?_,h1⟩
 rcases hy with ⟨b,i,k,hx⟩ | ⟨e,y,k,hx⟩ | ⟨f,cs,hx⟩<;>rw[hx] at h1<;>simp only[RelV] at h1
 ·obtain ⟨p,_,_,h1⟩:=h1;simp[execOp,h,h1]
 ·obtain ⟨B,o,h1,_⟩:=h1;simp[execOp,h,h1]
 ·obtain ⟨us,h1,_⟩:=h1;simp[execOp,h,h1]
theorem con_makeFunc {f:FuncId} {first captured:Array Operand} (h:o.op=.makeFunc (.func f) first captured) (hf:first.isEmpty=true):AJ P Γ st o (.fn f (captured.toList.map st.ev)) st.heap:=
 con_pure fun a w β hs=>by
  refine ⟨.func (.func f) #[] (captured.map a.eval),?_,?_⟩
  ·have:first=#[]:=by simpa using hf
   subst this
   simp[execOp,h,Instr.makeFunc]
  ·simp only[RelV]
   exact ⟨captured.toList.map a.eval,by simp[<-Array.toList_map],Ep hs _⟩
theorem con_extract {x:Operand} {n:Nat} (h:o.op=.extract x n) {l:List AV} {y:AV} (hx:st.ev x=.tup l) (hl:l[n]?=some y):AJ P Γ st o y st.heap:=
 con_pure fun a w β hs=>by
  have h1:=Ax hs x
  rw[hx] at h1;simp only[RelV] at h1
  obtain ⟨us,h1,h2⟩:=h1
  obtain ⟨v,hv,hr⟩:=Dl _ _ h2 n y hl
  refine ⟨v,?_,hr⟩
  simp[execOp,h,h1,Instr.extract,hv]
end
end Go.AM
end
section
namespace Go.AM
open Go.RowKit (Below)
section
variable {P:Program} {Γ:Base} {st:St} {o:Oper} {ρ:Type} {z:ρ} {K:AV->Option ρ}
theorem Cn (s:(Operand->Value)->Sem Value) (he:∀ ev:Operand->Value,execOp ev o=(do pure (.value (<-s ev)))) (x:AV) (h:∀ a w β,SimB Γ st a w β->∃ v,(s a.eval).run P w=.ok v w/\RelV (Ag w) (Γ.after w β st.heap) β x v):AJ P Γ st o x st.heap:=
 con_pure fun a w β hs=>by
  obtain ⟨v,h2,hv⟩:=h a w β hs
  exact ⟨v,by rw[he];simp[h2],hv⟩
theorem Zj {H:Al} {s b n:Nat} (h:H.lenS s b=some n):∃ e l,H[b]?=some (some (.typed e l))/\e.cells=s/\l.length=n:=by
 unfold Al.lenS at h
 split at h
 ·rename_i e l hb
  split at h
  ·rename_i he;cases h;exact ⟨e,l,hb,he,rfl⟩
  ·cases h
 ·cases h
def CL (p:Place) (off n:Nat) (v:Value):Prop:=
 off+n<=p.n/\∃ (a:Option Addr) (c:Nat),v=.slice a n c/\n<=c/\p.n<=off+c/\(c=0\/(p.backed=true/\a=some ⟨p.B,p.O+off * p.s,none⟩/\p.O+(off+c) * p.s<=p.z))
theorem GO {rd:Nat->Nat->Option Value} {I:Nat->Prop} {β:Nat->Option Place} {b:Nat} {v:Value}:RelV rd I β (.vw b) v ↔ ∃ p,β b=some p/\CL p 0 p.n v:=by
 simp only[RelV,CL]
 constructor
 ·rintro ⟨p,hp,a,c,rfl,h1,h2⟩;exact ⟨p,hp,by omega,a,c,rfl,h1,by omega,by simpa using h2⟩
 ·rintro ⟨p,hp,_,a,c,rfl,h1,_,h2⟩;exact ⟨p,hp,a,c,rfl,h1,by simpa using h2⟩
theorem Fh {rd:Nat->Nat->Option Value} {I:Nat->Prop} {β:Nat->Option Place} {b n:Nat} {v:Value}:RelV rd I β (.pre b n) v ↔ ∃ p,β b=some p/\CL p 0 n v:=by
 simp only[RelV,CL]
 constructor
 ·rintro ⟨p,hp,h0,a,c,rfl,h1,h2⟩;exact ⟨p,hp,by omega,a,c,rfl,by omega,by omega,by simpa using h2⟩
 ·rintro ⟨p,hp,h0,a,c,rfl,h1,h3,h2⟩;exact ⟨p,hp,by omega,a,c,rfl,by omega,by simpa using h2⟩
theorem Gc {rd:Nat->Nat->Option Value} {I:Nat->Prop} {β:Nat->Option Place} {b off n:Nat} {v:Value}:RelV rd I β (.sub b off n) v ↔ ∃ p,β b=some p/\CL p off n v:=by
 simp only[RelV,CL]
 constructor
 ·rintro ⟨p,hp,h0,a,c,rfl,h1,h2⟩;exact ⟨p,hp,by omega,a,c,rfl,by omega,by omega,h2⟩
 ·rintro ⟨p,hp,h0,a,c,rfl,h1,h3,h2⟩;exact ⟨p,hp,by omega,a,c,rfl,by omega,h2⟩
theorem LV {gb:Nat} {w:World} {I:Nat->Prop} {β:Nat->Option Place} {H:Al} (hc:Ctx gb w I β H) {s b n:Nat} (h:H.lenS s b=some n) {p:Place} (hp:β b=some p):p.s=s/\p.n=n:=by
 obtain ⟨e,l,hb,h1,h2⟩:=Zj h
 obtain ⟨e1,e2,_⟩:=DA hc hb hp
 exact ⟨e2.trans h1,e1.trans h2⟩
theorem con_indexAddr {t e:TypeId} {x ix:Operand} (h:o.op=.indexAddr t x ix) {i j:TI} (ht:TOk P t i) (hd:i.d=.slice e) (hj:TOk P e j) {k:IntKind} {n:Int} (hix:st.ev ix=.int k n)
 (hq:E6 st.heap j.size (st.ev x) n K=some z):∃ y,K y=some z/\AJ P Γ st o y st.heap:=by
 have run1:∀ (a:Act) (w:World) (β:Nat->Option Place) (ad:Option Addr) (len cap:Nat),SimB Γ st a w β->a.eval x=.slice ad len cap->0<=n->n < (len:Int)->∀ ad',ad=some ad'->
  (Instr.indexAt t (a.eval x) (a.eval ix)).run P w=.ok (.pointer (some (ad'.add (n.toNat * j.size)))) w:=by
  intro a w β ad len cap hs hx h0 h1 ad' he
  have h2:=Ax hs ix
  rw[hix] at h2;simp only[RelV] at h2
  rw[hx,h2,he]
  unfold Instr.indexAt
  simp[asIntOf,A6 (ht.slice hd),h0,h1,hj.run_size]
 have view:∀ (b off m n':Nat) (a:Act) (w:World) (β:Nat->Option Place),SimB Γ st a w β->st.heap.lenS j.size b=some n'->∀ p,β b=some p->CL p off m (a.eval x)->0<=n->n < (m:Int)->
  ∃ v,(Instr.indexAt t (a.eval x) (a.eval ix)).run P w=.ok v w/\RelV (Ag w) (Γ.after w β st.heap) β (.ptr b (off+n.toNat) 0) v:=by
  intro b off m n' a w β hs hl p hp hv h0 hn
  obtain ⟨_,ad,c,hxv,hc,_,hz⟩:=hv
  obtain ⟨hps,hpn⟩:=LV hs.ctx hl hp
  rcases hz with hz | ⟨hk,rfl,_⟩
  ·omega
  ·refine ⟨_,run1 a w β _ _ _ hs hxv h0 hn _ rfl,?_⟩
   simp only[RelV]
   refine ⟨p,hp,hk,?_⟩
   rw[add_plain,<-hps,Nat.add_mul]
   simp only[Nat.add_zero,Nat.add_assoc]
 unfold E6 at hq
 split at hq
 ·rename_i e' full l hx
  split at hq
  ·rename_i hc
   obtain ⟨hb,hq⟩:=Be hq
   simp only[qY0,decide_eq_true_eq] at hb
   refine ⟨_,hq,Cn (fun ev=>Instr.indexAt t (ev x) (ev ix)) (fun _=>by simp only[execOp,h]) _ fun a w β hs=>?_⟩
   have h1:=Ax hs x
   rw[hx] at h1;simp only[RelV] at h1
   have h1:=h1.1
   simp only[RelC] at h1
   obtain ⟨ad,c,he,hcap,hread⟩:=h1
   have hxv:a.eval x=.slice ad l.length c:=by simpa using he
   have hne:l≠[]:=by intro e0;subst e0;simp at hb;omega
   obtain ⟨B,o',rfl,hB,hrd⟩:=hread hne
   refine ⟨_,run1 a w β _ _ _ hs hxv hb.1 hb.2 _ rfl,?_⟩
   have hlt:n.toNat < l.length:=by omega
   obtain ⟨us,hl,hr1,hr2⟩:=hrd n.toNat (l[n.toNat]) (qZ5 hlt)
   simp only[RelV]
   refine ⟨B,o'+n.toNat * e'.cells,by rw[add_plain,hc];rfl,hB,us,hl,hr1,?_⟩
   rw[qZ4,qZ5 hlt]
   exact hr2
  ·cases hq
 ·rename_i b hx
  split at hq
  case h_2=>cases hq
  rename_i m hm
  obtain ⟨hb,hq⟩:=Be hq
  simp only[qY0,decide_eq_true_eq] at hb
  refine ⟨_,hq,Cn (fun ev=>Instr.indexAt t (ev x) (ev ix)) (fun _=>by simp only[execOp,h]) _ fun a w β hs=>?_⟩
  have h1:=Ax hs x
  rw[hx,GO] at h1
  obtain ⟨p,hp,h1⟩:=h1
  obtain ⟨hps,hpn⟩:=LV hs.ctx hm hp
  have:=view b 0 p.n m a w β hs hm p hp h1 hb.1 (by omega)
  rwa [Nat.zero_add] at this
 ·rename_i b m hx
  split at hq
  case h_2=>cases hq
  rename_i n' hm
  obtain ⟨hb,hq⟩:=Be hq
  simp only[qY0,decide_eq_true_eq] at hb
  refine ⟨_,hq,Cn (fun ev=>Instr.indexAt t (ev x) (ev ix)) (fun _=>by simp only[execOp,h]) _ fun a w β hs=>?_⟩
  have h1:=Ax hs x
  rw[hx,Fh] at h1
  obtain ⟨p,hp,h1⟩:=h1
  have:=view b 0 m n' a w β hs hm p hp h1 hb.1 hb.2
  rwa [Nat.zero_add] at this
 ·rename_i b off m hx
  split at hq
  case h_2=>cases hq
  rename_i n' hm
  obtain ⟨hb,hq⟩:=Be hq
  simp only[qY0,decide_eq_true_eq] at hb
  refine ⟨_,hq,Cn (fun ev=>Instr.indexAt t (ev x) (ev ix)) (fun _=>by simp only[execOp,h]) _ fun a w β hs=>?_⟩
  have h1:=Ax hs x
  rw[hx,Gc] at h1
  obtain ⟨p,hp,h1⟩:=h1
  exact view b off m n' a w β hs hm p hp h1 hb.1 hb.2
 ·cases hq
theorem Nh {F:Array Field} {fs:List (Nat×TypeId)} (h:F.toList.map (fun f=>(f.offset,f.type))=fs) {n off:Nat} {ft:TypeId} (hf:fs[n]?=some (off,ft)):∃ f:Field,F[n]?=some f/\f.offset=off/\f.type=ft:=by
 subst h
 rw[List.getElem?_map] at hf
 cases hx:F.toList[n]? with
 |none=>rw[hx] at hf;cases hf
 |some f=>
  rw[hx] at hf
  simp at hf
  exact ⟨f,by simpa using hx,hf.1,hf.2⟩
theorem ACP {K:AV->Option ρ} {t ft:TypeId} {x:Operand} {n off:Nat} (h:o.op=.fieldAddr t x n) {i j:TI} (ht:TOk P t i) {fs:List (Nat×TypeId)} (hd:i.d=.struct fs) (hf:fs[n]?=some (off,ft)) (hj:TOk P ft j) (hz:j.size≠0)
 (hq:(Er (st.ev x) fun y=>match y with
  |.ptr b j k=>K (.ptr b j (k+off))
  |.iptr e y k=>K (.iptr e y (k+off))
  |_=>none)=some z):∃ y,K y=some z/\AJ P Γ st o y st.heap:=by
 obtain ⟨F,hu,hF⟩:=ht.struct hd
 obtain ⟨f,hf1,hf2,hf3⟩:=Nh hF hf
 have run:∀ (w:World) (B p:Nat),(Instr.fieldAt t (.pointer (some ⟨B,p,none⟩)) n).run P w=.ok (.pointer (some ⟨B,p+off,none⟩)) w:=by
  intro w B p
  unfold Instr.fieldAt
  simp[A6 hu,hf1,Instr.sureAddr,fieldPlace,hf3,hj.run_size,hz,hf2,add_plain]
 obtain ⟨y,hK,hy,hr⟩:=Rx hq
 rcases hy with ⟨b,i,k,rfl⟩ | ⟨e,y,k,rfl⟩ | ⟨f,cs,rfl⟩
 ·refine ⟨_,hK,Cn (fun ev=>Instr.fieldAt t (ev x) n) (fun _=>by simp only[execOp,h]) _ fun a w β hs=>?_⟩
  have h1:=hr _ _ _ _ (Ax hs x)
  simp only[RelV] at h1
  obtain ⟨p,hp,hk,h1⟩:=h1
  refine ⟨_,by rw[h1];exact run w _ _,?_⟩
  simp only[RelV]
  exact ⟨p,hp,hk,by simp only[Nat.add_assoc]⟩
 ·refine ⟨_,hK,Cn (fun ev=>Instr.fieldAt t (ev x) n) (fun _=>by simp only[execOp,h]) _ fun a w β hs=>?_⟩
  have h1:=hr _ _ _ _ (Ax hs x)
  simp only[RelV] at h1
  obtain ⟨B,o',h1,h2⟩:=h1
  refine ⟨_,by rw[h1];exact run w _ _,?_⟩
  simp only[RelV]
  exact ⟨B,o',by simp only[Nat.add_assoc],h2⟩
 ·cases hK
theorem NE {w:World} {I:Nat->Prop} {β:Nat->Option Place} {t:TypeId} {i:TI} (ht:TOk P t i) {l:List AV} {off:Nat} {y:AV} (hq:GA i l off=some y) {us:List Value} (hr:RelL (Ag w) I β l us) (hp:∀ u∈us,u.oneCell'=true) :
 ∃ v,RelV (Ag w) I β y v/\(part t us.toArray off).run P w=.ok v w/\(if i.d.agg then off+i.size<=us.length/\v=.agg ((us.drop off).take i.size).toArray else us[off]?=some v):=by
 have hl:=CP _ _ hr
 unfold GA at hq
 split at hq
 ·rename_i ha
  split at hq
  ·rename_i hle
   cases hq
   refine ⟨.agg ((us.drop off).take i.size).toArray,?_,?_,?_⟩
   ·simp only[RelV]
    refine ⟨_,rfl,?_,fun u hu=>hp u (List.mem_of_mem_drop (List.mem_of_mem_take hu))⟩
    refine I4 _ _ (by simp;omega) fun k x v hx hv=>?_
    rw[List.getElem?_take] at hx hv
    split at hx
    ·rename_i hk
     rw[if_pos hk] at hv
     rw[List.getElem?_drop] at hx hv
     obtain ⟨v',hv',hr'⟩:=Dl _ _ hr _ x hx
     rw[hv] at hv';cases hv';exact hr'
    ·cases hx
   ·unfold part
    simp[ht.run_agg,ha,ht.run_size]
   ·rw[if_pos ha];exact ⟨by omega,rfl⟩
  ·cases hq
 ·rename_i ha
  split at hq
  ·rename_i a' ha'
   cases hq
   obtain ⟨v,hv,hr'⟩:=Dl _ _ hr off _ ha'
   refine ⟨v,hr',?_,by rw[if_neg ha];exact hv⟩
   unfold part
   simp[ht.run_agg,ha,hv]
  ·cases hq
theorem con_field {t ft:TypeId} {x:Operand} {n off:Nat} (h:o.op=.field t x n) {i j:TI} (ht:TOk P t i) {fs:List (Nat×TypeId)} (hd:i.d=.struct fs) (hf:fs[n]?=some (off,ft)) (hj:TOk P ft j) {l:List AV} (hx:st.ev x=.agg l) {y:AV}
 (hq:GA j l off=some y):AJ P Γ st o y st.heap:=
 Cn (fun ev=>Instr.field t (ev x) n) (fun _=>by simp only[execOp,h]) _ fun a w β hs=>by
  obtain ⟨F,hu,hF⟩:=ht.struct hd
  obtain ⟨f,hf1,hf2,hf3⟩:=Nh hF hf
  have h1:=Ax hs x
  rw[hx] at h1;simp only[RelV] at h1
  obtain ⟨us,h1,h2,h3⟩:=h1
  obtain ⟨v,hv,hrun,_⟩:=NE hj hq h2 h3
  refine ⟨v,?_,hv⟩
  rw[h1]
  unfold Instr.field
  simp[A6 hu,hf1,asAgg,hf2,hf3,hrun]
theorem PN {a:Act} {w:World} {β:Nat->Option Place} (hs:SimB Γ st a w β) {x:AV} {v:Value} (hr:RelV (Ag w) (Γ.after w β st.heap) β x v) {l:List AV} {k:Nat} (hat:st.heap.at x=some (l,k)) (hth:st.heap.there x=true) :
 ∃ B o' us,v=.pointer (some ⟨B,o'+k,none⟩)/\us.length=l.length/\(∀ j,j < l.length->Ag w B (o'+j)=us[j]?)/\RelL (Ag w) (Γ.after w β st.heap) β l us/\∀ u∈us,u.oneCell'=true:=by
 unfold Al.at at hat
 split at hat
 ·rename_i b i k'
  simp only[RelV] at hr
  obtain ⟨p,hp,hk,rfl⟩:=hr
  split at hat
  ·rename_i l' hb
   split at hat
   ·rename_i hi;subst hi
    cases hat
    obtain ⟨p',hp',_,h1,h2,h3,cs,ty,c1,c2,us,c3,c4,c5,c6⟩:=hs.ctx.rows b _ hb
    rw[hp] at hp';cases hp'
    exact ⟨p.B,p.O,us,by simp,c3,fun j hj=>H4 c1 (c4 j hj) c6,c5,c6⟩
   ·cases hat
  ·rename_i e l' hb
   cases hat
   unfold Al.there at hth
   simp only[hb,decide_eq_true_eq] at hth
   obtain ⟨us,u1,u2,u3⟩:=G7 hs.ctx hb hp hk i (l'[i]) (qZ5 hth)
   obtain ⟨_,hs',_⟩:=DA hs.ctx hb hp
   refine ⟨p.B,p.O+i * p.s,us,rfl,by rw[El,u1],fun j hj=>?_,?_,Dq _ _ _ u3⟩
   ·rw[hs'];exact u2 j (by rwa [El] at hj)
   ·rw[qZ4,qZ5 hth]
    exact BY _ _ _ u3
  ·cases hat
 ·rename_i e y k'
  cases hat
  simp only[RelV] at hr
  obtain ⟨B,o',rfl,hB,us,u1,u2,u3⟩:=hr
  exact ⟨B,o',us,rfl,by rw[El,u1],fun j hj=>u2 j (by rwa [El] at hj),BY _ _ _ u3,Dq _ _ _ u3⟩
 ·rename_i e y
  cases hat
  simp only[Al.there] at hth
  cases y with
  |none=>cases hth
  |some y=>
   simp only[RelV,RelC] at hr
   obtain ⟨B,o',he,hB,us,u1,u2,u3⟩:=hr
   cases he
   exact ⟨B,o',us,rfl,by rw[El,u1],fun j hj=>u2 j (by rwa [El] at hj),BY _ _ _ u3,Dq _ _ _ u3⟩
 ·cases hat
theorem con_load {t:TypeId} {x:Operand} (h:o.op=.load t x) {i:TI} (ht:TOk P t i) {l:List AV} {k:Nat} (hat:st.heap.at (st.ev x)=some (l,k)) (hth:st.heap.there (st.ev x)=true) {y:AV} (hq:GA i l k=some y):AJ P Γ st o y st.heap:=
 Cn (fun ev=>Instr.loadAt t (ev x)) (fun _=>by simp only[execOp,h]) _ fun a w β hs=>by
  obtain ⟨B,o',us,hv,hl,hrd,hrel,hpl⟩:=PN hs (Ax hs x) hat hth
  obtain ⟨v,hv',_,hsh⟩:=NE ht hq hrel hpl
  refine ⟨v,?_,hv'⟩
  rw[hv]
  unfold Instr.loadAt loadVar
  simp only[Instr.sureAddr,pure_bind,Sem.run_bind,ht.run_agg,Result.andThen_ok]
  split at hsh
  ·rename_i ha
   obtain ⟨hle,rfl⟩:=hsh
   rw[if_pos ha]
   simp only[Sem.run_bind,ht.run_size,Result.andThen_ok]
   have hlen:((us.drop k).take i.size).length=i.size:=by simp;omega
   rw[show i.size=((us.drop k).take i.size).length from hlen.symm,run_loadCells_list w ⟨B,o'+k,none⟩ ((us.drop k).take i.size) fun j u hu=>?_]
   ·simp
   ·rw[add_plain]
    rw[List.getElem?_take] at hu
    split at hu
    ·rw[List.getElem?_drop] at hu
     have hkj:k+j < us.length:=(List.getElem?_eq_some_iff.1 hu).1
     have:=hrd (k+j) (by omega)
     rw[hu] at this
     rw[Nat.add_assoc]
     exact GE this (hpl _ (qY14 hu))
    ·cases hu
  ·rename_i ha
   rw[if_neg ha]
   have hk:k < us.length:=(List.getElem?_eq_some_iff.1 hsh).1
   have:=hrd k (by omega)
   rw[hsh] at this
   have:=GE this (hpl _ (qY14 hsh))
   simp[this]
theorem AFq {t:TypeId} {x ix:Operand} (h:o.op=.index t x ix) {i:TI} (ht:TOk P t i) (hd:i.d=.str) {s:qBs} (hx:st.ev x=.str s) {k:IntKind} {n:Int} (hix:st.ev ix=.int k n) (h0:0<=n) (h1:n < s.length) :
 AJ P Γ st o (.int .u8 (s.getD n.toNat 0).toNat) st.heap:=
 Cn (fun ev=>Instr.index t (ev x) (ev ix)) (fun _=>by simp only[execOp,h]) _ fun a w β hs=>by
  have e1:=Ax hs x;have e2:=Ax hs ix
  rw[hx] at e1;rw[hix] at e2;simp only[RelV] at e1 e2
  obtain ⟨b,e1,rfl⟩:=e1
  refine ⟨.int .u8 (b.data.toList.getD n.toNat 0).toNat,?_,by simp only[RelV]⟩
  rw[e1,e2,run_index_string w t b k n (ht.str hd)]
  rw[<-size_data] at h1
  rw[dif_pos ⟨h0,h1⟩]
  congr 3
  rw[qZ4,qZ5 (by rw[<-size_data];omega)]
  simp[ByteArray.getElem_eq_getElem_data]
end
end Go.AM
end
section
namespace Go.AM
open Go.RowKit (Below)
section
variable {P:Program} {Γ:Base} {st:St} {o:Oper} {ρ:Type} {z:ρ} {K:AV->Option ρ}
theorem L3 {n:Nat} {lo hi:Option AV} {f:Option Int->Option Int->Option ρ} (h:C2 n lo hi f=some z) :
 ∃ l r:Option Int,f l r=some z/\(∀ (lv hv:Option Value),(∀ v,lv=some v->∃ k x,lo=some (.int k x)/\v=.int k x)->(lv=none->lo=none)->(∀ v,hv=some v->∃ k x,hi=some (.int k x)/\v=.int k x)->(hv=none->hi=none)->
  ∀ (isS:Bool) (cap:Nat) (w:World),n<=cap->(Instr.sliceBounds isS n cap lv hv none).run P w=.ok ((l.map Int.toNat).getD 0,(r.map Int.toNat).getD n,cap) w)/\
  (l.map Int.toNat).getD 0<=(r.map Int.toNat).getD n/\(r.map Int.toNat).getD n<=n:=by
 have sb:∀ (k:IntKind) (x:Int) (y:Nat) (c:BoundsCode) (w:World),0<=x->x<=y->(Instr.sliceBound (.int k x) y c).run P w=.ok x.toNat w:=by
  intro k x y c w h0 h1
  simp[Instr.sliceBound,asIntOf,h0,h1]
 unfold C2 at h
 split at h
 ·refine ⟨none,none,h,fun lv hv h1 h2 h3 h4 isS cap w hc=>?_,by simp,by simp⟩
  cases lv with
  |some v=>obtain ⟨_,_,h,_⟩:=h1 v rfl;cases h
  |none=>cases hv with
   |some v=>obtain ⟨_,_,h,_⟩:=h3 v rfl;cases h
   |none=>simp[Instr.sliceBounds]
 ·rename_i k l
  obtain ⟨hb,h⟩:=Be h
  simp only[qY0,decide_eq_true_eq] at hb
  refine ⟨some l,none,h,fun lv hv h1 h2 h3 h4 isS cap w hc=>?_,by simp;omega,by simp⟩
  cases hv with
  |some v=>obtain ⟨_,_,h,_⟩:=h3 v rfl;cases h
  |none=>cases lv with
   |none=>have:=h2 rfl;cases this
   |some v=>
    obtain ⟨_,_,e,rfl⟩:=h1 v rfl
    cases e
    simp[Instr.sliceBounds,sb _ _ n _ w hb.1 hb.2]
 ·rename_i k r
  obtain ⟨hb,h⟩:=Be h
  simp only[qY0,decide_eq_true_eq] at hb
  refine ⟨none,some r,h,fun lv hv h1 h2 h3 h4 isS cap w hc=>?_,by simp,by simp;omega⟩
  cases lv with
  |some v=>obtain ⟨_,_,h,_⟩:=h1 v rfl;cases h
  |none=>cases hv with
   |none=>have:=h4 rfl;cases this
   |some v=>
    obtain ⟨_,_,e,rfl⟩:=h3 v rfl
    cases e
    simp[Instr.sliceBounds,sb _ _ cap _ w hb.1 (by omega)]
 ·rename_i k l k' r
  obtain ⟨hb,h⟩:=Be h
  simp only[qY0,decide_eq_true_eq] at hb
  refine ⟨some l,some r,h,fun lv hv h1 h2 h3 h4 isS cap w hc=>?_,by simp;omega,by simp;omega⟩
  cases lv with
  |none=>have:=h2 rfl;cases this
  |some v=>
   obtain ⟨_,_,e,rfl⟩:=h1 v rfl
   cases e
   cases hv with
   |none=>have:=h4 rfl;cases this
   |some v=>
    obtain ⟨_,_,e,rfl⟩:=h3 v rfl
    cases e
    simp[Instr.sliceBounds,sb _ _ cap _ w (by omega) (by omega:r<=(cap:Int)),sb _ l r.toNat _ w hb.1.1 (by omega)]
 ·cases h
theorem SI {a:Act} {w:World} {β:Nat->Option Place} (hs:SimB Γ st a w β) (x:Option Operand) :
 (∀ v,x.map a.eval=some v->∀ k n,x.map st.ev=some (.int k n)->v=.int k n):=by
 intro v hv k n hn
 cases x with
 |none=>cases hn
 |some x=>
  simp at hv hn
  subst hv
  have:=Ax hs x
  rw[hn] at this
  simpa only[RelV] using this
theorem ME {α:Type} (s:List α) (l r:Option Int):cut s l r=(s.take ((r.map Int.toNat).getD s.length)).drop ((l.map Int.toNat).getD 0):=by
 cases l<;>cases r<;>simp[cut]
theorem ADz (b:ByteArray) (l h:Nat):(b.extract l h).data.toList=(b.data.toList.take h).drop l:=by
 rw[ByteArray.data_extract,Array.toList_extract,List.extract_eq_take_drop,List.drop_take]
theorem L7 {n:Nat} {lo hi:Option Operand} {l r:Option Int}
 (H:∀ (lv hv:Option Value),(∀ v,lv=some v->∃ k x,lo.map st.ev=some (.int k x)/\v=.int k x)->(lv=none->lo.map st.ev=none)->(∀ v,hv=some v->∃ k x,hi.map st.ev=some (.int k x)/\v=.int k x)->(hv=none->hi.map st.ev=none)->
  ∀ (isS:Bool) (cap:Nat) (w:World),n<=cap->(Instr.sliceBounds isS n cap lv hv none).run P w=.ok ((l.map Int.toNat).getD 0,(r.map Int.toNat).getD n,cap) w)
 (hlo:∀ x,lo.map st.ev=some x->∃ k n,x=.int k n) (hhi:∀ x,hi.map st.ev=some x->∃ k n,x=.int k n)
 {a:Act} {w:World} {β:Nat->Option Place} (hs:SimB Γ st a w β) (isS:Bool) (cap:Nat) (hc:n<=cap) :
 (Instr.sliceBounds isS n cap (lo.map a.eval) (hi.map a.eval) none).run P w=.ok ((l.map Int.toNat).getD 0,(r.map Int.toNat).getD n,cap) w:=by
 refine H _ _ (fun v hv=>?_) (fun e=>by cases lo<;>simp_all) (fun v hv=>?_) (fun e=>by cases hi<;>simp_all) isS cap w hc
 ·cases lo with
  |none=>cases hv
  |some x=>
   obtain ⟨k,m,e⟩:=hlo (st.ev x) rfl
   exact ⟨k,m,by simp[e],SI hs (some x) v hv k m (by simp[e])⟩
 ·cases hi with
  |none=>cases hv
  |some x=>
   obtain ⟨k,m,e⟩:=hhi (st.ev x) rfl
   exact ⟨k,m,by simp[e],SI hs (some x) v hv k m (by simp[e])⟩
theorem K7 {n:Nat} {lo hi:Option AV} {f:Option Int->Option Int->Option ρ} (h:C2 n lo hi f=some z):(∀ x,lo=some x->∃ k n,x=.int k n)/\(∀ x,hi=some x->∃ k n,x=.int k n):=by
 unfold C2 at h
 split at h
 ·exact ⟨(fun x h=>by cases h),(fun x h=>by cases h)⟩
 ·exact ⟨(fun x h=>by cases h;exact ⟨_,_,rfl⟩),(fun x h=>by cases h)⟩
 ·exact ⟨(fun x h=>by cases h),(fun x h=>by cases h;exact ⟨_,_,rfl⟩)⟩
 ·exact ⟨(fun x h=>by cases h;exact ⟨_,_,rfl⟩),(fun x h=>by cases h;exact ⟨_,_,rfl⟩)⟩
 ·cases h
theorem con_sliceStr {t:TypeId} {x:Operand} {lo hi:Option Operand} (h:o.op=.slice t x lo hi none) {i:TI} (ht:TOk P t i) (hd:i.d=.str) {s:qBs} (hx:st.ev x=.str s) {sz:Nat}
 (hq:Dx st.heap sz (.str s) (lo.map st.ev) (hi.map st.ev) K=some z):∃ y,K y=some z/\AJ P Γ st o y st.heap:=by
 simp only[Dx] at hq
 obtain ⟨l,r,hq',H,h1,h2⟩:=L3 (P:=P) hq
 obtain ⟨i1,i2⟩:=K7 hq
 refine ⟨_,hq',Cn (fun ev=>Instr.sliceAt t (ev x) (lo.map ev) (hi.map ev) none) (fun _=>by simp only[execOp,h,Option.map_none]) _ fun a w β hs=>?_⟩
 have e1:=Ax hs x
 rw[hx] at e1;simp only[RelV] at e1
 obtain ⟨b,e1,rfl⟩:=e1
 have:=L7 H i1 i2 hs false b.data.toList.length (Nat.le_refl _)
 rw[<-size_data] at this
 refine ⟨.string (b.extract ((l.map Int.toNat).getD 0) ((r.map Int.toNat).getD b.size)),?_,?_⟩
 ·rw[e1,run_sliceAt_string w t _ _ _ _ (ht.str hd)]
  unfold Instr.slice
  simp[A6 (ht.str hd),this]
 ·simp only[RelV]
  exact ⟨_,rfl,by rw[ADz,ME,size_data]⟩
theorem M6 {t e:TypeId} {i j:TI} (ht:TOk P t i) (hd:i.d=.slice e) (hj:TOk P e j) {a:Option Addr} {n c l h:Nat} {lo hi:Option Value} (w:World) (hb:(Instr.sliceBounds true n c lo hi none).run P w=.ok (l,h,c) w) :
 (Instr.sliceAt t (.slice a n c) lo hi none).run P w=.ok (.slice (if c=l then a else a.map (·.add (l * j.size))) (h - l) (c - l)) w:=by
 unfold Instr.sliceAt
 simp only[Sem.run_bind,A6 (ht.slice hd),Result.andThen_ok]
 unfold Instr.slice
 simp[A6 (ht.slice hd),hb,hj.run_size]
theorem Wz {p:Place} {off n c l h s:Nat} {a:Option Addr} (hv:CL p off n (.slice a n c)) (h1:l<=h) (h2:h<=n) (hs:p.s=s) :
 CL p (off+l) (h - l) (.slice (if c=l then a else a.map (·.add (l * s))) (h - l) (c - l)):=by
 obtain ⟨h0,a',c',e,h3,h4,h5⟩:=hv
 cases e
 refine ⟨by omega,_,_,rfl,by omega,by omega,?_⟩
 by_cases hc:c=l
 ·left;omega
 ·rw[if_neg hc]
  rcases h5 with h5 | ⟨hk,rfl,hz⟩
  ·omega
  ·refine .inr ⟨hk,?_,by rw[show off+l+(c - l)=off+c from by omega];exact hz⟩
   simp only[Option.map_some,add_plain,Nat.add_mul,hs,Nat.add_assoc]
theorem Yb {t e:TypeId} {x hi mx:Operand} (h:o.op=.slice t x none (some hi) (some mx)) {i j:TI} (ht:TOk P t i) (hd:i.d=.slice e) (hj:TOk P e j) {e':GT} {f:Bool} {l:List e'.ty} (hx:st.ev x=.sl e' f l) (hc:e'.cells=j.size) {k k':IntKind} {p q:Int} (h1:st.ev hi=.int k p) (h2:st.ev mx=.int k' q) (hb:0<=p/\p<=l.length/\p=q):AJ P Γ st o (.sl e' true (l.take p.toNat)) st.heap:=by
 refine Cn (fun ev=>Instr.sliceAt t (ev x) none (some (ev hi)) (some (ev mx))) (fun _=>by simp only[execOp,h,Option.map_none,Option.map_some]) _ fun a w β hs=>?_
 have e1:=Ax hs x
 rw[hx] at e1;simp only[RelV,RelC] at e1
 obtain ⟨⟨ad,c,he,hcap,hread⟩,hfull⟩:=e1
 have hxv:a.eval x=.slice ad l.length c:=by simpa using he
 have e2:=Ax hs hi;rw[h1] at e2;simp only[RelV] at e2
 have e3:=Ax hs mx;rw[h2] at e3;simp only[RelV] at e3
 obtain ⟨b1,b2,rfl⟩:=hb
 have hlen:(l.take p.toNat).length=p.toNat:=by rw[List.length_take];omega
 refine ⟨.slice ad p.toNat p.toNat,?_,?_⟩
 ·rw[hxv,e2,e3]
  have sb:∀ (k:IntKind) (x:Int) (y:Nat) (c:BoundsCode) (w:World),0<=x->x<=y->(Instr.sliceBound (.int k x) y c).run P w=.ok x.toNat w:=by
   intro k x y c w h0 h1
   simp[Instr.sliceBound,asIntOf,h0,h1]
  have hs1:(Instr.sliceBounds true l.length c none (some (.int k p)) (some (.int k' p))).run P w=.ok (0,p.toNat,p.toNat) w:=by
   simp[Instr.sliceBounds,sb k' p c _ w b1 (by omega),sb k p p.toNat _ w b1 (by omega)]
  unfold Instr.sliceAt
  simp only[Sem.run_bind,A6 (ht.slice hd),Result.andThen_ok]
  unfold Instr.slice
  simp only[Sem.run_bind,A6 (ht.slice hd),Result.andThen_ok,hs1,hj.run_size,Sem.run_pure,Nat.zero_mul,Nat.sub_zero]
  by_cases h0:p.toNat=0
  ·rw[if_pos h0]
  ·rw[if_neg h0]
   obtain ⟨B,o',rfl,_⟩:=hread (fun e0=>by rw[e0] at b2;simp at b2;omega)
   simp[add_plain]
 ·simp only[RelV,RelC]
  refine ⟨⟨ad,p.toNat,by rw[hlen],by rw[hlen];exact Nat.le_refl _,fun hne=>?_⟩,fun _=>⟨ad,by rw[hlen]⟩⟩
  obtain ⟨B,o',rfl,hB,hrd⟩:=hread (fun e0=>hne (by rw[e0];simp))
  refine ⟨B,o',rfl,hB,fun i y hi=>hrd i y ?_⟩
  rw[List.getElem?_take] at hi
  split at hi
  ·exact hi
  ·cases hi
theorem AGu {t e:TypeId} {x:Operand} {lo hi:Option Operand} (h:o.op=.slice t x lo hi none) {i j:TI} (ht:TOk P t i) (hd:i.d=.slice e) (hj:TOk P e j) (hns:∀ s,st.ev x≠.str s)
 (hq:Dx st.heap j.size (st.ev x) (lo.map st.ev) (hi.map st.ev) K=some z):∃ y,K y=some z/\AJ P Γ st o y st.heap:=by
 have hex:∀ (y:AV) (hh:∀ a w β,SimB Γ st a w β->∃ v,(Instr.sliceAt t (a.eval x) (lo.map a.eval) (hi.map a.eval) none).run P w=.ok v w/\RelV (Ag w) (Γ.after w β st.heap) β y v),AJ P Γ st o y st.heap:=
  fun y hh=>Cn (fun ev=>Instr.sliceAt t (ev x) (lo.map ev) (hi.map ev) none) (fun _=>by simp only[execOp,h,Option.map_none]) y hh
 have views:∀ (b off n n':Nat) (f:Option Int->Option Int->AV),(∀ (v:Value) (a:Act) (w:World) (β:Nat->Option Place),SimB Γ st a w β->v=a.eval x->∃ p,β b=some p/\CL p off n v)->st.heap.lenS j.size b=some n'->
  (∀ a w β p l r,SimB Γ st a w β->β b=some p->p.n=n'->(l.map Int.toNat).getD 0<=(r.map Int.toNat).getD n->∀ v,CL p (off+(l.map Int.toNat).getD 0) ((r.map Int.toNat).getD n - (l.map Int.toNat).getD 0) v->RelV (Ag w) (Γ.after w β st.heap) β (f l r) v)->
  C2 n (lo.map st.ev) (hi.map st.ev) (fun l r=>K (f l r))=some z->∃ y,K y=some z/\AJ P Γ st o y st.heap:=by
  intro b off n n' f hview hlen hrel hb
  obtain ⟨l,r,hq',H,h1,h2⟩:=L3 (P:=P) hb
  obtain ⟨i1,i2⟩:=K7 hb
  refine ⟨_,hq',hex _ fun a w β hs=>?_⟩
  obtain ⟨p,hp,hv⟩:=hview _ a w β hs rfl
  obtain ⟨hps,hpn⟩:=LV hs.ctx hlen hp
  have hv0:=hv
  obtain ⟨g0,ad,c,hxv,g1,g2,g3⟩:=hv
  rw[hxv] at hv0
  have hrun:=L7 H i1 i2 hs true c g1
  rw[hxv]
  exact ⟨_,M6 ht hd hj w hrun,hrel a w β p l r hs hp hpn h1 _ (Wz hv0 h1 h2 hps)⟩
 unfold Dx at hq
 split at hq
 ·rename_i s hx;exact absurd hx (hns s)
 ·rename_i hx
  obtain ⟨l,r,hq',H,h1,h2⟩:=L3 (P:=P) hq
  obtain ⟨i1,i2⟩:=K7 hq
  refine ⟨_,hq',hex _ fun a w β hs=>?_⟩
  have e1:=Ax hs x
  rw[hx] at e1;simp only[RelV] at e1
  have hrun:=L7 H i1 i2 hs true 0 (Nat.le_refl _)
  rw[e1]
  refine ⟨_,M6 ht hd hj w hrun,?_⟩
  simp only[RelV]
  have:(l.map Int.toNat).getD 0=0:=by omega
  simp[this];omega
 ·rename_i e' full l hx
  split at hq
  ·rename_i hc
   obtain ⟨lo',hi',hq',H,h1,h2⟩:=L3 (P:=P) hq
   obtain ⟨i1,i2⟩:=K7 hq
   refine ⟨_,hq',hex _ fun a w β hs=>?_⟩
   have e1:=Ax hs x
   rw[hx] at e1;simp only[RelV,RelC] at e1
   obtain ⟨⟨ad,c,he,hcap,hread⟩,hfull⟩:=e1
   have hxv:a.eval x=.slice ad l.length c:=by simpa using he
   have hrun:=L7 H i1 i2 hs true c hcap
   rw[hxv]
   refine ⟨_,M6 ht hd hj w hrun,?_⟩
   have hlen:(cut l lo' hi').length=(hi'.map Int.toNat).getD l.length - (lo'.map Int.toNat).getD 0:=by
    rw[ME,List.length_drop,List.length_take];omega
   simp only[RelV,RelC]
   refine ⟨⟨_,c - (lo'.map Int.toNat).getD 0,by rw[hlen],by rw[hlen];omega,fun hne=>?_⟩,fun hf=>?_⟩
   ·have hpos:(lo'.map Int.toNat).getD 0 < (hi'.map Int.toNat).getD l.length:=by
     have:(cut l lo' hi').length≠0:=fun h=>hne (List.eq_nil_of_length_eq_zero h)
     omega
    have hlne:l≠[]:=by
     intro e0;have:l.length=0:=by rw[e0];rfl
     omega
    obtain ⟨B,o',rfl,hB,hrd⟩:=hread hlne
    refine ⟨B,o'+(lo'.map Int.toNat).getD 0 * j.size,?_,hB,fun i y hi=>?_⟩
    ·rw[if_neg (by omega)];simp[add_plain]
    ·rw[ME,List.getElem?_drop,List.getElem?_take] at hi
     split at hi
     ·obtain ⟨us,u1,u2,u3⟩:=hrd _ y hi
      refine ⟨us,u1,fun q hq=>?_,u3⟩
      rw[<-u2 q hq,<-hc,Nat.add_mul]
      congr 1;omega
     ·cases hi
   ·rw[hlen]
    cases hi' with
    |none=>
     simp only at hf
     obtain ⟨a0,e0⟩:=hfull hf
     rw[hxv] at e0
     have hcl:c=l.length:=by simpa using (Value.slice.inj e0).2.2
     rw[hcl];exact ⟨_,rfl⟩
    |some r=>simp at hf
  ·cases hq
 ·rename_i b hx
  split at hq
  case h_2=>cases hq
  rename_i m hm
  refine views b 0 m m (fun l r=>match l,r with
   |none,none=>.vw b
   |none,some h=>.pre b h.toNat
   |some l,none=>.sub b l.toNat (m - l.toNat)
   |some l,some h=>.sub b l.toNat (h.toNat - l.toNat)) (fun v a w β hs hv=>?_) hm (fun a w β p l r hs hp hpn hle v hv=>?_) (by rw[<-hq];congr 1;funext l r;cases l<;>cases r<;>rfl)
  ·have e1:=Ax hs x
   rw[hx,GO] at e1
   obtain ⟨p,hp,hv'⟩:=e1
   obtain ⟨_,hpn⟩:=LV hs.ctx hm hp
   subst hv;rw[<-hpn];exact ⟨p,hp,hv'⟩
  ·cases l<;>cases r<;>simp at hv ⊢
   ·rw[GO];exact ⟨p,hp,by rw[hpn];exact hv⟩
   ·rw[Fh];exact ⟨p,hp,hv⟩
   ·rw[Gc];exact ⟨p,hp,hv⟩
   ·rw[Gc];exact ⟨p,hp,hv⟩
 ·rename_i b m hx
  split at hq
  case h_2=>cases hq
  rename_i m' hm
  refine views b 0 m m' (fun l r=>match l,r with
   |none,none=>.pre b m
   |none,some h=>.pre b h.toNat
   |some l,none=>.sub b l.toNat (m - l.toNat)
   |some l,some h=>.sub b l.toNat (h.toNat - l.toNat)) (fun v a w β hs hv=>?_) hm (fun a w β p l r hs hp hpn hle v hv=>?_) (by rw[<-hq];congr 1;funext l r;cases l<;>cases r<;>rfl)
  ·have e1:=Ax hs x
   rw[hx,Fh] at e1
   subst hv;exact e1
  ·cases l<;>cases r<;>simp at hv ⊢
   ·rw[Fh];exact ⟨p,hp,hv⟩
   ·rw[Fh];exact ⟨p,hp,hv⟩
   ·rw[Gc];exact ⟨p,hp,hv⟩
   ·rw[Gc];exact ⟨p,hp,hv⟩
 ·rename_i b off m hx
  split at hq
  case h_2=>cases hq
  rename_i m' hm
  refine views b off m m' (fun l r=>match l,r with
   |none,none=>.sub b off m
   |none,some h=>.sub b off h.toNat
   |some l,none=>.sub b (off+l.toNat) (m - l.toNat)
   |some l,some h=>.sub b (off+l.toNat) (h.toNat - l.toNat)) (fun v a w β hs hv=>?_) hm (fun a w β p l r hs hp hpn hle v hv=>?_) (by rw[<-hq];congr 1;funext l r;cases l<;>cases r<;>rfl)
  ·have e1:=Ax hs x
   rw[hx,Gc] at e1
   subst hv;exact e1
  ·cases l<;>cases r<;>simp at hv ⊢
   all_goals (rw[Gc];exact ⟨p,hp,hv⟩)
 ·cases hq
end
end Go.AM
end
section
namespace Go.AM
open Go.RowKit (Below)
section
variable {P:Program} {Γ:Base} {st:St} {o:Oper} {ρ:Type} {z:ρ} {K:AV->Option ρ}
theorem con_convInt {src dst:TypeId} {x:Operand} (h:o.op=.convert src dst x) {s d:TI} (hs0:TOk P src s) (hd0:TOk P dst d) {k k' k2:IntKind} {n:Int} (h1:s.d=.int k') (h2:d.d=.int k) (hx:st.ev x=.int k2 n):AJ P Γ st o (.int k (k.wrap n)) st.heap:=
 Cn (fun ev=>convert src dst (ev x)) (fun _=>by simp only[execOp,h]) _ fun a w β hs=>by
  have e1:=Ax hs x
  rw[hx] at e1;simp only[RelV] at e1
  refine ⟨.int k (k.wrap n),?_,by simp only[RelV]⟩
  rw[e1]
  unfold convert
  simp[A6 (hs0.int h1),A6 (hd0.int h2),Conv.intToInt]
theorem con_convStr {src dst:TypeId} {x:Operand} (h:o.op=.convert src dst x) {s d:TI} (hs0:TOk P src s) (hd0:TOk P dst d) {t:qBs} (h1:s.d=.str) (h2:d.d=.str) (hx:st.ev x=.str t):AJ P Γ st o (.str t) st.heap:=
 Cn (fun ev=>convert src dst (ev x)) (fun _=>by simp only[execOp,h]) _ fun a w β hs=>by
  have e1:=Ax hs x
  rw[hx] at e1
  have e2:=e1
  simp only[RelV] at e1
  obtain ⟨b,e1,_⟩:=e1
  refine ⟨a.eval x,?_,e2⟩
  rw[e1]
  unfold convert
  simp[A6 (hs0.str h1),A6 (hd0.str h2)]
theorem con_convBytes {src dst e:TypeId} {x:Operand} (h:o.op=.convert src dst x) {s d j:TI} (hs0:TOk P src s) (hd0:TOk P dst d) (hj:TOk P e j) {t:qBs} (h1:s.d=.str) (h2:d.d=.slice e) (h3:j.d=.int .u8) (hx:st.ev x=.str t) :
 AJ P Γ st o (.sl (.int .u8) false (t.map fun b=>(b.toNat:Int))) st.heap:=
 EC fun a w β hs=>by
  have e1:=Ax hs x
  rw[hx] at e1;simp only[RelV] at e1
  obtain ⟨b,e1,rfl⟩:=e1
  have hext:Ext w (Lib.bytesWorld w e b):=⟨rfl,rfl,rfl,by rw[Lib.bytesWorld_size];omega,fun B hB=>Lib.bytesWorld_at_old w e b B hB⟩
  refine ⟨_,_,by simp only[execOp,h,e1,Sem.run_bind];rw[Lib.run_convert_string_bytes w src dst e b (hs0.str h1) (hd0.slice h2) (hj.int h3)];rfl,β,hs.ext hext,?_⟩
  simp only[RelV,RelC]
  refine ⟨⟨_,_,by rw[List.length_map,<-size_data],by rw[List.length_map,<-size_data];exact grownCap_ge _ _ _ _,fun hne=>⟨w.heap.size,0,rfl,⟨by rw[Lib.bytesWorld_size];omega,.inr (.inr hs.frm.size),?_⟩,fun i y hi=>?_⟩⟩,by simp⟩
  ·rintro ⟨b',r,p,hb',hp,hk,hB⟩
   obtain ⟨p',hp',hg,_⟩:=hs.ctx.rows b' r hb'
   rw[hp] at hp';cases hp'
   have:=(hg hk).2;omega
  ·rw[List.getElem?_map] at hi
   have hil:i < b.size:=by
    rw[size_data]
    rcases Nat.lt_or_ge i b.data.toList.length with h' | h'
    ·exact h'
    ·rw[List.getElem?_eq_none h'] at hi;cases hi
   refine ⟨[.int .u8 y],rfl,fun q hq=>?_,rfl⟩
   have hq0:q=0:=by simp[GT.cells] at hq;omega
   subst hq0
   have:=Lib.bytesWorld_cell w e b i hil
   simp only[GT.cells,Nat.mul_one,Nat.zero_add,Nat.add_zero]
   rw[Pe this rfl]
   rw[qZ4]
   cases hh:b.data.toList[i]? with
   |none=>rw[hh] at hi;cases hi
   |some c=>rw[hh] at hi;simp at hi;simp[<-hi]
theorem con_convBack {src dst e:TypeId} {x:Operand} (h:o.op=.convert src dst x) {s d j:TI} (hs0:TOk P src s) (hd0:TOk P dst d) (hj:TOk P e j) (h1:s.d=.slice e) (h2:d.d=.str) (h3:j.d=.int .u8) {l:List Int} {m:List Nat}
 (hx:decC st.heap (.sl (.int .u8)) [st.ev x]=some (l,[],m)):AJ P Γ st o (.str (l.map fun n=>UInt8.ofNat n.toNat)) st.heap:=
 Cn (fun ev=>convert src dst (ev x)) (fun _=>by simp only[execOp,h]) _ fun a w β hs=>by
  obtain ⟨u1,u2,hu,hr,hn⟩:=FV hs.ctx (.sl (.int .u8)) [st.ev x] [a.eval x] l [] m (by simp only[RelL];exact ⟨_,[],rfl,Ax hs x,rfl⟩) hx
  simp only[RelL] at hn;subst hn
  simp only[qY4] at hu;subst hu
  simp only[RelC] at hr
  obtain ⟨ad,c,he,hc,hread⟩:=hr
  have hxv:a.eval x=.slice ad l.length c:=by simpa using he
  rw[hxv]
  cases hl:l with
  |nil=>
   refine ⟨.string ByteArray.empty,?_,by simp[RelV]⟩
   cases ad with
   |none=>exact run_convert_bytes_nil w src e (hs0.slice h1) (hj.int h3) _ _ dst (hd0.str h2)
   |some ad=>
    rw[run_convert_bytes_string w src dst e _ _ c (hs0.slice h1) (hj.int h3) (hd0.str h2),run_bytesToString w ad _ c [] (by simp[loadCells,loadCellsFrom])]
    rfl
  |cons y l'=>
   obtain ⟨B,o',rfl,_,hrd⟩:=hread (by rw[hl];simp)
   refine ⟨.string (strOfNums l),?_,?_⟩
   ·rw[<-hl]
    refine run_convert_bytes_arg w src e (hs0.slice h1) (hj.int h3) B o' _ c l rfl (fun i hi=>?_) dst (hd0.str h2)
    obtain ⟨us,g1,g2,g3⟩:=hrd i (l[i]) (qZ5 hi)
    have g3':us=[.int .u8 (l[i])]:=by simpa only[RelC] using g3
    have:=g2 0 (by simp[GT.cells])
    rw[g3'] at this
    simp only[GT.cells,Nat.mul_one,Nat.add_zero] at this
    rw[List.getElem?_cons_zero] at this
    rw[GE this rfl,qZ4,qZ5 hi]
    rfl
   ·rw[<-hl]
    simp only[RelV]
    exact ⟨_,rfl,strOfNums_data l⟩
theorem G2 {c:Call} (h:o.op=.call c) {b:Builtin} (hc:c.callee=.builtin b) {x:AV} (hr:∀ a w β,SimB Γ st a w β->∃ v,(builtin b c.argTypes o.type (c.args.map fun | .const _=>true | _=>false) (c.args.map a.eval)).run P w=.ok (.value v) w/\RelV (Ag w) (Γ.after w β st.heap) β x v):AJ P Γ st o x st.heap:=
 con_pure fun a w β hs=>by
  obtain ⟨v,h1,h2⟩:=hr a w β hs
  exact ⟨v,by simp only[execOp,h,resolve,hc,pure_bind,invoke];exact h1,h2⟩
theorem con_lenStr {c:Call} (h:o.op=.call c) (hc:c.callee=.builtin .len) {x:Operand} {t:TypeId} (ha:c.args.toList=[x]) (hat:c.argTypes.toList=[t]) {i:TI} (ht:TOk P t i) (hd:i.d=.str) {s:qBs} (hx:st.ev x=.str s) :
 AJ P Γ st o (.int .i64 s.length) st.heap:=by
 have ea:c.args=#[x]:=by have:=congrArg List.toArray ha;simpa using this
 have et:c.argTypes=#[t]:=by have:=congrArg List.toArray hat;simpa using this
 refine G2 h hc fun a w β hs=>⟨.int .i64 s.length,?_,by simp only[RelV]⟩
 have e1:=Ax hs x
 rw[hx] at e1;simp only[RelV] at e1
 obtain ⟨b,e1,e2⟩:=e1
 simp[builtin,ea,et,Builtin.len_,A6 (ht.str hd),goInt,e1,<-e2]
theorem con_len {c:Call} (h:o.op=.call c) (hc:c.callee=.builtin .len) {x:Operand} {t e:TypeId} (ha:c.args.toList=[x]) (hat:c.argTypes.toList=[t]) {i:TI} (ht:TOk P t i) (hd:i.d=.slice e)
 (hq:Fa st.heap (st.ev x) K=some z):∃ y,K y=some z/\AJ P Γ st o y st.heap:=by
 have ea:c.args=#[x]:=by have:=congrArg List.toArray ha;simpa using this
 have et:c.argTypes=#[t]:=by have:=congrArg List.toArray hat;simpa using this
 have key:∀ (n:Nat),(∀ a w β,SimB Γ st a w β->∃ ad c,a.eval x=.slice ad n c)->AJ P Γ st o (.int .i64 n) st.heap:=by
  intro n hn
  refine G2 h hc fun a w β hs=>⟨.int .i64 n,?_,by simp only[RelV]⟩
  obtain ⟨ad,c',e1⟩:=hn a w β hs
  simp[builtin,ea,et,Builtin.len_,A6 (ht.slice hd),goInt,e1]
 unfold Fa at hq
 split at hq
 ·rename_i e' f l hx
  refine ⟨_,hq,key _ fun a w β hs=>?_⟩
  have e1:=Ax hs x
  rw[hx] at e1;simp only[RelV,RelC] at e1
  obtain ⟨⟨ad,c',he,_⟩,_⟩:=e1
  exact ⟨ad,c',by simpa using he⟩
 ·rename_i hx
  refine ⟨_,hq,key 0 fun a w β hs=>?_⟩
  have e1:=Ax hs x
  rw[hx] at e1;simp only[RelV] at e1
  exact ⟨none,0,e1⟩
 ·rename_i b hx
  split at hq
  ·rename_i n hn
   refine ⟨_,hq,key _ fun a w β hs=>?_⟩
   have e1:=Ax hs x
   rw[hx] at e1;simp only[RelV] at e1
   obtain ⟨p,hp,ad,c',e1,_⟩:=e1
   unfold Al.len at hn
   split at hn
   ·rename_i e' l hb
    cases hn
    obtain ⟨hpn,_⟩:=DA hs.ctx hb hp
    exact ⟨ad,c',by rw[e1,hpn]⟩
   ·cases hn
  ·cases hq
 ·rename_i b n hx
  refine ⟨_,hq,key _ fun a w β hs=>?_⟩
  have e1:=Ax hs x
  rw[hx] at e1;simp only[RelV] at e1
  obtain ⟨p,hp,_,ad,c',e1,_⟩:=e1
  exact ⟨ad,c',e1⟩
 ·rename_i b off n hx
  refine ⟨_,hq,key _ fun a w β hs=>?_⟩
  have e1:=Ax hs x
  rw[hx] at e1;simp only[RelV] at e1
  obtain ⟨p,hp,_,ad,c',e1,_⟩:=e1
  exact ⟨ad,c',e1⟩
 ·cases hq
theorem NN {f:Int->Int->Int} {g:Value->Value->Sem Value} {k:IntKind} (hg:∀ a b w,(g (.int k a) (.int k b)).run P w=.ok (.int k (f a b)) w) {rd:Nat->Nat->Option Value} {I:Nat->Prop} {β:Nat->Option Place} {w:World} :
 ∀ (l:List AV) (us:List Value) (a n:Int),RelL rd I β l us->FO f k a l=some n->(us.foldlM g (.int k a)).run P w=.ok (.int k n) w
 |[],us,a,n,hr,hq=>by
  simp only[RelL] at hr;subst hr
  simp only[FO] at hq;cases hq
  rfl
 |x::l,us,a,n,hr,hq=>by
  simp only[RelL] at hr
  obtain ⟨u,us',rfl,h1,h2⟩:=hr
  cases x<;>simp only[FO,reduceCtorEq] at hq
  rename_i k' b
  split at hq
  ·rename_i hk;subst hk
   simp only[RelV] at h1;subst h1
   simp only[List.foldlM_cons,Sem.run_bind,hg,Result.andThen_ok]
   exact NN hg l us' _ n h2 hq
  ·cases hq
theorem con_max {c:Call} (h:o.op=.call c) (hc:c.callee=.builtin .max) {k:IntKind} {p n:Int} {r:List AV} (ha:c.args.toList.map st.ev=.int k p::r) (hq:FO BN k p r=some n):AJ P Γ st o (.int k n) st.heap:=
 G2 h hc fun a w β hs=>by
  have e1:=Ep hs c.args.toList
  rw[ha] at e1
  simp only[RelL,RelV] at e1
  obtain ⟨u,us,e2,rfl,e3⟩:=e1
  refine ⟨.int k n,?_,by simp only[RelV]⟩
  have:=NN (P:=P) (g:=Builtin.max2) (k:=k) (f:=BN) (fun a b w=>by simp[Builtin.max2,BN]) (w:=w) r us p n e3 hq
  simp[builtin,Builtin.max_,e2,this]
theorem con_min {c:Call} (h:o.op=.call c) (hc:c.callee=.builtin .min) {k:IntKind} {p n:Int} {r:List AV} (ha:c.args.toList.map st.ev=.int k p::r) (hq:FO EH k p r=some n):AJ P Γ st o (.int k n) st.heap:=
 G2 h hc fun a w β hs=>by
  have e1:=Ep hs c.args.toList
  rw[ha] at e1
  simp only[RelL,RelV] at e1
  obtain ⟨u,us,e2,rfl,e3⟩:=e1
  refine ⟨.int k n,?_,by simp only[RelV]⟩
  have:=NN (P:=P) (g:=Builtin.min2) (k:=k) (f:=EH) (fun a b w=>by simp[Builtin.min2,EH]) (w:=w) r us p n e3 hq
  simp[builtin,Builtin.min_,e2,this]
end
end Go.AM
end
section
namespace Go.AM
open Go.RowKit (Below)
theorem Li (off:Nat):∀ (vs:List Value) (k:Nat) (cs:Array Value),off+k+vs.length<=cs.size->
 ((vs.zipIdx k).foldl (fun cs (c,j)=>cs.setIfInBounds (off+j) c) cs).size=cs.size/\
 ∀ m,((vs.zipIdx k).foldl (fun cs (c,j)=>cs.setIfInBounds (off+j) c) cs)[m]?=if off+k<=m/\m < off+k+vs.length then vs[m - (off+k)]? else cs[m]?
 |[],k,cs,_=>⟨rfl,fun m=>by rw[if_neg (by simp)];rfl⟩
 |v::vs,k,cs,h=>by
  simp only[qY11] at h
  have ih:=Li off vs (k+1) (cs.setIfInBounds (off+k) v) (by simp;omega)
  simp only[List.zipIdx_cons,List.foldl_cons]
  refine ⟨by rw[ih.1];simp,fun m=>?_⟩
  rw[ih.2 m]
  by_cases h1:off+(k+1)<=m/\m < off+(k+1)+vs.length
  ·rw[if_pos h1,if_pos (by simp;omega),show m - (off+k)=(m - (off+(k+1)))+1 from by omega,List.getElem?_cons_succ]
  ·rw[if_neg h1,Array.getElem?_setIfInBounds]
   by_cases h2:off+k=m
   ·rw[if_pos h2,if_pos (by omega),if_pos (by simp;omega)]
    subst h2;simp
   ·rw[if_neg h2,if_neg (by simp;omega)]
theorem YT (off:Nat) (vs:List Value) (cs:Array Value) (h:off+vs.length<=cs.size) :
 (vs.zipIdx.foldl (fun cs (c,j)=>cs.setIfInBounds (off+j) c) cs).toList=cs.toList.take off++vs++cs.toList.drop (off+vs.length):=by
 obtain ⟨h1,h2⟩:=Li off vs 0 cs (by omega)
 apply List.ext_getElem?
 intro m
 rw[Array.getElem?_toList,h2 m]
 simp only[Nat.add_zero]
 by_cases a:m < off
 ·rw[if_neg (by omega),qZ1,qY8 (by simp;omega),List.getElem?_take,if_pos a,Array.getElem?_toList]
 ·by_cases b:m < off+vs.length
  ·rw[if_pos ⟨by omega,b⟩,qZ1,qY9 (by simp;omega),qY8 (by simp;omega)]
   simp only[List.length_take,Array.length_toList]
   rw[show min off cs.size=off from by omega]
  ·rw[if_neg (by omega),qY9 (by simp;omega),List.getElem?_drop,Array.getElem?_toList]
   congr 1;simp;omega
section
variable {rd:Nat->Nat->Option Value} {I:Nat->Prop} {β:Nat->Option Place}
theorem Mq {l:List AV} {us:List Value} (h:RelL rd I β l us) (n:Nat):RelL rd I β (l.take n) (us.take n):=by
 have hl:=CP _ _ h
 refine I4 _ _ (by simp[hl]) fun i x v hx hv=>?_
 rw[List.getElem?_take] at hx hv
 split at hx
 ·rename_i hi
  rw[if_pos hi] at hv
  obtain ⟨v',hv',hr⟩:=Dl _ _ h i x hx
  rw[hv] at hv';cases hv';exact hr
 ·cases hx
theorem Mi {l:List AV} {us:List Value} (h:RelL rd I β l us) (n:Nat):RelL rd I β (l.drop n) (us.drop n):=by
 have hl:=CP _ _ h
 refine I4 _ _ (by simp[hl]) fun i x v hx hv=>?_
 rw[List.getElem?_drop] at hx hv
 obtain ⟨v',hv',hr⟩:=Dl _ _ h _ x hx
 rw[hv] at hv';cases hv';exact hr
theorem Nc {x:AV} {v:Value} (h:RelV rd I β x v) (hp:(x.plain||x.isA)=true):RelL rd I β x.cellsOf v.cells.toList/\∀ u∈v.cells.toList,u.oneCell'=true:=by
 have one:∀ {w:Value},w.oneCell'=true->w.cells.toList=[w]:=by intro w hw;cases w<;>simp[Value.oneCell'] at hw<;>rfl
 have single:∀ {w:Value},w.oneCell'=true->RelV rd I β x w->x.cellsOf=[x]->w=v->RelL rd I β x.cellsOf v.cells.toList/\∀ u∈v.cells.toList,u.oneCell'=true:=by
  intro w hw hr hc e
  subst e
  rw[hc,one hw]
  exact ⟨by simp only[RelL];exact ⟨w,[],rfl,hr,rfl⟩,by simp[hw]⟩
 cases x<;>simp[AV.plain,AV.isA] at hp
 case agg l=>
  simp only[RelV] at h
  obtain ⟨us,rfl,h1,h2⟩:=h
  exact ⟨h1,h2⟩
 all_goals
  refine single ?_ h rfl rfl
  simp only[RelV] at h
 case nils=>subst h;rfl
 case int=>subst h;rfl
 case bool=>subst h;rfl
 case str=>obtain ⟨b,rfl,_⟩:=h;rfl
 case err b=>
  cases b with
  |false=>rw[h.1 rfl];rfl
  |true=>obtain ⟨t,x,e⟩:=h.2 rfl;rw[e];rfl
 case sl=>simp only[RelC] at h;obtain ⟨⟨a,c,he,_⟩,_⟩:=h;cases he;rfl
 case vw=>obtain ⟨p,_,a,c,rfl,_⟩:=h;rfl
 case pre=>obtain ⟨p,_,_,a,c,rfl,_⟩:=h;rfl
 case sub=>obtain ⟨p,_,_,a,c,rfl,_⟩:=h;rfl
 case ptr=>obtain ⟨p,_,_,rfl⟩:=h;rfl
 case nilptr=>subst h;rfl
 case iptr=>obtain ⟨B,o,rfl,_⟩:=h;rfl
 case fn=>obtain ⟨us,rfl,_⟩:=h;rfl
 case mp=>obtain ⟨p,_,_,rfl⟩:=h;rfl
 case nilmap=>subst h;rfl
 case dat=>exact Dq _ _ _ h _ (by simp)
 case selfp=>rcases h with rfl | ⟨p,_,_,rfl⟩<;>rfl
end
section
variable {P:Program} {Γ:Base} {st:St} {o:Oper} {ρ:Type} {z:ρ} {K:AV->Option ρ}
theorem NG {rd:Nat->Nat->Option Value} {I:Nat->Prop} {β:Nat->Option Place} {place place':Nat->Option (Nat×Nat)} (hpl:∀ i p,place i=some p->place' i=some p):∀ (ps:List (Nat×AV)) (vs:List (Nat×Value)) (l:List AV) (cs:Array Value) (l':List AV),
 RelL rd I β l cs.toList->(∀ u∈cs.toList,u.oneCell'=true)->ps.map Prod.fst=vs.map Prod.fst->RelL rd I β (ps.map Prod.snd) (vs.map Prod.snd)->Ga place l ps=some l'->
 ∃ cs',Instr.fill place' cs vs=some cs'/\RelL rd I β l' cs'.toList/\(∀ u∈cs'.toList,u.oneCell'=true)
 |[],vs,l,cs,l',h,hp,e,_,hf=>by
  cases vs with
  |nil=>simp only[Ga] at hf;cases hf;exact ⟨cs,rfl,h,hp⟩
  |cons v vs=>simp at e
 |(i,x)::ps,vs,l,cs,l',h,hp,e,hr,hf=>by
  cases vs with
  |nil=>simp at e
  |cons v vs=>
   obtain ⟨j,v⟩:=v
   simp only[List.map_cons,List.cons.injEq] at e
   obtain ⟨rfl,e⟩:=e
   simp only[List.map_cons,RelL] at hr
   obtain ⟨u,us',e1,h1,h2⟩:=hr
   cases e1
   simp only[Ga] at hf
   split at hf
   ·cases hf
   ·rename_i off size hplace
    split at hf
    ·rename_i hpx
     split at hf
     ·rename_i hsz
      obtain ⟨c1,c2⟩:=Nc h1 hpx
      have hl:=CP _ _ h
      have hcl:=CP _ _ c1
      have hcs:v.cells.size=size:=by rw[<-Array.length_toList];omega
      have hsz':off+v.cells.toList.length<=cs.size:=by rw[<-Array.length_toList,hl];omega
      have hspl:=YT off v.cells.toList cs hsz'
      have hzip:v.cells.zipIdx.foldl (fun cs (c,j)=>cs.setIfInBounds (off+j) c) cs=v.cells.toList.zipIdx.foldl (fun cs (c,j)=>cs.setIfInBounds (off+j) c) cs:=by
       rw[<-Array.foldl_toList,Array.toList_zipIdx]
      have hrel:RelL rd I β (l.take off++x.cellsOf++l.drop (off+size)) (v.cells.zipIdx.foldl (fun cs (c,j)=>cs.setIfInBounds (off+j) c) cs).toList:=by
       rw[hzip,hspl,show off+v.cells.toList.length=off+size from by rw[Array.length_toList,hcs]]
       exact DX (DX (Mq h off) c1) (Mi h _)
      have hpl':∀ u∈(v.cells.zipIdx.foldl (fun cs (c,j)=>cs.setIfInBounds (off+j) c) cs).toList,u.oneCell'=true:=by
       rw[hzip,hspl]
       intro u hu
       simp only[qZ7] at hu
       rcases hu with (hu | hu) | hu
       ·exact hp u (List.mem_of_mem_take hu)
       ·exact c2 u hu
       ·exact hp u (List.mem_of_mem_drop hu)
      obtain ⟨cs',g1,g2,g3⟩:=NG hpl ps vs _ _ l' hrel hpl' e h2 hf
      refine ⟨cs',?_,g2,g3⟩
      simp only[Instr.fill,hpl _ _ hplace]
      rw[if_neg]
      ·exact g1
      ·simp[hcs]
       rw[<-Array.length_toList,hl] at *
       omega
     ·cases hf
    ·cases hf
theorem ACr {F:List Field} {E:TypeId->Option TI} (hE:∀ t i,E t=some i->TOk P t i) (hall:∀ f∈F,∃ i,E f.type=some i) (w:World) :
 ∃ ps:List (Nat×Nat),(F.mapM (m:=Sem) fun f=>do pure (f.offset,<-sizeOf f.type)).run P w=.ok ps w/\ps.length=F.length/\∀ (n:Nat) (f:Field),F[n]?=some f->∀ i,E f.type=some i->ps[n]?=some (f.offset,i.size):=by
 induction F with
 |nil=>exact ⟨[],rfl,rfl,fun n f h=>by simp at h⟩
 |cons f F ih=>
  obtain ⟨ps,h1,h2,h3⟩:=ih fun f hf=>hall f (qY13 _ hf)
  obtain ⟨i,hi⟩:=hall f List.mem_cons_self
  refine ⟨(f.offset,i.size)::ps,?_,by simp[h2],fun n g hg j hj=>?_⟩
  ·simp only[List.mapM_cons,Sem.run_bind,(hE _ _ hi).run_size,Result.andThen_ok,Sem.run_pure,h1]
  ·cases n with
   |zero=>simp at hg;subst hg;rw[hi] at hj;cases hj;rfl
   |succ n=>exact h3 n g (by simpa using hg) j hj
theorem con_build {t:TypeId} {parts:Array (Nat×Operand)} (h:o.op=.build t parts) {E:TypeId->Option TI} (hE:∀ t i,E t=some i->TOk P t i) {i:TI} (ht:TOk P t i) {fs:List (Nat×TypeId)} (hd:i.d=.struct fs) {g:GT} (hg:i.gt=some g) (hall:fs.all (fun p=>(E p.2).isSome)=true) {l:List AV}
 (hq:Ga (fun i=>(fs[i]?).bind fun p=>(E p.2).map fun i=>(p.1,i.size)) (Cl g) (parts.toList.map fun p=>(p.1,st.ev p.2))=some l):AJ P Γ st o (.agg l) st.heap:=
 Cn (fun ev=>Instr.build t (parts.map fun (i,x)=>(i,ev x))) (fun _=>by simp only[execOp,h]) _ fun a w β hs=>by
  obtain ⟨F,hu,hF⟩:=ht.struct hd
  have hagg:g.isAgg=true:=by rw[(ht.zero g hg).2.2,hd];rfl
  have hallF:∀ f∈F.toList,∃ i,E f.type=some i:=by
   intro f hf
   have:(E f.type).isSome=true:=by
    have:=(List.all_eq_true.1 hall) (f.offset,f.type) (by rw[<-hF];exact List.mem_map.2 ⟨f,hf,rfl⟩)
    exact this
   cases hx:E f.type with
   |none=>rw[hx] at this;cases this
   |some i=>exact ⟨i,rfl⟩
  obtain ⟨ps,p1,p2,p3⟩:=ACr hE hallF w
  have hzv:(CN g).cells=(AH g).toArray:=by unfold CN;rw[if_pos hagg];rfl
  obtain ⟨cs,c1,c2,c3⟩:=NG (rd:=Ag w) (I:=Γ.after w β st.heap) (β:=β) (place':=fun j=>ps[j]?) (fun j p hj=>by
   cases hx:fs[j]? with
   |none=>rw[hx] at hj;cases hj
   |some q=>
    rw[hx] at hj
    simp only[Option.bind_some] at hj
    cases hy:E q.2 with
    |none=>rw[hy] at hj;cases hj
    |some ti=>
     rw[hy] at hj;cases hj
     obtain ⟨f,hf1,hf2,hf3⟩:=Nh hF (off:=q.1) (ft:=q.2) hx
     have:=p3 j f (by simpa using hf1) ti (by rw[hf3];exact hy)
     rw[hf2] at this
     exact this) (parts.toList.map fun p=>(p.1,st.ev p.2)) (parts.toList.map fun p=>(p.1,a.eval p.2)) (Cl g) (AH g).toArray l (Ic _ _ _ g) (by simpa using F3 g) (by simp) (by
    simp only[List.map_map]
    have h:=Ep hs (parts.toList.map Prod.snd)
    simp only[List.map_map] at h
    exact h) hq
  refine ⟨.agg cs,?_,?_⟩
  ·unfold Instr.build
   simp only[Sem.run_bind,ht.run_zero hg,Result.andThen_ok,A6 hu,hzv]
   rw[Array.mapM_eq_mapM_toList,Sem.run_map,p1]
   simp[c1]
  ·simp only[RelV]
   exact ⟨cs.toList,by simp,c2,c3⟩
theorem T1 {rd:Nat->Nat->Option Value} {I:Nat->Prop} {t:GT} {x:t.ty} {v:Value} (h:TV rd I t x v):RelC rd I t x v.cells.toList:=by
 unfold TV at h
 split at h
 ·obtain ⟨us,rfl,hr⟩:=h;exact hr
 ·have hp:=Dq _ _ _ h v (by simp)
  have:v.cells.toList=[v]:=by cases v<;>simp[Value.oneCell'] at hp<;>rfl
  rw[this];exact h
theorem GJ {I:Nat->Prop} {β:Nat->Option Place} (rd:Nat->Nat->Option Value):Mono rd (Bx I β []) rd I:=
 ⟨(fun B hB=>by rcases hB with hB | ⟨b,hb,_⟩;exact hB;cases hb),fun _ _ _ _ h=>h⟩
theorem Q6 {gb:Nat} {w:World} {I:Nat->Prop} {β:Nat->Option Place} {H:Al} (hc:Ctx gb w I β H) {g:GT}:∀ (ps:List (Nat×AV)) (vs:List (Nat×Value)) (n:Nat) (l:List g.ty) (cs:Array Value),
 ps.map Prod.fst=vs.map Prod.fst->RelL (Ag w) I β (ps.map Prod.snd) (vs.map Prod.snd)->Dd H g n ps=some l->(n+l.length) * g.cells<=cs.size->
 ∃ cs',Instr.fill (fun i=>some (i * g.cells,g.cells)) cs vs=some cs'/\cs'.size=cs.size/\(∀ m,m < n * g.cells->cs'[m]?=cs[m]?)/\
  ∀ (i:Nat) x,l[i]?=some x->∃ us:List Value,us.length=g.cells/\(∀ j,j < g.cells->cs'[(n+i) * g.cells+j]?=us[j]?)/\RelC (Ag w) I g x us
 |[],vs,n,l,cs,e,_,hq,_=>by
  cases vs with
  |nil=>simp only[Dd] at hq;cases hq;exact ⟨cs,rfl,rfl,fun _ _=>rfl,fun i x h=>by simp at h⟩
  |cons v vs=>simp at e
 |(i,y)::ps,vs,n,l,cs,e,hr,hq,hsz=>by
  cases vs with
  |nil=>simp at e
  |cons v vs=>
   obtain ⟨j,v⟩:=v
   simp only[List.map_cons,List.cons.injEq] at e
   obtain ⟨rfl,e⟩:=e
   simp only[List.map_cons,RelL] at hr
   obtain ⟨u,us',e1,h1,h2⟩:=hr
   cases e1
   simp only[Dd] at hq
   split at hq
   ·rename_i hi;subst hi
    split at hq
    ·rename_i x hx
     split at hq
     ·rename_i l' hl'
      cases hq
      have hcell:=T1 (GR (GJ _) (decV_ok hc h1 hx))
      have hlen:=Dm _ _ _ hcell
      have hlen':v.cells.size=g.cells:=by rw[<-Array.length_toList];exact hlen
      simp only[qY11] at hsz
      have hfit:i * g.cells+v.cells.toList.length<=cs.size:=by
       rw[hlen]
       have:(i+1) * g.cells<=(i+(l'.length+1)) * g.cells:=Nat.mul_le_mul_right _ (by omega)
       rw[Nat.add_mul,Nat.one_mul] at this;omega
      have hzip:v.cells.zipIdx.foldl (fun cs (c,j)=>cs.setIfInBounds (i * g.cells+j) c) cs=v.cells.toList.zipIdx.foldl (fun cs (c,j)=>cs.setIfInBounds (i * g.cells+j) c) cs:=by
       rw[<-Array.foldl_toList,Array.toList_zipIdx]
      obtain ⟨s1,s2⟩:=Li (i * g.cells) v.cells.toList 0 cs (by omega)
      obtain ⟨cs',c1,c2,c3,c4⟩:=Q6 hc ps vs (i+1) l' (v.cells.zipIdx.foldl (fun cs (c,j)=>cs.setIfInBounds (i * g.cells+j) c) cs) e h2 hl' (by
       rw[hzip,s1];rw[show i+1+l'.length=i+(l'.length+1) from by omega];exact hsz)
      refine ⟨cs',?_,by rw[c2,hzip,s1],fun m hm=>?_,fun q y' hy=>?_⟩
      ·simp only[Instr.fill]
       rw[if_neg]
       ·exact c1
       ·simp[hlen'];rw[hlen] at hfit;exact hfit
      ·rw[c3 m (by rw[Nat.add_mul];omega),hzip,s2,if_neg (by omega)]
      ·cases q with
       |zero=>
        simp at hy;subst hy
        refine ⟨v.cells.toList,hlen,fun q hq=>?_,hcell⟩
        rw[Nat.add_zero,c3 _ (by rw[Nat.add_mul];omega),hzip,s2,if_pos (by omega)]
        congr 1;omega
       |succ q=>
        obtain ⟨us,u1,u2,u3⟩:=c4 q y' (by simpa using hy)
        exact ⟨us,u1,fun k hk=>by rw[<-u2 k hk,show i+(q+1)=i+1+q from by omega],u3⟩
     ·cases hq
    ·cases hq
   ·cases hq
theorem Rc {t e:TypeId} {n:Nat} {parts:Array (Nat×Operand)} (h:o.op=.buildSlice t n parts) {i j:TI} (ht:TOk P t i) (hd:i.d=.slice e) (hj:TOk P e j) {g:GT} (hg:j.gt=some g) {l:List g.ty} (hsz:l.length=n) (hlim:n * g.cells<=2 ^ 24)
 (hq:Dd st.heap g 0 (parts.toList.map fun p=>(p.1,st.ev p.2))=some l) {a:Act} {w:World} {β:Nat->Option Place} (hs:SimB Γ st a w β):∃ cs:Array Value,cs.size=n * g.cells/\
  (execOp a.eval o).run P w=.ok (.value (.slice (some ⟨w.heap.size,0,none⟩) n n)) (w.alloc (.cells cs e))/\
  ∀ (k:Nat) y,l[k]?=some y->∃ us:List Value,us.length=g.cells/\(∀ q,q < g.cells->cs[k * g.cells+q]?=us[q]?)/\RelC (Ag w) (Γ.after w β st.heap) g y us:=by
 have hgc:j.size=g.cells:=(hj.zero g hg).2.1.symm
 have hzc:(CN g).cells=(AH g).toArray:=by
  unfold CN
  split
  ·rfl
  ·rename_i hna
   have hna':g.isAgg=false:=by simpa using hna
   have hlen:=Es g
   have hp:=F3 g
   cases hz:AH g with
   |nil=>rw[hz] at hlen;cases g<;>simp[GT.isAgg,GT.cells] at hna' hlen
   |cons v vs=>
    have:vs=[]:=by
     rw[hz] at hlen
     cases g<;>simp[GT.isAgg,GT.cells] at hna' hlen<;>exact hlen
    subst this
    have:=hp v (by rw[hz];simp)
    simp only[List.headD_cons]
    cases v<;>simp[Value.oneCell'] at this<;>rfl
 obtain ⟨cells0,hc0⟩:∃ c:Array Value,c=(Array.range (n * j.size)).map ((if n * j.size=0 then (#[]:Array Value) else (AH g).toArray)[· % (if n * j.size=0 then (#[]:Array Value) else (AH g).toArray).size]!):=⟨_,rfl⟩
 have hsize0:cells0.size=n * g.cells:=by rw[hc0];simp[hgc]
 obtain ⟨cs,c1,c2,_,c4⟩:=Q6 hs.ctx (parts.toList.map fun p=>(p.1,st.ev p.2)) (parts.toList.map fun p=>(p.1,a.eval p.2)) 0 l cells0 (by simp) (by
  have h:=Ep hs (parts.toList.map Prod.snd)
  simp only[List.map_map] at h ⊢
  exact h) hq (by rw[hsize0,Nat.zero_add,hsz];exact Nat.le_refl _)
 have hrun:(Instr.buildSlice t n (parts.map fun (i,x)=>(i,a.eval x))).run P w=.ok (.slice (some ⟨w.heap.size,0,none⟩) n n) (w.alloc (.cells cs e)):=by
  unfold Instr.buildSlice
  simp only[Sem.run_bind,A6 (ht.slice hd),Result.andThen_ok,hj.run_size]
  rw[if_neg (by rw[hgc];omega)]
  have hfill:Instr.fill (fun i=>some (i * j.size,j.size)) cells0 (parts.map fun (i,x)=>(i,a.eval x)).toList=some cs:=by rw[hgc];simpa using c1
  by_cases hz:n * j.size=0
  ·simp only[hz,if_true] at hc0 ⊢
   simp only[Sem.run_bind,Sem.run_pure,Result.andThen_ok]
   rw[<-hc0,hfill]
   rfl
  ·simp only[hz,if_false] at hc0 ⊢
   simp only[Sem.run_bind,Sem.run_pure,Result.andThen_ok,hj.run_zero hg,hzc]
   rw[<-hc0,hfill]
   rfl
 exact ⟨cs,by rw[c2,hsize0],by simp only[execOp,h,Sem.run_bind,hrun,Result.andThen_ok,Sem.run_pure],fun k y hk=>by
  obtain ⟨us,u1,u2,u3⟩:=c4 k y hk
  exact ⟨us,u1,fun q hq=>by rw[<-u2 q hq,Nat.zero_add],u3⟩⟩
theorem con_buildSlice {t e:TypeId} {n:Nat} {parts:Array (Nat×Operand)} (h:o.op=.buildSlice t n parts) {i j:TI} (ht:TOk P t i) (hd:i.d=.slice e) (hj:TOk P e j) {g:GT} (hg:j.gt=some g) {l:List g.ty} (hsz:l.length=n) (hlim:n * g.cells<=2 ^ 24)
 (hq:Dd st.heap g 0 (parts.toList.map fun p=>(p.1,st.ev p.2))=some l):AJ P Γ st o (.sl g true l) st.heap:=
 EC fun a w β hs=>by
  obtain ⟨cs,_,hrun,c4⟩:=Rc h ht hd hj hg hsz hlim hq hs
  refine ⟨.slice (some ⟨w.heap.size,0,none⟩) n n,w.alloc (.cells cs e),hrun,β,hs.ext (Ext.alloc w _),?_⟩
  simp only[RelV,RelC]
  refine ⟨⟨_,_,by rw[hsz],by rw[hsz];exact Nat.le_refl _,fun hne=>⟨w.heap.size,0,rfl,⟨by simp,.inr (.inr hs.frm.size),?_⟩,fun k y hk=>?_⟩⟩,fun _=>⟨_,by rw[hsz]⟩⟩
  ·rintro ⟨b',r,p,hb',hp,hk,hB⟩
   obtain ⟨p',hp',hgg,_⟩:=hs.ctx.rows b' r hb'
   rw[hp] at hp';cases hp'
   have:=(hgg hk).2;omega
  ·obtain ⟨us,u1,u2,u3⟩:=c4 k y hk
   refine ⟨us,u1,fun q hq=>?_,relC_mono (Kv (Ext.alloc w _)) _ _ _ u3⟩
   have hh:(w.alloc (.cells cs e)).heap[w.heap.size]?=some (.cells cs e (0,0)):=by show (w.heap.push _)[w.heap.size]?=_;simp
   exact H4 hh (by rw[<-u2 q hq,Nat.zero_add]) (Dq _ _ _ u3)
end
end Go.AM
end
section
namespace Go.AM
open Go.RowKit (Below)
structure Env where
 P:Program
 gb:Nat
 G:World->Prop
 keep:∀ w w',G w->w.heap.size<=w'.heap.size->(∀ B,B < gb->w'.heap[B]?=w.heap[B]?)->G w'
 mixed:P.follows .mixedOrders=true
def EL (vs:List Value):Value:=
 match vs with
 |[]=>undef
 |[v]=>v
 |vs=>.tuple vs.toArray
structure FrmC (w w':World) (L:Nat->Prop):Prop where
 os:w'.os=w.os
 tape:w'.tape=w.tape
 output:w'.output=w.output
 size:w.heap.size<=w'.heap.size
 block:∀ B,B < w.heap.size->¬ L B->w'.heap[B]?=w.heap[B]?
structure OutOK (w w':World) (gb:Nat) (I:Nat->Prop) (β:Nat->Option Place) (Hin Hout:Al) (K:Nat) (I':Nat->Prop) (β':Nat->Option Place):Prop where
 ctx:Ctx gb w' I' β' Hout
 imm:∀ B,I' B->I B\/AR Hin β B\/w.heap.size<=B
 own:∀ (b:Nat) r q,Hout[b]?=some (some r)->β' b=some q->q.backed=true->AR Hin β q.B\/w.heap.size<=q.B
 kept:∀ i,i < K->β' i=β i/\∀ p,β i=some p->p.backed=true->CH w w' p
def PD (V:Env) (k:FuncId) (ps:List PK) (rk:RK) (x:Au ps) (y:Au rk) (o:BW ps):Prop:=
 ∀ (w:World) (I:Nat->Prop) (β:Nat->Option Place) (vs:Array Value),V.G w->V.gb<=w.heap.size->Ctx V.gb w I β (AX ps x)->RelL (Ag w) I β (AY ps x 0 (cntK ps)) vs.toList->
 Calls V.P k vs w fun e w'=>∃ (us:List Value) (I':Nat->Prop) (β':Nat->Option Place),e=.returned (EL us)/\FrmC w w' (AR (AX ps x) β)/\
 OutOK w w' V.gb I β (AX ps x) (CO ps rk o y) (cntK ps) I' β'/\RelL (Ag w') I' β' (E2 ps rk y) us
structure Good (V:Env) (k:FuncId) (c:Callee):Prop where
 enters : ∃ fn, V.P.funcs[k]? = some fn ∧ (fn.name == "runtime.NumGoroutine") = false ∧ fn.body.isNone = false
 spec:∀ x y o,c.g x=some (y,o)->PD V k c.ps c.rk x y o
theorem Ae {α ρ:Type} {x:Option α} {f:α->Option ρ} {z:ρ} (h:x.bind f=some z):∃ y,x=some y/\f y=some z:=by
 cases x with
 |none=>cases h
 |some y=>exact ⟨y,rfl,h⟩
theorem SimB.G {V:Env} {Γ:Base} {st:St} {a:Act} {w:World} {β:Nat->Option Place} (h:SimB Γ st a w β) (hg:Γ.gb=V.gb) (h0:V.G Γ.w):V.G w/\V.gb<=w.heap.size:=by
 refine ⟨V.keep _ _ h0 h.frm.size fun B hB=>h.frm.block B ?_ fun hl=>?_,?_⟩
 ·have:=h.gbw;omega
 ·have:=h.low B hl;omega
 ·have:=h.gbw;have:=h.frm.size;omega
theorem Ext.of_frmC {w w':World} {L:Nat->Prop} (h:FrmC w w' L) (hL:∀ B,¬ L B):Ext w w':=⟨h.os,h.tape,h.output,h.size,fun B hB=>h.block B hB (hL B)⟩
theorem G1 {β:Nat->Option Place} (B:Nat):¬ AR [] β B:=by rintro ⟨b,r,p,hb,_⟩;simp at hb
theorem scalar_rel {rd rd':Nat->Nat->Option Value} {I I':Nat->Prop}:∀ (t:GT) (x:t.ty) (vs:List Value),scalar t=true->RelC rd I t x vs->RelC rd' I' t x vs
 |.int _,_,_,_,h=>by simpa only[RelC] using h
 |.bool,_,_,_,h=>by simpa only[RelC] using h
 |.str,_,_,_,h=>by simpa only[RelC] using h
 |.err,_,_,_,h=>by simpa only[RelC] using h
 |.unit,_,_,_,h=>by simpa only[RelC] using h
 |.pair a b,x,_,hs,h=>by
  simp only[scalar,qY0] at hs
  simp only[RelC] at h ⊢
  obtain ⟨v1,v2,rfl,h1,h2⟩:=h
  exact ⟨v1,v2,rfl,scalar_rel a x.1 v1 hs.1 h1,scalar_rel b x.2 v2 hs.2 h2⟩
theorem XP {rd rd':Nat->Nat->Option Value} {I I':Nat->Prop} {t:GT} {x:t.ty} {v:Value} (hs:scalar t=true) (h:TV rd I t x v):TV rd' I' t x v:=by
 unfold TV at h ⊢
 split at h
 ·rename_i ht;rw[if_pos ht];obtain ⟨us,rfl,hr⟩:=h;exact ⟨us,rfl,scalar_rel t x us hs hr⟩
 ·rename_i ht;rw[if_neg ht];exact scalar_rel t x _ hs h
mutual
def AV.free:AV->Bool
 |.sl .. | .iptr .. | .dat ..=>false
 |.fn _ l | .agg l | .tup l=>freeL l
 |_=>true
def freeL:List AV->Bool
 |[]=>true
 |a::l=>a.free&&freeL l
end
mutual
theorem Za {rd rd':Nat->Nat->Option Value} {I I':Nat->Prop} {β:Nat->Option Place}:∀ (a:AV) (v:Value),a.free=true->RelV rd I β a v->RelV rd' I' β a v
 |.any,_,_,h | .undef,_,_,h | .nils,_,_,h | .int _ _,_,_,h | .bool _,_,_,h | .str _,_,_,h | .err _,_,_,h | .vw _,_,_,h | .pre _ _,_,_,h | .sub _ _ _,_,_,h | .ptr _ _ _,_,_,h | .nilptr,_,_,h | .mp _,_,_,h | .nilmap,_,_,h | .selfp _,_,_,h=>by simp only[RelV] at h ⊢;try exact h
 |.sl ..,_,hf,_ | .iptr ..,_,hf,_ | .dat ..,_,hf,_=>by cases hf
 |.fn f l,_,hf,h=>by simp only[RelV] at h ⊢;obtain ⟨us,rfl,h⟩:=h;exact ⟨us,rfl,relL_free l us hf h⟩
 |.agg l,_,hf,h=>by simp only[RelV] at h ⊢;obtain ⟨us,rfl,h,hp⟩:=h;exact ⟨us,rfl,relL_free l us hf h,hp⟩
 |.tup l,_,hf,h=>by simp only[RelV] at h ⊢;obtain ⟨us,rfl,h⟩:=h;exact ⟨us,rfl,relL_free l us hf h⟩
theorem relL_free {rd rd':Nat->Nat->Option Value} {I I':Nat->Prop} {β:Nat->Option Place}:∀ (l:List AV) (us:List Value),freeL l=true->RelL rd I β l us->RelL rd' I' β l us
 |[],_,_,h=>by simpa only[RelL] using h
 |a::l,_,hf,h=>by
  simp only[freeL,qY0] at hf
  simp only[RelL] at h ⊢
  obtain ⟨u,us',rfl,h1,h2⟩:=h
  exact ⟨u,us',rfl,Za a u hf.1 h1,relL_free l us' hf.2 h2⟩
end
theorem MK:∀ (l m:List AV),freeL (l++m)=(freeL l&&freeL m)
 |[],m=>by simp[freeL]
 |a::l,m=>by simp[freeL,MK l m,Bool.and_assoc]
theorem KD:∀ (t:GT) (x:t.ty),scalar t=true->freeL (AS t x)=true
 |.int _,_,_ | .bool,_,_ | .str,_,_ | .err,_,_ | .unit,_,_=>rfl
 |.pair a b,x,h=>by
  simp only[scalar,qY0] at h
  simp only[AS,MK,KD a x.1 h.1,KD b x.2 h.2,Bool.and_self]
theorem Vq (t:GT) (x:t.ty) (h:scalar t=true):(enc t x).free=true:=by
 have hf:=KD t x h
 cases t<;>(try (simp[scalar] at h;done))<;>first | rfl | exact hf
def Row.free:Row->Bool
 |.typed e _=>scalar e
 |.cells l=>freeL l
 |.mapr t _=>scalar t
theorem AG1 {w:World} {I I':Nat->Prop} {β:Nat->Option Place} {p:Place}:∀ (r:Row),r.free=true->BB w I β p r->BB w I' β p r
 |.typed e l,hf,h=>by
  obtain ⟨h1,h2,h3,h4⟩:=h
  exact ⟨h1,h2,h3,fun hk=>by
   obtain ⟨cs,ty,g1,g2,g3⟩:=h4 hk
   exact ⟨cs,ty,g1,g2,fun i x hi=>by obtain ⟨us,u1,u2,u3⟩:=g3 i x hi;exact ⟨us,u1,u2,scalar_rel _ _ _ hf u3⟩⟩⟩
 |.cells l,hf,h=>by
  obtain ⟨h1,h2,h3,cs,ty,g1,g2,us,g3,g4,g5,g6⟩:=h
  exact ⟨h1,h2,h3,cs,ty,g1,g2,us,g3,g4,relL_free l us hf g5,g6⟩
 |.mapr t l,hf,h=>by
  obtain ⟨h1,es,c,h2,h3,h4⟩:=h
  exact ⟨h1,es,c,h2,h3,fun i x hi=>by obtain ⟨e,kb,g1,g2,g3,g4⟩:=h4 i x hi;exact ⟨e,kb,g1,g2,g3,XP hf g4⟩⟩
theorem JN:∀ (f:BF) (x:CV f) (b j:Nat),f.scalar=true->freeL (BU f x b j)=true
 |.dat t,x,_,_,h=>KD t x h
 |.own _,_,_,_,_ | .slf,_,_,_,_ | .mp _,_,_,_,_ | .box _,_,_,_,_=>rfl
 |.pair f g,x,b,j,h=>by
  simp only[BF.scalar,qY0] at h
  simp only[BU,MK,JN f x.1 b j h.1,JN g x.2 b _ h.2,Bool.and_self]
theorem Iv:∀ (f:BF) (x:CV f) (j:Nat),f.scalar=true->∀ r,some r∈B3 f x j->r.free=true
 |.dat _,_,_,_,r,h | .slf,_,_,_,r,h=>by simp[B3] at h
 |.own _,_,_,hs,r,h | .mp _,_,_,hs,r,h=>by simp[B3] at h;subst h;exact hs
 |.pair f g,x,j,hs,r,h=>by
  simp only[BF.scalar,qY0] at hs
  simp only[B3,qZ7] at h
  exact h.elim (Iv f x.1 _ hs.1 r) (Iv g x.2 _ hs.2 r)
 |.box f,x,j,hs,r,h=>by
  simp only[B3,qY12,Option.some.injEq] at h
  exact h.elim (fun h=>by subst h;exact JN f x _ _ hs) (Iv f x _ hs r)
theorem HC:∀ (ps:List PK) (x:Au ps) (k j:Nat),ps.all PK.scalar=true->∀ r,some r∈BP ps x k j->r.free=true
 |[],_,_,_,_,r,h=>by simp[BP] at h
 |p::ps,x,k,j,hs,r,h=>by
  simp only[List.all_cons,qY0] at hs
  cases p<;>simp only[BP,qY12,Option.some.injEq] at h
  case box f=>exact h.elim (fun h=>by subst h;exact JN f _ _ _ hs.1) (HC ps x.2 _ _ hs.2 r)
  case row e=>exact h.elim (fun h=>by subst h;exact hs.1) (HC ps x.2 _ _ hs.2 r)
  case mp t=>exact h.elim (fun h=>by subst h;exact hs.1) (HC ps x.2 _ _ hs.2 r)
  all_goals exact HC ps x.2 _ _ hs.2 r h
theorem Im:∀ (ps:List PK) (x:Au ps) (j:Nat),ps.all PK.scalar=true->∀ r,some r∈B9 ps x j->r.free=true
 |[],_,_,_,r,h=>by simp[B9] at h
 |p::ps,x,j,hs,r,h=>by
  simp only[List.all_cons,qY0] at hs
  cases p<;>simp only[B9,qY12,qZ7,Option.some.injEq] at h
  case box f=>exact h.elim (Iv f _ _ hs.1 r) (Im ps x.2 _ hs.2 r)
  case own e=>exact h.elim (fun h=>by subst h;exact hs.1) (Im ps x.2 _ hs.2 r)
  case obj f=>exact h.elim (Iv f _ _ hs.1 r) (Im ps x.2 _ hs.2 r)
  all_goals exact Im ps x.2 _ hs.2 r h
theorem ACB (f:BF) (l:List AV) (h:freeL l=true):(H8 f l).free=true:=by
 unfold H8
 split
 ·exact h
 ·simpa [freeL] using h
 ·rfl
theorem Jw:∀ (ps:List PK) (x:Au ps) (k j:Nat),ps.all PK.scalar=true->freeL (AY ps x k j)=true
 |[],_,_,_,_=>rfl
 |p::ps,x,k,j,hs=>by
  simp only[List.all_cons,qY0] at hs
  cases p<;>simp only[AY,freeL,qY0]
  case val t=>exact ⟨Vq t _ hs.1,Jw ps x.2 _ _ hs.2⟩
  case obj f=>exact ⟨ACB f _ (JN f _ _ _ hs.1),Jw ps x.2 _ _ hs.2⟩
  all_goals exact ⟨rfl,Jw ps x.2 _ _ hs.2⟩
theorem TR {ps rk:List PK} (o:BW ps) (y:Au rk) (h:(rk.all PK.scalar&&(opsOf ps).all PK.scalar)=true):(∀ r,some r∈CO ps rk o y->r.free=true)/\freeL (E2 ps rk y)=true:=by
 simp only[qY0] at h
 refine ⟨fun r hr=>?_,Jw _ _ _ _ h.1⟩
 simp only[CO,qZ7] at hr
 rcases hr with (hr | hr) | (hr | hr)
 ·exact HC _ _ _ _ h.2 r hr
 ·exact Im _ _ _ h.2 r hr
 ·exact HC _ _ _ _ h.1 r hr
 ·exact Im _ _ _ h.1 r hr
theorem OU {rd:Nat->Nat->Option Value} {I:Nat->Prop} {β:Nat->Option Place} {l:List AV} {vs:List Value} (h:RelL rd I β l vs):RelV rd I β (Ls l) (EL vs):=by
 unfold Ls EL
 cases l with
 |nil=>simp only[RelL] at h;subst h;simp[RelV]
 |cons a l=>
  simp only[RelL] at h
  obtain ⟨u,us,rfl,h1,h2⟩:=h
  cases l with
  |nil=>simp only[RelL] at h2;subst h2;exact h1
  |cons b l=>
   have h3:=h2
   simp only[RelL] at h2
   obtain ⟨u',us',rfl,_,_⟩:=h2
   simp only[RelV]
   exact ⟨u::u'::us',rfl,by simp only[RelL];exact ⟨u,_,rfl,h1,by simpa only[RelL] using h3⟩⟩
section
variable {V:Env} {Γ:Base} {st:St} {o:Oper} {ρ:Type} {z:ρ}
theorem ADb {c : Call} (h : o.op = .call c) {f : Operand} (hc : c.callee = .value f) {k : FuncId} (he : ∃ fn, V.P.funcs[k]? = some fn ∧ (fn.name == "runtime.NumGoroutine") = false ∧ fn.body.isNone = false) {a : Act} {caps : List Value} (hf : a.eval f = .func (.func k) #[] caps.toArray) (w : World) :
 (execOp a.eval o).run V.P w=.ok (.enter k (c.args.map a.eval++caps.toArray)) w:=by
 obtain ⟨fn,h1,h2,h3⟩:=he
 simp only[execOp,h,resolve,hc,hf,Deferred.ofValue,pure_bind,invoke,callFunc,Sem.run_bind,run_program,Result.andThen_ok,h1]
 simp only[h2,h3]
 simp[Sem.run_pure]
def HJ (P : Program) (k kb : FuncId) : Prop := (∃ fn, P.funcs[k]? = some fn ∧ (fn.name == "runtime.NumGoroutine") = false ∧ fn.body.isNone = false) ∧
 ∀ (v:Value) (w:World),v.oneCell'=true->Calls P k #[v] w fun e w'=>∃ ty,e=.returned (.func (.func kb) #[] #[.pointer (some ⟨w.heap.size,0,none⟩)])/\Ext w w'/\w'.heap.size=w.heap.size+1/\w'.heap[w.heap.size]?=some (.cells #[v] ty (0,0))
theorem MF {c : Call} (h : o.op = .call c) {f : Operand} (hc : c.callee = .value f) {k : FuncId} (he : ∃ fn, V.P.funcs[k]? = some fn ∧ (fn.name == "runtime.NumGoroutine") = false ∧ fn.body.isNone = false) {a : Act} {caps : List Value} (hf : a.eval f = .func (.func k) #[] caps.toArray) {w : World}
 {next:Act->World->Prop} {Q:Exit->Act->World->Prop} (hcall:Calls V.P k (c.args.map a.eval++caps.toArray) w fun e w'=>∃ v,e=.returned v/\next (a.put o.dst v) w'):o.wp V.P a w next Q:=by
 unfold Oper.wp
 rw[ADb h hc he hf w]
 refine Calls.mono hcall ?_
 rintro e w' ⟨v,rfl,hn⟩
 exact hn
theorem decC_rows {H:Al}:∀ (t:GT) (l:List AV) x r m,decC H t l=some (x,r,m)->∀ b∈m,∃ row,H[b]?=some (some row):=by
 intro t
 induction t with
 |int k=>intro l x r m hd;cases l with
  |nil=>simp[decC] at hd
  |cons a l=>cases a<;>(try simp only[decC,reduceCtorEq] at hd);split at hd<;>cases hd;simp
 |bool=>intro l x r m hd;cases l with
  |nil=>simp[decC] at hd
  |cons a l=>cases a<;>(try simp only[decC,reduceCtorEq] at hd);cases hd;simp
 |str=>intro l x r m hd;cases l with
  |nil=>simp[decC] at hd
  |cons a l=>cases a<;>(try simp only[decC,reduceCtorEq] at hd);cases hd;simp
 |err=>intro l x r m hd;cases l with
  |nil=>simp[decC] at hd
  |cons a l=>cases a<;>(try simp only[decC,reduceCtorEq] at hd);cases hd;simp
 |sl e _=>
  intro l x r m hd
  cases l with
  |nil=>simp[decC] at hd
  |cons a l=>
   cases a<;>(try simp only[decC,reduceCtorEq] at hd)
   case sl=>split at hd<;>cases hd;simp
   case nils=>cases hd;simp
   case dat t2 y=>
    cases t2<;>(try simp only[decC,reduceCtorEq] at hd)
    split at hd<;>cases hd;simp
   all_goals
    split at hd
    ·rename_i e' l' hb
     split at hd
     ·cases hd;intro b hb';simp at hb';subst hb';exact ⟨_,hb⟩
     ·cases hd
    ·cases hd
 |unit=>intro l x r m hd;simp only[decC] at hd;cases hd;simp
 |pair a b iha ihb=>
  intro l x r m hd
  simp only[decC] at hd
  split at hd
  ·rename_i x1 r1 m1 h1
   split at hd
   ·rename_i x2 r2 m2 h2
    cases hd
    intro b hb
    rcases List.mem_append.1 hb with hb | hb
    ·exact iha _ _ _ _ h1 b hb
    ·exact ihb _ _ _ _ h2 b hb
   ·cases hd
  ·cases hd
 |ptr e ih=>
  intro l x r m hd
  cases l with
  |nil=>simp[decC] at hd
  |cons a l=>
   cases a<;>(try simp only[decC,reduceCtorEq] at hd)
   case nilptr=>cases hd;simp
   case dat t2 y=>
    cases t2<;>(try simp only[decC,reduceCtorEq] at hd)
    split at hd<;>cases hd;simp
   case iptr e' x' k=>
    cases k with
    |succ k=>simp[decC] at hd
    |zero=>simp only[decC] at hd;split at hd<;>cases hd;simp
   case ptr b i k=>
    cases i with
    |succ i=>simp[decC] at hd
    |zero=>cases k with
     |succ k=>simp[decC] at hd
     |zero=>
      simp only[decC] at hd
      split at hd
      ·rename_i l' hb
       split at hd
       ·rename_i y m1 h1
        cases hd
        intro b' hb'
        rcases List.mem_cons.1 hb' with rfl | hb'
        ·exact ⟨_,hb⟩
        ·exact ih _ _ _ _ h1 b' hb'
       ·cases hd
      ·cases hd
 |fnv f c ih=>
  intro l x r m hd
  cases l with
  |nil=>simp[decC] at hd
  |cons a l=>
   cases a<;>(try simp only[decC,reduceCtorEq] at hd)
   split at hd
   ·split at hd
    ·rename_i y m1 h1
     cases hd
     exact ih _ _ _ _ h1
    ·cases hd
   ·cases hd
 |map t=>
  intro l x r m hd
  cases l with
  |nil=>simp[decC] at hd
  |cons a l=>
   cases a<;>(try simp only[decC,reduceCtorEq] at hd)
   case nilmap=>cases hd;simp
   case mp b=>
    split at hd
    ·rename_i t' l' hb
     split at hd
     ·cases hd;intro b' hb';simp at hb';subst hb';exact ⟨_,hb⟩
     ·cases hd
    ·cases hd
   case dat t2 y=>
    cases t2<;>(try simp only[decC,reduceCtorEq] at hd)
    split at hd<;>cases hd;simp
 |osl e=>
  intro l x r m hd
  cases l with
  |nil=>simp[decC] at hd
  |cons a l=>
   cases a<;>(try simp only[decC,reduceCtorEq] at hd)
   case nils=>cases hd;simp
   case dat t2 y=>
    cases t2<;>(try simp only[decC,reduceCtorEq] at hd)
    split at hd<;>cases hd;simp
   case sl e2 f2 l2=>split at hd<;>cases hd;simp
 |chain e ih=>
  intro l x r m hd
  cases l with
  |nil=>simp[decC] at hd
  |cons a l=>
   cases a<;>(try simp only[decC,reduceCtorEq] at hd)
   case nilptr=>cases hd;simp
   case dat t2 y=>
    cases t2<;>(try simp only[decC,reduceCtorEq] at hd)
    split at hd<;>cases hd;simp
   case ptr b i k=>
    cases i with
    |succ i=>simp[decC] at hd
    |zero=>cases k with
     |succ k=>simp[decC] at hd
     |zero=>
      simp only[decC] at hd
      split at hd
      ·rename_i l' hb
       have key:∀ m1 y c,decC H e l'=some (y,c,m1)->∀ b'∈b::m1,∃ row,H[b']?=some (some row):=fun m1 y c h1 b' hb'=>by
        rcases List.mem_cons.1 hb' with rfl | hb'
        ·exact ⟨_,hb⟩
        ·exact ih _ _ _ _ h1 b' hb'
       split at hd
       ·rename_i h1
        split at hd<;>cases hd
        exact key _ _ _ h1
       ·rename_i h1
        cases hd
        exact key _ _ _ h1
       ·cases hd
      ·cases hd
theorem SB {H:Al} {t:GT} {a:AV} {x:t.ty} {m:List Nat} (hd:Dv H t a=some (x,m)):∀ b∈m,∃ row,H[b]?=some (some row):=by
 unfold Dv at hd
 split at hd
 ·split at hd
  ·split at hd
   ·rename_i hx;cases hd;exact decC_rows _ _ _ _ _ hx
   ·cases hd
  ·cases hd
 ·split at hd
  ·rename_i hx;cases hd;exact decC_rows _ _ _ _ _ hx
  ·cases hd
theorem Yk {gb:Nat} {w:World} {I:Nat->Prop} (hI:∀ B,I B->B < w.heap.size):Ctx gb w I (fun _=>none) []:=
 ⟨fun b r h=>by simp at h,fun b b' r r' p p' h=>by simp at h,fun B hB=>⟨hI B hB,G1 B⟩,fun _ _=>rfl⟩
end
end Go.AM
end
section
namespace Go.AM
open Go.RowKit (Below)
theorem NQ (g:GT):(CN g).cells=(AH g).toArray:=by
 unfold CN
 split
 ·rfl
 ·rename_i hna
  have hna':g.isAgg=false:=by simpa using hna
  have hlen:=Es g
  have hp:=F3 g
  cases hz:AH g with
  |nil=>rw[hz] at hlen;cases g<;>simp[GT.isAgg,GT.cells] at hna' hlen
  |cons v vs=>
   have:vs=[]:=by
    rw[hz] at hlen
    cases g<;>simp[GT.isAgg,GT.cells] at hna' hlen<;>exact hlen
   subst this
   have:=hp v (by rw[hz];simp)
   simp only[List.headD_cons]
   cases v<;>simp[Value.oneCell'] at this<;>rfl
theorem HW {α:Type} (l v:List α) (a:Nat) (h:a+v.length<=l.length) (m:Nat) :
 (l.take a++v++l.drop (a+v.length))[m]?=if a<=m/\m < a+v.length then v[m - a]? else l[m]?:=by
 by_cases h1:m < a
 ·rw[if_neg (by omega),qZ1,qY8 (by simp;omega),List.getElem?_take,if_pos h1]
 ·by_cases h2:m < a+v.length
  ·rw[if_pos ⟨by omega,h2⟩,qZ1,qY9 (by simp;omega),qY8 (by simp;omega)]
   simp only[List.length_take]
   rw[show min a l.length=a from by omega]
  ·rw[if_neg (by omega),qY9 (by simp;omega),List.getElem?_drop]
   congr 1;simp;omega
theorem EW {α:Type} (l v:List α) (a:Nat) (h:a+v.length<=l.length):(l.take a++v++l.drop (a+v.length)).length=l.length:=by simp;omega
theorem Jb (w:World) (o:Obj):(w.alloc o).heap[w.heap.size]?=some o:=by show (w.heap.push _)[w.heap.size]?=_;simp
section
variable {V:Env} {Γ:Base} {st:St} {o:Oper} {ρ:Type} {z:ρ}
theorem Ui {a:Act} {w:World} {β:Nat->Option Place} (hs:SimB Γ st a w β) (ty:TypeId) {l:List AV} {us:List Value} (hr:RelL (Ag w) (Γ.after w β st.heap) β l us) (hp:∀ u∈us,u.oneCell'=true) (htag:BK l=true->ty=bldT/\us.length=2) :
 ∃ β',SimB Γ { st with heap:=st.heap++[some (.cells l)] } a (w.alloc (.cells us.toArray ty)) β'/\RelV (Ag (w.alloc (.cells us.toArray ty))) (Γ.after (w.alloc (.cells us.toArray ty)) β' (st.heap++[some (.cells l)])) β' (.ptr st.heap.length 0 0) (.pointer (some ⟨w.heap.size,0,none⟩)):=by
 have hl:=CP _ _ hr
 obtain ⟨β',h1,h2,h3,h4⟩:=G5 hs (Ext.alloc w (.cells us.toArray ty)) (.cells l) ⟨w.heap.size,0,l.length,1,us.length,true⟩ (fun _=>⟨Nat.le_refl _,by simp⟩) (fun β' hβ hm=>
  ⟨rfl,rfl,rfl,us.toArray,ty,Jb _ _,⟨by simp[hl],by simp,fun h=>⟨(htag h).1,rfl,by simpa using (htag h).2⟩⟩,us,hl,fun j hj=>by simp,relL_mono hm hβ l us hr,hp⟩)
 refine ⟨β',h1,?_⟩
 simp only[RelV]
 exact ⟨_,h2,rfl,by simp⟩
theorem Q9 {l:List AV} (h:Ea l=true):BK l=false:=by
 cases l with
 |nil=>rfl
 |cons a l=>simp only[Ea,List.all_cons,qY0,Bool.not_eq_true'] at h;exact h.1
theorem LU:∀ (t:GT) (x:t.ty),(AS t x).all (fun a=>!a.isSelf)=true
 |.int _,_ | .bool,_ | .str,_ | .err,_ | .sl _,_ | .unit,_ | .ptr _,_ | .fnv _ _,_ | .map _,_ | .chain _,_ | .osl _,_=>rfl
 |.pair a b,x=>by simp only[AS,List.all_append,LU a x.1,LU b x.2,Bool.and_self]
theorem Oq:∀ (t:GT),Ea (Cl t)=true
 |.int _ | .bool | .str | .err | .sl _ | .unit | .ptr _ | .map _ | .chain _ | .osl _=>rfl
 |.fnv f c=>LU (.fnv f c) _
 |.pair a b=>by
  have h1:=Oq a;have h2:=Oq b
  simp only[Ea] at h1 h2 ⊢
  simp only[Cl,List.all_append,h1,h2,Bool.and_self]
theorem con_alloc {t:TypeId} (h:o.op=.alloc t) {i:TI} (ht:TOk V.P t i) {g:GT} (hg:i.gt=some g):AJ V.P Γ st o (.ptr st.heap.length 0 0) (st.heap++[some (.cells (JV st.heap.length t g))]):=
 EC fun a w β hs=>by
  obtain ⟨hrel,htag⟩:RelL (Ag w) (Γ.after w β st.heap) β (JV st.heap.length t g) (AH g)/\(BK (JV st.heap.length t g)=true->t=bldT/\(AH g).length=2):=by
   have plain:RelL (Ag w) (Γ.after w β st.heap) β (Cl g) (AH g)/\(BK (Cl g)=true->t=bldT/\(AH g).length=2):=⟨Ic _ _ _ g,fun h=>by rw[Q9 (Oq g)] at h;cases h⟩
   unfold JV
   split
   ·rename_i e
    split
    ·refine ⟨?_,fun _=>⟨e,rfl⟩⟩
     rename_i e1 e2
     have:=Ic (Ag w) (Γ.after w β st.heap) β (.pair (.ptr e1) (.sl e2))
     simp only[Cl,AS,RelL,List.singleton_append,List.append_eq] at this ⊢
     obtain ⟨u,us,h1,h2,h3⟩:=this
     refine ⟨u,us,h1,?_,h3⟩
     simp only[RelV,GT.zero,RelC] at h2 ⊢
     left;simpa using h2
    ·exact plain
   ·exact plain
  obtain ⟨β',h1,h2⟩:=Ui hs t hrel (F3 g) htag
  refine ⟨.pointer (some ⟨w.heap.size,0,none⟩),w.alloc (.cells (AH g).toArray t),?_,β',h1,h2⟩
  simp only[execOp,h,Instr.alloc,Sem.run_bind,ht.run_zero hg,Result.andThen_ok,newVar,NQ]
  rfl
theorem con_box {t:TypeId} {x:Operand} (h:o.op=.box t x) (hp:((st.ev x).plain||(st.ev x).isA)=true) (hns:Ea (st.ev x).cellsOf=true):AJ V.P Γ st o (.ptr st.heap.length 0 0) (st.heap++[some (.cells (st.ev x).cellsOf)]):=
 EC fun a w β hs=>by
  obtain ⟨c1,c2⟩:=Nc (Ax hs x) hp
  obtain ⟨β',h1,h2⟩:=Ui hs t c1 c2 (fun h=>by rw[Q9 hns] at h;cases h)
  refine ⟨.pointer (some ⟨w.heap.size,0,none⟩),w.alloc (.cells (a.eval x).cells.toList.toArray t),?_,β',h1,h2⟩
  simp only[execOp,h,Instr.box,newVar,Array.toArray_toList]
  rfl
theorem UZ {a:Act} {w w':World} {β:Nat->Option Place} (hs:SimB Γ st a w β) {e:GT} {l:List e.ty} {ty:TypeId} (hu8:e=.int .u8->ty=Eh) {cs:Array Value} {cap:Nat} (he:Ext w w') (hsz:w'.heap.size=w.heap.size+1) (hh:w'.heap[w.heap.size]?=some (.cells cs ty (0,0))) (hcap:l.length<=cap) (hcm:cap<=FG) (hcs:cs.size=cap * e.cells)
 (hel:∀ (i:Nat) x,l[i]?=some x->∃ us:List Value,us.length=e.cells/\(∀ j,j < e.cells->cs[i * e.cells+j]?=us[j]?)/\RelC (Ag w) (Γ.after w β st.heap) e x us) :
 ∃ β',SimB Γ { st with heap:=st.heap++[some (.typed e l)] } a w' β'/\RelV (Ag w') (Γ.after w' β' (st.heap++[some (.typed e l)])) β' (.vw st.heap.length) (.slice (some ⟨w.heap.size,0,none⟩) l.length cap):=by
 have hmul:l.length * e.cells<=cap * e.cells:=Nat.mul_le_mul_right _ hcap
 obtain ⟨β',h1,h2,h3,h4⟩:=G5 hs he (.typed e l) ⟨w.heap.size,0,e.cells,l.length,cs.size,true⟩ (fun _=>⟨Nat.le_refl _,by simp;omega⟩) (fun β' hβ hm=>
  ⟨rfl,rfl,fun h=>(by cases h),fun _=>⟨cs,ty,hh,⟨by simp;omega,rfl,hu8,by rw[hcs];exact Nat.mul_le_mul_right _ hcm⟩,fun i x hi=>by
   obtain ⟨us,u1,u2,u3⟩:=hel i x hi
   exact ⟨us,u1,fun j hj=>by simp only[Nat.zero_add];exact u2 j hj,relC_mono hm _ _ _ u3⟩⟩⟩)
 refine ⟨β',h1,?_⟩
 simp only[RelV]
 exact ⟨_,h2,_,_,rfl,hcap,.inr ⟨rfl,rfl,by simp;omega⟩⟩
theorem AE8 {t e:TypeId} {lo co:Operand} (h:o.op=.makeSlice t lo co) {i j:TI} (ht:TOk V.P t i) (hd:i.d=.slice e) (hj:TOk V.P e j) {g:GT} (hg:j.gt=some g) {k k':IntKind} {n c:Int} (hl:st.ev lo=.int k n) (hc:st.ev co=.int k' c)
 (h0:0<=n) (h1:n<=c) (h2:c<=As) (hb:j.bytes<=1024) (hu8:g=.int .u8->e=Eh):AJ V.P Γ st o (.vw st.heap.length) (st.heap++[some (.typed g (List.replicate n.toNat g.zero))]):=
 EC fun a w β hs=>by
  have e1:=Ax hs lo;have e2:=Ax hs co
  rw[hl] at e1;rw[hc] at e2;simp only[RelV] at e1 e2
  have hgc:j.size=g.cells:=(hj.zero g hg).2.1.symm
  obtain ⟨info,hi,hisz,hib,hiz⟩:=hj.info
  unfold As at h2
  have w1:qI n=n:=IntWalk.i64_in n (by omega)
  have w2:qI c=c:=IntWalk.i64_in c (by omega)
  have hfit:(j.bytes:Int) * c<=2 ^ 48:=by
   have:(j.bytes:Int) * c<=1024 * (2 ^ 36:Nat):=Int.mul_le_mul (by omega) h2 (by omega) (by omega)
   exact Int.le_trans this (by decide)
  obtain ⟨cells,hcells⟩:∃ cs:Array Value,cs=(Array.range (c.toNat * j.size)).map ((if c.toNat * j.size=0 then (#[]:Array Value) else (AH g).toArray)[· % (if c.toNat * j.size=0 then (#[]:Array Value) else (AH g).toArray).size]!):=⟨_,rfl⟩
  have hcs:cells.size=c.toNat * g.cells:=by rw[hcells];simp[hgc]
  have hrun:(Instr.makeSlice t (a.eval lo) (a.eval co)).run V.P w=.ok (.slice (some ⟨w.heap.size,0,none⟩) n.toNat c.toNat) (w.alloc (.cells cells e)):=by
   rw[e1,e2]
   unfold Instr.makeSlice
   simp only[Sem.run_bind,A6 (ht.slice hd),Result.andThen_ok,asInt,asIntOf,pure_bind]
   have hti:(typeInfo e).run V.P w=.ok info w:=by simp[typeInfo,hi]
   simp only[hti,Result.andThen_ok,w1,w2]
   have hno:(((decide (c < 0)||decide ((info.bytes:Int) * c > 2 ^ 48))||decide (n < 0))||decide (n > c))=false:=by
    rw[hib]
    have a1:¬ c < 0:=by omega
    have a2:¬ ((j.bytes:Int) * c > 2 ^ 48):=by omega
    have a3:¬ n < 0:=by omega
    have a4:¬ n > c:=by omega
    simp only[a1,a2,a3,a4,decide_false,Bool.or_self]
   rw[if_neg (by rw[hno];simp)]
   simp only[Sem.run_bind,run_askRoom,Result.andThen_ok,hj.run_size]
   by_cases hz:c.toNat * j.size=0
   ·simp only[hz,if_true] at hcells ⊢
    simp only[Sem.run_bind,Sem.run_pure,Result.andThen_ok]
    rw[<-hcells]
    rfl
   ·simp only[hz,if_false] at hcells ⊢
    simp only[Sem.run_bind,Sem.run_pure,Result.andThen_ok,hj.run_zero hg,NQ]
    rw[<-hcells]
    rfl
  obtain ⟨β',h1',h2'⟩:=UZ (l:=List.replicate n.toNat g.zero) (cap:=c.toNat) hs hu8 (Ext.alloc w (.cells cells e)) (by simp) (Jb _ _) (by simp;omega) (by unfold FG;omega) hcs (fun q x hq=>by
   rw[List.getElem?_replicate] at hq
   split at hq
   ·rename_i hlt
    cases hq
    refine ⟨AH g,Es g,fun m hm=>?_,CT _ _ g⟩
    have hpos:q * g.cells+m < c.toNat * g.cells:=by
     have:(q+1) * g.cells<=c.toNat * g.cells:=Nat.mul_le_mul_right _ (by omega)
     rw[Nat.add_mul,Nat.one_mul] at this;omega
    have hnz:¬ c.toNat * j.size=0:=by rw[hgc];omega
    rw[hcells]
    simp only[hnz,if_false]
    rw[Array.getElem?_map,Array.getElem?_range,if_pos (by rw[hgc];exact hpos)]
    have hsz:(AH g).toArray.size=g.cells:=by simp[Es]
    have hmod:(q * g.cells+m) % g.cells=m:=by rw[Nat.mul_comm,Nat.mul_add_mod,Nat.mod_eq_of_lt hm]
    simp only[Option.map_some,hsz,hmod]
    rw[getElem!_pos _ _ (by rw[hsz];exact hm)]
    simp[qZ5 (show m < (AH g).length by rw[Es];exact hm)]
   ·cases hq)
  rw[List.length_replicate] at h2'
  refine ⟨_,_,by simp only[execOp,h,Sem.run_bind,hrun,Result.andThen_ok,Sem.run_pure],β',h1',h2'⟩
end
end Go.AM
end
section
namespace Go.AM
open Go.RowKit (Below)
theorem Ot {H:Al}:∀ (t:GT) (l:List AV) x r m,decC [] t l=some (x,r,m)->decC H t l=some (x,r,m)/\m=[]:=by
 intro t
 induction t with
 |int k=>intro l x r m hd;cases l with
  |nil=>simp[decC] at hd
  |cons a l=>cases a<;>(try simp only[decC,reduceCtorEq] at hd ⊢);split at hd<;>cases hd;rename_i hk;simp[hk]
 |bool=>intro l x r m hd;cases l with
  |nil=>simp[decC] at hd
  |cons a l=>cases a<;>(try simp only[decC,reduceCtorEq] at hd ⊢);cases hd;simp
 |str=>intro l x r m hd;cases l with
  |nil=>simp[decC] at hd
  |cons a l=>cases a<;>(try simp only[decC,reduceCtorEq] at hd ⊢);cases hd;simp
 |err=>intro l x r m hd;cases l with
  |nil=>simp[decC] at hd
  |cons a l=>cases a<;>(try simp only[decC,reduceCtorEq] at hd ⊢);cases hd;simp
 |sl e _=>
  intro l x r m hd
  cases l with
  |nil=>simp[decC] at hd
  |cons a l=>
   cases a<;>(try simp only[decC,reduceCtorEq,List.getElem?_nil] at hd ⊢)
   case sl=>split at hd<;>cases hd;rename_i he;simp[he]
   case nils=>cases hd;simp
   case dat t2 y=>
    cases t2<;>(try simp only[decC,reduceCtorEq] at hd ⊢)
    split at hd<;>cases hd;rename_i he;simp[he]
 |unit=>intro l x r m hd;simp only[decC] at hd ⊢;cases hd;simp
 |pair a b iha ihb=>
  intro l x r m hd
  simp only[decC] at hd ⊢
  split at hd
  ·rename_i x1 r1 m1 h1
   obtain ⟨g1,rfl⟩:=iha _ _ _ _ h1
   rw[g1]
   split at hd
   ·rename_i x2 r2 m2 h2
    obtain ⟨g2,rfl⟩:=ihb _ _ _ _ h2
    simp only[g2]
    cases hd;simp
   ·cases hd
  ·cases hd
 |ptr e ih=>
  intro l x r m hd
  cases l with
  |nil=>simp[decC] at hd
  |cons a l=>
   cases a<;>(try simp only[decC,reduceCtorEq] at hd ⊢)
   case nilptr=>cases hd;simp
   case dat t2 y=>
    cases t2<;>(try simp only[decC,reduceCtorEq] at hd ⊢)
    split at hd<;>cases hd;rename_i he;simp[he]
   case iptr e' x' k=>
    cases k with
    |succ k=>simp[decC] at hd
    |zero=>simp only[decC] at hd ⊢;split at hd<;>cases hd;rename_i he;simp[he]
   case ptr b i k=>
    cases i with
    |succ i=>simp[decC] at hd
    |zero=>cases k with
     |succ k=>simp[decC] at hd
     |zero=>simp[decC] at hd
 |fnv f c ih=>
  intro l x r m hd
  cases l with
  |nil=>simp[decC] at hd
  |cons a l=>
   cases a<;>(try simp only[decC,reduceCtorEq] at hd ⊢)
   split at hd
   ·rename_i hf
    split at hd
    ·rename_i y m1 h1
     obtain ⟨g1,rfl⟩:=ih _ _ _ _ h1
     cases hd
     simp[hf,g1]
    ·cases hd
   ·cases hd
 |map t=>
  intro l x r m hd
  cases l with
  |nil=>simp[decC] at hd
  |cons a l=>
   cases a<;>(try simp only[decC,reduceCtorEq,List.getElem?_nil] at hd ⊢)
   case nilmap=>cases hd;simp
   case dat t2 y=>
    cases t2<;>(try simp only[decC,reduceCtorEq] at hd ⊢)
    split at hd<;>cases hd;rename_i he;simp[he]
 |osl e=>
  intro l x r m hd
  cases l with
  |nil=>simp[decC] at hd
  |cons a l=>
   cases a<;>(try simp only[decC,reduceCtorEq] at hd ⊢)
   case nils=>cases hd;simp
   case dat t2 y=>
    cases t2<;>(try simp only[decC,reduceCtorEq] at hd ⊢)
    split at hd<;>cases hd;rename_i he;simp[he]
   case sl e2 f2 l2=>split at hd<;>cases hd;rename_i he;simp[he]
 |chain e ih=>
  intro l x r m hd
  cases l with
  |nil=>simp[decC] at hd
  |cons a l=>
   cases a<;>(try simp only[decC,reduceCtorEq] at hd ⊢)
   case nilptr=>cases hd;simp
   case dat t2 y=>
    cases t2<;>(try simp only[decC,reduceCtorEq] at hd ⊢)
    split at hd<;>cases hd;rename_i he;simp[he]
   case ptr b i k=>
    cases i with
    |succ i=>simp[decC] at hd
    |zero=>cases k with
     |succ k=>simp[decC] at hd
     |zero=>simp[decC] at hd
section
variable {V:Env} {Γ:Base} {st:St} {o:Oper} {ρ:Type} {z:ρ}
theorem Xr {P:Program} {t:TypeId} {i:TI} (ht:TOk P t i) {w:World} {B o':Nat} {cs:Array Value} {ty:TypeId} (hg:w.heap[B]?=some (.cells cs ty (0,0))) {v:Value} (hsz:v.cells.toList.length=i.size) (hfit:o'+i.size<=cs.size) (hp:∀ u∈v.cells.toList,u.oneCell'=true) :
 (Instr.storeAt t (.pointer (some ⟨B,o',none⟩)) v).run P w=.ok () (w.setRow B (cs.toList.take o'++v.cells.toList++cs.toList.drop (o'+v.cells.toList.length)).toArray):=by
 unfold Instr.storeAt storeVar
 simp only[Instr.sureAddr,pure_bind,Sem.run_bind,ht.run_size,Result.andThen_ok]
 rw[if_neg (by rw[<-Array.length_toList,hsz];simp)]
 have:=run_storeCells_at (P:=P) B o' ty v.cells.toList 0 cs w hg (by omega) hp
 simpa using this
theorem AGK {l v:List AV} {k n:Nat} (hn:v.length=n) (hv:Ea v=true) (h:BK (l.take k++v++l.drop (k+n))=true):BK l=true:=by
 cases v with
 |nil=>
  simp only[List.length_nil] at hn
  subst hn
  simpa using h
 |cons b v=>
  have hb:b.isSelf=false:=by simp only[Ea,List.all_cons,qY0,Bool.not_eq_true'] at hv;exact hv.1
  cases k with
  |zero=>simp[BK,hb] at h
  |succ k=>
   cases l with
   |nil=>simp[BK,hb] at h
   |cons a l=>simpa [BK] using h
theorem con_store {t:TypeId} {x y:Operand} (h:o.op=.store t x y) {i:TI} (ht:TOk V.P t i) (hp:((st.ev y).plain||(st.ev y).isA)=true) (hsz:(st.ev y).cellsOf.length=i.size) {b j k:Nat} (hx:st.ev x=.ptr b j k) {r0 r:Row} (hb:st.heap[b]?=some (some r0))
 (hr:(∃ l,r0=.cells l/\j=0/\k+i.size<=l.length/\Ea (st.ev y).cellsOf=true/\r=.cells (l.take k++(st.ev y).cellsOf++l.drop (k+i.size)))\/
  (∃ e l q m,r0=.typed e l/\k+i.size<=e.cells/\j < l.length/\decC [] e ((AS e (l.getD j e.zero)).take k++(st.ev y).cellsOf++(AS e (l.getD j e.zero)).drop (k+i.size))=some (q,[],m)/\r=.typed e (l.set j q))) :
 AJ V.P Γ st o .undef (st.heap.set b (some r)):=by
 intro a w β hs next Q hn
 obtain ⟨c1,c2⟩:=Nc (Ax hs y) hp
 have c3:=CP _ _ c1
 have e1:=Ax hs x
 rw[hx] at e1;simp only[RelV] at e1
 obtain ⟨p,hpb,hk,e1⟩:=e1
 have vlen:(a.eval y).cells.toList.length=i.size:=by rw[c3,hsz]
 have main:∀ (cs:Array Value) (ty:TypeId),w.heap[p.B]?=some (.cells cs ty (0,0))->p.O+j * p.s+k+i.size<=cs.size->(j < p.n/\k+i.size<=p.s)->
  (∀ w',w'.heap[p.B]?=some (.cells (cs.toList.take (p.O+j * p.s+k)++(a.eval y).cells.toList++cs.toList.drop (p.O+j * p.s+k+(a.eval y).cells.toList.length)).toArray ty (0,0))->
   Mono (Ag w) (Γ.after w β st.heap) (Ag w') (Γ.after w' β (st.heap.set b (some r)))->BB w' (Γ.after w' β (st.heap.set b (some r))) β p r)->
  o.wp V.P a w next Q:=by
  intro cs ty hg hfit hin hrow
  have hrun:=Xr ht hg vlen (o':=p.O+j * p.s+k) hfit c2
  obtain ⟨cs',hcs'⟩:∃ cs':Array Value,cs'=(cs.toList.take (p.O+j * p.s+k)++(a.eval y).cells.toList++cs.toList.drop (p.O+j * p.s+k+(a.eval y).cells.toList.length)).toArray:=⟨_,rfl⟩
  rw[<-hcs'] at hrun
  have hh':(w.setRow p.B cs').heap[p.B]?=some (.cells cs' ty (0,0)):=setRow_heap w p.B cs cs' ty (0,0) hg
  have hsize:cs'.size=cs.size:=by
   rw[hcs',<-Array.length_toList]
   simpa using EW cs.toList (a.eval y).cells.toList (p.O+j * p.s+k) (by rw[vlen];simpa using hfit)
  have hget:∀ m,cs'[m]?=if p.O+j * p.s+k<=m/\m < p.O+j * p.s+k+i.size then (a.eval y).cells.toList[m - (p.O+j * p.s+k)]? else cs[m]?:=by
   intro m
   rw[hcs',<-Array.getElem?_toList]
   simp only
   rw[HW cs.toList (a.eval y).cells.toList _ (by rw[vlen];simpa using hfit),vlen]
   simp only[Array.getElem?_toList]
  have hmono:Mono (Ag w) (Γ.after w β st.heap) (Ag (w.setRow p.B cs')) (Γ.after (w.setRow p.B cs') β (st.heap.set b (some r))):=by
   refine GX (fun B hB=>⟨by simpa using hB.1,hB.2.1,fun hl=>hB.2.2 ?_⟩) fun B hB=>setRow_other w p.B B cs' fun e=>hB.2.2 ⟨b,r0,p,hb,hpb,hk,e.symm⟩
   obtain ⟨b',r',q,hb',hq⟩:=hl
   rw[List.getElem?_set] at hb'
   split at hb'
   ·rename_i e;subst e;exact ⟨b,r0,q,hb,hq⟩
   ·exact ⟨b',r',q,hb',hq⟩
  have hs':=MR hs hb hpb hk (w':=w.setRow p.B cs') rfl rfl rfl (by simp) (fun B hB=>setRow_other w p.B B cs' hB) (.inr ⟨cs,cs',ty,hg,hh',hsize,fun m hm=>by
   rw[hget m,if_neg]
   have hjs:j * p.s+p.s<=p.n * p.s:=by
    have:(j+1) * p.s<=p.n * p.s:=Nat.mul_le_mul_right _ (by omega)
    rwa [Nat.add_mul,Nat.one_mul] at this
   omega⟩) (hrow _ (by rw[<-hcs'];exact hh') hmono)
  unfold Oper.wp
  have hexec:(execOp a.eval o).run V.P w=.ok .skip (w.setRow p.B cs'):=by
   simp only[execOp,h,e1]
   rw[Sem.run_bind,hrun]
   rfl
  rw[hexec]
  exact hn undef _ ⟨β,hs'.put o.dst (by simp[RelV])⟩
 rcases hr with ⟨l,rfl,rfl,hkl,hns,rfl⟩ | ⟨e,l,q,m,rfl,hke,hjl,hdec,rfl⟩
 ·obtain ⟨p',hp',_,h1,h2,h3,cs,ty,g1,g2,us,g3,g4,g5,g6⟩:=hs.ctx.rows b _ hb
  rw[hpb] at hp';cases hp'
  refine main cs ty g1 (by omega) ⟨by omega,by omega⟩ fun w' hh' hm=>?_
  have hlen:(us.take k++(a.eval y).cells.toList++us.drop (k+i.size)).length=l.length:=by
   rw[<-vlen,EW us _ k (by omega),g3]
  have hlen2:(l.take k++(st.ev y).cellsOf++l.drop (k+i.size)).length=l.length:=by
   rw[<-hsz,EW l _ k (by omega)]
  refine ⟨by rw[hlen2];exact h1,h2,h3,_,ty,hh',⟨?_,?_,fun ht=>?_⟩,us.take k++(a.eval y).cells.toList++us.drop (k+i.size),by rw[hlen,hlen2],fun m hm'=>?_,?_,?_⟩
  ·rw[hlen2,<-Array.length_toList]
   simp only
   rw[EW _ _ _ (by rw[vlen];simp;omega)]
   simpa using g2.1
  ·rw[<-Array.length_toList]
   simp only
   rw[EW _ _ _ (by rw[vlen];simp;omega)]
   simpa using g2.2.1
  ·obtain ⟨q1,q2,q3⟩:=g2.2.2 (AGK hsz hns ht)
   refine ⟨q1,q2,?_⟩
   rw[<-Array.length_toList]
   simp only
   rw[EW _ _ _ (by rw[vlen];simp;omega)]
   simpa using q3
  ·rw[<-Array.getElem?_toList]
   simp only
   rw[hlen2] at hm'
   have hv:=HW us (a.eval y).cells.toList k (by omega) m
   rw[vlen] at hv
   rw[HW _ _ _ (by rw[vlen];simp;omega),vlen,hv]
   by_cases hmk:k<=m/\m < k+i.size
   ·rw[if_pos hmk,if_pos (by omega)];congr 1;omega
   ·rw[if_neg hmk,if_neg (by omega),Array.getElem?_toList];exact g4 m hm'
  ·exact relL_mono hm (fun _ _ h=>h) _ _ (DX (DX (Mq g5 k) c1) (Mi g5 _))
  ·intro u hu
   simp only[qZ7] at hu
   rcases hu with (hu | hu) | hu
   ·exact g6 u (List.mem_of_mem_take hu)
   ·exact c2 u hu
   ·exact g6 u (List.mem_of_mem_drop hu)
 ·obtain ⟨p',hp',_,h1,h2,h3,h4⟩:=hs.ctx.rows b _ hb
  rw[hpb] at hp';cases hp'
  obtain ⟨cs,ty,g1,g2,g3⟩:=h4 hk
  have hjs:j * p.s+p.s<=p.n * p.s:=by
   have:(j+1) * p.s<=p.n * p.s:=Nat.mul_le_mul_right _ (by omega)
   rwa [Nat.add_mul,Nat.one_mul] at this
  refine main cs ty g1 (by omega) ⟨by omega,by omega⟩ fun w' hh' hm=>?_
  obtain ⟨us,u1,u2,u3⟩:=g3 j (l[j]) (qZ5 hjl)
  have hgetD:l.getD j e.zero=l[j]:=by rw[qZ4,qZ5 hjl];rfl
  rw[hgetD] at hdec
  have hrel:RelL (Ag w) (Γ.after w β st.heap) β ((AS e l[j]).take k++(st.ev y).cellsOf++(AS e l[j]).drop (k+i.size)) (us.take k++(a.eval y).cells.toList++us.drop (k+i.size)):=
   DX (DX (Mq (BY _ _ _ u3) k) c1) (Mi (BY _ _ _ u3) _)
  obtain ⟨hdec',rfl⟩:=Ot (H:=st.heap) e _ _ _ _ hdec
  obtain ⟨v1,v2,hv,hq,hnil⟩:=FV hs.ctx e _ _ _ _ _ hrel hdec'
  simp only[RelL] at hnil;subst hnil
  simp only[qY4] at hv;subst hv
  have hq':=relC_mono hm _ _ _ (relC_mono (GJ _) _ _ _ hq)
  refine ⟨h1,by rw[List.length_set];exact h2,(fun hf=>by rw[hk] at hf;cases hf),fun _=>⟨_,ty,hh',⟨?_,?_⟩,fun m' x' hx'=>?_⟩⟩
  ·rw[<-Array.length_toList]
   simp only
   rw[EW _ _ _ (by rw[vlen];simp;omega)]
   simpa using g2.1
  ·rw[<-Array.length_toList]
   simp only
   rw[EW _ _ _ (by rw[vlen];simp;omega)]
   simpa using g2.2
  ·rw[List.getElem?_set] at hx'
   have hsp:∀ m,(cs.toList.take (p.O+j * p.s+k)++(a.eval y).cells.toList++cs.toList.drop (p.O+j * p.s+k+(a.eval y).cells.toList.length)).toArray[m]?=if p.O+j * p.s+k<=m/\m < p.O+j * p.s+k+i.size then (a.eval y).cells.toList[m - (p.O+j * p.s+k)]? else cs[m]?:=by
    intro m
    rw[<-Array.getElem?_toList]
    simp only
    rw[HW _ _ _ (by rw[vlen];simp;omega),vlen]
    simp only[Array.getElem?_toList]
   split at hx'
   ·rename_i e';subst e'
    simp at hx'
    subst hx'
    refine ⟨_,Dm _ _ _ hq',fun m hm'=>?_,hq'⟩
    have hv:=HW us (a.eval y).cells.toList k (by omega) m
    rw[vlen] at hv
    rw[hsp,hv,<-h1]
    by_cases hmk:k<=m/\m < k+i.size
    ·rw[if_pos hmk,if_pos (by omega)];congr 1;omega
    ·rw[if_neg hmk,if_neg (by omega),<-u2 m hm',<-h1]
   ·rename_i hne
    obtain ⟨us',w1,w2,w3⟩:=g3 m' x' hx'
    refine ⟨us',w1,fun m hm'=>?_,relC_mono hm _ _ _ w3⟩
    rw[hsp,if_neg,w2 m hm']
    rw[<-h1] at hm' ⊢
    have hlt:m' < l.length:=by
     rcases Nat.lt_or_ge m' l.length with h' | h'
     ·exact h'
     ·rw[List.getElem?_eq_none h'] at hx';cases hx'
    rcases Nat.lt_or_ge m' j with hc | hc
    ·have:(m'+1) * p.s<=j * p.s:=Nat.mul_le_mul_right _ (by omega)
     rw[Nat.add_mul,Nat.one_mul] at this;omega
    ·have:(j+1) * p.s<=m' * p.s:=Nat.mul_le_mul_right _ (by omega)
     rw[Nat.add_mul,Nat.one_mul] at this;omega
end
end Go.AM
end
