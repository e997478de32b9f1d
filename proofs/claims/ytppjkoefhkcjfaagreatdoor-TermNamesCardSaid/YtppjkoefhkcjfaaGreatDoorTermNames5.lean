/- Law TermNames: a part of its proof. No conditions. -/
import Derived.Test.YtppjkoefhkcjfaaGreatDoorTermNames3
import Derived.Test.YtppjkoefhkcjfaaGreatDoorShelf
import Derived.Test.YtppjkoefhkcjfaaGreatDoorProg
import Derived.Lib.ItoaMem
import Derived.Lib.Walk
import Derived.WalkKit
import Derived.BigCall
import Derived.BigGuard
import Derived.Shelf.Strings.Builder1
import Derived.Shelf.Strings.SlTrimAscii
import Derived.Test.YtppjkoefhkcjfaaGreatDoorTermNames4
import Derived.IntWalk
import Derived.Lib.ItoaNum
import Derived.Lib.SlTrimSet
import Derived.Test.YtppjkoefhkcjfaaGreatDoorRows
import Derived.Shelf.Vars
import Derived.Lib.LaidTab
import Derived.ProofKit
import Derived.MakeChecks
import Derived.OpenShut
import Derived.Lib.Strings
import Derived.SliceStrings
import Derived.SizedLaws
import Derived.Test.YtppjkoefhkcjfaaGreatDoorCards
import Derived.Test.YtppjkoefhkcjfaaGreatDoorTie
import Derived.ShutString
import Derived.ChangeOld
import Derived.Below
import Derived.LaidMore
import Derived.Deep.DeepHandedRow
import Derived.Deep.DeepWitnessRowRef
import GoSem.PinnedTables
set_option linter.unusedSimpArgs false
set_option linter.unusedVariables false
section
namespace Go.AM
open Go.RowKit (Below)
theorem Ft (s:ByteArray):s.size=s.data.toList.length:=by rw[<-ByteArray.size_data,Array.length_toList]
theorem C8 {V : Env} {k : FuncId} {C : Callee} (hen : ∃ fn, V.P.funcs[k]? = some fn ∧ (fn.name == "runtime.NumGoroutine") = false ∧ fn.body.isNone = false) (hin : ∀ x, Ax C.ps x = []) (hout : ∀ o y, Bz C.ps C.rk o y = []) (hk : cntK C.ps = 0)
 (h:∀ x y o,C.g x=some (y,o)->∀ (w:World) (rd:Nat->Nat->Option Value) (I:Nat->Prop) (β:Nat->Option Place) (vs:Array Value),V.G w->RelL rd I β (AA C.ps x 0 (cntK C.ps)) vs.toList->
  Calls V.P k vs w fun e w'=>∃ us,e=.returned (CC us)/\Ext w w'/\∀ rd I' β',RelL rd I' β' (CZ C.ps C.rk y) us):Good V k C:=by
 refine ⟨hen,fun x y o hx w I β vs hG hgb hctx hargs=>Calls.mono (h x y o hx w _ I β vs hG hargs) ?_⟩
 rintro e w' ⟨us,rfl,hext,hres⟩
 rw[hin] at hctx ⊢
 have hn:∀ B,¬ Av [] β B:=fun B=>DM B
 refine ⟨us,fun B=>I B\/(w.heap.size<=B/\B < w'.heap.size),β,rfl,⟨hext.os,hext.tape,hext.output,hext.size,fun B hB _=>hext.block B hB⟩,⟨?_,?_,?_,?_⟩,hres _ _ _⟩
 ·rw[hout]
  refine ⟨fun b r hb=>by simp at hb,fun b b' r r' p p' hb=>by simp at hb,fun B hB=>⟨?_,DM B⟩,hctx.dom⟩
  rcases hB with hB | hB
  ·exact Nat.lt_of_lt_of_le (hctx.imm B hB).1 hext.size
  ·exact hB.2
 ·rintro B (hB | hB)
  ·exact .inl hB
  ·exact .inr (.inr hB.1)
 ·intro b r q hb;rw[hout] at hb;simp at hb
 ·intro i hi;rw[hk] at hi;cases hi
end Go.AM
namespace Go.AM.Num
open Go.Proofs
structure GN (w:World):Prop where
 maxLen:∃ m,w.cell? ⟨0,0,none⟩=some (.int .i64 m)
 pow10 : Lib.TabIs Tryz.prog w "internal/strconv.uint64pow10" .u64 Lib.pow10Tab
section
variable {rd:Nat->Nat->Option Value} {I:Nat->Prop} {β:Nat->Option Place}
theorem C0 {x:qBs} {v:Value} (h:RelV rd I β (.str x) v):∃ s:ByteArray,v=.string s/\s.data.toList=x:=by simpa only[RelV] using h
theorem De {k:IntKind} {n:Int} {v:Value} (h:RelV rd I β (.int k n) v):v=.int k n:=by simpa only[RelV] using h
theorem K8 {a:AV} {vs:Array Value} (h:RelL rd I β [a] vs.toList):∃ v,vs=#[v]/\RelV rd I β a v:=by
 simp only[RelL] at h
 obtain ⟨v,vs',h1,h2,rfl⟩:=h
 exact ⟨v,by apply Array.ext';simpa using h1,h2⟩
theorem DE {a b:AV} {vs:Array Value} (h:RelL rd I β [a,b] vs.toList):∃ v v',vs=#[v,v']/\RelV rd I β a v/\RelV rd I β b v':=by
 simp only[RelL] at h
 obtain ⟨v,vs',h1,h2,v',vs2,rfl,h3,rfl⟩:=h
 exact ⟨v,v',by apply Array.ext';simpa using h1,h2,h3⟩
theorem Tu {a b c:AV} {vs:Array Value} (h:RelL rd I β [a,b,c] vs.toList):∃ v v' v2,vs=#[v,v',v2]/\RelV rd I β a v/\RelV rd I β b v'/\RelV rd I β c v2:=by
 simp only[RelL] at h
 obtain ⟨v,vs',h1,h2,v',vs2,rfl,h3,v2,vs3,rfl,h4,rfl⟩:=h
 exact ⟨v,v',v2,by apply Array.ext';simpa using h1,h2,h3,h4⟩
theorem Dg (l:qBs):RelV rd I β (.str l) (.string ⟨l.toArray⟩):=by simp only[RelV];exact ⟨_,rfl,by simp⟩
end
theorem QY (w:World) (n:Nat):Ext w (w.drewN n):=⟨rfl,rfl,rfl,Nat.le_refl _,fun _ _=>rfl⟩
theorem M1 (w:World) (k:Nat) (os:Array Obj):Ext w (Sort.grow (w.drewN k) os):=by
 refine ⟨rfl,rfl,rfl,?_,fun B hB=>?_⟩
 ·show w.heap.size<=(w.heap++os).size
  simp
 ·show (w.heap++os)[B]?=w.heap[B]?
  rw[Array.getElem?_append_left hB]
theorem Oq (w:World) (t:ByteArray):Ext w (Lib.bytesWorld w 5 t):=⟨rfl,rfl,rfl,by rw[Lib.bytesWorld_size];omega,fun B hB=>Lib.bytesWorld_at_old w 5 t B hB⟩
section
variable {V:Env} (hP:V.P=Tryz.prog)
include hP
theorem TE:Good V 130 Ig:=
 C8 ⟨_,hP ▸ Tryz.func130,by decide,by rfl⟩ (fun _=>rfl) (fun _ _=>rfl) rfl (fun x y o hx w rd I β vs hG ha=>by
  obtain ⟨v,v',rfl,h1,h2⟩:=DE ha
  obtain ⟨s,rfl,hs⟩:=C0 h1
  obtain ⟨p,rfl,hp⟩:=C0 h2
  rw[hP]
  refine Calls.mono (Tryz.strings_CutPrefix s p w) ?_
  rintro e w' ⟨rfl,rfl⟩
  refine ⟨[_,_],rfl,Ext.refl _,fun rd I' β'=>?_⟩
  simp only[Ig,strings_CutPrefix,Option.some.injEq] at hx
  cases hx
  show RelL rd I' β' [.str _,.bool _] _
  simp only[RelL]
  exact ⟨_,_,rfl,by rw[hs,hp];exact Dg _,_,_,rfl,by simp only[RelV];rw[hs,hp],rfl⟩)
theorem R6 (hV:∀ w,V.G w->GN w):Good V 167 He:=
 C8 ⟨_,hP ▸ Tryz.func167,by decide,by rfl⟩ (fun _=>rfl) (fun _ _=>rfl) rfl (fun x y o hx w rd I β vs hG ha=>by
  obtain ⟨v,v',rfl,h1,h2⟩:=DE ha
  obtain ⟨s,rfl,hs⟩:=C0 h1
  obtain ⟨p,rfl,hp⟩:=C0 h2
  simp only[He,strings_Cut] at hx
  split at hx
  case isFalse=>cases hx
  rename_i hlen
  cases hx
  obtain ⟨m,hm⟩:=(hV w hG).maxLen
  rw[hP]
  refine Calls.mono (Tryz.strings_Cut s p m w (by rw[Ft,hs];exact hlen) hm) ?_
  rintro e w' ⟨rfl,n,rfl⟩
  refine ⟨[_,_,_],rfl,QY w n,fun rd I' β'=>?_⟩
  show RelL rd I' β' [.str _,.str _,.bool _] _
  simp only[RelL]
  exact ⟨_,_,rfl,by rw[hs,hp];exact Dg _,_,_,rfl,by rw[hs,hp];exact Dg _,_,_,rfl,by simp only[RelV];rw[hs,hp],rfl⟩)
theorem Tc (hV:∀ w,V.G w->GN w):Good V 268 G1:=
 C8 ⟨_,hP ▸ Tryz.func268,by decide,by rfl⟩ (fun _=>rfl) (fun _ _=>rfl) rfl (fun x y o hx w rd I β vs hG ha=>by
  obtain ⟨v,v',rfl,h1,h2⟩:=DE ha
  obtain rfl:=De h1
  obtain rfl:=De h2
  simp only[G1,D7] at hx
  split at hx
  case isFalse=>cases hx
  rename_i hc
  cases hx
  rw[hP,hc.2]
  refine Calls.mono (Tryz.strconv_FormatInt_10 x.1 hc.1.1 hc.1.2 w (hV w hG).pow10) ?_
  rintro e w' ⟨rfl,k,os,rfl⟩
  refine ⟨[_],rfl,M1 w k os,fun rd I' β'=>?_⟩
  show RelL rd I' β' [.str _] _
  simp only[RelL]
  exact ⟨_,_,rfl,Dg _,rfl⟩)
theorem Qb:Good V 185 Ia:=
 C8 ⟨_,hP ▸ Tryz.func185,by decide,by rfl⟩ (fun _=>rfl) (fun _ _=>rfl) rfl (fun x y o hx w rd I β vs hG ha=>by
  obtain ⟨v,v',v2,rfl,h1,h2,h3⟩:=Tu ha
  obtain ⟨s,rfl,hs⟩:=C0 h1
  obtain rfl:=De h2
  obtain rfl:=De h3
  simp only[Ia,Ez] at hx
  split at hx
  case isFalse=>cases hx
  rename_i hc
  split at hx
  case h_2=>cases hx
  rename_i n hn
  cases hx
  rw[hP,hc.1,hc.2.1]
  refine Calls.mono (Tryz.strconv_ParseInt_10_at64_ok s (by rw[Ft,hs];have:=hc.2.2;omega) n (by rw[hs];exact hn) w) ?_
  rintro e w' ⟨rfl,hw⟩
  have hext:Ext w w':=by
   rcases hw with rfl | ⟨t,rfl⟩
   ·exact Ext.refl _
   ·exact Oq w t
  refine ⟨[_,_],rfl,hext,fun rd I' β'=>?_⟩
  show RelL rd I' β' [.int .i64 _,.err _] _
  simp only[RelL]
  exact ⟨_,_,rfl,by simp only[RelV],_,_,rfl,by simp[RelV],rfl⟩)
end
end Go.AM.Num
namespace Go.Proofs
open Go.Shelf Go.RowKit Go.Sort Go.Lib
theorem OX (w:World) (T:TypeId) (nd:Nat) (hs:nd<=24):Holds (fun (b:UInt8)=>Value.int .u8 (b.toNat:Int)) (w.alloc (.cells zeros24 T)) w.heap.size 0 (Array.replicate nd (0:UInt8)):=fun j hj=>by
 have hj':j < nd:=by simpa using hj
 refine ⟨?_,World.frozen?_alloc_new _ _ _ _⟩
 rw[World.cell?_alloc_new,zeros24_at _ (by omega),getElem!_pos _ j hj]
 simp
set_option maxHeartbeats 6400000 in
set_option maxRecDepth 100000 in
theorem Tryz.internal_strconv_FormatUint_10 (u : Nat) (hu64 : u < 18446744073709551616) (w : World) (htab : Lib.TabIs Tryz.prog w "internal/strconv.uint64pow10" .u64 Lib.pow10Tab) :
 Calls Tryz.prog 249 #[.int .u64 u,.int .i64 10] w fun e w'=>e=.returned (.string ⟨(Lib.decDigits u).toArray⟩)/\∃ k os,w'=grow (w.drewN k) os:=by
 by_cases hs:u < 100
 ·go_enter Tryz.func249,Tryz.ntmps249
  go_wp2_with (go_at_call 264;refine (Tryz.internal_strconv_small u hs _).mono ?_;rintro e w' ⟨rfl,rfl⟩)
  go_ret
  exact ⟨rfl,0,#[],by simp[World.drewN_zero]⟩
 ·have hu1:1<=u:=by omega
  have hnd20:Lib.nDigits u<=20:=by have:=Lib.numDigits_eq u hu1 hu64;split at this<;>omega
  have hsl1:∀ W,(Instr.sliceAt 282 (.pointer (some ⟨w.heap.size,0,none⟩)) none (some (.int .i64 (Lib.nDigits u:Int))) none).run Tryz.prog W=.ok (.slice (some ⟨w.heap.size,0,none⟩) (Lib.nDigits u) 24) W:=fun W=>by
   have hal:Tryz.prog.arrayLen 282=24:=by kernel_rfl
   rw[run_sliceAt_array_h W 282 ⟨w.heap.size,0,none⟩ Tryz.underlying282 .i64 (Lib.nDigits u:Int) (by omega) (by rw[hal];omega)]
   rw[hal]
   go_simp
  have hH0:=OX w 282 (Lib.nDigits u) (by omega)
  have hfmt:=Tryz.internal_strconv_formatBase10 w.heap.size 0 24 u (Array.replicate (Lib.nDigits u) 0) (w.alloc (.cells Lib.zeros24 282)) hH0 (by rw[Array.size_replicate];exact Lib.lt_pow_nDigits u) hu64 (by rw[Array.size_replicate];omega)
  rw[Array.size_replicate] at hfmt
  have HH0:=Lib.hid hH0
  clear hH0
  go_enter Tryz.func249,Tryz.ntmps249
  go_wp2_with (first
   |(go_at_call 265;refine (Tryz.internal_strconv_numDigits u hu1 hu64 _ (Lib.tabIs_alloc htab _)).mono ?_;rintro e w' ⟨rfl,rfl⟩))
  go_at_call 266
  refine hfmt.mono ?_
  rintro e w' ⟨rfl,k,v',dk,rfl,hF⟩
  have hcv:(convert 65 9 (.slice (some ⟨w.heap.size,0,none⟩) (Lib.nDigits u) 24)).run Tryz.prog ((putRow (fun (b:UInt8)=>Value.int .u8 (b.toNat:Int)) (w.alloc (.cells Lib.zeros24 282)) w.heap.size 0 dk).drewN k)=.ok (.string ⟨(Lib.decDigits u).toArray⟩) ((putRow (fun (b:UInt8)=>Value.int .u8 (b.toNat:Int)) (w.alloc (.cells Lib.zeros24 282)) w.heap.size 0 dk).drewN k):=by
   have h:=run_convert_bytes_back (P:=Tryz.prog) ((putRow (fun (b:UInt8)=>Value.int .u8 (b.toNat:Int)) (w.alloc (.cells Lib.zeros24 282)) w.heap.size 0 dk).drewN k) 65 9 5 ⟨w.heap.size,0,none⟩ 24 (Lib.decDigits u) Tryz.underlying65 Tryz.underlying5 Tryz.underlying9 (fun j hj=>by
    rw[Lib.row_is_numeral hF j hj,Lib.add_plain,World.cell?_drewN]
    exact cell?_putRow (fun (b:UInt8)=>Value.int .u8 (b.toNat:Int)) _ w.heap.size 0 _ dk HH0.out (by rw[hF.size,Array.size_replicate]) j (by rw[hF.size];rw[Lib.decDigits_length] at hj;exact hj))
   rw[Lib.decDigits_length] at h
   exact h
  go_wp2
  go_ret
  obtain ⟨os',_,e⟩:=putRow_grow_new (fun (b:UInt8)=>Value.int .u8 (b.toNat:Int)) w #[.cells Lib.zeros24 282] w.heap.size 0 dk (Nat.le_refl _)
  refine ⟨rfl,k,os',?_⟩
  rw[alloc_eq_grow,e]
  rfl
theorem Tryz.strconv_FormatUint_10 (u : Nat) (hu64 : u < 18446744073709551616) (w : World) (htab : Lib.TabIs Tryz.prog w "internal/strconv.uint64pow10" .u64 Lib.pow10Tab) :
 Calls Tryz.prog 228 #[.int .u64 u,.int .i64 10] w fun e w'=>e=.returned (.string ⟨(Lib.decDigits u).toArray⟩)/\∃ k os,w'=grow (w.drewN k) os:=by
 go_enter Tryz.func228,Tryz.ntmps228
 go_wp2_with (go_at_call 249;refine (Tryz.internal_strconv_FormatUint_10 u hu64 _ htab).mono ?_;rintro e w' ⟨rfl,k,os,rfl⟩)
 go_ret
 exact ⟨rfl,k,os,rfl⟩
end Go.Proofs
namespace Go.AM.Num
open Go.Proofs
theorem T_ {V:Env} (hP:V.P=Tryz.prog) (hV:∀ w,V.G w->GN w):Good V 228 HN:=
 C8 ⟨_,hP ▸ Tryz.func228,by decide,by rfl⟩ (fun _=>rfl) (fun _ _=>rfl) rfl (fun x y o hx w rd I β vs hG ha=>by
  obtain ⟨v,v',rfl,h1,h2⟩:=DE ha
  obtain rfl:=De h1
  obtain rfl:=De h2
  simp only[HN,Gv] at hx
  split at hx
  case isFalse=>cases hx
  rename_i hc
  cases hx
  have hn:(x.1.toNat:Int)=x.1:=Int.toNat_of_nonneg hc.1
  have hcall:=Tryz.strconv_FormatUint_10 x.1.toNat (by have:=hc.2.1;omega) w (hV w hG).pow10
  rw[hn] at hcall
  rw[hP,hc.2.2]
  refine Calls.mono hcall ?_
  rintro e w' ⟨rfl,k,os,rfl⟩
  refine ⟨[_],rfl,M1 w k os,fun rd I' β'=>?_⟩
  show RelL rd I' β' [.str _] _
  simp only[RelL]
  exact ⟨_,_,rfl,Dg _,rfl⟩)
end Go.AM.Num
end
section
namespace Go.Lib
open Go
variable {P:Program} (w:World)
theorem N1 {e:TypeId} (hc:P.cellsOf e=1) (count off n:Nat) (hn:off+n<=count):liesAt P P.depth e count off e n=true:=by
 have hd:P.depth=(2 * (P.types.size+Made.depth)+1)+1:=rfl
 rw[hd]
 simp only[liesAt,Bool.or_eq_true]
 left
 rw[hd]
 simp[rowAt,hc,hn,sameLayout,Nat.mod_one]
theorem NJ:∀ (l:List Int) (a:Addr) (acc:ByteArray),(∀ (j:Nat) x,l[j]?=some x->w.cell? (a.add j)=some (.int .u8 x))->
 (loadBytes a acc l.length).run P w=.ok ⟨acc.data++(l.map fun n=>UInt8.ofNat n.toNat).toArray⟩ w
 |[],a,acc,_=>by simp[loadBytes]
 |x::l,a,acc,h=>by
  have h0:w.cell? a=some (.int .u8 x):=by
   have:=h 0 x rfl
   simpa [Addr.add] using this
  have ih:=NJ l (a.add 1) (acc.push (UInt8.ofNat x.toNat)) (fun j y hy=>by
   have:=h (j+1) y (by simpa using hy)
   have e:(a.add 1).add j=a.add (j+1):=by
    unfold Addr.add
    by_cases hj:j=0
    ·subst hj;simp
    ·simp[hj];omega
   rw[e];exact this)
  have hx:(x.toNat).toUInt8=UInt8.ofNat x.toNat:=rfl
  simp only[qY11,loadBytes,Sem.run_bind,run_load,h0,Result.andThen,hx]
  rw[ih]
  congr 1
  apply ByteArray.ext
  simp[ByteArray.push]
theorem run_unsafeString_at (pt it ty e:TypeId) (hp:P.underlying pt=some (.pointer e)) (hc:P.cellsOf e=1) (g off cells:Nat) (hsh:w.shape? g=some (e,cells)) (l:List Int) (h0:l≠[]) (hn:off+l.length<=cells) (h63:l.length<=9223372036854775807)
 (hcell:∀ (j:Nat) x,l[j]?=some x->w.cell? ((⟨g,off,none⟩:Addr).add j)=some (.int .u8 x)) :
 (Builtin.unsafeString_ #[pt,it] ty #[.pointer (some ⟨g,off,none⟩),.int .i64 l.length]).run P w=.ok (.string ⟨(l.map fun n=>UInt8.ofNat n.toNat).toArray⟩) (w.freeze ⟨g,off,none⟩ l.length):=by
 have hl:l.length≠0:=by simpa using h0
 have hlb:=NJ (P:=P) w l ⟨g,off,none⟩ .empty hcell
 have hlies:=N1 (P:=P) hc (cells / P.cellsOf e) off l.length (by rw[hc];simpa using hn)
 have h63':¬ (9223372036854775807:Int) < (l.length:Int):=by omega
 have hdef:Builtin.unsafeString_ #[pt,it] ty #[.pointer (some ⟨g,off,none⟩),.int .i64 l.length] =
  (do
   let n<-asInt (.int .i64 l.length)
   if n < 0 then runtimePanic (.error "unsafe.String: len out of range")
   if n > IntKind.i64.max then unsupported (.unsafePointer "String: a length above the largest int")
   if n=0 then pure (.string .empty)
   else if<-variablesAt ⟨g,off,none⟩ (<-elemOf pt) n.toNat then do
    let s<-loadBytes ⟨g,off,none⟩ .empty n.toNat
    freeze ⟨g,off,none⟩ n.toNat
    pure (.string s)
   else unsupported (.unsafePointer "String: not so many bytes at ptr")) := rfl
 rw[hdef]
 have hmax:IntKind.i64.max=9223372036854775807:=rfl
 have hneg:¬ (l.length:Int) < 0:=by omega
 simp[asInt,asIntOf,hmax,h63',hneg,hl,variablesAt,hsh,elemOf,run_underlying hp,hlies,hlb]
end Go.Lib
namespace Go.Proofs
open Go.Shelf Go.RowKit Go.Lib
set_option maxHeartbeats 2000000 in
set_option maxRecDepth 100000 in
theorem Tryz.Builder_String_at (b g off cap:Nat) (p:Value) (cur:Array Value) (l:List Int) (w:World) (h0:l≠[]) (hbk:w.heap[b]?=some (.cells #[p,.slice (some ⟨g,off,none⟩) l.length cap] 102 (0,0))) (hg:w.heap[g]?=some (.cells cur 5 (0,0))) (hfit:off+l.length<=cur.size) (hcap:l.length<=cap) (hsm:l.length<=9223372036854775807)
 (hc:∀ (j:Nat) x,l[j]?=some x->cur[off+j]?=some (.int .u8 x)) :
 Calls Tryz.prog 75 #[.pointer (some ⟨b,0,none⟩)] w fun e w'=>e=.returned (.string ⟨(l.map fun n=>UInt8.ofNat n.toNat).toArray⟩)/\∃ W:World,W.heap=w.heap/\W.os=w.os/\W.tape=w.tape/\W.output=w.output/\w'=W.freeze ⟨g,off,none⟩ l.length:=by
 have hl0:l.length≠0:=by simpa using h0
 have c1:w.drew.cell? ⟨b,1,none⟩=some (.slice (some ⟨g,off,none⟩) l.length cap):=by
  have:w.drew.heap[b]?=some (.cells #[p,.slice (some ⟨g,off,none⟩) l.length cap] 102 (0,0)):=hbk
  rw[Lib.cell_of_heap this];rfl
 have hSD:(Builtin.unsafeSliceData_ #[65] 160 #[.slice (some ⟨g,off,none⟩) l.length cap]).run Tryz.prog w.drew=.ok (.pointer (some ⟨g,off,none⟩)) w.drew:=
  Lib.run_unsafeSliceData_row _ _ _ _ _ _ (by omega)
 have hUS:(Builtin.unsafeString_ #[160,3] 9 #[.pointer (some ⟨g,off,none⟩),.int .i64 l.length]).run Tryz.prog w.drew=.ok (.string ⟨(l.map fun n=>UInt8.ofNat n.toNat).toArray⟩) (w.drew.freeze ⟨g,off,none⟩ l.length):=by
  have hg':w.drew.heap[g]?=some (.cells cur 5 (0,0)):=hg
  refine Lib.run_unsafeString_at w.drew 160 3 9 5 Tryz.underlying160 (by kernel_rfl) g off cur.size (by simp[World.shape?,hg']) l h0 hfit hsm ?_
  intro j x hx
  rw[Addr.add_lit,Lib.cell_of_heap hg']
  exact hc j x hx
 have mixed:Tryz.prog.follows .mixedOrders=true:=by kernel_rfl
 go_enter Tryz.func75,Tryz.ntmps75
 go_wp2
 go_region_o
 all_goals (go_wp2;go_ret;exact ⟨rfl,w.drew,rfl,rfl,rfl,rfl,rfl⟩)
theorem Tryz.layB:(∃ j,Tryz.prog.info? 102=some j/\j.size=2):=Option.map_eq_some_iff.1 (show (Tryz.prog.info? 102).map (·.size)=some 2 by kernel_rfl)
set_option maxHeartbeats 1000000 in
set_option maxRecDepth 100000 in
theorem Tryz.copyCheck_used (b:Nat) (w:World) (h0:w.cell? ⟨b,0,none⟩=some (.pointer (some ⟨b,0,none⟩))) :
 Calls Tryz.prog 149 #[.pointer (some ⟨b,0,none⟩)] w fun e w'=>e=.returned (.tuple #[])/\w'=w:=by
 obtain ⟨j,hj,_⟩:=Tryz.layB
 have mixed:Tryz.prog.follows .mixedOrders=true:=by kernel_rfl
 go_enter Tryz.func149,Tryz.ntmps149
 go_wp2
 rw[Lib.run_neq_ptr_same w _ Tryz.underlying100 hj]
 go_wp2
 go_end0
 exact ⟨rfl,rfl⟩
set_option maxHeartbeats 1000000 in
set_option maxRecDepth 100000 in
theorem Tryz.copyCheck_fresh (b:Nat) (w:World) (h0:w.cell? ⟨b,0,none⟩=some (.pointer none)) (hsh:w.shape? b=some (102,2)) (hfz:w.frozen? ⟨b,0,none⟩=false) :
 Calls Tryz.prog 149 #[.pointer (some ⟨b,0,none⟩)] w fun e w'=>e=.returned (.tuple #[])/\w'=w.setCell ⟨b,0,none⟩ (.pointer (some ⟨b,0,none⟩)):=by
 obtain ⟨j,hj,hjs⟩:=Tryz.layB
 have mixed:Tryz.prog.follows .mixedOrders=true:=by kernel_rfl
 go_enter Tryz.func149,Tryz.ntmps149
 go_wp2
 rw[Lib.run_to_unsafe w ⟨b,0,none⟩ Tryz.underlying100 Tryz.underlying207 hj (by rw[hjs];decide) hsh (Nat.zero_lt_succ 1)]
 simp only[Result.andThen]
 rw[Oper.upon_value]
 go_wp2
 rw[run_callFunc_extern Tryz.func181 (by kernel_rfl) (by kernel_rfl) (by kernel_rfl) (e:=Extern.AbiNoEscape.same) (by kernel_rfl)]
 rw[Lib.run_noEscape]
 simp only[Result.andThen]
 rw[Oper.upon_value]
 go_wp2
 rw[Lib.run_from_unsafe w ⟨b,0,none⟩ Tryz.underlying207 Tryz.underlying100 hj hsh (by kernel_rfl)]
 simp only[Result.andThen]
 rw[Oper.upon_value]
 go_wp2
 go_end0
 exact ⟨rfl,rfl⟩
end Go.Proofs
end
section
namespace Go.AM.Num
open Go.Proofs Go.RowKit Go.Lib
theorem SH {cs:Array Value} {u0 u1:Value} (hs:cs.size=2) (h0:cs[0]?=some u0) (h1:cs[1]?=some u1):cs=#[u0,u1]:=by
 obtain ⟨l⟩:=cs
 match l,hs with
 |[a,b],_=>simp at h0 h1;rw[h0,h1]
theorem J1 {w:World} {I:Nat->Prop} {β:Nat->Option Place} {p:Place} {k j:Nat} (hp:β k=some p) (h:AU w I β p (.cells [.selfp k,.vw j])) :
 p.backed=true/\p.O=0/\∃ u0 u1,w.heap[p.B]?=some (.cells #[u0,u1] bldT (0,0))/\(u0=.pointer none\/u0=.pointer (some ⟨p.B,0,none⟩))/\RelV (Ac w) I β (.vw j) u1/\p.s=2/\p.n=1/\p.z=2:=by
 obtain ⟨h1,h2,h3,cs,ty,g1,⟨g2,g3,g4⟩,us,g5,g6,g7,g8⟩:=h
 obtain ⟨rfl,hO,hsz⟩:=g4 rfl
 simp only[RelL] at g7
 obtain ⟨u0,us',rfl,r0,u1,us2,rfl,r1,rfl⟩:=g7
 have e0:=g6 0 (by simp)
 have e1:=g6 1 (by simp)
 rw[hO] at e0 e1
 obtain rfl:=SH hsz (by simpa using e0) (by simpa using e1)
 refine ⟨h3,hO,u0,u1,g1,?_,r1,h1,h2,by rw[<-g3];exact hsz⟩
 simp only[RelV] at r0
 rcases r0 with r0 | ⟨q,hq,_,r0⟩
 ·exact .inl r0
 ·rw[hp] at hq;cases hq;rw[hO] at r0;exact .inr r0
theorem Om {w:World} {I:Nat->Prop} {β:Nat->Option Place} {p:Place} {k j:Nat} {u0 u1:Value} (hp:β k=some p) (hb:p.backed=true) (hO:p.O=0) (hs:p.s=2) (hn:p.n=1) (hz:p.z=2) (hh:w.heap[p.B]?=some (.cells #[u0,u1] bldT (0,0))) (h0:u0=.pointer none\/u0=.pointer (some ⟨p.B,0,none⟩)) (h1:RelV (Ac w) I β (.vw j) u1):AU w I β p (.cells [.selfp k,.vw j]):=by
 have hu0:u0.oneCell'=true:=by rcases h0 with rfl | rfl<;>rfl
 have hu1:u1.oneCell'=true:=by simp only[RelV] at h1;obtain ⟨_,_,_,_,rfl,_⟩:=h1;rfl
 refine ⟨hs,hn,hb,#[u0,u1],bldT,hh,⟨by rw[hO];simp,by rw[hz];rfl,fun _=>⟨rfl,hO,rfl⟩⟩,[u0,u1],rfl,fun i hi=>?_,?_,by simp[hu0,hu1]⟩
 ·rw[hO];simp
 ·simp only[RelL]
  refine ⟨u0,_,rfl,?_,u1,_,rfl,h1,rfl⟩
  simp only[RelV]
  exact h0.imp id fun h=>⟨p,hp,hb,by rw[hO];exact h⟩
theorem Pm {w w':World} {I:Nat->Prop} {β β':Nat->Option Place} {p:Place} {l:List Int} (h:AU w I β p (.typed (.int .u8) l)) (hh:p.backed=true->w'.heap[p.B]?=w.heap[p.B]?):AU w' I β' p (.typed (.int .u8) l):=by
 obtain ⟨h1,h2,h3,h4⟩:=h
 refine ⟨h1,h2,h3,fun hb=>?_⟩
 obtain ⟨cs,ty,g1,g2,g3⟩:=h4 hb
 refine ⟨cs,ty,(hh hb).trans g1,g2,fun i x hi=>?_⟩
 obtain ⟨us,u1,u2,u3⟩:=g3 i x hi
 exact ⟨us,u1,u2,by simpa only[RelC] using u3⟩
section
variable {V:Env} (hP:V.P=Tryz.prog)
include hP
theorem R1:Good V 149 Kx:=
 ⟨⟨_,hP ▸ Tryz.func149,by decide,rfl⟩,fun (x:(Unit×List Int)×Unit) y o hx w I β vs hG hgb hctx hargs=>by
  obtain ⟨v,rfl,h1⟩:=K8 hargs
  obtain ⟨⟨u,l⟩,u2⟩:=x
  cases hx
  replace h1:RelV (Ac w) I β (.ptr 0 0 0) v:=h1
  simp only[RelV] at h1
  obtain ⟨p,hp,hpb,rfl⟩:=h1
  obtain ⟨p',hp',hbk,hrow⟩:=hctx.rows 0 (.cells [.selfp 0,.vw 1]) rfl
  rw[hp] at hp';cases hp'
  obtain ⟨hb,hO,u0,u1,hh,h0,hu1,hs,hn,hz⟩:=J1 hp hrow
  have hc0:w.cell? ⟨p.B,0,none⟩=some u0:=by simp[World.cell?,hh]
  rw[hP,show (⟨p.B,p.O+0 * p.s+0,none⟩:Addr)=⟨p.B,0,none⟩ by rw[hO];simp]
  let H:Ae:=[some (.cells [.selfp 0,.vw 1]),some (.typed (.int .u8) l)]
  show Calls Tryz.prog _ _ _ fun e w'=>∃ (us:List Value) (I':Nat->Prop) (β':Nat->Option Place),e=.returned (CC us)/\FrmC w w' (Av H β)/\OutOK w w' V.gb I β H H 1 I' β'/\RelL (Ac w') I' β' [] us
  have hctx:Ctx V.gb w I β H:=hctx
  have same:∀ i,i < 1->β i=β i/\∀ q,β i=some q->q.backed=true->Bt w w q:=fun i hi=>⟨rfl,fun q hq hk=>by
   obtain rfl:i=0:=by omega
   rw[hp] at hq;cases hq
   exact .inr ⟨_,_,_,hh,hh,rfl,fun _ _=>rfl⟩⟩
  rcases h0 with rfl | rfl
  ·refine Calls.mono (Tryz.copyCheck_fresh p.B w hc0 (by simp[World.shape?,hh];rfl) (by simp[World.frozen?,hh])) ?_
   rintro e w' ⟨rfl,rfl⟩
   have hh':(w.setCell ⟨p.B,0,none⟩ (.pointer (some ⟨p.B,0,none⟩))).heap[p.B]?=some (.cells #[.pointer (some ⟨p.B,0,none⟩),u1] bldT (0,0)):=by
    simp only[World.setCell,Array.getElem?_modify,hh]
    simp
   have hoth:∀ B,B≠p.B->(w.setCell ⟨p.B,0,none⟩ (.pointer (some ⟨p.B,0,none⟩))).heap[B]?=w.heap[B]?:=fun B hB=>by
    simp only[World.setCell,Array.getElem?_modify]
    rw[if_neg (fun h=>hB h.symm)]
   have hsz:(w.setCell ⟨p.B,0,none⟩ (.pointer (some ⟨p.B,0,none⟩))).heap.size=w.heap.size:=by simp[World.setCell]
   refine ⟨[],I,β,rfl,⟨rfl,rfl,rfl,Nat.le_of_eq hsz.symm,fun B hB hnl=>hoth B fun e=>hnl ⟨0,_,p,rfl,hp,hb,e.symm⟩⟩,⟨⟨fun b r hbr=>?_,hctx.apart,fun B hB=>⟨by rw[hsz];exact (hctx.imm B hB).1,(hctx.imm B hB).2⟩,hctx.dom⟩,fun B hB=>.inl hB,fun b r q hbr hq hk=>.inl ⟨b,r,q,hbr,hq,hk,rfl⟩,fun i hi=>⟨rfl,fun q hq hk=>?_⟩⟩,by simp only[RelL]⟩
   ·cases b with
    |zero=>cases hbr;exact ⟨p,hp,fun hk=>by rw[hsz];exact hbk hk,Om hp hb hO hs hn hz hh' (.inr rfl) (by simpa only[RelV] using hu1)⟩
    |succ b=>cases b with
     |zero=>
      cases hbr
      obtain ⟨q,hq,hqk,hqr⟩:=hctx.rows 1 _ rfl
      exact ⟨q,hq,fun hk=>by rw[hsz];exact hqk hk,Pm hqr fun hk=>hoth q.B fun e=>by have:=hctx.apart 1 0 _ _ q p rfl rfl hq hp hk hb e;cases this⟩
     |succ b=>simp[H] at hbr
   ·obtain rfl:i=0:=by omega
    rw[hp] at hq;cases hq
    refine .inr ⟨_,_,_,hh,hh',rfl,fun o ho=>?_⟩
    rw[hO,hn,hs] at ho
    rw[Array.getElem?_eq_none (by simp;omega),Array.getElem?_eq_none (by simp;omega)]
  ·refine Calls.mono (Tryz.copyCheck_used p.B w hc0) ?_
   rintro e w' ⟨rfl,rfl⟩
   exact ⟨[],I,β,rfl,⟨rfl,rfl,rfl,Nat.le_refl _,fun _ _ _=>rfl⟩,⟨hctx,fun B hB=>.inl hB,fun b r q hbr hq hk=>.inl ⟨b,r,q,hbr,hq,hk,rfl⟩,same⟩,by simp only[RelL]⟩⟩
theorem Pq:Good V 75 JA:=
 ⟨⟨_,hP ▸ Tryz.func75,by decide,rfl⟩,fun (x:(Unit×List Int)×Unit) y o hx w I β vs hG hgb hctx hargs=>by
  obtain ⟨v,rfl,h1⟩:=K8 hargs
  obtain ⟨⟨u,l⟩,u2⟩:=x
  obtain ⟨hm,hx⟩:=Ly hx
  cases hx
  simp only[decide_eq_true_eq] at hm
  replace hm:0 < l.length:=hm
  replace h1:RelV (Ac w) I β (.ptr 0 0 0) v:=h1
  simp only[RelV] at h1
  obtain ⟨p,hp,hpb,rfl⟩:=h1
  obtain ⟨p',hp',hbk,hrow⟩:=hctx.rows 0 (.cells [.selfp 0,.vw 1]) rfl
  rw[hp] at hp';cases hp'
  obtain ⟨hb,hO,u0,u1,hh,h0,hu1,hs,hn,hz⟩:=J1 hp hrow
  obtain ⟨q,hq,hqk,hqr⟩:=hctx.rows 1 (.typed (.int .u8) l) rfl
  simp only[RelV] at hu1
  obtain ⟨q',hq',a,c,rfl,hqc,ha⟩:=hu1
  rw[hq] at hq';cases hq'
  obtain ⟨q1,q2,_,q4⟩:=hqr
  obtain ⟨hqb,rfl,_⟩:=ha.resolve_left (by omega)
  obtain ⟨cs,ty,g1,⟨g2,g3,g4,g5⟩,g6⟩:=q4 hqb
  obtain rfl:=g4 rfl
  have q1:q.s=1:=q1
  rw[q1,q2] at g2
  rw[hP,show (⟨p.B,p.O+0 * p.s+0,none⟩:Addr)=⟨p.B,0,none⟩ by rw[hO];simp]
  let H:Ae:=[some (.cells [.selfp 0,.vw 1]),some (.typed (.int .u8) l)]
  show Calls Tryz.prog _ _ _ fun e w'=>∃ (us:List Value) (I':Nat->Prop) (β':Nat->Option Place),e=.returned (CC us)/\FrmC w w' (Av H β)/\OutOK w w' V.gb I β H [] 0 I' β'/\RelL (Ac w') I' β' [.str (l.map fun n=>UInt8.ofNat n.toNat)] us
  have hcall:=Tryz.Builder_String_at p.B q.B q.O c u0 cs l w (by intro e;rw[e] at hm;simp at hm) (by rw[<-q2];exact hh) g1 (by simpa using g2) (by rw[<-q2];exact hqc) (by have:cs.size<=C3 * 1:=g5;unfold C3 at this;omega) (fun j x hx=>by
   obtain ⟨us,e1,e2,e3⟩:=g6 j x hx
   have:=e2 0 (by decide)
   simp only[RelC] at e3
   subst e3
   simpa [GT.cells] using this)
  refine Calls.mono hcall ?_
  rintro e w' ⟨rfl,W,w1,w2,w3,w4,rfl⟩
  have hfz:∀ B,B≠q.B->(W.freeze ⟨q.B,q.O,none⟩ l.length).heap[B]?=w.heap[B]?:=fun B hB=>by
   rw[<-w1]
   unfold World.freeze
   split
   ·rfl
   ·simp only[Array.getElem?_modify];rw[if_neg (fun h=>hB h.symm)]
  have hfs:(W.freeze ⟨q.B,q.O,none⟩ l.length).heap.size=w.heap.size:=by
   rw[<-w1];unfold World.freeze;split<;>simp
  have hfo:(W.freeze ⟨q.B,q.O,none⟩ l.length).os=w.os/\(W.freeze ⟨q.B,q.O,none⟩ l.length).tape=w.tape/\(W.freeze ⟨q.B,q.O,none⟩ l.length).output=w.output:=by
   unfold World.freeze;split<;>exact ⟨w2,w3,w4⟩
  have hctx:Ctx V.gb w I β H:=hctx
  refine ⟨[_],I,fun _=>none,rfl,⟨hfo.1,hfo.2.1,hfo.2.2,Nat.le_of_eq hfs.symm,fun B hB hnl=>hfz B fun e=>hnl ⟨1,_,q,rfl,hq,hqb,e.symm⟩⟩,⟨⟨fun b r hbr=>by simp at hbr,fun b b' r r' q q' hb=>by simp at hb,fun B hB=>⟨by rw[hfs];exact (hctx.imm B hB).1,DM B⟩,fun _ _=>rfl⟩,fun B hB=>.inl hB,fun b r q hbr=>by simp at hbr,fun i hi=>by cases hi⟩,?_⟩
  simp only[RelL]
  exact ⟨_,[],rfl,Dg _,rfl⟩⟩
end
end Go.AM.Num
end
section
namespace Go.AM.Num
open Go.Proofs
section
variable {V:Env} (hP:V.P=Tryz.prog)
include hP
theorem PT (_:∀ w,V.G w->GN w):Good V 173 HP:=
 C8 ⟨_,hP ▸ Tryz.func173,by decide,by rfl⟩ (fun _=>rfl) (fun _ _=>rfl) rfl (fun x y o hx w rd I β vs hG ha=>by
  obtain ⟨v,v',rfl,h1,h2⟩:=DE ha
  obtain ⟨s,rfl,hs⟩:=C0 h1
  obtain rfl:=De h2
  simp only[HP,strings_Repeat] at hx
  split at hx
  case isFalse=>cases hx
  rename_i hc
  cases hx
  rw[hP]
  have hn:(x.2.1.toNat:Int)=x.2.1:=Int.toNat_of_nonneg hc.1
  have hcall:=Tryz.strings_Repeat s x.2.1.toNat w (by have:=hc.2.1;omega) (by rw[Ft,hs];exact hc.2.2)
  rw[hn] at hcall
  refine Calls.mono hcall ?_
  rintro e w' ⟨rfl,hb⟩
  refine ⟨[_],rfl,Ext.of_below hb,fun rd I' β'=>?_⟩
  show RelL rd I' β' [.str _] _
  simp only[RelL]
  exact ⟨_,_,rfl,by rw[hs];exact Dg _,rfl⟩)
theorem UE:Good V 190 IU:=
 C8 ⟨_,hP ▸ Tryz.func190,by decide,by rfl⟩ (fun _=>rfl) (fun _ _=>rfl) rfl (fun x y o hx w rd I β vs hG ha=>by
  obtain ⟨v,v',rfl,h1,h2⟩:=DE ha
  obtain ⟨s,rfl,hs⟩:=C0 h1
  obtain rfl:=De h2
  simp only[IU,strings_IndexByte,Option.some.injEq] at hx
  cases hx
  rw[hP]
  refine Calls.mono (Tryz.strings_IndexByte s x.2.1 w) ?_
  rintro e w' ⟨rfl,rfl⟩
  refine ⟨[_],rfl,Ext.refl _,fun rd I' β'=>?_⟩
  show RelL rd I' β' [.int .i64 _] _
  simp only[RelL,RelV]
  exact ⟨_,_,rfl,by rw[hs],rfl⟩)
theorem Ow (_:∀ w,V.G w->GN w):Good V 170 HU:=
 C8 ⟨_,hP ▸ Tryz.func170,by decide,by rfl⟩ (fun _=>rfl) (fun _ _=>rfl) rfl (fun x y o hx w rd I β vs hG ha=>by
  obtain ⟨v,v',rfl,h1,h2⟩:=DE ha
  obtain ⟨s,rfl,hs⟩:=C0 h1
  obtain ⟨p,rfl,hp⟩:=C0 h2
  simp only[HU,EY] at hx
  split at hx
  case isFalse=>cases hx
  rename_i hc
  cases hx
  rw[hP]
  refine Calls.mono (Any.strings_Trim_laid Tryz.lays160 (by kernel_rfl) s p w (by rw[Ft,hs];exact hc.1) (by rw[Ft,hp];exact hc.2.1) (ascii_of_all (by rw[hp];exact hc.2.2))) ?_
  rintro e w' ⟨rfl,hb⟩
  refine ⟨[_],rfl,Ext.of_below hb,fun rd I' β'=>?_⟩
  show RelL rd I' β' [.str _] _
  simp only[RelL]
  exact ⟨_,_,rfl,by rw[hs,hp];exact Dg _,rfl⟩)
end
end Go.AM.Num
end
section
namespace Go.AM.Num
theorem MQ {α:Type} {step:α->Option (Ex×α)} {x y:α} (h:step x=some (.normal,y)):An step x=An step y:=by
 rw[Jy,h]
theorem Hp {α:Type} {step:α->Option (Ex×α)} {x y:α} {e:Ex} (h:step x=some (e,y)) (he:e≠.normal):An step x=some (e,y):=by
 rw[Jy,h]
 cases e with
 |normal=>exact absurd rfl he
 |exit id=>rfl
 |ret=>rfl
theorem Gh (i:Nat):Ex.same (.exit i) (.exit i)=true:=by simp[Ex.same]
theorem HR:Ex.same .ret .ret=true:=by simp[Ex.same]
theorem HB (i:Nat):Ex.same .ret (.exit i)=false:=by simp[Ex.same]
section
variable {ρ:Type}
theorem E6 (a b:Bool) (k:Option ρ):Aa (a&&b) k=Aa a (Aa b k):=by cases a<;>rfl
theorem Ch {p:Prop} {_:Decidable p} (h:p:=by omega) (k:Option ρ):Aa (decide p) k=k:=by rw[qZ10 h];rfl
theorem R5 {x y:Int} (h:x≠y) (k:Option ρ):Aa (x !=y) k=k:=by
 have:(x !=y)=true:=by simpa using h
 rw[this];rfl
theorem Dj {α:Type} (a b:α):cond true a b=a:=rfl
theorem CX {α:Type} (a b:α):cond false a b=b:=rfl
theorem Dc {α:Type} {p:Prop} {_:Decidable p} (h:p:=by omega) (a b:α):cond (decide p) a b=a:=by rw[qZ10 h];rfl
theorem Dt {α:Type} {p:Prop} {_:Decidable p} (h:¬ p:=by omega) (a b:α):cond (decide p) a b=b:=by rw[qZ9 h];rfl
theorem Pd {α:Type} {x y:Int} (h:x≠y) (a b:α):cond (x==y) a b=b:=by
 have:(x==y)=false:=by simpa using h
 rw[this];rfl
theorem AF {α β:Type} (x:α) (f:α->Option β):(some x).bind f=f x:=rfl
end
theorem DR {x:Int} (h:-9223372036854775808<=x/\x<=9223372036854775807:=by omega):qI x=x:=IntWalk.i64_in x h
theorem Rp {x:Int} (h:0<=x/\x<=18446744073709551615):qU x=x:=IntWalk.u64_in x h
theorem tm {x y:Int} (h:0<=x):x.tmod y=x % y:=Int.tmod_eq_emod_of_nonneg h
def lv:List Int->Int
 |[]=>0
 |x::r=>x+1000000000 * lv r
def Wf (l:List Int):Prop:=∀ x∈l,0<=x/\x < 1000000000
theorem Wf.nil:Wf []:=by simp[Wf]
theorem Wf.cons {x:Int} {l:List Int} (h:0<=x/\x < 1000000000) (hl:Wf l):Wf (x::l):=by
 intro y hy
 rcases List.mem_cons.1 hy with rfl | hy
 ·exact h
 ·exact hl y hy
theorem Wf.app {a b:List Int} (ha:Wf a) (hb:Wf b):Wf (a++b):=by
 intro y hy
 rcases List.mem_append.1 hy with hy | hy
 ·exact ha y hy
 ·exact hb y hy
theorem Wf.one {x:Int} (h:0<=x/\x < 1000000000):Wf [x]:=Wf.cons h Wf.nil
theorem Wf.take {l:List Int} (h:Wf l) (n:Nat):Wf (l.take n):=fun x hx=>h x (List.mem_of_mem_take hx)
theorem Wf.drop {l:List Int} (h:Wf l) (n:Nat):Wf (l.drop n):=fun x hx=>h x (List.mem_of_mem_drop hx)
theorem Wf.set {l:List Int} (h:Wf l) (i:Nat) {x:Int} (hx:0<=x/\x < 1000000000):Wf (l.set i x):=by
 intro y hy
 rcases List.mem_or_eq_of_mem_set hy with hy | rfl
 ·exact h y hy
 ·exact hx
theorem Wf.at {l:List Int} (h:Wf l) (i:Nat):0<=l.getD i 0/\l.getD i 0 < 1000000000:=by
 by_cases hi:i < l.length
 ·rw[qZ4,qZ5 hi]
  exact h _ (List.getElem_mem hi)
 ·rw[qZ4,List.getElem?_eq_none (by omega)]
  decide
theorem Pi {l:List Int} {i:Nat} (h:i < l.length):l.getD i 0=l[i]:=by
 rw[qZ4,qZ5 h];rfl
theorem Tp {l:List Int} {i:Nat} (h:l.length<=i):l.getD i 0=0:=by
 rw[qZ4,List.getElem?_eq_none h];rfl
end Go.AM.Num
end
section
namespace Go.AM.Num
def B5 (c:UInt8):Nat:=c.toNat - 48
def Ev (c:UInt8):Prop:=48<=c.toNat/\c.toNat<=57
def Bn (s:qBs):Prop:=∀ c∈s,Ev c
def Bx (s:qBs):Nat:=s.foldl (fun v c=>10 * v+B5 c) 0
theorem J' (s:qBs) (c:UInt8):Bx (s++[c])=10 * Bx s+B5 c:=by simp[Bx]
theorem Qq (s:qBs) (v:Nat):s.foldl (fun v c=>10 * v+B5 c) v=v * 10 ^ s.length+Bx s:=by
 induction s generalizing v with
 |nil=>simp[Bx]
 |cons c s ih=>
  simp only[List.foldl_cons,Bx,qY11,Nat.pow_succ]
  rw[ih (10 * v+B5 c),ih (10 * 0+B5 c)]
  grind
theorem QA (a b:qBs):Bx (a++b)=Bx a * 10 ^ b.length+Bx b:=by
 show (a++b).foldl (fun v c=>10 * v+B5 c) 0=_
 rw[List.foldl_append,Qq]
 rfl
theorem Rm (c:UInt8) (s:qBs):Bx (c::s)=B5 c * 10 ^ s.length+Bx s:=by
 have:=QA [c] s
 simpa [Bx] using this
theorem Bn.app {a b:qBs} (ha:Bn a) (hb:Bn b):Bn (a++b):=fun c hc=>(List.mem_append.1 hc).elim (ha c) (hb c)
theorem Bn.take {s:qBs} (h:Bn s) (n:Nat):Bn (s.take n):=fun c hc=>h c (List.mem_of_mem_take hc)
theorem Bn.drop {s:qBs} (h:Bn s) (n:Nat):Bn (s.drop n):=fun c hc=>h c (List.mem_of_mem_drop hc)
theorem Ur {c:UInt8} (h:Ev c):B5 c < 10:=by unfold B5;have:=h.2;omega
theorem Su {s:qBs} (h:Bn s):Bx s < 10 ^ s.length:=by
 induction s with
 |nil=>simp[Bx]
 |cons c s ih=>
  have h1:=Ur (h c (by simp))
  have h2:=ih fun c' hc'=>h c' (by simp[hc'])
  rw[Rm,qY11,Nat.pow_succ]
  have:B5 c * 10 ^ s.length<=9 * 10 ^ s.length:=Nat.mul_le_mul_right _ (by omega)
  omega
end Go.AM.Num
end
section
namespace Go.AM.Num
abbrev dd (n:Nat):qBs:=Lib.decDigits n
theorem ED {n:Nat} (h:n < 10):dd n=[UInt8.ofNat (48+n)]:=by unfold dd;rw[Lib.decDigits,dif_pos h]
theorem GE {n:Nat} (h:¬ n < 10):dd n=dd (n / 10)++[UInt8.ofNat (48+n % 10)]:=by unfold dd;rw[Lib.decDigits,dif_neg h]
theorem dig_of {k:Nat} (h:k < 10):B5 (UInt8.ofNat (48+k))=k/\Ev (UInt8.ofNat (48+k)):=by
 have:(UInt8.ofNat (48+k)).toNat=48+k:=by simp[UInt8.toNat_ofNat];omega
 exact ⟨by unfold B5;omega,by unfold Ev;omega⟩
theorem Uh (n:Nat):dd n≠[]:=by
 by_cases h:n < 10
 ·rw[ED h];simp
 ·rw[GE h];simp
theorem PU (n:Nat):Bn (dd n):=by
 induction n using Nat.strongRecOn with
 |_ n ih=>
  by_cases h:n < 10
  ·rw[ED h];intro c hc;rw[List.mem_singleton.1 hc];exact (dig_of h).2
  ·rw[GE h]
   refine (ih (n / 10) (by omega)).app fun c hc=>?_
   rw[List.mem_singleton.1 hc];exact (dig_of (by omega)).2
theorem TX (n:Nat):Bx (dd n)=n:=by
 induction n using Nat.strongRecOn with
 |_ n ih=>
  by_cases h:n < 10
  ·rw[ED h,show [UInt8.ofNat (48+n)]=[]++[UInt8.ofNat (48+n)] from rfl,J',(dig_of h).1];simp[Bx]
  ·rw[GE h,J',ih (n / 10) (by omega),(dig_of (by omega)).1];omega
theorem CG:dd 0=[48]:=by rw[ED (by decide)];rfl
theorem Ik:dd 1=[49]:=by rw[ED (by decide)];rfl
theorem Ho {n k:Nat} (h:n < 10 ^ k) (hk:0 < k):(dd n).length<=k:=by
 induction k generalizing n with
 |zero=>omega
 |succ k ih=>
  by_cases h1:n < 10
  ·rw[ED h1];simp
  ·rw[GE h1,qZ6]
   have hk0:0 < k:=by
    rcases Nat.eq_zero_or_pos k with h0 | h0
    ·subst h0;simp at h;omega
    ·exact h0
   have:=ih (n:=n / 10) (by rw[Nat.pow_succ] at h;omega) hk0
   simp;omega
theorem EV (n:Nat):n < 10 ^ (dd n).length:=by
 have:=Su (PU n)
 rwa [TX] at this
theorem G9 (n:Nat):0 < (dd n).length:=List.length_pos_iff.2 (Uh n)
theorem GK {m n:Nat} (h:m<=n):(dd m).length<=(dd n).length:=Ho (Nat.lt_of_le_of_lt h (EV n)) (G9 n)
theorem Pl (m n:Nat):(dd (m+n)).length<=max (dd m).length (dd n).length+1:=by
 apply Ho _ (by omega)
 have h1:=EV m
 have h2:=EV n
 have h3:10 ^ (dd m).length<=10 ^ (max (dd m).length (dd n).length):=Nat.pow_le_pow_right (by decide) (by omega)
 have h4:10 ^ (dd n).length<=10 ^ (max (dd m).length (dd n).length):=Nat.pow_le_pow_right (by decide) (by omega)
 rw[Nat.pow_succ];omega
theorem E3 (m n:Nat):(dd (m * n)).length<=(dd m).length+(dd n).length:=by
 apply Ho _ (by have:=G9 m;omega)
 rw[Nat.pow_add]
 exact Nat.mul_lt_mul'' (EV m) (EV n)
end Go.AM.Num
end
section
namespace Go.AM.Num
def BN (q:Rat):qBs:=(if q.num < 0 then [45] else [])++dd q.num.natAbs++(if q.den=1 then [] else 47::dd q.den)
def tx (neg:Bool) (m d:Nat):qBs:=(if neg=true/\m≠0 then [45] else [])++dd m++(if d=1 then [] else 47::dd d)
open Classical in
noncomputable def rd (a:qBs):Option Rat:=if h:∃ q,a=BN q then some h.choose else none
theorem Pu {a:qBs} {q:Rat} (h:rd a=some q):a=BN q:=by
 unfold rd at h
 split at h
 ·rename_i hh
  have:=hh.choose_spec
  rw[Option.some.inj h] at this
  exact this
 ·cases h
def D (q:Rat):Nat:=(dd q.num.natAbs).length+(dd q.den).length
theorem SX (q:Rat):D q<=(BN q).length+1:=by
 unfold BN D
 simp only[qZ6]
 by_cases h:q.den=1
 ·rw[if_pos h,h,Ik];simp
 ·rw[if_neg h];simp;omega
theorem T9 (a b:Int):(a+b).natAbs<=a.natAbs+b.natAbs:=by omega
end Go.AM.Num
end
section
namespace Go.AM.Num
def PQ (neg:Bool):qBs:=if neg then [45] else []
end Go.AM.Num
end
section
namespace Go.AM.Num
section
variable {a b:qBs}
theorem RE:BN 0=[48]:=by unfold BN;simp[CG]
end
noncomputable def Ob (a:qBs):Int:=match rd a with | some q=>q.num.sign | none=>0
noncomputable def un (f:Rat->qBs) (a:qBs):qBs:=match rd a with | some q=>f q | none=>[]
end Go.AM.Num
end
section
namespace Go.AM.Num
theorem UM (n:Int):BN (n:Rat)=(if n < 0 then [45] else [])++dd n.natAbs:=by
 unfold BN
 rw[Rat.num_intCast,Rat.den_intCast];simp
noncomputable def MX (a:qBs):Bool:=match rd a with | some q=>q.den==1 | none=>false
end Go.AM.Num
end
section
namespace Go.AM.Num
def Jt (s:qBs):Prop:=s≠[]/\Bn s
instance (s:qBs):Decidable (Bn s):=by unfold Bn Ev;infer_instance
instance (s:qBs):Decidable (Jt s):=by unfold Jt;infer_instance
inductive DecParts:qBs->Bool->qBs->Option qBs->Prop
 |mk {a s:qBs} {neg:Bool} (h:a=PQ neg++s) (hs:neg=false->∀ r,s≠45::r) {x:qBs} {y:Option qBs}
  (hxy:(y=none/\s=x/\(46:UInt8)∉s)\/(∃ z,y=some z/\s=x++46::z/\(46:UInt8)∉x)):DecParts a neg x y
end Go.AM.Num
end
section
namespace Go.AM.Num
theorem Bn.cons {c:UInt8} {s:qBs} (h:Ev c) (hs:Bn s):Bn (c::s):=fun x hx=>(List.mem_cons.1 hx).elim (fun e=>e ▸ h) (hs x)
end Go.AM.Num
end
section
namespace Go.AM.Num
def Bd (l:List Int) (B:Int):Prop:=∀ x∈l,0<=x/\x<=B
theorem Bd.at {l:List Int} {B:Int} (h:Bd l B) (hB:0<=B) (k:Nat):0<=l.getD k 0/\l.getD k 0<=B:=by
 by_cases hk:k < l.length
 ·rw[Pi hk];exact h _ (List.getElem_mem hk)
 ·rw[Tp (by omega)];omega
theorem Bd.set {l:List Int} {B B':Int} (h:Bd l B) (hB:B<=B') {k:Nat} {x:Int} (hx:0<=x/\x<=B'):Bd (l.set k x) B':=by
 intro y hy
 rcases List.mem_or_eq_of_mem_set hy with hy | rfl
 ·have:=h y hy;omega
 ·exact hx
end Go.AM.Num
end
section
namespace Go.AM.Num
def bad:Bool×qBs×qBs:=(false,[],[])
end Go.AM.Num
end
section
namespace Go.AM.Num
theorem Ri (x:Int):0<=qU x/\qU x<=18446744073709551615:=by
 show 0<=IntKind.wrap .u64 x/\IntKind.wrap .u64 x<=18446744073709551615
 simp[IntKind.wrap,IntKind.bits,IntKind.signed];omega
theorem KQ (v:Int) {n:Int} (h:0 < n/\n<=9223372036854775807):∃ r,Ed v n=some ((r,()),())/\0<=r/\r < n:=by
 have hu:=Ri v
 unfold Ed
 rw[Rp (x:=n) (by omega),R5 (by omega),tm hu.1]
 have h1:=Int.emod_nonneg (qU v) (show n≠0 by omega)
 have h2:=Int.emod_lt_of_pos (qU v) h.1
 exact ⟨_,by rw[DR],h1,h2⟩
def CI (c:List Int×Int):Prop:=0<=c.2/\c.2<=c.1.length/\c.1.length<=400
end Go.AM.Num
end
section
namespace Go.AM.Num
theorem t0:([48]:qBs)=BN ((0:Int):Rat):=RE.symm
theorem t1:([49]:qBs)=BN ((1:Int):Rat):=by rw[UM];simp[Ik]
end Go.AM.Num
end
section
namespace Go.AM.Num
theorem TM {α:Type} {step:α->Option (Ex×α)} (St:Nat->α) (n:Nat) {E:Ex} (hE:E≠.normal) (stop:Nat->Option (Ex×α)) (hs:∀ k r,stop k=some r->r.1≠.normal)
 (h:∀ k,k < n->step (St k)=some ((stop k).getD (.normal,St (k+1)))) (he:step (St n)=some (E,St n)):∀ j k,k+j=n->An step (St k)=some (((List.range' k j).findSome? stop).getD (E,St n)):=by
 intro j
 induction j with
 |zero=>
  intro k hk;obtain rfl:k=n:=by omega
  exact Hp he hE
 |succ j ih=>
  intro k hk
  have h1:=h k (by omega)
  rw[List.range'_succ,List.findSome?_cons]
  cases hst:stop k with
  |none=>
   rw[hst] at h1
   rw[MQ h1,ih (k+1) (by omega)]
  |some r=>
   rw[hst] at h1
   exact Hp h1 (hs k r hst)
theorem IM {α:Type} {step:α->Option (Ex×α)} (St bad:Nat->α) (n:Nat) {E B:Ex} (hE:E≠.normal) (hB:B≠.normal) (ok:Nat->Bool)
 (h:∀ k,k < n->step (St k)=some (if ok k then (.normal,St (k+1)) else (B,bad k))) (he:step (St n)=some (E,St n)) :
 ((List.range n).all ok=true/\An step (St 0)=some (E,St n))\/((List.range n).all ok=false/\∃ k,An step (St 0)=some (B,bad k)):=by
 have:=TM St n hE (fun k=>if ok k then none else some (B,bad k)) (fun k r hr=>by
  split at hr
  ·cases hr
  ·cases hr;exact hB) (fun k hk=>by rw[h k hk];split<;>rfl) he n 0 (by omega)
 rw[<-List.range_eq_range'] at this
 cases hf:(List.range n).findSome? (fun k=>if ok k then none else some (B,bad k)) with
 |none=>
  rw[hf] at this
  refine .inl ⟨?_,this⟩
  rw[List.findSome?_eq_none_iff] at hf
  rw[List.all_eq_true]
  intro k hk
  have:=hf k hk
  split at this
  ·assumption
  ·cases this
 |some r=>
  rw[hf] at this
  obtain ⟨k,hk,hr⟩:=List.exists_of_findSome?_eq_some hf
  split at hr
  ·cases hr
  ·rename_i hn
   cases hr
   refine .inr ⟨?_,k,this⟩
   rw[List.all_eq_false]
   exact ⟨k,hk,hn⟩
structure Short (N:Nat) (v:E0):Prop where
 num:v.2.2.1.length<=N
 keys:∀ s∈v.2.2.2.1,s.length<=N
 vals:∀ s∈v.2.2.2.2,s.length<=N
 few:v.2.2.2.1.length<=1000000000/\v.2.2.2.2.length<=1000000000
end Go.AM.Num
end
section
namespace Go.AM.Num
def ti (z:Int):qBs:=BN (z:Rat)
abbrev KV:=List (Int×Int)
def lo (i:Int) (P:KV):KV:=P.filter fun p=>decide (p.1 < i)
def hi (i:Int) (P:KV):KV:=P.filter fun p=>decide (i < p.1)
def MI (P:KV):Prop:=P.Pairwise fun a b=>a.1 < b.1
structure Canon (d:Int) (P:KV):Prop where
 incr:MI P
 vals:∀ p∈P,p.2≠d
def FY (d:Int) (P:KV) (i:Int):Int:=((P.find? fun p=>decide (p.1=i)).map (·.2)).getD d
def D8 (d:Int) (P:KV) (i n:Int):KV:=lo i P++(if n=d then [] else [(i,n)])++hi i P
theorem FK {i:Int} {P:KV} {p:Int×Int}:p∈lo i P ↔ p∈P/\p.1 < i:=by simp[lo]
theorem Iz {i:Int} {P:KV} {p:Int×Int}:p∈hi i P ↔ p∈P/\i < p.1:=by simp[hi]
theorem RQ {d:Int} {P:KV} (h:Canon d P) (i n:Int):Canon d (D8 d P i n):=by
 refine ⟨?_,?_⟩
 ·unfold MI D8
  rw[List.pairwise_append,List.pairwise_append]
  refine ⟨⟨List.Pairwise.filter _ h.incr,by split<;>simp,fun a ha b hb=>?_⟩,List.Pairwise.filter _ h.incr,fun a ha b hb=>?_⟩
  ·have:=(FK.1 ha).2
   split at hb
   ·simp at hb
   ·simp at hb;subst hb;exact this
  ·have hb':=(Iz.1 hb).2
   rcases List.mem_append.1 ha with ha | ha
   ·have:=(FK.1 ha).2;omega
   ·split at ha
    ·simp at ha
    ·simp at ha;subst ha;exact hb'
 ·intro p hp
  unfold D8 at hp
  rcases List.mem_append.1 hp with hp | hp
  ·rcases List.mem_append.1 hp with hp | hp
   ·exact h.vals p (FK.1 hp).1
   ·split at hp
    ·simp at hp
    ·simp at hp;subst hp;assumption
  ·exact h.vals p (Iz.1 hp).1
end Go.AM.Num
end
section
namespace Go.AM.Num
def ks (P:KV):List qBs:=P.map fun p=>ti p.1
def vs (P:KV):List qBs:=P.map fun p=>ti p.2
end Go.AM.Num
end
section
namespace Go.AM.Num
structure Sm (N:Nat) (d:Int) (P:KV):Prop where
 num:(ti d).length<=N
 els:∀ p∈P,(ti p.1).length<=N/\(ti p.2).length<=N
 few:P.length<=1000000000
structure Parts (i:Int) (L m H:KV):Prop where
 lo:∀ p∈L,p.1 < i
 mid:m=[]\/∃ w,m=[(i,w)]
 hi:∀ p∈H,i < p.1
end Go.AM.Num
end
section
namespace Go.AM.Num
theorem Ox (d:Int):Canon d []:=⟨List.Pairwise.nil,fun _ hp=>absurd hp qY16⟩
end Go.AM.Num
end
section
namespace Go.AM.Num
abbrev Aj (n:Ab):Int:=n.1
abbrev BE (n:Ab):Int:=n.2.1
abbrev Cv (n:Ab):qBs:=n.2.2.1
abbrev BI (n:Ab):qBs:=n.2.2.2.1
abbrev D6 (n:Ab):Int:=n.2.2.2.2
def letterB (c:UInt8):Bool:=(decide (97<=c)&&decide (c<=122))||(decide (65<=c)&&decide (c<=90))||c==95||c==36||c==33
def CS (c:UInt8):Bool:=letterB c||(decide (48<=c)&&decide (c<=57))||c==46||c==64
def DT:List qBs:=[[97,110,100],[111,114],[110,111,116],[105,116,101],[116,114,117,101],[102,97,108,115,101],[108,101,116],[102,111,114,97,108,108],[101,120,105,115,116,115],
 [100,105,115,116,105,110,99,116],[100,105,118],[109,111,100],[115,101,108,101,99,116],[115,116,111,114,101],[99,111,110,115,116],[66,111,111,108],[73,110,116],[82,101,97,108],[65,114,114,97,121]]
def Eg (s:qBs):Bool:=decide (s.length<=40)&&letterB (s.getD 0 0)&&!(decide (s∈DT))&&s.all CS
noncomputable def F9 (n:Ab):Bool:=
 if Aj n=3 then decide (Cv n=[])&&((decide (BE n=2)&&MX (BI n))||(decide (BE n=3)&&(rd (BI n)).isSome))
 else if Aj n=4\/Aj n=5 then decide (1<=BE n/\BE n<=4)&&Eg (Cv n)&&decide (BI n=[])
 else if Aj n=16\/Aj n=17 then decide (BE n=0)&&decide (Cv n=[])&&MX (BI n)&&decide (0 < Ob (BI n))
 else decide (1<=Aj n/\Aj n<=20)&&decide (BE n=0)&&decide (Cv n=[])&&decide (BI n=[])
def Dk (o k:Int):Bool:=
 if o=1\/o=2\/o=3\/o=4 then decide (k=0)
 else if o=5 then decide (1<=k/\k<=40)
 else if o=6\/o=16\/o=17\/o=20 then decide (k=1)
 else if o=7\/o=8 then decide (0<=k)
 else if o=14 then decide (1<=k)
 else if o=10\/o=19 then decide (k=3)
 else decide (k=2)
noncomputable def E' (n:Ab):Bool:=F9 n&&Dk (Aj n) (D6 n)
def CM (n:Ab) (first:Int) (ss:List Int):Int:=
 if Aj n=3\/Aj n=4\/Aj n=5 then BE n
 else if Aj n=1\/Aj n=2\/Aj n=6\/Aj n=7\/Aj n=8\/Aj n=9 then (if ∀ s∈ss,s=1 then 1 else 0)
 else if Aj n=10 then (if ss.getD 0 0=1/\ss.getD 1 0=ss.getD 2 0 then ss.getD 1 0 else 0)
 else if Aj n=11 then (if ss.getD 0 0=ss.getD 1 0 then 1 else 0)
 else if Aj n=12\/Aj n=13 then (if (ss.getD 0 0=2\/ss.getD 0 0=3)/\∀ s∈ss,s=ss.getD 0 0 then 1 else 0)
 else if Aj n=14 then (if (ss.getD 0 0=2\/ss.getD 0 0=3)/\∀ s∈ss,s=ss.getD 0 0 then ss.getD 0 0 else 0)
 else if Aj n=15 then (if first=3/\(ss.getD 0 0=2\/ss.getD 0 0=3)/\∀ s∈ss,s=ss.getD 0 0 then ss.getD 0 0 else 0)
 else if Aj n=16\/Aj n=17 then (if ss.getD 0 0=2 then 2 else 0)
 else if Aj n=18 then (if ss.getD 0 0=4/\ss.getD 1 0=2 then 2 else 0)
 else if Aj n=19 then (if ss.getD 0 0=4/\ss.getD 1 0=2/\ss.getD 2 0=2 then 4 else 0)
 else if Aj n=20 then (if ss.getD 0 0=2 then 4 else 0)
 else 0
inductive Tf where
 |nil
 |cons (n:Ab) (k r:Tf)
namespace Tf
def flat:Tf->List Ab
 |nil=>[]
 |cons n k r=>n::(flat k++flat r)
def len:Tf->Nat
 |nil=>0
 |cons _ _ r=>len r+1
def size:Tf->Nat
 |nil=>0
 |cons _ k r=>size k+size r+1
def app:Tf->Tf->Tf
 |nil,g=>g
 |cons n k r,g=>cons n k (app r g)
def dep:Tf->Nat
 |nil=>0
 |cons _ k r=>max (dep k+1) (dep r)
def op1:Tf->Int
 |nil=>0
 |cons n _ _=>Aj n
def srt:Tf->List Int
 |nil=>[]
 |cons n k r=>(if 0∈srt k then 0 else CM n (op1 k) (srt k))::srt r
noncomputable def wf:Tf->Bool
 |nil=>true
 |cons n k r=>E' n&&decide (D6 n=(len k:Int))&&wf k&&wf r
def take:Nat->Tf->Tf
 |0,_=>nil
 |_+1,nil=>nil
 |c+1,cons n k r=>cons n k (take c r)
def drop:Nat->Tf->Tf
 |0,f=>f
 |_+1,nil=>nil
 |c+1,cons _ _ r=>drop c r
theorem RP (f:Tf):f.flat.length=f.size:=by
 induction f with
 |nil=>rfl
 |cons n k r ik ir=>simp only[flat,size,qY11,qZ6];omega
theorem UB (f g:Tf):(f.app g).flat=f.flat++g.flat:=by
 induction f with
 |nil=>rfl
 |cons n k r _ ir=>simp only[app,flat,ir,qY5,qZ1]
theorem OC (f g:Tf):(f.app g).size=f.size+g.size:=by
 induction f with
 |nil=>simp[app,size]
 |cons n k r _ ir=>simp only[app,size,ir];omega
theorem Og (f g:Tf):(f.app g).srt=f.srt++g.srt:=by
 induction f with
 |nil=>rfl
 |cons n k r _ ir=>simp only[app,srt,ir,qY5]
theorem SE (f g:Tf):(f.app g).wf=(f.wf&&g.wf):=by
 induction f with
 |nil=>simp[app,wf]
 |cons n k r _ ir=>simp only[app,wf,ir,Bool.and_assoc]
theorem PH (f g:Tf):(f.app g).dep=max f.dep g.dep:=by
 induction f with
 |nil=>simp[app,dep]
 |cons n k r _ ir=>simp only[app,dep,ir];omega
theorem TO (f:Tf):f.srt.length=f.len:=by
 induction f with
 |nil=>rfl
 |cons n k r _ ir=>simp only[srt,len,qY11,ir]
theorem Ol {n:Ab} {k r:Tf}:(cons n k r).wf=true ↔ E' n=true/\D6 n=(len k:Int)/\wf k=true/\wf r=true:=by
 simp only[wf,qY0,decide_eq_true_eq,and_assoc]
theorem T7 {n:Ab} {k r:Tf}:(0:Int)∉(cons n k r).srt ↔ (0:Int)∉k.srt/\CM n (op1 k) k.srt≠0/\(0:Int)∉r.srt:=by
 simp only[srt,qY12,not_or]
 constructor
 ·rintro ⟨h1,h2⟩
  split at h1
  ·exact absurd rfl h1
  ·rename_i h;exact ⟨h,fun e=>h1 e.symm,h2⟩
 ·rintro ⟨h1,h2,h3⟩
  rw[if_neg h1]
  exact ⟨fun e=>h2 e.symm,h3⟩
end Tf
open Tf
def many (p:List Ab->Option (Tf×List Ab)):Nat->List Ab->Option (Tf×List Ab)
 |0,l=>some (nil,l)
 |c+1,l=>(p l).bind fun x=>(many p c x.2).bind fun y=>some (x.1.app y.1,y.2)
noncomputable def one:Nat->List Ab->Option (Tf×List Ab)
 |0,_=>none
 |_+1,[]=>none
 |d+1,n::l=>if E' n=true then (many (one d) (D6 n).toNat l).bind fun x=>some (cons n x.1 nil,x.2) else none
end Go.AM.Num
end
section
namespace Go.AM.Num
theorem B_ {P:UInt8->Prop} (h:∀ n:Fin 256,P (UInt8.ofNat n.val)) (c:UInt8):P c:=by
 have:=h ⟨c.toNat,c.toNat_lt⟩
 simpa using this
theorem Jj (c:UInt8):Fe (c.toNat:Int)=some ((letterB c,()),()):=by
 refine B_ (P:=fun c=>Fe (c.toNat:Int)=some ((letterB c,()),())) ?_ c
 decide +kernel
theorem Qe (c:UInt8):decide ((c.toNat:Int)>=48)=decide (48<=c):=by
 refine B_ (P:=fun c=>decide ((c.toNat:Int)>=48)=decide (48<=c)) ?_ c
 decide +kernel
theorem PW (c:UInt8):decide ((c.toNat:Int)<=57)=decide (c<=57):=by
 refine B_ (P:=fun c=>decide ((c.toNat:Int)<=57)=decide (c<=57)) ?_ c
 decide +kernel
theorem Ll (c:UInt8):((c.toNat:Int) !=46)=!(c==46):=by
 refine B_ (P:=fun c=>((c.toNat:Int) !=46)=!(c==46)) ?_ c
 decide +kernel
theorem I0 (c:UInt8):((c.toNat:Int) !=64)=!(c==64):=by
 refine B_ (P:=fun c=>((c.toNat:Int) !=64)=!(c==64)) ?_ c
 decide +kernel
theorem Hd {α:Type} (l:List α) (d:α) (p:α->Bool):(List.range l.length).all (fun k=>p (l.getD k d))=l.all p:=by
 rw[Bool.eq_iff_iff,List.all_eq_true,List.all_eq_true]
 constructor
 ·intro h x hx
  obtain ⟨i,hi⟩:=List.getElem?_of_mem hx
  have:=h i (by simp only[List.mem_range];exact (List.getElem?_eq_some_iff.1 hi).1)
  simpa [qZ4,hi] using this
 ·intro h k hk
  simp only[List.mem_range] at hk
  simpa [qZ4,hk] using h _ (List.getElem_mem hk)
theorem RN (s:qBs) (l:List qBs):l.foldr (fun w k=>cond (s==w) (some ((true,()),())) k) (some ((false,()),()))=some ((decide (s∈l),()),()):=by
 induction l with
 |nil=>simp
 |cons w l ih=>
  simp only[List.foldr_cons,ih,qY12]
  by_cases h:s=w
  ·rw[show (s==w)=true by simpa using h];simp[h]
  ·rw[show (s==w)=false by simpa using h];simp[h]
theorem US (s:qBs):Im s=some ((decide (s∈DT),()),()):=by
 have:=RN s DT
 exact this
theorem UZ (s:qBs):BM s=some ((Eg s,()),()):=by
 unfold BM
 by_cases h0:s=[]
 ·subst h0;decide
 ·rw[show (s==([]:qBs))=false by simpa using h0,CX]
  have hl:0 < s.length:=List.length_pos_iff.2 h0
  unfold Eg
  by_cases h1:s.length<=40
  ·rw[Dt,qZ10 h1,E6,Ch,Ch,Jj,AF,US,AF]
   have e:(0:Int).toNat=0:=rfl
   rw[e]
   simp only
   cases letterB (s.getD 0 0) with
   |false=>rfl
   |true=>
    simp only[Bool.not_true,CX,Bool.true_and]
    cases decide (s∈DT) with
    |true=>rfl
    |false=>
     rw[CX]
     have key:=IM (step:=EN) (fun k=>(s,false,(s.length:Int),(k:Int),())) (fun k=>(s,false,(s.length:Int),(k:Int),())) s.length (E:=.exit 0) (B:=.ret) (by simp) (by simp) (fun k=>CS (s.getD k 0)) (fun k hk=>by
      unfold EN
      simp only
      rw[Dc,E6,Ch,Ch,qZ0,Jj,AF,Qe,PW,Ll,I0,DR (x:=(k:Int)+1) (by omega)]
      unfold CS
      generalize letterB (s.getD k 0)=a
      generalize decide (48<=s.getD k 0)=b
      generalize decide (s.getD k 0<=57)=c
      generalize (s.getD k 0==46)=d
      generalize (s.getD k 0==64)=e
      cases a<;>cases b<;>cases c<;>cases d<;>cases e<;>rfl) (by
      unfold EN
      simp only
      rw[Dt])
     rw[Hd] at key
     rcases key with ⟨k1,k2⟩ | ⟨k1,j,k2⟩
     ·rw[show ((0:Nat):Int)=0 from rfl] at k2
      rw[k2,k1]
      simp only[AF,Gh,Dj,Bool.not_false,Bool.true_and]
     ·rw[show ((0:Nat):Int)=0 from rfl] at k2
      rw[k2,k1]
      simp only[AF,HB,HR,Dj,CX,Bool.and_false]
  ·rw[Dc,qZ9 h1]
   rfl
end Go.AM.Num
end
section
namespace Go.AM.Num
namespace Tf
def info:Nat->Tf->List (Int×Int×Int)
 |_,nil=>[]
 |p,cons n k r=>((if 0∈srt k then 0 else CM n (op1 k) (srt k)),((dep k+1:Nat):Int),((p+1+size k:Nat):Int))::(info (p+1) k++info (p+1+size k) r)
end Tf
open Tf
end Go.AM.Num
end
section
namespace Go.AM.Num
theorem S7 {α:Type} (s:qBs) (x:α):∀ l,AG s (AZ s x l)=some x:=by
 intro l
 induction l with
 |nil=>simp[AZ,AG]
 |cons a l ih=>
  obtain ⟨k,y⟩:=a
  simp only[AZ]
  by_cases h:k=s
  ·rw[show (k==s)=true by simpa using h];simp[AG,h]
  ·have hk:(k==s)=false:=by simpa using h
   rw[hk];simp[AG,hk,ih]
theorem Uz {α:Type} {s t:qBs} (h:t≠s) (x:α):∀ l,AG t (AZ s x l)=AG t l:=by
 intro l
 have h2:(s==t)=false:=by simpa using fun e=>h e.symm
 induction l with
 |nil=>simp[AZ,AG,h2]
 |cons a l ih=>
  obtain ⟨k,y⟩:=a
  simp only[AZ]
  by_cases hk:k=s
  ·subst hk;simp[AG,h2]
  ·rw[show (k==s)=false by simpa using hk]
   simp only[CX,AG,ih]
namespace Tf
def subs:Tf->List (Ab×Tf)
 |nil=>[]
 |cons n k r=>(n,k)::(subs k++subs r)
end Tf
open Tf
abbrev Us:=qBs×Bool×List Int×Int
def OZ (x:Ab×Tf):Option Us:=if Aj x.1=4 then some (Cv x.1,false,[],BE x.1) else if Aj x.1=5 then some (Cv x.1,true,x.2.srt,BE x.1) else none
def NX (f:Tf):List Us:=f.subs.filterMap OZ
def E9 (us:List Us):Prop:=∀ a∈us,∀ b∈us,a.1=b.1->a=b
theorem E9.mono {us vs:List Us} (h:E9 vs) (hs:∀ a∈us,a∈vs):E9 us:=fun a ha b hb e=>h a (hs a ha) b (hs b hb) e
structure NI (us:List Us) (vars:List (qBs×Vr)) (funcs:List (qBs×qBs×Af)):Prop where
 cns:E9 us
 w:∀ a∈us,(a.2.1=false/\a.2.2.1=[])\/a.2.1=true
 v:∀ nm x,AG nm vars=some x->x.1=nm/\(nm,false,[],x.2)∈us
 v':∀ nm s,(nm,false,[],s)∈us->(AG nm vars).isSome=true
 f:∀ nm x,AG nm funcs=some x->x.1=nm/\(nm,true,x.2.1,x.2.2)∈us
 f':∀ nm a s,(nm,true,a,s)∈us->(AG nm funcs).isSome=true
theorem NI.nil:NI [] [] []:=⟨fun a h=>absurd h qY16,fun a h=>absurd h qY16,fun nm x h=>(by simp[AG] at h),fun nm s h=>absurd h qY16,fun nm x h=>(by simp[AG] at h),fun nm a s h=>absurd h qY16⟩
end Go.AM.Num
end
section
namespace Go.AM.Num
open Tf
section
variable {F:Tf} {t:List Ab} {P:List (Int×Ad)}
def KL {α β:Type} (l:List (qBs×β)) (vars:List (qBs×α)):Prop:=∀ nm,AG nm vars=none ↔ ∀ y∈l,y.1≠nm
theorem KL.nil {α β:Type}:KL ([]:List (qBs×β)) ([]:List (qBs×α)):=fun nm=>⟨fun _ y hy=>absurd hy qY16,fun _=>rfl⟩
theorem KL.add {α β:Type} {l:List (qBs×β)} {vars:List (qBs×α)} (h:KL l vars) (nm:qBs) (y:α) (z:β):KL (l++[(nm,z)]) (AZ nm y vars):=fun x=>by
 by_cases e:x=nm
 ·subst e
  rw[S7]
  constructor
  ·intro h;cases h
  ·intro h';exact absurd rfl (h' (x,z) (by simp))
 ·rw[Uz e,h x]
  constructor
  ·intro h' w hw
   rcases List.mem_append.1 hw with hw | hw
   ·exact h' w hw
   ·rw[List.mem_singleton.1 hw];exact fun e'=>e e'.symm
  ·exact fun h' w hw=>h' w (List.mem_append_left _ hw)
theorem KL.some {α β:Type} {l:List (qBs×β)} {vars:List (qBs×α)} (h:KL l vars) {nm:qBs} {x:α} (hx:AG nm vars=some x):¬ ∀ y∈l,y.1≠nm:=fun h'=>by rw[(h nm).2 h'] at hx;cases hx
end
structure VT (t:List Ab) (F:Tf):Prop where
 flat:F.flat=t
 wf:F.wf=true
 srt:(0:Int)∉F.srt
 len:F.len=1
 size:F.size<=20000
 dep:F.dep<=257
 cns:E9 (NX F)
theorem VT.one {t:List Ab} {F:Tf} (h:VT t F):∃ n k,F=cons n k nil:=by
 have:=h.len
 cases F with
 |nil=>simp[Tf.len] at this
 |cons n k r=>
  cases r with
  |nil=>exact ⟨n,k,rfl⟩
  |cons a b c=>simp only[Tf.len] at this;omega
end Go.AM.Num
end
section
namespace Go.AM.Num
inductive SV where
 |b (x:Bool)
 |z (n:Int)
 |q (r:Rat)
 |a (d:Int) (P:KV)
def BD:SV->Int
 |.b _=>1
 |.z _=>2
 |.q _=>3
 |.a _ _=>4
def DH:SV->Prop
 |.a d P=>Canon d P
 |_=>True
def Dl:SV->Bool
 |.b x=>x
 |_=>false
def BQ:SV->Rat
 |.z n=>(n:Rat)
 |.q r=>r
 |_=>0
def intV (v:SV):Int:=(BQ v).num
def CB (s:Int) (r:Rat):SV:=if s=2 then .z r.num else .q r
def I7:SV->Int->Int
 |.a d P,i=>FY d P i
 |_,_=>0
def M':SV->Int->Int->SV
 |.a d P,i,n=>.a d (D8 d P i n)
 |v,_,_=>v
def Qp (vs:List SV):Rat:=vs.foldl (fun s v=>s+BQ v) 0
noncomputable def Cd (n:Ab):Rat:=(rd (BI n)).getD 0
open Classical in
noncomputable def DX (n:Ab) (vs:List SV):SV:=
 if Aj n=1\/Aj n=7 then .b (vs.all Dl)
 else if Aj n=2\/Aj n=8 then .b (vs.any Dl)
 else if Aj n=6 then .b (!Dl (vs.getD 0 (.b false)))
 else if Aj n=9 then .b (!Dl (vs.getD 0 (.b false))||Dl (vs.getD 1 (.b false)))
 else if Aj n=10 then (if Dl (vs.getD 0 (.b false))=true then vs.getD 1 (.b false) else vs.getD 2 (.b false))
 else if Aj n=11 then .b (decide (vs.getD 0 (.b false)=vs.getD 1 (.b false)))
 else if Aj n=12 then .b (decide (BQ (vs.getD 0 (.b false))<=BQ (vs.getD 1 (.b false))))
 else if Aj n=13 then .b (decide (BQ (vs.getD 0 (.b false)) < BQ (vs.getD 1 (.b false))))
 else if Aj n=3 then CB (BE n) (Cd n)
 else if Aj n=14 then CB (BD (vs.getD 0 (.b false))) (Qp vs)
 else if Aj n=15 then CB (BD (vs.getD 0 (.b false))) (BQ (vs.getD 0 (.b false)) * BQ (vs.getD 1 (.b false)))
 else if Aj n=16 then .z (intV (vs.getD 0 (.b false)) / (Cd n).num)
 else if Aj n=17 then .z (intV (vs.getD 0 (.b false)) % (Cd n).num)
 else if Aj n=18 then .z (I7 (vs.getD 0 (.b false)) (intV (vs.getD 1 (.b false))))
 else if Aj n=19 then M' (vs.getD 0 (.b false)) (intV (vs.getD 1 (.b false))) (intV (vs.getD 2 (.b false)))
 else .a (intV (vs.getD 0 (.b false))) []
theorem HK {s:Int} (h:s=2\/s=3) (r:Rat):BD (CB s r)=s:=by
 unfold CB
 split
 ·rename_i e;rw[e];rfl
 ·rcases h with h | h
  ·contradiction
  ·rw[h];rfl
theorem GW (s:Int) (r:Rat):DH (CB s r):=by unfold CB;split<;>trivial
theorem NP {n:Ab} {vs:List SV} {f:Int} (hn:F9 n=true) (h4:Aj n≠4) (h5:Aj n≠5) (hc:Dk (Aj n) vs.length=true) (hs:CM n f (vs.map BD)≠0) (hok:∀ v∈vs,DH v) :
 BD (DX n vs)=CM n f (vs.map BD)/\DH (DX n vs):=by
 obtain ⟨o,s,nm,num,kd⟩:=n
 simp only[Aj] at h4 h5 hc
 have hall:∀ ws:List SV,(if ∀ s∈ws.map BD,s=1 then (1:Int) else 0)≠0->(1:Int)=if ∀ s∈ws.map BD,s=1 then (1:Int) else 0:=fun ws h=>by
  split at h<;>rename_i hh
  ·rw[if_pos hh]
  ·exact absurd rfl h
 unfold DX CM at *
 simp only[Aj,BE] at *
 by_cases e3:o=3
 ·subst e3
  simp at hs ⊢
  refine ⟨HK ?_ _,GW _ _⟩
  simp[F9] at hn
  rcases hn.2 with h | h
  ·exact .inl h.1
  ·exact .inr h.1
 rw[if_neg (show ¬ (o=3\/o=4\/o=5) by omega)] at hs ⊢
 by_cases e1:o=1\/o=7
 ·rw[if_pos e1,if_pos (by omega)]
  rw[if_pos (by omega)] at hs
  exact ⟨hall vs hs,trivial⟩
 rw[if_neg e1]
 by_cases e2:o=2\/o=8
 ·rw[if_pos e2,if_pos (by omega)]
  rw[if_pos (by omega)] at hs
  exact ⟨hall vs hs,trivial⟩
 rw[if_neg e2]
 by_cases e6:o=6
 ·rw[if_pos e6,if_pos (by omega)]
  rw[if_pos (by omega)] at hs
  exact ⟨hall vs hs,trivial⟩
 rw[if_neg e6]
 by_cases e9:o=9
 ·rw[if_pos e9,if_pos (by omega)]
  rw[if_pos (by omega)] at hs
  exact ⟨hall vs hs,trivial⟩
 rw[if_neg e9]
 rw[if_neg (show ¬ (o=1\/o=2\/o=6\/o=7\/o=8\/o=9) by omega)] at hs ⊢
 by_cases e10:o=10
 ·subst e10
  rcases vs with _ | ⟨a,_ | ⟨b,_ | ⟨c,_ | ⟨d,l⟩⟩⟩⟩<;>simp[Dk] at hc
  ·simp at hs hok ⊢
   by_cases q:Dl a=true
   ·rw[if_pos q,if_pos ⟨hs.1,hs.2.1⟩];exact ⟨rfl,hok.2.1⟩
   ·rw[if_neg q,if_pos ⟨hs.1,hs.2.1⟩];exact ⟨hs.2.1.symm,hok.2.2⟩
  ·omega
 rw[if_neg e10] at hs ⊢
 rw[if_neg e10]
 by_cases e11:o=11
 ·subst e11
  simp at hs ⊢
  rw[if_pos hs];exact ⟨rfl,trivial⟩
 rw[if_neg e11] at hs ⊢
 rw[if_neg e11]
 by_cases e12:o=12
 ·subst e12
  simp only[true_or,if_true] at hs ⊢
  split at hs<;>rename_i hh
  ·rw[if_pos hh];exact ⟨rfl,trivial⟩
  ·exact absurd rfl hs
 rw[if_neg e12]
 by_cases e13:o=13
 ·subst e13
  simp only[or_true,if_true] at hs ⊢
  split at hs<;>rename_i hh
  ·rw[if_pos hh];exact ⟨rfl,trivial⟩
  ·exact absurd rfl hs
 rw[if_neg e13,if_neg e3]
 rw[if_neg (show ¬ (o=12\/o=13) by omega)] at hs ⊢
 by_cases e14:o=14
 ·subst e14
  rcases vs with _ | ⟨a,l⟩<;>simp[Dk] at hc
  simp only[if_true,List.map_cons,qZ3] at hs ⊢
  split at hs<;>rename_i hh
  ·rw[if_pos hh];exact ⟨HK hh.1 _,GW _ _⟩
  ·exact absurd rfl hs
 rw[if_neg e14] at hs ⊢
 rw[if_neg e14]
 by_cases e15:o=15
 ·subst e15
  rcases vs with _ | ⟨a,l⟩<;>simp[Dk] at hc
  simp only[if_true,List.map_cons,qZ3] at hs ⊢
  split at hs<;>rename_i hh
  ·rw[if_pos hh];exact ⟨HK hh.2.1 _,GW _ _⟩
  ·exact absurd rfl hs
 rw[if_neg e15] at hs ⊢
 rw[if_neg e15]
 by_cases e16:o=16
 ·rw[if_pos e16,if_pos (.inl e16)]
  rw[if_pos (.inl e16)] at hs
  split at hs<;>rename_i hh
  ·rw[if_pos hh];exact ⟨rfl,trivial⟩
  ·exact absurd rfl hs
 rw[if_neg e16]
 by_cases e17:o=17
 ·rw[if_pos e17,if_pos (.inr e17)]
  rw[if_pos (.inr e17)] at hs
  split at hs<;>rename_i hh
  ·rw[if_pos hh];exact ⟨rfl,trivial⟩
  ·exact absurd rfl hs
 rw[if_neg e17]
 rw[if_neg (show ¬ (o=16\/o=17) by omega)] at hs ⊢
 by_cases e18:o=18
 ·rw[if_pos e18] at hs ⊢
  rw[if_pos e18]
  split at hs<;>rename_i hh
  ·rw[if_pos hh];exact ⟨rfl,trivial⟩
  ·exact absurd rfl hs
 rw[if_neg e18] at hs ⊢
 rw[if_neg e18]
 by_cases e19:o=19
 ·subst e19
  rcases vs with _ | ⟨a,_ | ⟨b,_ | ⟨c,_ | ⟨d,l⟩⟩⟩⟩<;>simp[Dk] at hc
  ·simp at hs hok ⊢
   rw[if_pos hs]
   cases a with
   |a d P=>exact ⟨rfl,RQ hok.1 _ _⟩
   |b x=>simp[BD] at hs
   |z x=>simp[BD] at hs
   |q x=>simp[BD] at hs
  ·omega
 rw[if_neg e19] at hs ⊢
 rw[if_neg e19]
 split at hs<;>rename_i hh
 ·rw[if_pos hh]
  split at hs<;>rename_i h2
  ·rw[if_pos h2];exact ⟨rfl,Ox _⟩
  ·exact absurd rfl hs
 ·exact absurd rfl hs
structure Ht (m:Nat) (r:Rat):Prop where
 num:(dd r.num.natAbs).length<=m
 den:(dd r.den).length<=m
theorem Ht.mono {m k:Nat} {r:Rat} (h:Ht m r) (hk:m<=k):Ht k r:=⟨by have:=h.num;omega,by have:=h.den;omega⟩
theorem Ht.D {m:Nat} {r:Rat} (h:Ht m r):D r<=2 * m:=by have:=h.num;have:=h.den;unfold Num.D;omega
theorem Ov {m:Nat} {r:Rat} (h:D r<=m):Ht m r:=by unfold Num.D at h;exact ⟨by omega,by omega⟩
theorem Lz {n:Int} {d m:Nat} (hd:d≠0) (h1:(dd n.natAbs).length<=m) (h2:(dd d).length<=m):Ht m (mkRat n d):=by
 have e1:(n / (d.gcd n.natAbs:Nat)).natAbs<=n.natAbs:=by
  obtain ⟨k,hk⟩:((d.gcd n.natAbs:Nat):Int) ∣ n:=by
   have:=Nat.gcd_dvd_right d n.natAbs
   exact Int.ofNat_dvd_left.2 this
  have hg:((d.gcd n.natAbs:Nat):Int)≠0:=fun e=>hd (Nat.gcd_eq_zero_iff.1 (by exact_mod_cast e)).1
  have e1:n / (d.gcd n.natAbs:Nat)=k:=by
   conv=>lhs;lhs;rw[hk]
   exact Int.mul_ediv_cancel_left _ hg
  rw[e1]
  conv=>rhs;rw[hk,Int.natAbs_mul]
  exact Nat.le_mul_of_pos_left _ (by omega)
 have e2:=Nat.div_le_self d (d.gcd n.natAbs)
 have:=GK e1
 have:=GK e2
 refine ⟨?_,?_⟩
 ·rw[Rat.num_mkRat,if_neg hd];omega
 ·rw[Rat.den_mkRat,if_neg hd];omega
theorem Tg {m k:Nat} {p q:Rat} (hp:Ht m p) (hq:Ht k q):Ht (m+k+1) (p+q):=by
 rw[Rat.add_def']
 have h1:=GK (T9 (p.num * q.den) (q.num * p.den))
 have h2:=Pl (p.num * q.den).natAbs (q.num * p.den).natAbs
 rw[Int.natAbs_mul,Int.natAbs_mul,Int.natAbs_natCast,Int.natAbs_natCast] at h1 h2
 have h3:=E3 p.num.natAbs q.den
 have h4:=E3 q.num.natAbs p.den
 have h5:=E3 p.den q.den
 have:=hp.num;have:=hp.den;have:=hq.num;have:=hq.den
 exact Lz (Nat.mul_ne_zero p.den_nz q.den_nz) (by omega) (by omega)
theorem Re {m k:Nat} {p q:Rat} (hp:Ht m p) (hq:Ht k q):Ht (m+k) (p * q):=by
 rw[Rat.mul_def']
 have h1:=E3 p.num.natAbs q.num.natAbs
 have h5:=E3 p.den q.den
 have:=hp.num;have:=hp.den;have:=hq.num;have:=hq.den
 exact Lz (Nat.mul_ne_zero p.den_nz q.den_nz) (by rw[Int.natAbs_mul];omega) (by omega)
theorem Cw {m:Nat} {n:Int} (h:(dd n.natAbs).length<=m):Ht m (n:Rat):=by
 refine ⟨by rw[Rat.num_intCast];exact h,?_⟩
 rw[Rat.den_intCast,Ik]
 have:=G9 n.natAbs
 simp;omega
theorem Hl {m:Nat} {r:Rat} (h:Ht m r):Ht m ((r.num:Int):Rat):=Cw h.num
theorem K1 {m:Nat} {x y:Int} (h:Ht m (x:Rat)) (hy:y.natAbs<=x.natAbs):Ht m (y:Rat):=by
 have:=h.num
 rw[Rat.num_intCast] at this
 exact Cw (by have:=GK hy;omega)
def BW (B:Nat):SV->Prop
 |.b _=>True
 |.z n=>Ht B (n:Rat)
 |.q r=>Ht B r
 |.a d P=>Ht B (d:Rat)/\(∀ p∈P,Ht B (p.1:Rat)/\Ht B (p.2:Rat))/\P.length<=B
theorem BW.mono {B C:Nat} {v:SV} (h:BW B v) (hc:B<=C):BW C v:=by
 cases v with
 |b _=>trivial
 |z n=>exact Ht.mono h hc
 |q r=>exact Ht.mono h hc
 |a d P=>
  obtain ⟨h1,h2,h3⟩:=h
  exact ⟨h1.mono hc,fun p hp=>⟨(h2 p hp).1.mono hc,(h2 p hp).2.mono hc⟩,by omega⟩
theorem Ff {B:Nat} {v:SV} (h:BW B v) (hB:1<=B):Ht B (BQ v):=by
 have h0:Ht B ((0:Int):Rat):=Cw (by simp[CG];exact hB)
 cases v with
 |b _=>exact h0
 |z n=>exact h
 |q r=>exact h
 |a d P=>exact h0
theorem RY {B:Nat} {v:SV} (h:BW B v) (hB:1<=B):Ht B ((intV v:Int):Rat):=Hl (Ff h hB)
def Hs:List SV->Nat->Prop
 |[],_=>True
 |v::vs,B=>∃ b c,1<=b/\BW b v/\Hs vs c/\b+1+c<=B
theorem Hs.mono {vs:List SV} {B C:Nat} (h:Hs vs B) (hc:B<=C):Hs vs C:=by
 cases vs with
 |nil=>trivial
 |cons v vs=>obtain ⟨b,c,h1,h2,h3,h4⟩:=h;exact ⟨b,c,h1,h2,h3,by omega⟩
theorem Hs.mem:∀ {vs:List SV} {B:Nat},Hs vs B->∀ v∈vs,BW B v:=by
 intro vs
 induction vs with
 |nil=>intro B _ v hv;cases hv
 |cons w vs ih=>
  intro B h v hv
  obtain ⟨b,c,h1,h2,h3,h4⟩:=h
  rcases List.mem_cons.1 hv with rfl | hv
  ·exact h2.mono (by omega)
  ·exact (ih h3 v hv).mono (by omega)
theorem Hs.sum:∀ {vs:List SV} {a B:Nat} {r:Rat},Ht a r->Hs vs B->Ht (a+B) (vs.foldl (fun s v=>s+BQ v) r):=by
 intro vs
 induction vs with
 |nil=>intro a B r h _;exact h.mono (by omega)
 |cons w vs ih=>
  intro a B r h hs
  obtain ⟨b,c,h1,h2,h3,h4⟩:=hs
  exact (ih (Tg h (Ff h2 h1)) h3).mono (by omega)
theorem Hs.get {vs:List SV} {B:Nat} (h:Hs vs B) (i:Nat):BW B (vs.getD i (.b false)):=by
 rw[qZ4]
 cases hi:vs[i]? with
 |none=>trivial
 |some v=>exact h.mem v (qY14 hi)
theorem UA (i:Int):∀ P:KV,(lo i P).length+(hi i P).length<=P.length:=by
 intro P
 induction P with
 |nil=>simp[lo,hi]
 |cons p P ih=>
  simp only[lo,hi] at ih
  simp only[lo,hi,List.filter_cons]
  by_cases h1:p.1 < i
  ·rw[if_pos (qZ10 h1),if_neg (by simp;omega)];simp;omega
  ·rw[if_neg (by simp;omega)]
   split<;>simp<;>omega
theorem IT {B:Nat} {r:Rat} (s:Int) (h:Ht B r):BW B (CB s r):=by unfold CB;split;exact Hl h;exact h
theorem O' {n:Ab} {vs:List SV} {B:Nat} (hB:Hs vs B) (hn:Ht 75 (Cd n)):BW (B+79) (DX n vs):=by
 have g:=hB.get
 have gi:∀ i,Ht (B+1) ((intV (vs.getD i (.b false)):Int):Rat):=fun i=>RY ((g i).mono (by omega)) (by omega)
 have gv:∀ i,Ht (B+1) (BQ (vs.getD i (.b false))):=fun i=>Ff ((g i).mono (by omega)) (by omega)
 unfold DX
 by_cases c0:Aj n=1\/Aj n=7
 ·rw[if_pos c0];trivial
 rw[if_neg c0]
 by_cases c1:Aj n=2\/Aj n=8
 ·rw[if_pos c1];trivial
 rw[if_neg c1]
 by_cases c2:Aj n=6
 ·rw[if_pos c2];trivial
 rw[if_neg c2]
 by_cases c3:Aj n=9
 ·rw[if_pos c3];trivial
 rw[if_neg c3]
 by_cases c4:Aj n=10
 ·rw[if_pos c4]
  split<;>exact (g _).mono (by omega)
 rw[if_neg c4]
 by_cases c5:Aj n=11
 ·rw[if_pos c5];trivial
 rw[if_neg c5]
 by_cases c6:Aj n=12
 ·rw[if_pos c6];trivial
 rw[if_neg c6]
 by_cases c7:Aj n=13
 ·rw[if_pos c7];trivial
 rw[if_neg c7]
 by_cases c8:Aj n=3
 ·rw[if_pos c8];exact IT _ (hn.mono (by omega))
 rw[if_neg c8]
 by_cases c9:Aj n=14
 ·rw[if_pos c9]
  have h0:Ht 1 (0:Rat):=Cw (n:=0) (by simp[CG])
  exact IT _ ((hB.sum h0).mono (by omega))
 rw[if_neg c9]
 by_cases c10:Aj n=15
 ·rw[if_pos c10]
  refine IT _ ?_
  rcases vs with _ | ⟨a,_ | ⟨b,l⟩⟩
  ·simp only[List.getD_nil,BQ]
   rw[Rat.zero_mul]
   exact Cw (n:=0) (by simp[CG])
  ·simp only[qZ2,List.getD_nil,BQ]
   rw[Rat.mul_zero]
   exact Cw (n:=0) (by simp[CG])
  ·obtain ⟨x,c,h1,h2,⟨y,c2,h5,h6,h7,h8⟩,h4⟩:=hB
   simp only[qZ2,qZ3]
   exact (Re (Ff h2 h1) (Ff h6 h5)).mono (by omega)
 rw[if_neg c10]
 by_cases c11:Aj n=16
 ·rw[if_pos c11]
  have:(intV (vs.getD 0 (.b false)) / (Cd n).num).natAbs<=(intV (vs.getD 0 (.b false))).natAbs:=by
   have h:=Int.natAbs_ediv_le_natAbs (intV (vs.getD 0 (.b false))) (Cd n).num
   exact h
  exact (K1 (gi 0) this).mono (by omega)
 rw[if_neg c11]
 by_cases c12:Aj n=17
 ·rw[if_pos c12]
  by_cases hz:(Cd n).num=0
  ·rw[hz,Int.emod_zero];exact (gi 0).mono (by omega)
  ·have:(intV (vs.getD 0 (.b false)) % (Cd n).num).natAbs<=(Cd n).num.natAbs:=by
    have h1:=Int.emod_nonneg (intV (vs.getD 0 (.b false))) hz
    have h2:=Int.emod_lt (intV (vs.getD 0 (.b false))) hz
    omega
   exact (K1 (Hl hn) this).mono (by omega)
 rw[if_neg c12]
 by_cases c13:Aj n=18
 ·rw[if_pos c13]
  have ga:=g 0
  generalize vs.getD 0 (.b false)=v at ga
  cases v with
  |a d P=>
   obtain ⟨h1,h2,h3⟩:=ga
   have:FY d P (intV (vs.getD 1 (.b false)))=d\/∃ p∈P,FY d P (intV (vs.getD 1 (.b false)))=p.2:=by
    unfold FY
    cases hf:P.find? fun p=>decide (p.1=intV (vs.getD 1 (.b false))) with
    |none=>exact .inl rfl
    |some p=>exact .inr ⟨p,List.mem_of_find?_eq_some hf,rfl⟩
   simp only[I7]
   rcases this with e | ⟨p,hp,e⟩
   ·rw[e];exact h1.mono (by omega)
   ·rw[e];exact (h2 p hp).2.mono (by omega)
  |b _=>exact Cw (n:=0) (by simp[CG])
  |z _=>exact Cw (n:=0) (by simp[CG])
  |q _=>exact Cw (n:=0) (by simp[CG])
 rw[if_neg c13]
 by_cases c14:Aj n=19
 ·rw[if_pos c14]
  have ga:=g 0
  generalize vs.getD 0 (.b false)=v at ga
  cases v with
  |a d P=>
   obtain ⟨h1,h2,h3⟩:=ga
   simp only[M']
   refine ⟨h1.mono (by omega),fun p hp=>?_,?_⟩
   ·unfold D8 at hp
    rcases List.mem_append.1 hp with hp | hp
    ·rcases List.mem_append.1 hp with hp | hp
     ·have:=h2 p (FK.1 hp).1;exact ⟨this.1.mono (by omega),this.2.mono (by omega)⟩
     ·split at hp
      ·cases hp
      ·rw[List.mem_singleton.1 hp];exact ⟨(gi 1).mono (by omega),(gi 2).mono (by omega)⟩
    ·have:=h2 p (Iz.1 hp).1;exact ⟨this.1.mono (by omega),this.2.mono (by omega)⟩
   ·have e:=UA (intV (vs.getD 1 (.b false))) P
    unfold D8
    simp only[qZ6]
    split<;>simp only[List.length_nil,qY11]<;>omega
  |b _=>trivial
  |z _=>exact Ht.mono ga (by omega)
  |q _=>exact Ht.mono ga (by omega)
 rw[if_neg c14]
 ·exact ⟨(gi 0).mono (by omega),fun p hp=>absurd hp qY16,Nat.zero_le _⟩
end Go.AM.Num
end
section
namespace Go.AM.Num
open Tf
noncomputable def Jc (A:qBs->Option SV) (G:Ab->List SV->Int ⊕ SV) (n:Ab) (vs:List SV):Int ⊕ SV:=
 if Aj n=4 then (match A (Cv n) with | none=>.inl 7 | some v=>if BD v=BE n then .inr v else .inl 3)
 else if Aj n=5 then G n vs
 else .inr (DX n vs)
noncomputable def Fl (A:qBs->Option SV) (G:Ab->List SV->Int ⊕ SV):Tf->Int ⊕ List SV
 |.nil=>.inr []
 |.cons n k r=>match Fl A G k with
  |.inl e=>.inl e
  |.inr vs=>match Jc A G n vs with
   |.inl e=>.inl e
   |.inr v=>match Fl A G r with
    |.inl e=>.inl e
    |.inr ws=>.inr (v::ws)
structure EA (A:qBs->Option SV) (G:Ab->List SV->Int ⊕ SV):Prop where
 ok:∀ nm v,A nm=some v->DH v/\BW 75 v
 fn:∀ n vs v,G n vs=.inr v->DH v/\BW 75 v/\BD v=BE n
 er:∀ n vs e,G n vs=.inl e->e≠0
def HF (f:Tf):Prop:=∀ n∈f.flat,(BI n).length<=73
theorem Q9 {n:Ab} (h:(BI n).length<=73):Ht 75 (Cd n):=by
 unfold Cd
 cases hr:rd (BI n) with
 |none=>exact Cw (n:=0) (by simp[CG])
 |some q=>
  have e:=Pu hr
  have:=SX q
  rw[<-e] at this
  exact Ov (r:=q) (by omega)
theorem OB {n:Ab}:E' n=true ↔ F9 n=true/\Dk (Aj n) (D6 n)=true:=by unfold E';rw[qY0]
theorem Ai {A:qBs->Option SV} {G:Ab->List SV->Int ⊕ SV} (hE:EA A G):∀ (F:Tf),F.wf=true->(0:Int)∉F.srt->HF F->∀ vs,Fl A G F=.inr vs->vs.map BD=F.srt/\(∀ v∈vs,DH v)/\Hs vs (80 * F.size):=by
 intro F
 induction F with
 |nil=>
  intro _ _ _ vs h
  simp only[Fl,Sum.inr.injEq] at h
  subst h
  exact ⟨rfl,fun v hv=>(by cases hv),trivial⟩
 |cons n k r ik ir=>
  intro hw hs hn vs h
  obtain ⟨w1,w2,w3,w4⟩:=Ol.1 hw
  obtain ⟨s1,s2,s3⟩:=T7.1 hs
  have hnk:HF k:=fun m hm=>hn m (by simp only[flat,qY12,qZ7];exact .inr (.inl hm))
  have hnr:HF r:=fun m hm=>hn m (by simp only[flat,qY12,qZ7];exact .inr (.inr hm))
  have hnn:=Q9 (hn n (by simp[flat]))
  simp only[Fl] at h
  split at h
  ·cases h
  rename_i ks hk
  obtain ⟨k1,k2,k3⟩:=ik w3 s1 hnk _ hk
  split at h
  ·cases h
  rename_i v hv
  split at h
  ·cases h
  rename_i ws hr
  obtain ⟨r1,r2,r3⟩:=ir w4 s3 hnr _ hr
  simp only[Sum.inr.injEq] at h
  subst h
  have key:BD v=CM n (op1 k) k.srt/\DH v/\BW (80 * k.size+79) v:=by
   unfold Jc at hv
   split at hv
   ·rename_i h4
    split at hv
    ·cases hv
    rename_i u hu
    split at hv
    ·rename_i e
     simp only[Sum.inr.injEq] at hv
     subst hv
     obtain ⟨a1,a2⟩:=hE.ok _ _ hu
     exact ⟨by rw[e];unfold CM;rw[if_pos (by omega)],a1,a2.mono (by omega)⟩
    ·cases hv
   ·rename_i h4
    split at hv
    ·rename_i h5
     obtain ⟨a1,a2,a3⟩:=hE.fn _ _ _ hv
     exact ⟨by rw[a3];unfold CM;rw[if_pos (by omega)],a1,a2.mono (by omega)⟩
    ·rename_i h5
     simp only[Sum.inr.injEq] at hv
     subst hv
     obtain ⟨f1,f2⟩:=OB.1 w1
     have hl:(ks.length:Int)=D6 n:=by
      have:=congrArg List.length k1
      rw[List.length_map,TO] at this
      omega
     obtain ⟨a1,a2⟩:=NP (f:=op1 k) f1 h4 h5 (by rw[hl];exact f2) (by rw[k1];exact s2) k2
     rw[k1] at a1
     exact ⟨a1,a2,O' k3 hnn⟩
  obtain ⟨q1,q2,q3⟩:=key
  refine ⟨?_,?_,?_⟩
  ·simp only[List.map_cons,srt,r1,q1]
   rw[if_neg s1]
  ·intro u hu
   rcases List.mem_cons.1 hu with rfl | hu
   ·exact q2
   ·exact r2 u hu
  ·exact ⟨80 * k.size+79,80 * r.size,by omega,q3,r3,by simp only[size];omega⟩
end Go.AM.Num
end
section
namespace Go.AM.Num
open Tf
theorem i0:(0:Int).toNat=0:=rfl
theorem i1:(1:Int).toNat=1:=rfl
theorem i2:(2:Int).toNat=2:=rfl
end Go.AM.Num
end
section
namespace Go.AM.Num
open Tf
structure SmallV (v:E0):Prop where
 sh:Short 73 v
 few:v.2.2.2.1.length<=75
def L5 (t:List Ab):Prop:=∀ n∈t,(BI n).length<=73
end Go.AM.Num
end
section
namespace Go.AM.Num
open Tf
structure VSok (VS:List Vr):Prop where
 name:∀ v∈VS,Eg v.1=true/\1<=v.2/\v.2<=4
 once:∀ v∈VS,∀ w∈VS,v.1=w.1->v=w
structure GenF (VS:List Vr) (ss:List Int) (N d:Nat) (l:List Ab) (K:Tf):Prop where
 flat:K.flat=l
 wf:K.wf=true
 srt:K.srt=ss
 nz:(0:Int)∉ss
 sh:L5 l
 size:K.size<=N
 dep:K.dep<=d
 vars:∀ x∈l,Aj x=4->(Cv x,BE x)∈VS
 noap:∀ x∈l,Aj x≠5
def BG (VS:List Vr) (ss:List Int) (N d:Nat) (l:List Ab):Prop:=∃ K,GenF VS ss N d l K
theorem BG.nil (VS:List Vr):BG VS [] 0 0 []:=⟨Tf.nil,rfl,rfl,rfl,by simp,fun _ h=>absurd h qY16,Nat.le_refl _,Nat.le_refl _,fun _ h=>absurd h qY16,fun _ h=>absurd h qY16⟩
theorem BG.mono {VS:List Vr} {ss:List Int} {N M d e:Nat} {l:List Ab} (h:BG VS ss N d l) (hN:N<=M) (hd:d<=e):BG VS ss M e l:=by
 obtain ⟨K,hK⟩:=h
 exact ⟨K,hK.flat,hK.wf,hK.srt,hK.nz,hK.sh,by have:=hK.size;omega,by have:=hK.dep;omega,hK.vars,hK.noap⟩
theorem BG.app {VS:List Vr} {ss uu:List Int} {N M d:Nat} {l m:List Ab} (h:BG VS ss N d l) (g:BG VS uu M d m):BG VS (ss++uu) (N+M) d (l++m):=by
 obtain ⟨K,hK⟩:=h
 obtain ⟨L,hL⟩:=g
 refine ⟨K.app L,by rw[UB,hK.flat,hL.flat],by rw[SE,hK.wf,hL.wf];rfl,by rw[Og,hK.srt,hL.srt],?_,?_,?_,?_,?_,?_⟩
 ·rw[qZ7];exact fun h=>h.elim hK.nz hL.nz
 ·exact fun x hx=>(List.mem_append.1 hx).elim (hK.sh x) (hL.sh x)
 ·rw[OC];have:=hK.size;have:=hL.size;omega
 ·rw[PH];have:=hK.dep;have:=hL.dep;omega
 ·exact fun x hx=>(List.mem_append.1 hx).elim (hK.vars x) (hL.vars x)
 ·exact fun x hx=>(List.mem_append.1 hx).elim (hK.noap x) (hL.noap x)
end Go.AM.Num
end
section
namespace Go.AM.Num
open Tf
def alphaB (c:UInt8):Bool:=(decide (97<=c)&&decide (c<=122))||(decide (65<=c)&&decide (c<=90))
theorem Qi (c:UInt8):FU (c.toNat:Int)=some ((alphaB c,()),()):=by
 refine B_ (P:=fun c=>FU (c.toNat:Int)=some ((alphaB c,()),())) ?_ c
 decide +kernel
theorem Lx (c:UInt8):letterB c=(alphaB c||c==95||c==36||c==33):=rfl
theorem QP (c:UInt8):decide ((c.toNat:Int) < 48)=!decide (48<=c):=by
 refine B_ (P:=fun c=>decide ((c.toNat:Int) < 48)=!decide (48<=c)) ?_ c
 decide +kernel
theorem Ou (c:UInt8):decide ((c.toNat:Int) > 57)=!decide (c<=57):=by
 refine B_ (P:=fun c=>decide ((c.toNat:Int) > 57)=!decide (c<=57)) ?_ c
 decide +kernel
theorem PS (c:UInt8):((c.toNat:Int)==95)=(c==95):=by
 refine B_ (P:=fun c=>((c.toNat:Int)==95)=(c==95)) ?_ c
 decide +kernel
theorem UH (c:UInt8):((c.toNat:Int)==36)=(c==36):=by
 refine B_ (P:=fun c=>((c.toNat:Int)==36)=(c==36)) ?_ c
 decide +kernel
theorem S9 (c:UInt8):((c.toNat:Int)==33)=(c==33):=by
 refine B_ (P:=fun c=>((c.toNat:Int)==33)=(c==33)) ?_ c
 decide +kernel
theorem Rq {l:List qBs} {s:qBs} (hl:l.length<=1000000000):Gd l s=some ((decide (s∈l),()),()):=by
 have key:=IM (step:=EZ) (fun k=>(l,s,false,(k:Int),())) (fun k=>(l,s,true,(k:Int),())) l.length (E:=.exit 0) (B:=.ret) (by simp) (by simp) (fun k=>!(l.getD k []==s)) (fun k hk=>by
  unfold EZ
  simp only
  rw[Dc,E6,Ch,Ch,qZ0,DR (x:=(k:Int)+1) (by omega)]
  cases (l.getD k []==s)<;>rfl) (by
  unfold EZ
  simp only
  rw[Dt])
 rw[Hd l [] (fun x=>!(x==s))] at key
 rw[show ((0:Nat):Int)=0 from rfl] at key
 unfold Gd
 rcases key with ⟨k1,k2⟩ | ⟨k1,j,k2⟩
 ·rw[k2]
  simp only[AF,Gh,Dj]
  rw[qZ9]
  intro h
  have:=List.all_eq_true.1 k1 s h
  simp at this
 ·rw[k2]
  simp only[AF,HB,HR,Dj,CX]
  rw[qZ10]
  by_cases h:s∈l
  ·exact h
  ·rw[List.all_eq_true.2 (fun x hx=>by simp;exact fun e=>h (e ▸ hx))] at k1;cases k1
theorem OL:GX=some ((DT,()),()):=rfl
theorem OA {s:qBs} (h:s≠[]):(List.range s.length).all (fun k=>if k=0 then letterB (s.getD 0 0) else CS (s.getD k 0))=(letterB (s.getD 0 0)&&s.all CS):=by
 have hpos:0 < s.length:=List.length_pos_iff.2 h
 rw[<-Hd s 0 CS,Bool.eq_iff_iff,qY0,List.all_eq_true,List.all_eq_true]
 constructor
 ·intro hh
  have h0:=hh 0 (List.mem_range.2 hpos)
  simp only[if_true] at h0
  refine ⟨h0,fun k hk=>?_⟩
  have hk':=hh k hk
  by_cases e:k=0
  ·subst e
   unfold CS
   rw[h0];rfl
  ·rw[if_neg e] at hk';exact hk'
 ·rintro ⟨h0,hh⟩ k hk
  split
  ·exact h0
  ·exact hh k hk
theorem UG (s:qBs):CF s=some ((Eg s,()),()):=by
 unfold CF
 by_cases h0:s=[]
 ·subst h0;decide
 ·rw[show (s==([]:qBs))=false by simpa using h0,CX]
  have hpos:0 < s.length:=List.length_pos_iff.2 h0
  unfold Eg
  by_cases h1:s.length<=40
  ·rw[Dt,qZ10 h1,OL,AF]
   simp only
   rw[Rq (by decide),AF,Bool.true_and]
   cases hw:decide (s∈DT) with
   |true=>cases letterB (s.getD 0 0)<;>rfl
   |false=>
    simp only[CX]
    have key:=IM (step:=E7) (fun k=>(s,false,(k:Int),())) (fun k=>(s,false,(k:Int),())) s.length (E:=.exit 0) (B:=.ret) (by simp) (by simp) (fun k=>if k=0 then letterB (s.getD 0 0) else CS (s.getD k 0)) (fun k hk=>by
     unfold E7
     simp only
     rw[Dc,E6,Ch,Ch,qZ0,Qi,AF,QP,Ou,Ll,I0,PS,UH,S9,DR (x:=(k:Int)+1) (by omega)]
     by_cases hk0:k=0
     ·subst hk0
      rw[if_pos rfl,Lx]
      generalize alphaB (s.getD 0 0)=a
      generalize (s.getD 0 0==95)=b
      generalize (s.getD 0 0==36)=c
      generalize (s.getD 0 0==33)=d
      cases a<;>cases b<;>cases c<;>cases d<;>rfl
     ·rw[if_neg hk0]
      unfold CS
      rw[Lx,Pd (show (k:Int)≠0 by omega)]
      generalize alphaB (s.getD k 0)=a
      generalize (s.getD k 0==95)=b
      generalize (s.getD k 0==36)=c
      generalize (s.getD k 0==33)=d
      generalize decide (48<=s.getD k 0)=e
      generalize decide (s.getD k 0<=57)=f
      generalize (s.getD k 0==46)=g
      generalize (s.getD k 0==64)=h
      cases a<;>cases b<;>cases c<;>cases d<;>cases e<;>cases f<;>cases g<;>cases h<;>rfl) (by
     unfold E7
     simp only
     rw[Dt])
    rw[OA h0] at key
    rcases key with ⟨k1,k2⟩ | ⟨k1,j,k2⟩
    ·rw[show ((0:Nat):Int)=0 from rfl] at k2
     rw[k2]
     simp only[AF,Gh,Dj,Bool.not_false,Bool.and_true]
     rw[k1]
    ·rw[show ((0:Nat):Int)=0 from rfl] at k2
     rw[k2]
     simp only[AF,HB,HR,Dj,CX,Bool.not_false,Bool.and_true]
     rw[k1]
  ·rw[Dc,qZ9 h1]
   rfl
end Go.AM.Num
end
section
namespace Go.AM.Num
open Tf
abbrev Fv:=qBs×List Int×Int
structure UI (us:List Us) (vars:List Vr) (funcs:List Fv):Prop where
 w:∀ a∈us,(a.2.1=false/\a.2.2.1=[])\/a.2.1=true
 c:∀ a∈us,∀ b∈us,a.1=b.1->a.2.1=b.2.1->a=b
 v1:∀ x∈vars,(x.1,false,[],x.2)∈us
 v2:∀ nm s,(nm,false,[],s)∈us->(nm,s)∈vars
 f1:∀ x∈funcs,(x.1,true,x.2.1,x.2.2)∈us
 f2:∀ nm a s,(nm,true,a,s)∈us->(nm,a,s)∈funcs
theorem UI.nil:UI [] [] []:=⟨fun a h=>absurd h qY16,fun a h=>absurd h qY16,fun a h=>absurd h qY16,fun _ _ h=>absurd h qY16,fun a h=>absurd h qY16,fun _ _ _ h=>absurd h qY16⟩
end Go.AM.Num
end
section
namespace Go.AM.Num
theorem Uw:FB=some ((true,()),()):=by kernel_rfl
end Go.AM.Num
end
section
namespace Go.AM.Num
open Tf
structure WithOk (t:List Ab) (F:Tf):Prop where
 vt:VT t F
 len:t.length<=400
 sh:L5 t
 dep:F.dep<=20
end Go.AM.Num
end
section
namespace Go.AM.Num
theorem OM {s:qBs} {n r:Int} (hr:Ed n 6=some ((r,()),())) (h0:0<=r/\r < 6):∀ (m i:Nat) (w:qBs),(i:Int)+m=37+r->w.length<=100+i->
 ∃ w' i',An Fi (s,n,w,(i:Int),())=some (.exit 0,(s,n,w',i',())):=by
 intro m
 induction m with
 |zero=>
  intro i w hi _
  refine ⟨w,_,Hp (y:=(s,n,w,(i:Int),())) ?_ (by simp)⟩
  unfold Fi
  simp only
  rw[hr]
  simp only[AF]
  rw[DR,Dt]
 |succ m ih=>
  intro i w hi hw
  rw[MQ (y:=(s,n,w++[49],((i+1:Nat):Int),())) (by
   unfold Fi
   simp only
   rw[hr]
   simp only[AF]
   rw[DR,Dc,Ch (by simp[AR];omega),DR]
   rfl)]
  exact ih (i+1) _ (by omega) (by simp;omega)
theorem RU (s:qBs) (n:Int):Gn s n=some ((true,()),()):=by
 unfold Gn
 obtain ⟨r,hr,h0,h1⟩:=KQ n (n:=6) (by omega)
 obtain ⟨w,i,hl⟩:=OM (s:=s) hr ⟨h0,h1⟩ (37+r).toNat 0 [120] (by omega) (by simp)
 rw[show ((0:Nat):Int)=0 from rfl] at hl
 rw[hl]
 simp only[AF,Gh,Dj]
 generalize hW:([([97,110,100]:qBs),([105,116,101]:qBs),([73,110,116]:qBs),([100,105,118]:qBs),([99,111,110,115,116]:qBs),([120]:qBs),([95]:qBs),([36,97]:qBs),([33]:qBs),([120,46,121,64,122]:qBs),([49,120]:qBs),([]:qBs),([97,45,98]:qBs),([64]:qBs),([100,105,115,116,105,110,99,116,49]:qBs)]:List qBs)=W
 have hWl:W.length=15:=by rw[<-hW];rfl
 obtain ⟨q,hq,q0,q1⟩:=KQ n (n:=(W.length:Int)) (by omega)
 rw[hq]
 simp only[AF,Uw,UZ,UG,beq_self_eq_true,Dj]
 rw[E6,Ch,Ch]
 by_cases h:s.length > 100
 ·rw[Dc]
 ·rw[Dt,Dc]
end Go.AM.Num
end
section
namespace Go.AM.Num
open Tf
theorem BG.len {VS:List Vr} {ss:List Int} {N d:Nat} {l:List Ab} (h:BG VS ss N d l):l.length<=N:=by
 obtain ⟨K,hK⟩:=h
 rw[<-hK.flat,RP];exact hK.size
theorem BG.sub {VS:List Vr} {ss:List Int} {N d:Nat} {l:List Ab} (h:BG [] ss N d l):BG VS ss N d l:=by
 obtain ⟨K,hK⟩:=h
 exact ⟨K,hK.flat,hK.wf,hK.srt,hK.nz,hK.sh,hK.size,hK.dep,fun x hx h4=>absurd (hK.vars x hx h4) qY16,hK.noap⟩
def Gk (VS:List Vr) (c:List Int×Int) (s:Int) (N d:Nat) (r:Option (((List Ab)×Unit)×(Af×Unit))):Prop:=∃ t c',r=some ((t,()),(c',()))/\CI c'/\BG VS [s] N d t
end Go.AM.Num
end
section
namespace Go.AM.Num
open Tf
abbrev F_:=Af->Int->Int->List Vr->Option (((List Ab)×Unit)×(Af×Unit))
abbrev LY:=Af->Int->List Vr->Option (((List Ab)×Unit)×(Af×Unit))
def TOk (VS:List Vr) (T:F_) (d N D:Nat):Prop:=∀ c s,CI c->1<=s/\s<=4->Gk VS c s N D (T c s (d:Int) VS)
theorem Gk.mono {VS:List Vr} {c:List Int×Int} {s:Int} {N d M e:Nat} {r:Option (((List Ab)×Unit)×(Af×Unit))} (h:Gk VS c s N d r) (hN:N<=M) (hd:d<=e):Gk VS c s M e r:=by
 obtain ⟨t,c',h1,h2,h3⟩:=h
 exact ⟨t,c',h1,h2,h3.mono hN hd⟩
section
variable {VS:List Vr} (T:F_) (F:LY) (I:F_) (Ar:F_) (At:LY)
theorem Bi (a:List Ab):[a].flatten=a:=by simp
theorem Bp (a b:List Ab):[a,b].flatten=a++b:=by simp
end
end Go.AM.Num
end
section
namespace Go.AM.Num
open Tf
noncomputable def Mm (s:Int) (q:Rat):qBs:=
 if s=2 then BN q else if q.den=1 then BN q++[46,48] else [40,47,32]++BN ((q.num:Int):Rat)++[46,48,32]++dd q.den++[46,48,41]
noncomputable def R2 (s:Int) (q:Rat):qBs:=if q.num < 0 then [40,45,32]++Mm s (-q)++[41] else Mm s q
def KO (o:Int):qBs:=([[],[116,114,117,101],[102,97,108,115,101],[],[],[],[110,111,116],[97,110,100],[111,114],[61,62],[105,116,101],[61],[60,61],[60],[43],[42],[100,105,118],[109,111,100],[115,101,108,101,99,116],[115,116,111,114,101],[99,111,110,115,116]]:List qBs).getD o.toNat []
def S0 (n:Ab):qBs:=if Aj n=5 then Cv n else KO (Aj n)
noncomputable def Ti (n:Ab) (ks:qBs):qBs:=
 if Aj n=1\/Aj n=2 then KO (Aj n) else if Aj n=3 then un (R2 (BE n)) (BI n) else if Aj n=4 then Cv n
 else [40]++S0 n++ks++(if BI n=[] then [] else 32::BI n)++[41]
noncomputable def sep:Tf->qBs
 |nil=>[]
 |cons n k r=>32::Ti n (sep k)++sep r
end Go.AM.Num
end
section
namespace Go.AM.Num
def cI (a b:Int):Int:=if a < b then -1 else if a > b then 1 else 0
def cS (a b:qBs):Int:=if Es a b then -1 else if !(Es a b||a==b) then 1 else 0
def f5 (c:Int×Int×Int×Int×Int):Int:=if c.1≠0 then c.1 else if c.2.1≠0 then c.2.1 else if c.2.2.1≠0 then c.2.2.1 else if c.2.2.2.1≠0 then c.2.2.2.1 else c.2.2.2.2
def c5 (x y:Ab):Int×Int×Int×Int×Int:=(cI x.1 y.1,cI x.2.1 y.2.1,cS x.2.2.1 y.2.2.1,cS x.2.2.2.1 y.2.2.2.1,cI x.2.2.2.2 y.2.2.2.2)
end Go.AM.Num
end
section
namespace Go.AM.Num
open Tf
instance (priority:=low) decVal:DecidableEq E0:=fun _ _=>inferInstance
end Go.AM.Num
end
section
namespace Go.AM.Num
abbrev RL:=List (List E0)
structure SmT (A:RL) (R:List E0) (N:Nat):Prop where
 a:∀ l∈A,(∀ v∈l,SmallV v)/\l.length<=1000
 r:∀ v∈R,SmallV v
 la:A.length<=N
 lr:R.length<=N
end Go.AM.Num
end
section
namespace Go.AM.Num
open Go.Proofs Go.Proofs.YtppjkoefhkcjfaaGreatDoor
theorem Hn : Tryz.prog.globalNamed "internal/strconv.uint64pow10" = some 5 := by kernel_rfl
theorem Ut:(Tryz.prog.globals[5]?).map (·.type)=some 292:=by kernel_rfl
theorem Pf {W:World} (h:W.ShapedOpen Tryz.prog):∃ m,W.cell? ⟨0,0,none⟩=some (.int .i64 m):=
 cell_of_shapedOpen_int (t:=3) (zero:=#[.int .i64 0]) h (of_decide_eq_true (by kernel_rfl)) (by kernel_rfl) rfl (by kernel_rfl) (by kernel_rfl) Tryz.underlying3
theorem N7 {W:World} (hL:laidMetH Tryz.prog Rows.termNamesRow.laid W) (hsh:W.ShapedOpen Tryz.prog):GN W:=by
 rw[MakeChecks.laidMetH_plain _ _ _ (by kernel_rfl)] at hL
 obtain ⟨ps,⟨g0,t0,cs0,f0,p0,q0,hg0,ht0,hv0,hd0,⟨g1,t1,cs1,f1,p1,q1,hg1,ht1,hv1,hd1,⟨g2,t2,cs2,f2,p2,q2,hg2,ht2,hv2,hd2,_⟩,_⟩,_⟩,_⟩:=hL
 obtain rfl:=Option.some.inj (Hn.symm.trans hg2)
 obtain rfl:=Option.some.inj (Ut.symm.trans ht2)
 refine ⟨Pf hsh,?_⟩
 have e:(Rows.laid_internal_strconv_uint64pow10:DataW Unit)=Lib.tabData .u64 Lib.pow10Tab:=by kernel_rfl
 rw[e] at hd2
 unfold Lib.TabIs
 rw[hv2,<-Lib.cells_of_tab Tryz.underlying292 Tryz.underlying242 (by kernel_rfl) (by kernel_rfl) hd2]
theorem Uo {w w':World} (h:GN w) (hb:∀ B,B < 6->w'.heap[B]?=w.heap[B]?):GN w':=by
 have hc:∀ B o,B < 6->w'.cell? ⟨B,o,none⟩=w.cell? ⟨B,o,none⟩:=fun B o hB=>by simp[World.cell?,hb B hB]
 refine ⟨?_,?_⟩
 ·rw[hc _ 0 (by decide)];exact h.maxLen
 ·have:=h.pow10
  unfold Lib.TabIs World.var? at this ⊢
  rw[Hn] at this ⊢
  simp only[Option.bind_some] at this ⊢
  rw[hb _ (by decide)]
  exact this
theorem Q7 {w:World} (h:GN w):6<=w.heap.size:=by
 obtain ⟨m,hm⟩:=h.maxLen
 have h1:0 < w.heap.size:=World.block_lt_of_cell? w ⟨0,0,none⟩ hm
 have h2:5 < w.heap.size:=by
  have:=h.pow10
  unfold Lib.TabIs World.var? at this
  rw[Hn] at this
  simp only[Option.bind_some] at this
  cases hh:w.heap[5]? with
  |none=>rw[hh] at this;simp at this
  |some _=>exact (Array.getElem?_eq_some_iff.1 hh).1
 omega
end Go.AM.Num
end
section
namespace Go.AM.Num
open Go.Proofs
noncomputable def VN:Env where
 P:=Tryz.prog
 gb:=6
 G:=GN
 keep:=fun w w' h _ hb=>Uo h hb
 mixed:=by kernel_rfl
theorem f0:Fs Tryz.prog VN l0:=(((((((((((⟨rfl,S2⟩:Fs Tryz.prog VN []).cons (Tc rfl (fun _ h=>h))).cons (T_ rfl (fun _ h=>h))).cons (UE rfl)).cons (Qb rfl)).cons (PT rfl (fun _ h=>h))).cons (Ow rfl (fun _ h=>h))).cons (R6 rfl (fun _ h=>h))).cons (R1 rfl)).cons (TE rfl)).cons (Pq rfl))
end Go.AM.Num
end
section
namespace Go.AM.Num
open Go.Proofs Go.Proofs.YtppjkoefhkcjfaaGreatDoor Go.RowKit Go.ChangeShapes Go.WideShapes Go.ChangeAt
theorem Qa {k:FuncId} {ps:List PK} {g:Ah ps->Option (Ah [.val .bool]×A_ ps)} (hG:Good VN k ⟨ps,[.val .bool],g⟩) (x:Ah ps) (hin:Ax ps x=[]) (hk:cntK ps=0) (o:A_ ps) (hx:g x=some ((true,()),o))
 (W:World) (hW:GN W) (vs:Array Value) (ha:RelL (Ac W) (fun B=>B < W.heap.size) (fun _=>none) (AA ps x 0 0) vs.toList) :
 Calls Tryz.prog k vs W fun e w'=>e=.returned (.bool true)/\Below W.heap.size W w':=by
 refine Calls.mono (hG.spec x _ o hx W (fun B=>B < W.heap.size) (fun _=>none) vs hW (Q7 hW) ?_ ?_) ?_
 ·rw[hin];exact U4 fun _ h=>h
 ·rw[hk];exact ha
 ·rintro e w' ⟨us,I',β',rfl,hf,_,hr⟩
  obtain rfl:us=[.bool true]:=by
   have:CZ ps [.val .bool] (true,())=[.bool true]:=rfl
   rw[this] at hr
   simp only[RelL,RelV] at hr
   obtain ⟨u,us',rfl,rfl,rfl⟩:=hr
   rfl
  refine ⟨rfl,hf.os,hf.tape,hf.output,hf.size,fun B hB=>hf.block B hB ?_⟩
  rw[hin]
  exact DM B
def SL (s:qBs):Prop:=s.length<=9223372036854775807
theorem SK {n:Int} (h:(Lit.int .i64 n).wf=true):FC n:=by
 simp only[Lit.wf,qY0,decide_eq_true_eq] at h
 exact h
theorem Sn {s:ByteArray} (h:s.size<=maxLen):SL s.data.toList:=by unfold SL;unfold maxLen at h;have:=Lib.size_eq s;omega
section
variable {H:Type} {enc:TypeId×Value->H} {W:World} {I:Nat->Prop} {rd:Nat->Nat->Option Value} {β:Nat->Option Place}
theorem Oe (n:Int):RelV rd I β (Go.AM.enc (.int .i64) n) (.int .i64 n):=by
 have e:Go.AM.enc (.int .i64) n=.int .i64 n:=rfl
 rw[e];simp only[RelV]
theorem Sa (s:ByteArray):RelV rd I β (Go.AM.enc .str s.data.toList) (.string s):=by
 have e:Go.AM.enc .str s.data.toList=.str s.data.toList:=rfl
 rw[e];simp only[RelV];exact ⟨s,rfl,rfl⟩
theorem SP:RelL rd I β (AA [] () 0 0) []:=by simp only[AA,RelL]
theorem LU {t:GT} {ps:List PK} {x:t.ty} {y:Ah ps} {v:Value} {vs:List Value} (h:RelV rd I β (Go.AM.enc t x) v) (r:RelL rd I β (AA ps y 0 0) vs):RelL rd I β (AA (.val t::ps) (x,y) 0 0) (v::vs):=by
 simp only[AA,RelL]
 exact ⟨v,vs,rfl,h,r⟩
end
end Go.AM.Num
end
section
namespace Go.AM.Num
open Go.Proofs Go.Proofs.YtppjkoefhkcjfaaGreatDoor Go.RowKit Go.ChangeShapes Go.WideShapes Go.ChangeAt
noncomputable def Fx (os:Os):World:=
 { World.doorLaid Tryz.prog 400 os with heap:=(World.doorLaid Tryz.prog 400 os).heap.modify 3 fun
  |.cells _ t frozen=>.cells (Go.Pinned.utf8FirstZ.map fun n=>Value.int .u8 (n:Nat)).toArray t frozen
  |o=>o }
set_option maxRecDepth 100000 in
theorem Qw (os:Os) (args:Array Value):laidMet Tryz.prog Rows.termNamesRow.laid ((Fx os).forCall (fun _ _=>0) ⟨#[],args,[]⟩).memory:=
 laidMet_of_run' 8 (by kernel_rfl) (by kernel_rfl)
theorem TA (os:Os) (args:Array Value):(((Fx os).forCall (fun _ _=>0) ⟨#[],args,[]⟩).variablesRefB Tryz.prog)=true:=by kernel_rfl
theorem Pb (os:Os) (args:Array Value):((((Fx os).forCall (fun _ _=>0) ⟨#[],args,[]⟩).heap.toList.drop Tryz.prog.globals.size).take ((begin Tryz.prog (fun _ _=>0) default).world.heap.size - Tryz.prog.globals.size) =
 (begin Tryz.prog (fun _ _=>0) default).world.heap.toList.drop Tryz.prog.globals.size):=by kernel_rfl
theorem own:ownKnob Tryz.prog.godebug=none:=by kernel_rfl
end Go.AM.Num
end
section
namespace Go.AM.Num
theorem TG (s:qBs) (hs:SL s) (n:Int) (hn:FC n):Gn s n=some ((true,()),()):=RU s n
end Go.AM.Num
end
