/- Law ValueEvalRaw of the values: a machine of plain values, what the program's functions compute in it, and what that is. No condition beyond what the statement says. -/
import Derived.Test.YtmckcoeongfmhaaGreatDoorValueEvalRaw7
import Derived.Test.YtmckcoeongfmhaaGreatDoorValueEvalRaw3
import Derived.Test.YtmckcoeongfmhaaGreatDoorValueEvalRaw5
import Derived.Test.YtmckcoeongfmhaaGreatDoorRows
import Derived.Shelf.Vars
import Derived.Lib.LaidTab
import Derived.ProofKit
import Derived.MakeChecks
import Derived.OpenShut
import Derived.Lib.Strings
import Derived.SliceStrings
import Derived.SizedLaws
import Derived.Test.YtmckcoeongfmhaaGreatDoorCards
import Derived.Test.YtmckcoeongfmhaaGreatDoorTie
import Derived.ShutString
import Derived.ChangeOld
import Derived.Below
import Derived.LaidMore
import Derived.Deep.DeepHandedRow
import Derived.Deep.DeepWitnessRowRef
import GoSem.PinnedTables
import Derived.ChangeArms
set_option linter.unusedSimpArgs false
set_option linter.unusedVariables false
section
namespace Go.AM.Num
open Tf
abbrev TmF:=qCA->Int->Int->List Vr->Option (((List Nod)×Unit)×(qCA×Unit))
abbrev FmF:=qCA->Int->List Vr->Option (((List Nod)×Unit)×(qCA×Unit))
def TOk (VS:List Vr) (T:TmF) (d N D:Nat):Prop:=∀ c s,CI c->1<=s/\s<=4->qGM VS c s N D (T c s (d:Int) VS)
def AOk (VS:List Vr) (T:TmF) (d N D:Nat):Prop:=∀ c s,CI c->s=2\/s=3->qGM VS c s N D (T c s (d:Int) VS)
def FOk (VS:List Vr) (F:FmF) (d N D:Nat):Prop:=∀ c,CI c->qGM VS c 1 N D (F c (d:Int) VS)
theorem qGM.mono {VS:List Vr} {c:List Int×Int} {s:Int} {N d M e:Nat} {r:Option (((List Nod)×Unit)×(qCA×Unit))} (h:qGM VS c s N d r) (hN:N<=M) (hd:d<=e):qGM VS c s M e r:=by
 obtain ⟨t,c',h1,h2,h3⟩:=h
 exact ⟨t,c',h1,h2,h3.mono hN hd⟩
theorem qGM.eta {VS:List Vr} {c:List Int×Int} {s:Int} {N d:Nat} {r:Option (((List Nod)×Unit)×(qCA×Unit))} (h:qGM VS c s N d r):qGM VS c s N d (r.bind fun r2=>some ((r2.1.1,()),r2.2.1,())):=by
 obtain ⟨t,c',h1,h2,h3⟩:=h
 rw[h1]
 exact ⟨t,c',rfl,h2,h3⟩
section
variable {VS:List Vr} (T:TmF) (F:FmF) (I:TmF) (Ar:TmF) (At:FmF)
theorem qEO (a:List Nod):[a].flatten=a:=by simp
theorem qDP (a b:List Nod):[a,b].flatten=a++b:=by simp
theorem qLat (a b c:List Nod):[a,b,c].flatten=a++b++c:=by simp
theorem qWae {c:List Int×Int} (hc:CI c) {s:Int} (hs:1<=s/\s<=4) (hV:VSok VS) (hl:VS.length<=1000):qGM VS c s 5 3 ((qHA c 3).bind fun r1=>
 cond (r1.1.1==(0:Int))
  ((qIF r1.2.1 s).bind fun r2=>
  (qIJ r2.1.1).bind fun r3=>
  some ((r3.1.1,()),r2.2.1,()))
  ((qEB r1.2.1 s VS).bind fun r4=>
  some ((r4.1.1,()),r4.2.1,()))):=by
 obtain ⟨r,c',n1,n2,n3,n4⟩:=qGC hc (n:=3) (by omega)
 rw[n1,qAA]
 by_cases h:r=0
 ·rw[qFA h];exact qVw n2 hs
 ·rw[qDA h];exact (qBP hV hl n2 hs).eta
theorem T0 (hV:VSok VS) (hl:VS.length<=1000):TOk VS (qJG T F I Ar At) 0 5 3:=by
 intro c s hc hs
 unfold qJG
 rw[qGA (by omega)]
 exact qWae hc hs hV hl
theorem qPad (hV:VSok VS) (hl:VS.length<=1000) {d N D:Nat} (hN:N<=10000) (hT:TOk VS T d N D):FOk VS (qSK T F I Ar At) d (max 5 (1+2 * N)) (max 3 (D+1)):=by
 intro c hc
 unfold qSK
 obtain ⟨r,c1,n1,n2,n3,n4⟩:=qGC hc (n:=5) (by omega)
 rw[n1,qAA,qEA,qBA (by simpa using n3),qBA (by simp;omega)]
 have hr:r=0\/r=1\/r=2\/r=3\/r=4:=by omega
 have hg:∃ s:Int,([2,2,3,4,1]:List Int).getD r.toNat 0=s/\1<=s/\s<=4:=by
  rcases hr with rfl | rfl | rfl | rfl | rfl
  ·exact ⟨2,rfl,by omega,by omega⟩
  ·exact ⟨2,rfl,by omega,by omega⟩
  ·exact ⟨3,rfl,by omega,by omega⟩
  ·exact ⟨4,rfl,by omega,by omega⟩
  ·exact ⟨1,rfl,by omega,by omega⟩
 obtain ⟨s,hgs,hs⟩:=hg
 simp only
 rw[hgs]
 by_cases h1:s=1
 ·rw[qFA h1]
  obtain ⟨r2,c2,m1,m2,m3,m4⟩:=qGC n2 (n:=3) (by omega)
  rw[m1,qAA]
  by_cases h0:r2=0
  ·rw[qFA h0]
   obtain ⟨r3,c3,k1,k2,k3,k4⟩:=qGC m2 (n:=2) (by omega)
   simp only
   rw[k1,qAA]
   simp only
   unfold qAm
   cases (r3==1)
   ·exact ⟨_,c3,rfl,k2,qBo.mono (by omega) (by omega)⟩
   ·exact ⟨_,c3,rfl,k2,qXw.mono (by omega) (by omega)⟩
  ·rw[qDA h0,h1]
   exact ((qBP hV hl m2 (by omega)).eta).mono (by omega) (by omega)
 rw[qDA h1]
 by_cases h4:s=4
 ·rw[qID h4]
  obtain ⟨t1,c2,a1,a2,a3⟩:=hT _ s n2 hs
  obtain ⟨t2,c3,b1,b2,b3⟩:=hT _ s a2 hs
  rw[a1,qAA,b1,qAA]
  obtain ⟨t,o1,o2⟩:=qKV (o:=11) (s:=1) (kids:=[t1,t2]) (by rw[qDP];exact a3.app b3) rfl (by simp) (by omega) (by omega) (by omega) rfl (by simp[qDD,nOp]) (by omega)
  rw[o1,qAA]
  exact ⟨t,c3,rfl,b2,o2.mono (by omega) (by omega)⟩
 ·rw[qDE h4]
  obtain ⟨r2,c2,m1,m2,m3,m4⟩:=qGC n2 (n:=3) (by omega)
  obtain ⟨t1,c3,a1,a2,a3⟩:=hT _ s m2 hs
  obtain ⟨t2,c4,b1,b2,b3⟩:=hT _ s a2 hs
  rw[m1,qAA,a1,qAA,b1,qAA]
  simp only
  rw[w64 (by omega)]
  have hs':s=2\/s=3:=by omega
  have hsm:qDD (((11:Int)+r2,0,[],[],(([s]++[s]:List Int).length:Int)):Nod) ((t1++t2).getD 0 qPE).1 ([s]++[s])=1:=by
   have:r2=0\/r2=1\/r2=2:=by omega
   rcases this with rfl | rfl | rfl
   ·simp[qDD,nOp]
   ·simp[qDD,nOp,hs']
   ·simp[qDD,nOp,hs']
  have hcc:qXA ((11:Int)+r2) ([s]++[s]:List Int).length=true:=by
   have:r2=0\/r2=1\/r2=2:=by omega
   rcases this with rfl | rfl | rfl<;>rfl
  obtain ⟨t,o1,o2⟩:=qKV (o:=(11:Int)+r2) (s:=1) (kids:=[t1,t2]) (ss:=[s]++[s]) (by rw[qDP];exact a3.app b3) rfl (by simp) (by omega) (by omega) (by omega) hcc (by rw[qDP];exact hsm) (by omega)
  rw[o1,qAA]
  exact ⟨t,c4,rfl,b2,o2.mono (by omega) (by omega)⟩
theorem qGas {d N D:Nat} (hd:d<=1000) (hN:N<=10000) (hT:TOk VS T d N D) (hF:FOk VS F d N D):TOk VS (qEM T F I Ar At) (d+1) (1+3 * N) (D+1):=by
 intro c s hc hs
 unfold qEM
 have hw:qI (((d+1:Nat):Int) - 1)=(d:Int):=by rw[w64 (by omega)];omega
 obtain ⟨t1,c1,a1,a2,a3⟩:=hF _ hc
 obtain ⟨t2,c2,b1,b2,b3⟩:=hT _ s a2 hs
 obtain ⟨t3,c3,e1,e2,e3⟩:=hT _ s b2 hs
 rw[hw,a1,qAA,b1,qAA,e1,qAA]
 obtain ⟨t,o1,o2⟩:=qKV (o:=10) (s:=s) (kids:=[t1,t2,t3]) (ss:=[1]++[s]++[s]) (by rw[qLat];exact (a3.app b3).app e3) rfl (by simp) (by omega) (by omega) (by omega) rfl (by simp[qDD,nOp]) (by omega)
 rw[o1,qAA]
 exact ⟨t,c3,rfl,e2,o2.mono (by omega) (by omega)⟩
theorem qRx (n:Nat) (s:Int):List.replicate n s++[s]=List.replicate (n+1) s:=by rw[List.replicate_succ']
theorem qIaj {d N D:Nat} (hd:d<=1000) (hN:N<=10000) (hT:TOk VS T d N D) {s:Int} (hs:1<=s/\s<=4):∀ (m k:Nat) (c:List Int×Int) (l:List (List Nod)),CI c->k+m<=5->l.length=k->qVQ VS (List.replicate k s) (k * N) D l.flatten->
 ∃ c' l',qPA (qHE T F I Ar At) (c,s,((d+1:Nat):Int),VS,l,(m:Int),())=some (.exit 1,(c',s,((d+1:Nat):Int),VS,l',0,()))/\CI c'/\l'.length=k+m/\qVQ VS (List.replicate (k+m) s) ((k+m) * N) D l'.flatten:=by
 have hw:qI (((d+1:Nat):Int) - 1)=(d:Int):=by rw[w64 (by omega)];omega
 intro m
 induction m with
 |zero=>
  intro k c l hc _ hlk hg
  exact ⟨c,l,qUA (by unfold qHE;simp only;rw[qJA (by omega)];rfl) (by simp),hc,hlk,hg⟩
 |succ m ih=>
  intro k c l hc hb hlk hg
  obtain ⟨t1,c1,a1,a2,a3⟩:=hT _ s hc hs
  have hg':qVQ VS (List.replicate (k+1) s) ((k+1) * N) D (l++[t1]).flatten:=by
   have:=hg.app a3
   rw[qRx] at this
   rw[List.flatten_append,qEO,Nat.add_mul,Nat.one_mul]
   exact this
  obtain ⟨c',l',e1,e2,e3,e4⟩:=ih (k+1) c1 (l++[t1]) a2 (by omega) (by simp[hlk]) hg'
  refine ⟨c',l',?_,e2,by omega,?_⟩
  ·rw[qAB (y:=(c1,s,((d+1:Nat):Int),VS,l++[t1],(m:Int),())) (by
    unfold qHE
    simp only
    rw[qGA (by omega),hw,a1,qAA,qBA (by simp[qKF];omega),w64 (by omega)]
    have e:((m+1:Nat):Int) - 1=(m:Int):=by omega
    rw[e])]
   exact e1
  ·have e:k+(m+1)=k+1+m:=by omega
   rw[e];exact e4
theorem qQaj {d N D:Nat} (hd:d<=1000) (hN:N<=10000) (hF:FOk VS F d N D):∀ (m k:Nat) (c:List Int×Int) (l:List (List Nod)),CI c->k+m<=5->l.length=k->qVQ VS (List.replicate k 1) (k * N) D l.flatten->
 ∃ c' l',qPA (qSB T F I Ar At) (c,((d+1:Nat):Int),VS,l,(m:Int),())=some (.exit 1,(c',((d+1:Nat):Int),VS,l',0,()))/\CI c'/\l'.length=k+m/\qVQ VS (List.replicate (k+m) 1) ((k+m) * N) D l'.flatten:=by
 have hw:qI (((d+1:Nat):Int) - 1)=(d:Int):=by rw[w64 (by omega)];omega
 intro m
 induction m with
 |zero=>
  intro k c l hc _ hlk hg
  exact ⟨c,l,qUA (by unfold qSB;simp only;rw[qJA (by omega)];rfl) (by simp),hc,hlk,hg⟩
 |succ m ih=>
  intro k c l hc hb hlk hg
  obtain ⟨t1,c1,a1,a2,a3⟩:=hF _ hc
  have hg':qVQ VS (List.replicate (k+1) 1) ((k+1) * N) D (l++[t1]).flatten:=by
   have:=hg.app a3
   rw[qRx] at this
   rw[List.flatten_append,qEO,Nat.add_mul,Nat.one_mul]
   exact this
  obtain ⟨c',l',e1,e2,e3,e4⟩:=ih (k+1) c1 (l++[t1]) a2 (by omega) (by simp[hlk]) hg'
  refine ⟨c',l',?_,e2,by omega,?_⟩
  ·rw[qAB (y:=(c1,((d+1:Nat):Int),VS,l++[t1],(m:Int),())) (by
    unfold qSB
    simp only
    rw[qGA (by omega),hw,a1,qAA,qBA (by simp[qKF];omega),w64 (by omega)]
    have e:((m+1:Nat):Int) - 1=(m:Int):=by omega
    rw[e])]
   exact e1
  ·have e:k+(m+1)=k+1+m:=by omega
   rw[e];exact e4
theorem qNan {c:List Int×Int} (hc:CI c) {s:Int} (hs:s=2\/s=3):∃ a c',qQF c s=some ((a,()),(c',()))/\CI c'/\qXO s a=some (([((3:Int),s,([]:qBs),a,(0:Int))],()),())/\qVQ VS [s] 1 1 [((3:Int),s,([]:qBs),a,(0:Int))]:=by
 unfold qQF
 rcases hs with rfl | rfl
 ·obtain ⟨z,c',h1,h2,h3⟩:=qHak hc
  rw[qFA rfl,h1,qAA]
  exact ⟨ti z,c',rfl,h2,rfl,qJh (by omega)⟩
 ·obtain ⟨q,c',h1,h2,h3⟩:=qVs hc
  have:=qIE q
  rw[qDA (by omega),h1,qAA]
  exact ⟨txt q,c',rfl,h2,rfl,qMaf (by omega)⟩
end
section
variable {VS:List Vr} (T:TmF) (F:FmF) (I:TmF) (Ar:TmF) (At:FmF)
theorem qSai {VS:List Vr} {N D:Nat} {t:List Nod} (h:qVQ VS [2] N D t) {o r:Int} (ho:o=16\/o=17) (hr:0 < r/\r < 1000):qVQ VS [2] (N+1) (D+1) ((o,0,[],ti r,1)::t):=by
 have hsg:qNT (ti r)=1:=by
  unfold qNT ti
  rw[qHK]
  simp only[Rat.num_intCast]
  exact Int.sign_eq_one_of_pos hr.1
 have hl:(ti r).length<=73:=by
  have:=qIE (r:Rat)
  have:=qJY (n:=r) (by omega)
  unfold ti;omega
 refine h.node (n:=(o,0,[],ti r,1)) ?_ ?_ rfl ?_ (by omega) hl (fun e=>?_) ?_
 ·unfold qRC
  simp only[nOp,qGG,qCP,qQT]
  rw[if_neg (by omega),if_neg (by omega),if_pos ho,qFa,hsg]
  rfl
 ·rcases ho with rfl | rfl<;>rfl
 ·rcases ho with rfl | rfl<;>simp[qDD,nOp]
 ·simp only[nOp] at e;omega
 ·simp only[nOp];omega
theorem qPal (hV:VSok VS) (hl:VS.length<=1000) {d N D:Nat} (hd:d<=1000) (hN:5<=N/\N<=10000) (hD:3<=D) (hT:TOk VS T d N D) (hI:TOk VS I (d+1) (1+3 * N) (D+1)):AOk VS (qDG T F I Ar At) (d+1) (1+3 * N) (D+1):=by
 intro c s hc hs
 have hs':1<=s/\s<=4:=by omega
 have hw:qI (((d+1:Nat):Int) - 1)=(d:Int):=by rw[w64 (by omega)];omega
 have hvar:∀ c,CI c->qGM VS c s (1+3 * N) (D+1) ((qEB c s VS).bind fun r=>some ((r.1.1,()),r.2.1,())):=fun c hc=>((qBP hV hl hc hs').eta).mono (by omega) (by omega)
 have hnum:∀ c,CI c->qGM VS c s (1+3 * N) (D+1) ((qQF c s).bind fun r=>(qXO s r.1.1).bind fun r'=>some ((r'.1.1,()),r.2.1,())):=fun c hc=>by
  obtain ⟨a,c',h1,h2,h3,h4⟩:=qNan hc hs (VS:=VS)
  rw[h1,qAA,h3,qAA]
  exact ⟨_,c',rfl,h2,h4.mono (by omega) (by omega)⟩
 unfold qDG
 obtain ⟨r,c1,n1,n2,n3,n4⟩:=qGC hc (n:=10) (by omega)
 rw[n1,qAA]
 simp only[hw]
 by_cases h3:r < 3
 ·rw[qGA h3]
  obtain ⟨t1,c2,a1,a2,a3⟩:=hT _ s n2 hs'
  obtain ⟨r2,c3,m1,m2,m3,m4⟩:=qGC a2 (n:=3) (by omega)
  obtain ⟨m,rfl⟩:∃ m:Nat,r2=m:=⟨r2.toNat,by omega⟩
  obtain ⟨c4,l',e1,e2,e3,e4⟩:=qIaj T F I Ar At hd hN.2 hT hs' m 1 c3 [t1] m2 (by omega) rfl (by rw[qEO,Nat.one_mul];exact a3)
  rw[a1,qAA,m1,qAA]
  simp only
  rw[e1]
  simp only[qAA,qHB,qOA]
  have hb:(1+m) * N<=3 * N:=Nat.mul_le_mul_right N (by omega)
  obtain ⟨t,o1,o2⟩:=qKV (o:=14) (s:=s) (kids:=l') e4 (by rw[e3,List.length_replicate]) (by omega) (by omega) (by omega) (by omega) (by rw[List.length_replicate];exact qZ10 (show (1:Int)<=((1+m:Nat):Int) by omega)) (by
   have e:(List.replicate (1+m) s).getD 0 0=s:=by rw[Nat.add_comm];simp[List.replicate_succ]
   have hal:∀ x∈List.replicate (1+m) s,x=s:=fun x hx=>(List.mem_replicate.1 hx).2
   unfold qDD
   simp only[nOp]
   rw[if_neg (by omega),if_neg (by omega),if_neg (by omega),if_neg (by omega),if_neg (by omega),if_pos trivial,e,if_pos ⟨hs,hal⟩]) (by omega)
  rw[o1,qAA]
  exact ⟨t,c4,rfl,e2,o2.mono (by omega) (by omega)⟩
 rw[qJA h3]
 by_cases h5:r < 5
 ·rw[qGA h5]
  obtain ⟨a,c2,k1,k2,k3,k4⟩:=qNan n2 hs (VS:=VS)
  obtain ⟨t1,c3,a1,a2,a3⟩:=hT _ s k2 hs'
  rw[k1,qAA,k3,qAA,a1,qAA]
  obtain ⟨t,o1,o2⟩:=qKV (o:=15) (s:=s) (kids:=[[((3:Int),s,([]:qBs),a,(0:Int))],t1]) (ss:=[s]++[s]) (by rw[qDP];exact (k4.mono (Nat.le_refl _) (show 1<=D by omega)).app a3) rfl (by simp) (by omega) (by omega) (by omega) rfl (by simp[qDD,nOp,hs]) (by omega)
  rw[o1,qAA]
  exact ⟨t,c3,rfl,a2,o2.mono (by omega) (by omega)⟩
 rw[qJA h5]
 by_cases h5':r=5
 ·rw[qFA h5']
  exact (hI _ s n2 hs').eta
 rw[qDA h5']
 by_cases h6:r=6
 ·rw[qFA h6]
  by_cases h2:s=2
  ·rw[qFA h2]
   obtain ⟨r2,c2,m1,m2,m3,m4⟩:=qGC n2 (n:=2) (by omega)
   obtain ⟨r3,c3,k1,k2,k3,k4⟩:=qGC m2 (n:=5) (by omega)
   obtain ⟨t1,c4,a1,a2,a3⟩:=hT _ s k2 hs'
   rw[m1,qAA]
   simp only
   rw[k1,qAA]
   simp only
   rw[w64 (x:=1+r3) (by omega),w64 (x:=16+r2) (by omega),qTI (show qPz (1+r3) from ⟨by omega,by omega⟩),qAA,a1,qAA]
   have hj:=qQm (n:=((16:Int)+r2,(0:Int),([]:qBs),txt ((1+r3:Int):Rat),(0:Int))) (kids:=[t1]) (by simp) (by rw[qEO];have:=a3.len;omega)
   rw[qEO] at hj
   simp only
   rw[hj,qAA]
   rw[h2] at a3 ⊢
   exact ⟨_,c4,rfl,a2,(qSai a3 (o:=16+r2) (r:=1+r3) (by omega) (by omega)).mono (by omega) (by omega)⟩
  ·rw[qDA h2,qDA (by omega),qDA (by omega)]
   exact hvar _ n2
 rw[qDA h6]
 by_cases h7:r=7
 ·rw[qFA h7]
  by_cases h2:s=2
  ·rw[qFA h2]
   obtain ⟨t1,c2,a1,a2,a3⟩:=hT _ 4 n2 (by omega)
   obtain ⟨t2,c3,b1,b2,b3⟩:=hT _ s a2 hs'
   rw[a1,qAA,b1,qAA]
   rw[h2] at b3 ⊢
   obtain ⟨t,o1,o2⟩:=qKV (o:=18) (s:=2) (kids:=[t1,t2]) (ss:=[4]++[2]) (by rw[qDP];exact a3.app b3) rfl (by simp) (by omega) (by omega) (by omega) rfl (by simp[qDD,nOp]) (by omega)
   rw[o1,qAA]
   exact ⟨t,c3,rfl,b2,o2.mono (by omega) (by omega)⟩
  ·rw[qDA h2,qDA (by omega)]
   exact hvar _ n2
 rw[qDA h7]
 by_cases h8:r=8
 ·rw[qFA h8]
  exact hnum _ n2
 ·rw[qDA h8]
  exact hvar _ n2
theorem qJaf (c:List Int×Int):qLN c=some ((decide (c.2 < (c.1.length:Int)),()),(c,())):=rfl
theorem qWan {d N D:Nat} (hd:d<=1000) (hN:5<=N/\N<=10000) (hD:3<=D) (hF:FOk VS F d N D) (hI:TOk VS I (d+1) (1+3 * N) (D+1)) (hA0:FOk VS At 0 11 4) (hA:FOk VS At d (1+3 * N) (D+1)):FOk VS (qWE T F I Ar At) (d+1) (1+3 * N) (D+1):=by
 intro c hc
 have hw:qI (((d+1:Nat):Int) - 1)=(d:Int):=by rw[w64 (by omega)];omega
 unfold qWE
 rw[qJA (by omega),qJaf,qAA]
 by_cases hlf:¬ c.2 < (c.1.length:Int)
 ·rw[qZ9 hlf]
  simp only[qY1,qOA]
  exact ((hA0 _ hc).eta).mono (by omega) (by omega)
 rw[qZ10 (Decidable.not_not.1 hlf)]
 simp only[qY2,qVA]
 obtain ⟨r,c1,n1,n2,n3,n4⟩:=qGC hc (n:=12) (by omega)
 rw[n1,qAA]
 simp only[hw]
 have hnot:qGM VS c 1 (1+3 * N) (D+1) ((F c1 (d:Int) VS).bind fun r5=>(qEe 6 ([r5.1.1]:List (List Nod))).bind fun r6=>some ((r6.1.1,()),r5.2.1,())):=by
  obtain ⟨t1,c2,a1,a2,a3⟩:=hF _ n2
  rw[a1,qAA]
  obtain ⟨t,o1,o2⟩:=qKV (o:=6) (s:=1) (kids:=[t1]) (ss:=[1]) (by rw[qEO];exact a3) rfl (by simp) (by omega) (by omega) (by omega) rfl (by simp[qDD,nOp]) (by omega)
  rw[o1,qAA]
  exact ⟨t,c2,rfl,a2,o2.mono (by omega) (by omega)⟩
 have htwo:∀ o:Int,o=9\/o=11->qGM VS c 1 (1+3 * N) (D+1) ((F c1 (d:Int) VS).bind fun r5=>(F r5.2.1 (d:Int) VS).bind fun r6=>(qEe o ([r5.1.1,r6.1.1]:List (List Nod))).bind fun r7=>some ((r7.1.1,()),r6.2.1,())):=by
  intro o ho
  obtain ⟨t1,c2,a1,a2,a3⟩:=hF _ n2
  obtain ⟨t2,c3,b1,b2,b3⟩:=hF _ a2
  rw[a1,qAA,b1,qAA]
  obtain ⟨t,o1,o2⟩:=qKV (o:=o) (s:=1) (kids:=[t1,t2]) (ss:=[1]++[1]) (by rw[qDP];exact a3.app b3) rfl (by simp) (by omega) (by omega) (by omega) (by rcases ho with rfl | rfl<;>rfl) (by rcases ho with rfl | rfl<;>simp[qDD,nOp]) (by omega)
  rw[o1,qAA]
  exact ⟨t,c3,rfl,b2,o2.mono (by omega) (by omega)⟩
 have hand:qGM VS c 1 (1+3 * N) (D+1) ((qHA c1 4).bind fun r9=>(qPA (qSB T F I Ar At) (r9.2.1,((d+1:Nat):Int),VS,([]:List (List Nod)),r9.1.1,())).bind fun y10=>
  cond (Ex.same y10.1 (Ex.exit 1)) ((qHA y10.2.1 2).bind fun r11=>(qEe (qI ((7:Int)+r11.1.1)) y10.2.2.2.2.1).bind fun r12=>some ((r12.1.1,()),r11.2.1,())) none):=by
  obtain ⟨r2,c2,m1,m2,m3,m4⟩:=qGC n2 (n:=4) (by omega)
  obtain ⟨m,rfl⟩:∃ m:Nat,r2=m:=⟨r2.toNat,by omega⟩
  obtain ⟨c3,l',e1,e2,e3,e4⟩:=qQaj T F I Ar At hd hN.2 hF m 0 c2 [] m2 (by omega) rfl (by rw[Nat.zero_mul];exact (qVQ.nil VS).mono (Nat.le_refl _) (Nat.zero_le _))
  obtain ⟨r3,c4,k1,k2,k3,k4⟩:=qGC e2 (n:=2) (by omega)
  rw[m1,qAA]
  simp only
  rw[e1]
  simp only[qAA,qHB,qOA]
  rw[k1,qAA]
  simp only
  rw[w64 (by omega)]
  have hb:(0+m) * N<=3 * N:=Nat.mul_le_mul_right N (by omega)
  have hal:∀ x∈List.replicate (0+m) (1:Int),x=1:=fun x hx=>(List.mem_replicate.1 hx).2
  obtain ⟨t,o1,o2⟩:=qKV (o:=7+r3) (s:=1) (kids:=l') e4 (by rw[e3,List.length_replicate]) (by omega) (by omega) (by omega) (by omega) (by
   have:r3=0\/r3=1:=by omega
   rw[List.length_replicate]
   rcases this with rfl | rfl
   ·exact qZ10 (show (0:Int)<=((0+m:Nat):Int) by omega)
   ·exact qZ10 (show (0:Int)<=((0+m:Nat):Int) by omega)) (by
   unfold qDD
   simp only[nOp]
   rw[if_neg (by omega),if_pos (by omega),if_pos hal]) (by omega)
  rw[o1,qAA]
  exact ⟨t,c4,rfl,k2,o2.mono (by omega) (by omega)⟩
 by_cases h0:r=0;· rw[qFA h0];exact hnot
 rw[qDA h0]
 by_cases h1:r=1;· rw[qFA h1];exact hnot
 rw[qDA h1]
 by_cases h2:r=2;· rw[qFA h2];exact hand
 rw[qDA h2]
 by_cases h3:r=3;· rw[qFA h3];exact hand
 rw[qDA h3]
 by_cases h4:r=4;· rw[qFA h4];exact hand
 rw[qDA h4]
 by_cases h5:r=5;· rw[qFA h5];exact hand
 rw[qDA h5]
 by_cases h6:r=6;· rw[qFA h6];exact htwo 9 (.inl rfl)
 rw[qDA h6]
 by_cases h7:r=7;· rw[qFA h7];exact (hI _ 1 n2 (by omega)).eta
 rw[qDA h7]
 by_cases h8:r=8;· rw[qFA h8];exact htwo 11 (.inr rfl)
 rw[qDA h8]
 exact (hA _ n2).eta
theorem qDap (hV:VSok VS) (hl:VS.length<=1000) {d N D:Nat} (hd:d<=1000) (hN:5<=N/\N<=10000) (hD:3<=D) (hT:TOk VS T d N D) (hF:FOk VS F (d+1) (1+3 * N) (D+1)) (hI:TOk VS I (d+1) (1+3 * N) (D+1)) (hA:AOk VS Ar (d+1) (1+3 * N) (D+1)):TOk VS (qJG T F I Ar At) (d+1) (1+3 * N) (D+1):=by
 intro c s hc hs
 have hw:qI (((d+1:Nat):Int) - 1)=(d:Int):=by rw[w64 (by omega)];omega
 unfold qJG
 rw[qJA (by omega),qJaf,qAA]
 by_cases hlf:¬ c.2 < (c.1.length:Int)
 ·rw[qZ9 hlf]
  simp only[qY1,qOA]
  exact (qWae hc hs hV hl).mono (by omega) (by omega)
 rw[qZ10 (Decidable.not_not.1 hlf)]
 simp only[qY2,qVA]
 by_cases h1:s=1
 ·rw[qFA h1,h1];exact (hF _ hc).eta
 rw[qDA h1]
 by_cases h4:s=4
 ·rw[qFA h4]
  obtain ⟨r,c1,n1,n2,n3,n4⟩:=qGC hc (n:=5) (by omega)
  rw[n1,qAA]
  simp only[hw]
  have hst:qGM VS c s (1+3 * N) (D+1) ((T c1 4 (d:Int) VS).bind fun r14=>(T r14.2.1 2 (d:Int) VS).bind fun r15=>(T r15.2.1 2 (d:Int) VS).bind fun r16=>(qEe 19 ([r14.1.1,r15.1.1,r16.1.1]:List (List Nod))).bind fun r17=>some ((r17.1.1,()),r16.2.1,())):=by
   obtain ⟨t1,c2,a1,a2,a3⟩:=hT _ 4 n2 (by omega)
   obtain ⟨t2,c3,b1,b2,b3⟩:=hT _ 2 a2 (by omega)
   obtain ⟨t3,c4,e1,e2,e3⟩:=hT _ 2 b2 (by omega)
   rw[a1,qAA,b1,qAA,e1,qAA,h4]
   obtain ⟨t,o1,o2⟩:=qKV (o:=19) (s:=4) (kids:=[t1,t2,t3]) (ss:=[4]++[2]++[2]) (by rw[qLat];exact (a3.app b3).app e3) rfl (by simp) (by omega) (by omega) (by omega) rfl (by simp[qDD,nOp]) (by omega)
   rw[o1,qAA]
   exact ⟨t,c4,rfl,e2,o2.mono (by omega) (by omega)⟩
  by_cases k0:r=0
  ·rw[qFA k0]
   obtain ⟨t1,c2,a1,a2,a3⟩:=hT _ 2 n2 (by omega)
   rw[a1,qAA,h4]
   obtain ⟨t,o1,o2⟩:=qKV (o:=20) (s:=4) (kids:=[t1]) (ss:=[2]) (by rw[qEO];exact a3) rfl (by simp) (by omega) (by omega) (by omega) rfl (by simp[qDD,nOp]) (by omega)
   rw[o1,qAA]
   exact ⟨t,c2,rfl,a2,o2.mono (by omega) (by omega)⟩
  rw[qDA k0]
  by_cases k1:r=1;· rw[qFA k1];exact hst
  rw[qDA k1]
  by_cases k2:r=2;· rw[qFA k2];exact hst
  rw[qDA k2]
  by_cases k3:r=3;· rw[qFA k3];exact (hI _ s n2 hs).eta
  rw[qDA k3]
  exact ((qBP hV hl n2 hs).eta).mono (by omega) (by omega)
 rw[qDA h4]
 exact (hA _ s hc (by omega)).eta
end
def gB:Nat->Nat
 |0=>11
 |d+1=>1+3 * gB d
theorem qOav (d:Nat):11<=gB d:=by
 induction d with
 |zero=>exact Nat.le_refl _
 |succ d ih=>simp only[gB];omega
theorem qIaw:∀ {d:Nat},d<=6->gB d<=10000:=by
 intro d h
 have:d=0\/d=1\/d=2\/d=3\/d=4\/d=5\/d=6:=by omega
 rcases this with rfl | rfl | rfl | rfl | rfl | rfl | rfl<;>decide
theorem qOaa {VS:List Vr} (hV:VSok VS) (hl:VS.length<=1000):∀ d,d<=5->∀ n,3 * d+3<=n->TOk VS (qFB n) d (gB d) (d+4)/\FOk VS (qRA n) d (gB d) (d+4):=by
 have hT0:∀ n,1<=n->TOk VS (qFB n) 0 5 3:=by
  intro n hn
  obtain ⟨m,rfl⟩:∃ m,n=m+1:=⟨n - 1,by omega⟩
  exact T0 (qFB m) (qRA m) (qAC m) (qSA m) (qLB m) hV hl
 have hA0:∀ n,2<=n->FOk VS (qLB n) 0 11 4:=by
  intro n hn
  obtain ⟨m,rfl⟩:∃ m,n=m+1:=⟨n - 1,by omega⟩
  exact qPad (qFB m) (qRA m) (qAC m) (qSA m) (qLB m) hV hl (by omega) (hT0 m (by omega))
 intro d
 induction d with
 |zero=>
  intro _ n hn
  refine ⟨fun c s hc hs=>(hT0 n (by omega) c s hc hs).mono (by decide) (by omega),?_⟩
  obtain ⟨m,rfl⟩:∃ m,n=m+1:=⟨n - 1,by omega⟩
  intro c hc
  have e:qRA (m+1)=qWE (qFB m) (qRA m) (qAC m) (qSA m) (qLB m):=rfl
  rw[e]
  unfold qWE
  rw[qGA (by omega)]
  exact (hA0 m (by omega) c hc).eta
 |succ d ih=>
  intro hd n hn
  have ih:=ih (by omega)
  have hN:=qOav d
  have hN':=qIaw (d:=d) (by omega)
  have hI:∀ m,3 * d+4<=m->TOk VS (qAC m) (d+1) (1+3 * gB d) (d+4+1):=by
   intro m hm
   obtain ⟨k,rfl⟩:∃ k,m=k+1:=⟨m - 1,by omega⟩
   obtain ⟨i1,i2⟩:=ih k (by omega)
   exact qGas (qFB k) (qRA k) (qAC k) (qSA k) (qLB k) (by omega) (by omega) i1 i2
  have hAt:∀ m,3 * d+4<=m->FOk VS (qLB m) d (1+3 * gB d) (d+4+1):=by
   intro m hm
   obtain ⟨k,rfl⟩:∃ k,m=k+1:=⟨m - 1,by omega⟩
   obtain ⟨i1,i2⟩:=ih k (by omega)
   intro c hc
   exact (qPad (qFB k) (qRA k) (qAC k) (qSA k) (qLB k) hV hl (by omega) i1 c hc).mono (by omega) (by omega)
  have hAr:∀ m,3 * d+5<=m->AOk VS (qSA m) (d+1) (1+3 * gB d) (d+4+1):=by
   intro m hm
   obtain ⟨k,rfl⟩:∃ k,m=k+1:=⟨m - 1,by omega⟩
   obtain ⟨i1,i2⟩:=ih k (by omega)
   exact qPal (qFB k) (qRA k) (qAC k) (qSA k) (qLB k) hV hl (by omega) (by omega) (by omega) i1 (hI k (by omega))
  have hFo:∀ m,3 * d+5<=m->FOk VS (qRA m) (d+1) (1+3 * gB d) (d+4+1):=by
   intro m hm
   obtain ⟨k,rfl⟩:∃ k,m=k+1:=⟨m - 1,by omega⟩
   obtain ⟨i1,i2⟩:=ih k (by omega)
   exact qWan (qFB k) (qRA k) (qAC k) (qSA k) (qLB k) (by omega) (by omega) (by omega) i2 (hI k (by omega)) (hA0 k (by omega)) (hAt k (by omega))
  have hTe:∀ m,3 * d+6<=m->TOk VS (qFB m) (d+1) (1+3 * gB d) (d+4+1):=by
   intro m hm
   obtain ⟨k,rfl⟩:∃ k,m=k+1:=⟨m - 1,by omega⟩
   obtain ⟨i1,i2⟩:=ih k (by omega)
   exact qDap (qFB k) (qRA k) (qAC k) (qSA k) (qLB k) hV hl (by omega) (by omega) (by omega) i1 (hFo k (by omega)) (hI k (by omega)) (hAr k (by omega))
  have e:d+4+1=d+1+4:=by omega
  rw[e] at hTe hFo
  exact ⟨hTe n (by omega),hFo n (by omega)⟩
structure EnvOk (VS:List Vr) (env:List qEK):Prop where
 len:env.length=VS.length
 val:∀ b∈env,qNF b.2=true/\SmallV b.2
 all:∀ v∈VS,∃ x,qSw env v.1=some x/\qGF x=v.2
def VSg:List Vr:=[([120],2),([121],2),([122],3),([119],3),([112],1),([98],1),([97],4),([99],4)]
theorem qYab:qNac=some ((VSg,()),()):=rfl
theorem qIau:VSok VSg:=by
 refine ⟨?_,?_⟩
 ·decide
 ·decide
theorem qWao:VSg.length<=1000:=by decide
theorem qNq {c:List Int×Int} (hc:CI c) {d:Nat} (hd:d<=5):qGM VSg c 1 (gB d) (d+4) (qRA big c (d:Int) VSg):=by
 obtain ⟨f,hf1,hf2⟩:=qEx
 rw[hf1]
 exact (qOaa qIau qWao d hd f (by omega)).2 c hc
theorem qVQ.short {VS:List Vr} {ss:List Int} {N d:Nat} {l:List Nod} (h:qVQ VS ss N d l):qFg l:=by
 obtain ⟨K,hK⟩:=h
 exact hK.sh
theorem qBao {A:qBs->Option SV} {G:Nod->List SV->Int ⊕ SV}:∀ {f g:Tf} {vs ws:List SV},evF A G f=.inr vs->evF A G g=.inr ws->evF A G (f.app g)=.inr (vs++ws):=by
 intro f
 induction f with
 |nil=>intro g vs ws h1 h2;simp only[evF,Sum.inr.injEq] at h1;subst h1;exact h2
 |cons n k r _ ir=>
  intro g vs ws h1 h2
  rw[qVu] at h1
  have e:(cons n k r).app g=cons n k (r.app g):=rfl
  rw[e,qVu]
  cases he:evF A G (cons n k Tf.nil) with
  |inl e=>rw[he] at h1;cases h1
  |inr us=>
   rw[he] at h1
   cases hr:evF A G r with
   |inl e=>rw[hr] at h1;cases h1
   |inr rs=>
    rw[hr] at h1
    simp only[Sum.inr.injEq] at h1
    rw[ir hr h2]
    simp only
    rw[<-h1,qZ1]
def EvK (env:List qEK) (ss:List Int) (N d:Nat) (l:List Nod) (vs:List SV):Prop:=∃ K,GenF VSg ss N d l K/\evF (qSw env) G0 K=.inr vs
theorem EvK.mono {env:List qEK} {ss:List Int} {N d M e:Nat} {l:List Nod} {vs:List SV} (h:EvK env ss N d l vs) (hN:N<=M) (hd:d<=e):EvK env ss M e l vs:=by
 obtain ⟨K,hK,hv⟩:=h
 exact ⟨K,⟨hK.flat,hK.wf,hK.srt,hK.nz,hK.sh,by have:=hK.size;omega,by have:=hK.dep;omega,hK.vars,hK.noap⟩,hv⟩
theorem EvK.nil (env:List qEK):EvK env [] 0 0 [] []:=⟨Tf.nil,⟨rfl,rfl,rfl,by simp,fun _ h=>absurd h qY16,Nat.le_refl _,Nat.le_refl _,fun _ h=>absurd h qY16,fun _ h=>absurd h qY16⟩,rfl⟩
theorem EvK.app {env:List qEK} {ss uu:List Int} {N M d:Nat} {l m:List Nod} {vs ws:List SV} (h:EvK env ss N d l vs) (g:EvK env uu M d m ws):EvK env (ss++uu) (N+M) d (l++m) (vs++ws):=by
 obtain ⟨K,hK,hv⟩:=h
 obtain ⟨L,hL,hw⟩:=g
 refine ⟨K.app L,⟨by rw[qAW,hK.flat,hL.flat],by rw[qMo,hK.wf,hL.wf];rfl,by rw[qNc,hK.srt,hL.srt],?_,?_,?_,?_,?_,?_⟩,qBao hv hw⟩
 ·rw[qZ7];exact fun h=>h.elim hK.nz hL.nz
 ·exact fun x hx=>(List.mem_append.1 hx).elim (hK.sh x) (hL.sh x)
 ·rw[qBf];have:=hK.size;have:=hL.size;omega
 ·rw[qTt];have:=hK.dep;have:=hL.dep;omega
 ·exact fun x hx=>(List.mem_append.1 hx).elim (hK.vars x) (hL.vars x)
 ·exact fun x hx=>(List.mem_append.1 hx).elim (hK.noap x) (hL.noap x)
theorem EvK.node {env:List qEK} {ss:List Int} {N d:Nat} {l:List Nod} {vs:List SV} (h:EvK env ss N d l vs) {n:Nod} {s:Int} (hf:qRC n=true) (hc:qXA (nOp n) ss.length=true) (hk:qPF n=(ss.length:Int)) (hs:qDD n (l.getD 0 qPE).1 ss=s) (hz:s≠0)
 (hnum:(qQT n).length<=73) (hv:nOp n≠4) (ha:nOp n≠5):EvK env [s] (N+1) (d+1) (n::l) [opV n vs]:=by
 obtain ⟨K,hK,hev⟩:=h
 have hl:K.len=ss.length:=by rw[<-qKM,hK.srt]
 refine ⟨cons n K Tf.nil,⟨by simp[Tf.flat,hK.flat],qWH.2 ⟨qFV.2 ⟨hf,by rw[hk];exact hc⟩,by rw[hl];exact hk,hK.wf,rfl⟩,?_,?_,?_,?_,?_,?_,?_⟩,?_⟩
 ·simp only[Tf.srt,hK.srt]
  rw[if_neg hK.nz,qPx hK.flat,hs]
 ·simp[Ne.symm hz]
 ·intro x hx
  rcases List.mem_cons.1 hx with rfl | hx
  ·exact hnum
  ·exact hK.sh x hx
 ·simp only[Tf.size];have:=hK.size;omega
 ·simp only[Tf.dep];have:=hK.dep;omega
 ·intro x hx
  rcases List.mem_cons.1 hx with rfl | hx
  ·exact fun h=>absurd h hv
  ·exact hK.vars x hx
 ·intro x hx
  rcases List.mem_cons.1 hx with rfl | hx
  ·exact ha
  ·exact hK.noap x hx
 ·simp only[evF,hev,evN]
  rw[if_neg hv,if_neg ha]
theorem qAv (t:List Nod) (env:List qEK) (l:List Int):qHN t env l=some ((true,()),()):=by
 unfold qHN
 by_cases h1:t.length > 15
 ·rw[qGA (by omega),qXR,qAA]
 rw[qJA (by omega)]
 by_cases h2:env.length > 5
 ·rw[qGA (by omega),qXR,qAA]
 rw[qJA (by omega)]
 have k4:=qOG (step:=qEH) (fun k=>(t,env,l,false,(k:Int),())) (fun k=>(t,env,l,true,(k:Int),())) t.length (E:=.exit 0) (B:=.ret) (by simp) (by simp) (fun k=>decide ((t.getD k qPE).2.2.1.length<=50)&&decide ((t.getD k qPE).2.2.2.1.length<=50)) (fun k hk=>by
  unfold qEH
  simp only
  rw[qGA (by omega),qEA,qBA (by omega),qBA (by omega),qZ0,qXR,qAA,w64 (by omega)]
  by_cases q1:(t.getD k qPE).2.2.1.length<=50
  ·rw[qJA (by omega),qZ10 q1,qEA,qBA (by omega),qBA (by omega)]
   by_cases q2:(t.getD k qPE).2.2.2.1.length<=50
   ·rw[qJA (by omega),qZ10 q2];rfl
   ·rw[qGA (by omega),qZ9 q2];rfl
  ·rw[qGA (by omega),qZ9 q1];rfl) (by
  unfold qEH
  simp only
  rw[qJA (by omega)])
 rw[qHM t qPE (fun n=>decide (n.2.2.1.length<=50)&&decide (n.2.2.2.1.length<=50)),show ((0:Nat):Int)=0 from rfl] at k4
 rcases k4.symm with ⟨a1,k,a2⟩ | ⟨a1,a2⟩
 ·rw[a2]
  simp only[qAA,qQC,qNC,qOA,qVA]
 rw[a2]
 simp only[qAA,qHB,qOA]
 have htS:qFg t:=fun n hn=>by
  have:=List.all_eq_true.1 a1 n hn
  simp only[qY0,decide_eq_true_eq] at this
  have h3:(qQT n).length<=50:=this.2
  omega
 have hloop:∀ (m i:Nat),i+m=env.length->(∀ b∈env.take i,SmallV b.2)->(∃ y,qPA qAF (t,env,l,false,(i:Int),())=some (.ret,(t,env,l,true,y)))\/((∀ b∈env,SmallV b.2)/\∃ y,qPA qAF (t,env,l,false,(i:Int),())=some (.exit 2,(t,env,l,false,y))):=by
  intro m
  induction m with
  |zero=>
   intro i hi hs
   rw[List.take_of_length_le (by omega)] at hs
   exact .inr ⟨hs,_,qUA (by unfold qAF;simp only;rw[qJA (by omega)]) (by simp)⟩
  |succ m ih=>
   intro i hi hs
   have hil:i < env.length:=by omega
   have hg:env.getD i qJU=env[i]:=by simp[qZ4,hil]
   rcases qUx (v:=env[i].2) with ⟨u,h⟩ | ⟨h,hsh,hfew⟩
   ·refine .inl ⟨_,qUA (y:=(t,env,l,true,(i:Int),())) ?_ (by simp)⟩
    unfold qAF
    simp only
    rw[qGA (by omega),qEA,qBA (by omega),qBA (by omega),qZ0,hg,h,qAA]
    simp only[qY1,qOA]
    rw[qXR,qAA]
   ·rw[qAB (y:=(t,env,l,false,((i+1:Nat):Int),())) (by
     unfold qAF
     simp only
     rw[qGA (by omega),qEA,qBA (by omega),qBA (by omega),qZ0,hg,h,qAA,w64 (by omega)]
     rfl)]
    refine ih (i+1) (by omega) fun b hb'=>?_
    rw[List.take_add_one,qZ5 hil,qZ7] at hb'
    rcases hb' with hb' | hb'
    ·exact hs b hb'
    ·simp at hb'
     rw[hb']
     exact ⟨⟨by have:=hsh.num;omega,fun s h=>by have:=hsh.keys s h;omega,fun s h=>by have:=hsh.vals s h;omega,hsh.few⟩,by omega⟩
 have h9:=hloop env.length 0 (by omega) (by simp)
 rw[show ((0:Nat):Int)=0 from rfl] at h9
 rcases h9 with ⟨y,hy⟩ | ⟨hsm,y,hy⟩
 ·rw[hy]
  simp only[qAA,qQC,qNC,qOA,qVA]
 ·rw[hy]
  simp only[qAA,qHB,qOA]
  obtain ⟨c1,n1,hc1⟩:=qHaj l
  obtain ⟨u,c3,t1,t2,t3⟩:=qNq hc1 (d:=2) (by omega)
  have t1':qRA big c1 2 VSg=some ((u,()),(c3,())):=t1
  have hul:u.length<=360:=by
   have h1:=t3.len
   have h2:gB 2=103:=rfl
   omega
  rw[qCd htS (by omega) hsm (by omega),qAA]
  simp only[qOA]
  rw[n1,qAA,qYab,qAA]
  simp only
  rw[t1',qAA]
  simp only
  rw[qCd t3.short hul hsm (by omega),qAA]
  simp only[qOA]
  rw[qXR,qAA]
end Go.AM.Num
end
section
namespace Go.AM.Num
open Go.Proofs Go.Proofs.YtmckcoeongfmhaaGreatDoor
theorem gPow : Tryz.prog.globalNamed "internal/strconv.uint64pow10" = some 0 := by kernel_rfl
theorem tPow:(Tryz.prog.globals[0]?).map (·.type)=some 313:=by kernel_rfl
theorem qAas {W:World} (h:W.ShapedOpen Tryz.prog):∃ m,W.cell? ⟨1,0,none⟩=some (.int .i64 m):=
 cell_of_shapedOpen_int (t:=3) (zero:=#[.int .i64 0]) h (of_decide_eq_true (by kernel_rfl)) (by kernel_rfl) rfl (by kernel_rfl) (by kernel_rfl) Tryz.underlying3
theorem qGaw {W:World} (hL:laidMetH Tryz.prog Rows.valueZeroRow.laid W) (hsh:W.ShapedOpen Tryz.prog):GN W:=by
 rw[MakeChecks.laidMetH_plain _ _ _ (by kernel_rfl)] at hL
 obtain ⟨ps,⟨g0,t0,cs0,f0,p0,q0,hg0,ht0,hv0,hd0,⟨g1,t1,cs1,f1,p1,q1,hg1,ht1,hv1,hd1,⟨g2,t2,cs2,f2,p2,q2,hg2,ht2,hv2,hd2,_⟩,_⟩,_⟩,_⟩:=hL
 obtain rfl:=Option.some.inj (gPow.symm.trans hg2)
 obtain rfl:=Option.some.inj (tPow.symm.trans ht2)
 refine ⟨qAas hsh,?_⟩
 have e:(Rows.laid_internal_strconv_uint64pow10:DataW Unit)=Lib.tabData .u64 Lib.pow10Tab:=by kernel_rfl
 rw[e] at hd2
 unfold Lib.TabIs
 rw[hv2,<-Lib.cells_of_tab Tryz.underlying313 Tryz.underlying231 (by kernel_rfl) (by kernel_rfl) hd2]
theorem qBar {w w':World} (h:GN w) (hb:∀ B,B < 2->w'.heap[B]?=w.heap[B]?):GN w':=by
 have hc:∀ B o,B < 2->w'.cell? ⟨B,o,none⟩=w.cell? ⟨B,o,none⟩:=fun B o hB=>by simp[World.cell?,hb B hB]
 refine ⟨?_,?_⟩
 ·rw[hc _ 0 (by decide)];exact h.maxLen
 ·have:=h.pow10
  unfold Lib.TabIs World.var? at this ⊢
  rw[gPow] at this ⊢
  simp only[Option.bind_some] at this ⊢
  rw[hb _ (by decide)]
  exact this
theorem qIap {w:World} (h:GN w):2<=w.heap.size:=by
 obtain ⟨m,hm⟩:=h.maxLen
 exact World.block_lt_of_cell? w ⟨1,0,none⟩ hm
end Go.AM.Num
end
section
namespace Go.AM.Num
open Go.Proofs
noncomputable def VN:Env where
 P:=Tryz.prog
 gb:=2
 G:=GN
 keep:=fun w w' h _ hb=>qBar h hb
 mixed:=by kernel_rfl
theorem f0:Fs Tryz.prog VN l0:=
 (((((((((((⟨rfl,qPaw⟩:Fs Tryz.prog VN []).cons (qEU rfl)).cons (qDT rfl (fun _ h=>h))).cons (qNU rfl)).cons (qBe rfl (fun _ h=>h))).cons (qFU rfl (fun _ h=>h))).cons (qPc rfl)).cons (qRZ rfl)).cons (qTa rfl)).cons (qPY rfl)).cons (qCU rfl))
end Go.AM.Num
end
section
namespace Go.AM.Num
open Go.Proofs Go.Proofs.YtmckcoeongfmhaaGreatDoor Go.RowKit Go.ChangeShapes Go.WideShapes Go.ChangeAt
theorem qOab {k:FuncId} {ps:List PK} {g:qKH ps->Option (qKH [.val .bool]×qBg ps)} (hG:Good VN k ⟨ps,[.val .bool],g⟩) (x:qKH ps) (hin:qPB ps x=[]) (hk:cntK ps=0) (o:qBg ps) (hx:g x=some ((true,()),o))
 (W:World) (hW:GN W) (vs:Array Value) (ha:RelL (rdW W) (fun B=>B < W.heap.size) (fun _=>none) (qMB ps x 0 0) vs.toList) :
 Calls Tryz.prog k vs W fun e w'=>e=.returned (.bool true)/\Below W.heap.size W w':=by
 refine Calls.mono (hG.spec x _ o hx W (fun B=>B < W.heap.size) (fun _=>none) vs hW (qIap hW) ?_ ?_) ?_
 ·rw[hin];exact qWaq fun _ h=>h
 ·rw[hk];exact ha
 ·rintro e w' ⟨us,I',β',rfl,hf,_,hr⟩
  obtain rfl:us=[.bool true]:=by
   have:qFT ps [.val .bool] (true,())=[.bool true]:=rfl
   rw[this] at hr
   simp only[RelL,RelV] at hr
   obtain ⟨u,us',rfl,rfl,rfl⟩:=hr
   rfl
  refine ⟨rfl,hf.os,hf.tape,hf.output,hf.size,fun B hB=>hf.block B hB ?_⟩
  rw[hin]
  exact qCT B
def IL (l:List Int):Prop:=l.length<=9223372036854775807/\∀ x∈l,qPz x
def SL (s:qBs):Prop:=s.length<=9223372036854775807
theorem qHar {n:Int} (h:(Lit.int .i64 n).wf=true):qPz n:=by
 simp only[Lit.wf,qY0,decide_eq_true_eq] at h
 exact h
theorem qBaw {l:List Int} (h:l.length<=maxLen) (hw:∀ x∈l,(Lit.int .i64 x).wf=true):IL l:=⟨by unfold maxLen at h;omega,fun x hx=>qHar (hw x hx)⟩
theorem qLav {s:ByteArray} (h:s.size<=maxLen):SL s.data.toList:=by unfold SL;unfold maxLen at h;have:=Lib.size_eq s;omega
section
variable {H:Type} {enc:TypeId×Value->H} {W:World} {I:Nat->Prop} {rd:Nat->Nat->Option Value} {β:Nat->Option Place}
theorem qSas:RelL rd I β (qMB [] () 0 0) []:=by simp only[qMB,RelL]
theorem qLu {t:GT} {ps:List PK} {x:t.ty} {y:qKH ps} {v:Value} {vs:List Value} (h:RelV rd I β (Go.AM.enc t x) v) (r:RelL rd I β (qMB ps y 0 0) vs):RelL rd I β (qMB (.val t::ps) (x,y) 0 0) (v::vs):=by
 simp only[qMB,RelL]
 exact ⟨v,vs,rfl,h,r⟩
theorem qSr (a:Addr) (i:Nat) (h:a.spot=none):a.add i=⟨a.block,a.off+i,none⟩:=by
 obtain ⟨b,o,s⟩:=a
 simp only at h;subst h
 simp[Addr.add]
theorem qOap {t e:TypeId} {k:IntKind} {a:Option Addr} {len cap:Nat} {d:DataW H} {p:List MemPlace} (ht:Tryz.prog.underlying t=some (.slice e)) (he:Tryz.prog.underlying e=some (.int k)) (hc:Tryz.prog.cellsOf e=1) (h:DataW.Trod enc Tryz.prog W 0 (fun _=>true) true t (.slice a len cap) d p) :
 ∃ l:List Int,l.length=len/\len<=maxLen/\(∀ x∈l,(Lit.int k x).wf=true)/\TV (rdW W) (fun B=>B < W.heap.size) (.sl (.int k)) l (.slice a len cap):=by
 obtain ⟨fuel,hf⟩:=h
 rcases open_ints ht he hc hf with ⟨hcs,_⟩ | ⟨x,l,c,zs,hcs,_,hl,hm,hz,_,hcell,hwz⟩
 ·simp[Value.cells] at hcs
  obtain ⟨rfl,rfl,rfl⟩:=hcs
  refine ⟨[],rfl,Nat.zero_le _,by simp,?_⟩
  simp only[TV,GT.isAgg,RelC]
  exact ⟨none,0,rfl,Nat.le_refl _,fun h=>absurd rfl h⟩
 ·simp[Value.cells] at hcs
  obtain ⟨rfl,rfl,rfl⟩:=hcs
  simp only[if_true] at hz
  have hzl:zs.length=cap:=by simpa using hz
  refine ⟨zs.take len,by simp;omega,by omega,fun y hy=>hwz y (List.mem_of_mem_take hy),?_⟩
  have hg:∀ i,i < zs.length->W.cell? (x.add i)=some (.int k (zs.getD i 0)):=hcell
  simp only[TV,GT.isAgg,RelC]
  refine ⟨some x,cap,by simp;omega,by simp;omega,fun hne=>?_⟩
  have hpos:0 < zs.length:=by
   have:zs.take len≠[]:=hne
   rcases zs with _ | ⟨z,zs⟩
   ·simp at this
   ·simp
  have hspot:x.spot=none:=by simpa [Addr.add] using World.cell?_spot (hg 0 hpos)
  have hat:∀ i,i < zs.length->W.cell? ⟨x.block,x.off+i,none⟩=some (.int k (zs.getD i 0)):=fun i hi=>by
   rw[<-qSr x i hspot];exact hg i hi
  refine ⟨x.block,x.off,by obtain ⟨b,o,s⟩:=x;simp only at hspot;subst hspot;rfl,World.block_lt_of_cell? W ⟨x.block,x.off+0,none⟩ (hat 0 hpos),fun i z hi=>?_⟩
  have hi1:i < zs.length:=by
   have:=(List.getElem?_eq_some_iff.1 hi).1
   simp at this;omega
  have hzi:zs.getD i 0=z:=by
   rw[List.getElem?_take] at hi
   split at hi
   ·rw[qZ4,hi];rfl
   ·cases hi
  refine ⟨[.int k z],rfl,fun j hj=>?_,rfl⟩
  have:j=0:=by simp[GT.cells] at hj;omega
  subst this
  have:=hat i hi1
  rw[hzi] at this
  have h2:=qCY this rfl
  simpa [GT.cells] using h2
end
noncomputable def qUU (os:Os):World:=
 { World.doorLaid Tryz.prog 400 os with heap:=(World.doorLaid Tryz.prog 400 os).heap.modify 6 fun
  |.cells _ t frozen=>.cells (Go.Pinned.utf8FirstZ.map fun n=>Value.int .u8 (n:Nat)).toArray t frozen
  |o=>o }
set_option maxRecDepth 100000 in
theorem qMaj (os:Os) (args:Array Value):laidMet Tryz.prog Rows.valueZeroRow.laid ((qUU os).forCall (fun _ _=>0) ⟨#[],args,[]⟩).memory:=
 laidMet_of_run' 8 (by kernel_rfl) (by kernel_rfl)
theorem qDaj (os:Os) (args:Array Value):(((qUU os).forCall (fun _ _=>0) ⟨#[],args,[]⟩).variablesRefB Tryz.prog)=true:=by kernel_rfl
theorem qOah (os:Os) (args:Array Value):((((qUU os).forCall (fun _ _=>0) ⟨#[],args,[]⟩).heap.toList.drop Tryz.prog.globals.size).take ((begin Tryz.prog (fun _ _=>0) default).world.heap.size - Tryz.prog.globals.size) =
 (begin Tryz.prog (fun _ _=>0) default).world.heap.toList.drop Tryz.prog.globals.size):=by kernel_rfl
theorem own:ownKnob Tryz.prog.godebug=none:=by kernel_rfl
theorem qRs:laidOutB Tryz.prog=true:=by kernel_rfl
end Go.AM.Num
end
section
set_option maxRecDepth 10000
namespace Go.AM.Num
open Go.Proofs Go.Proofs.YtmckcoeongfmhaaGreatDoor Go.RowKit Go.ChangeShapes Go.WideShapes Go.ChangeAt
def Inb:(T:GT)->T.ty->Prop
 |.int k,n=>(Lit.int k n).wf=true
 |.str,s=>List.length s<=9223372036854775807
 |.sl e,l=>List.length l<=9223372036854775807/\∀ x∈(l:List e.ty),Inb e x
 |.pair a b,x=>Inb a x.1/\Inb b x.2
 |_,_=>True
def qWq (T:GT) (t:TypeId):Prop:=∀ (H:Type) (enc:TypeId×Value->H) (W:World) (fuel:Nat) (cs:List Value) (x:DataW H×List MemPlace),DataW.trod enc Tryz.prog W 0 (fun _=>true) true fuel t cs=some x->
 ∃ v:T.ty,RelC (rdW W) (fun B=>B < W.heap.size) T v cs/\Inb T v
theorem qVas {k:IntKind} {t:TypeId} (ht:Tryz.prog.underlying t=some (.int k)):qWq (.int k) t:=fun H enc W fuel cs x h=>by
 obtain ⟨n,rfl,_,hw⟩:=DataW.trod_int ht h
 exact ⟨n,by simp only[RelC],hw⟩
theorem qQar {t:TypeId} (ht:Tryz.prog.underlying t=some .bool):qWq .bool t:=fun H enc W fuel cs x h=>by
 obtain ⟨n,rfl,_⟩:=DataW.trod_bool ht h
 exact ⟨n,by simp only[RelC],trivial⟩
theorem qJp {t:TypeId} (ht:Tryz.prog.underlying t=some .string):qWq .str t:=fun H enc W fuel cs x h=>by
 obtain ⟨s,rfl,_,hs⟩:=DataW.trod_string ht h
 refine ⟨s.data.toList,by simp only[RelC];exact ⟨s,rfl,rfl⟩,?_⟩
 have:=qLav hs
 exact this
theorem qMaq {α:Type} {P:Nat->α->Prop}:∀ n,(∀ i,i < n->∃ v,P i v)->∃ l:List α,l.length=n/\∀ i x,l[i]?=some x->P i x:=by
 intro n
 induction n with
 |zero=>exact fun _=>⟨[],rfl,fun i x h=>by simp at h⟩
 |succ n ih=>
  intro h
  obtain ⟨l,hl,hP⟩:=ih fun i hi=>h i (by omega)
  obtain ⟨v,hv⟩:=h n (by omega)
  refine ⟨l++[v],by simp[hl],fun i x hx=>?_⟩
  rcases Nat.lt_or_ge i l.length with h1 | h1
  ·rw[qY8 h1] at hx;exact hP i x hx
  ·rw[qY9 h1] at hx
   obtain ⟨h2,h3⟩:=List.getElem?_eq_some_iff.1 hx
   simp at h2 h3
   obtain rfl:i=n:=by omega
   rw[<-h3];exact hv
theorem qPaq {E:GT} {t e:TypeId} (ht:Tryz.prog.underlying t=some (.slice e)) (hc:Tryz.prog.cellsOf e=E.cells) (hp:0 < E.cells) (hE:qWq E e):qWq (.sl E) t:=fun H enc W fuel cs x h=>by
 rcases DataW.trod_slice ht h with ⟨rfl,_⟩ | ⟨a,len,cap,elems,rest,n,_,rfl,_,_,hl,hm,hlen,hel,_,_⟩
 ·refine ⟨[],?_,?_⟩
  ·simp only[RelC];exact ⟨none,0,rfl,Nat.le_refl _,fun h=>absurd rfl h⟩
  ·exact ⟨Nat.zero_le _,fun x hx=>absurd hx qY16⟩
 ·have each:∀ i,i < len->∃ v:E.ty,(∃ us:List Value,us.length=E.cells/\(∀ j,j < E.cells->W.cell? ((a.add (i * E.cells)).add j)=us[j]?)/\RelC (rdW W) (fun B=>B < W.heap.size) E v us)/\Inb E v:=by
   intro i hi
   have hb:=hel i hi
   rw[qZ5 (by omega),Option.bind_eq_some_iff] at hb
   obtain ⟨us,h1,h2⟩:=hb
   obtain ⟨v,hv,hi'⟩:=hE H enc W n us _ h2
   obtain ⟨_,q1,q2⟩:=World.cells?_some h1
   rw[hc] at q1 q2
   exact ⟨v,⟨us,q1,q2,hv⟩,hi'⟩
  obtain ⟨l,hll,hP⟩:=qMaq len each
  refine ⟨l,?_,⟨by unfold maxLen at hm;omega,fun x hx=>?_⟩⟩
  ·simp only[RelC]
   refine ⟨some a,cap,by rw[hll],by omega,fun hne=>?_⟩
   have h0:0 < l.length:=List.length_pos_iff.2 hne
   obtain ⟨⟨us,u1,u2,u3⟩,_⟩:=hP 0 l[0] (qZ5 h0)
   have hu:=u2 0 hp
   rw[qZ5 (by omega)] at hu
   have hspot:a.spot=none:=by simpa [Addr.add] using World.cell?_spot hu
   have hblk:a.block < W.heap.size:=by simpa [Addr.add] using World.block_lt_of_cell? W _ hu
   refine ⟨a.block,a.off,by obtain ⟨b,o,s⟩:=a;simp only at hspot;subst hspot;rfl,hblk,fun i x hx=>?_⟩
   obtain ⟨⟨us,u1,u2,u3⟩,_⟩:=hP i x hx
   refine ⟨us,u1,fun j hj=>?_,u3⟩
   have hj':=u2 j hj
   have e:(a.add (i * E.cells)).add j=⟨a.block,a.off+i * E.cells+j,none⟩:=by rw[qSr _ _ hspot,qSr _ _ rfl]
   rw[e,qZ5 (by omega)] at hj'
   rw[qZ5 (by omega)]
   exact qCY hj' (qWF E x us u3 _ (List.getElem_mem _))
  ·obtain ⟨i,hi⟩:=List.getElem?_of_mem hx
   exact (hP i x hi).2
inductive RdFs:GT->List Field->Nat->Prop
 |one {T:GT} {f:Field} {o:Nat} (ho:f.offset=o) (hc:Tryz.prog.cellsOf f.type=T.cells) (h:qWq T f.type):RdFs T [f] o
 |cons {a b:GT} {f:Field} {fs:List Field} {o:Nat} (ho:f.offset=o) (hc:Tryz.prog.cellsOf f.type=a.cells) (h:qWq a f.type) (r:RdFs b fs (o+a.cells)):RdFs (.pair a b) (f::fs) o
theorem qQav {T:GT} {fs:List Field} {o:Nat} (h:RdFs T fs o):∀ {H:Type} {enc:TypeId×Value->H} {W:World} {n:Nat} {cs:List Value} {xs:List (DataW H×List MemPlace)},cs.length=o+T.cells->xs.length=fs.length->
 (∀ (i:Nat) (f:Field),fs[i]?=some f->DataW.trod enc Tryz.prog W 0 (fun _=>true) true n f.type ((cs.drop f.offset).take (Tryz.prog.cellsOf f.type))=xs[i]?)->
 ∃ v:T.ty,RelC (rdW W) (fun B=>B < W.heap.size) T v (cs.drop o)/\Inb T v:=by
 induction h with
 |one ho hc h=>
  intro H enc W n cs xs hl hx ht
  have h0:=ht 0 _ rfl
  rw[ho,hc,List.take_of_length_le (by simp;omega),qZ5 (by simp at hx;omega)] at h0
  exact h H enc W n _ _ h0
 |cons ho hc h r ih=>
  intro H enc W n cs xs hl hx ht
  simp only[GT.cells] at hl
  have h0:=ht 0 _ rfl
  rw[ho,hc,qZ5 (by simp at hx;omega)] at h0
  obtain ⟨v1,r1,i1⟩:=h H enc W n _ _ h0
  cases xs with
  |nil=>simp at hx
  |cons y ys=>
   obtain ⟨v2,r2,i2⟩:=ih (cs:=cs) (xs:=ys) (by omega) (by simpa using hx) fun i f hf=>by
    have:=ht (i+1) f (by simpa using hf)
    simpa using this
   refine ⟨(v1,v2),?_,i1,i2⟩
   simp only[RelC]
   refine ⟨_,_,?_,r1,r2⟩
   rw[<-List.drop_drop,List.take_append_drop]
theorem qXap {T:GT} {t:TypeId} {fs:Array Field} (ht:Tryz.prog.underlying t=some (.struct fs)) (hc:Tryz.prog.cellsOf t=T.cells) (h:RdFs T fs.toList 0):qWq T t:=fun H enc W fuel cs x hx=>by
 obtain ⟨xs,n,_,_,h1,h2,h3⟩:=DataW.trod_struct ht hx
 have:=qQav h (enc:=enc) (W:=W) (n:=n) (cs:=cs) (xs:=xs) (by omega) (by simpa using h2) fun i f hf=>h3 i f (by simpa using hf)
 simpa using this
theorem qLan {T:GT} {t:TypeId} (h:qWq T t) {H:Type} {enc:TypeId×Value->H} {W:World} {v:Value} {d:DataW H} {p:List MemPlace} (hd:DataW.Trod enc Tryz.prog W 0 (fun _=>true) true t v d p)
 (hT:T.isAgg=false) (hv:v.cells.toList=[v]):∃ x:T.ty,Inb T x/\TV (rdW W) (fun B=>B < W.heap.size) T x v:=by
 obtain ⟨fuel,hf⟩:=hd
 obtain ⟨x,hx,hi⟩:=h H enc W fuel _ _ hf
 refine ⟨x,hi,?_⟩
 unfold TV
 rw[if_neg (by rw[hT];decide)]
 rw[hv] at hx;exact hx
end Go.AM.Num
end
section
namespace Go.AM.Num
open Go.Proofs Go.Proofs.YtmckcoeongfmhaaGreatDoor Go.RowKit Go.ChangeShapes Go.WideShapes Go.ChangeAt
theorem qYah:qWq (.sl .str) 22:=qPaq Tryz.underlying22 (by kernel_rfl) (by decide) (qJp Tryz.underlying9)
theorem qKv:qWq (.int .i64) 3:=qVas Tryz.underlying3
theorem qPat:qWq qBE 24:=qXap Tryz.underlying24 (by kernel_rfl)
 (.cons rfl (by kernel_rfl) qKv (.cons rfl (by kernel_rfl) (qQar Tryz.underlying4) (.cons rfl (by kernel_rfl) (qJp Tryz.underlying9) (.cons rfl (by kernel_rfl) qYah (.one rfl (by kernel_rfl) qYah)))))
theorem qRaq:qWq qTG 54:=qXap Tryz.underlying54 (by kernel_rfl)
 (.cons rfl (by kernel_rfl) qKv (.cons rfl (by kernel_rfl) qKv (.cons rfl (by kernel_rfl) (qJp Tryz.underlying9) (.cons rfl (by kernel_rfl) (qJp Tryz.underlying9) (.one rfl (by kernel_rfl) qKv)))))
theorem qIaq:qWq (.sl qTG) 31:=qPaq Tryz.underlying31 (by kernel_rfl) (by decide) qRaq
theorem qAao:qWq qQN 50:=qXap Tryz.underlying50 (by kernel_rfl)
 (.cons rfl (by kernel_rfl) (qJp Tryz.underlying9) (.one rfl (by kernel_rfl) qPat))
theorem qTak:qWq (.sl qQN) 47:=qPaq Tryz.underlying47 (by kernel_rfl) (by decide) qAao
end Go.AM.Num
end
section
set_option linter.unusedVariables false
namespace Go.AM.Num
theorem qXi (t:List Nod) (ht:Inb (.sl qTG) t) (env:List qEK) (he:Inb (.sl qQN) env) (l:List Int) (hl:IL l):qHN t env l=some ((true,()),()):=qAv t env l
end Go.AM.Num
end
