/- Law ValueEval of the values: a machine of plain values, what the program's functions compute in it, and what that is. No condition beyond what the statement says. -/
import Derived.Test.YtmckcoeongfmhaaGreatDoorValueEval7
import Derived.Test.YtmckcoeongfmhaaGreatDoorValueEval3
import Derived.Test.YtmckcoeongfmhaaGreatDoorValueEval5
import Derived.Test.YtmckcoeongfmhaaGreatDoorRows
import Derived.Shelf.Vars
import Derived.Lib.LaidTab
import Derived.ProofKit
import Derived.MakeChecks
import Derived.OpenShut
import Derived.Lib.Strings
import Derived.SliceStrings
import Derived.SizedLaws
import Derived.Test.YtmckcoeongfmhaaGreatDoorCards
import Derived.Test.YtmckcoeongfmhaaGreatDoorTie
import Derived.ShutString
import Derived.ChangeOld
import Derived.Below
import Derived.LaidMore
import Derived.Deep.DeepHandedRow
import Derived.Deep.DeepWitnessRowRef
import GoSem.PinnedTables
set_option linter.unusedSimpArgs false
set_option linter.unusedVariables false
section
namespace Go.AM.Num
open Tf
theorem qPah (kids:List (List Nod)) (hl:kids.length<=1000):∀ (m i:Nat) (t:List Nod),i+m=kids.length->t.length+(kids.drop i).flatten.length<=100000->
 qPA qTU (kids,t,(i:Int),())=some (.exit 0,(kids,t++(kids.drop i).flatten,(kids.length:Int),())):=by
 intro m
 induction m with
 |zero=>
  intro i t hi _
  have e:kids.drop i=[]:=qY7 (by omega)
  rw[e]
  refine qTA ?_ (by simp)
  unfold qTU
  simp only
  have:i=kids.length:=by omega
  rw[qNA (by omega),this]
  simp
 |succ m ih=>
  intro i t hi hb
  have hil:i < kids.length:=by omega
  have hd:=qY6 hil
  have hg:kids.getD i []=kids[i]:=by simp[qZ4,hil]
  rw[hd] at hb ⊢
  simp only[List.flatten_cons,qZ6] at hb
  rw[qAB (y:=(kids,t++kids[i],((i+1:Nat):Int),())) (by
   unfold qTU
   simp only
   rw[qIA (by omega),qEA,qBA (by omega),qBA (by omega),qZ0,hg,qBA (by simp only[qCF];omega),w64 (by omega)]
   rfl)]
  rw[ih (i+1) _ (by omega) (by simp only[qZ6];omega)]
  simp only[List.flatten_cons,qZ1]
theorem qSl {n:Nod} {kids:List (List Nod)} (hl:kids.length<=1000) (hb:kids.flatten.length<=90000):qWd n kids=some (((n.1,n.2.1,n.2.2.1,n.2.2.2.1,(kids.length:Int))::kids.flatten,()),()):=by
 unfold qWd
 have:=qPah kids hl kids.length 0 [(n.1,n.2.1,n.2.2.1,n.2.2.2.1,(kids.length:Int))] (by omega) (by simp only[List.drop_zero,qY11,List.length_nil];omega)
 rw[show ((0:Nat):Int)=0 from rfl] at this
 rw[this]
 simp only[qAA,qJB,qOA,List.drop_zero]
 rfl
theorem qVQ.len {VS:List Vr} {ss:List Int} {N d:Nat} {l:List Nod} (h:qVQ VS ss N d l):l.length<=N:=by
 obtain ⟨K,hK⟩:=h
 rw[<-hK.flat,qNC];exact hK.size
theorem qVQ.sub {VS:List Vr} {ss:List Int} {N d:Nat} {l:List Nod} (h:qVQ [] ss N d l):qVQ VS ss N d l:=by
 obtain ⟨K,hK⟩:=h
 exact ⟨K,hK.flat,hK.wf,hK.srt,hK.nz,hK.sh,hK.size,hK.dep,fun x hx h4=>absurd (hK.vars x hx h4) qY16,hK.noap⟩
theorem qLg {o k:Int} (h:1<=o/\o<=20) (h':o≠3/\o≠4/\o≠5/\o≠16/\o≠17):qRC ((o,0,[],[],k):Nod)=true:=by
 unfold qRC
 simp only[nOp,qHG,qDP,qAU]
 rw[if_neg (by omega),if_neg (by omega),if_neg (by omega),qZ10 h]
 rfl
theorem qDV {VS:List Vr} {ss:List Int} {N d:Nat} {kids:List (List Nod)} {o s:Int} (hK:qVQ VS ss N d kids.flatten) (hl:kids.length=ss.length) (h1000:kids.length<=1000) (hN:N<=50000) (h:1<=o/\o<=20) (h':o≠3/\o≠4/\o≠5/\o≠16/\o≠17)
 (hc:qXA o ss.length=true) (hs:qCD ((o,0,[],[],(ss.length:Int)):Nod) (kids.flatten.getD 0 qHF).1 ss=s) (hz:s≠0):∃ t,qEe o kids=some ((t,()),())/\qVQ VS [s] (N+1) (d+1) t:=by
 refine ⟨(o,0,[],[],(kids.length:Int))::kids.flatten,?_,?_⟩
 ·unfold qEe
  rw[qSl h1000 (by have:=hK.len;omega),qAA]
 ·rw[hl]
  exact hK.node (qLg h h') hc rfl hs hz (by simp[qAU]) (fun e=>absurd e h'.2.1) h'.2.2.1
theorem qCao {d:Int} {P:KV} (hP:P.length<=100) (hs:∀ p∈P,(ti p.1).length<=73/\(ti p.2).length<=73):∀ (m i:Nat) (t:List Nod),i+m=P.length->qVQ [] [4] (2+3 * i) (2+i) t->
 ∃ t',qPA qDH (qJH d P,([]:List Nod),0,t,(i:Int),())=some (.exit 1,(qJH d P,([]:List Nod),0,t',(P.length:Int),()))/\qVQ [] [4] (2+3 * P.length) (2+P.length) t':=by
 intro m
 induction m with
 |zero=>
  intro i t hi hg
  have:i=P.length:=by omega
  refine ⟨t,qTA ?_ (by simp),by rw[<-this];exact hg⟩
  unfold qDH
  simp only
  rw[qNA (by rw[qEE];omega),this]
 |succ m ih=>
  intro i t hi hg
  have hil:i < P.length:=by omega
  have hp:=hs _ (List.getElem_mem hil)
  have hlen:=hg.len
  have hk:=((hg.app ((qNg hp.1).mono (Nat.le_refl _) (show 1<=2+i by omega))).app ((qNg hp.2).mono (Nat.le_refl _) (show 1<=2+i by omega)))
  have hfl:[t,[((3:Int),(2:Int),([]:qBs),ti P[i].1,(0:Int))],[((3:Int),(2:Int),([]:qBs),ti P[i].2,(0:Int))]].flatten=t++[((3:Int),(2:Int),([]:qBs),ti P[i].1,(0:Int))]++[((3:Int),(2:Int),([]:qBs),ti P[i].2,(0:Int))]:=by simp
  have hj:=qSl (n:=((19:Int),(0:Int),([]:qBs),([]:qBs),(0:Int))) (kids:=[t,[((3:Int),(2:Int),([]:qBs),ti P[i].1,(0:Int))],[((3:Int),(2:Int),([]:qBs),ti P[i].2,(0:Int))]]) (by simp) (by simp;omega)
  rw[hfl] at hj
  have hn:=hk.node (n:=((19:Int),(0:Int),([]:qBs),([]:qBs),(3:Int))) (s:=4) (qLg (by omega) (by omega)) rfl rfl (by simp[qCD,nOp]) (by omega) (by simp[qAU]) (fun e=>by simp[nOp] at e) (by simp[nOp])
  obtain ⟨t',h1,h2⟩:=ih (i+1) _ (by omega) (hn.mono (show 2+3 * i+1+1+1<=2+3 * (i+1) by omega) (show 2+i+1<=2+(i+1) by omega))
  refine ⟨t',?_,h2⟩
  rw[qAB (y:=(qJH d P,([]:List Nod),0,_,((i+1:Nat):Int),())) (by
   unfold qDH
   simp only
   rw[qIA (by rw[qEE];omega),qNA (by omega),qEA,qBA (by omega),qBA (by rw[qEE];omega),qZ0,qTT hil,qXY hil]
   unfold qWO
   rw[qAA,qEA,qBA (by omega),qBA (by rw[qRI];omega),qAA]
   simp only
   rw[hj,qAA,w64 (by omega)]
   rfl)]
  exact h1
def qMar (v:SV):Prop:=okS v/\match v with
 |.b _=>True
 |.z n=>(ti n).length<=73
 |.q r=>(txt r).length<=73
 |.a d P=>(ti d).length<=73/\(∀ p∈P,(ti p.1).length<=73/\(ti p.2).length<=73)/\P.length<=100
def qTX:SV->Nat
 |.a _ P=>P.length
 |_=>0
theorem qJah {v:SV} (h:qMar v):Short 73 (encS v):=by
 obtain ⟨h1,h2⟩:=h
 cases v with
 |b x=>exact ⟨by simp[encS],fun s hs=>by simp[encS] at hs,fun s hs=>by simp[encS] at hs,by simp[encS]⟩
 |z n=>exact ⟨h2,fun s hs=>by simp[encS] at hs,fun s hs=>by simp[encS] at hs,by simp[encS]⟩
 |q r=>exact ⟨h2,fun s hs=>by simp[encS] at hs,fun s hs=>by simp[encS] at hs,by simp[encS]⟩
 |a d P=>
  obtain ⟨a1,a2,a3⟩:=h2
  exact (Sm.short (N:=73) ⟨a1,a2,by omega⟩)
theorem qLj {v:SV} (h:qMar v):∃ t,qHJ (encS v)=some ((t,0,()),())/\qVQ [] [qWE v] (2+3 * qTX v) (2+qTX v) t:=by
 have hsh:=qJah h
 obtain ⟨h1,h2⟩:=h
 have hval:=qSS (N:=73) (by omega) hsh
 rw[qGg h1] at hval
 unfold qHJ
 rw[hval,qAA]
 simp only[qY2,qWA]
 cases v with
 |b x=>
  cases x
  ·exact ⟨_,rfl,qWo.mono (by simp[qTX]) (by simp[qTX])⟩
  ·exact ⟨_,rfl,qVv.mono (by simp[qTX]) (by simp[qTX])⟩
 |z n=>exact ⟨_,rfl,(qNg h2).mono (by simp[qTX]) (by simp[qTX])⟩
 |q r=>exact ⟨_,rfl,(qXac h2).mono (by simp[qTX]) (by simp[qTX])⟩
 |a d P=>
  obtain ⟨a1,a2,a3⟩:=h2
  have hk:=(qNg (VS:=[]) a1).node (n:=((20:Int),(0:Int),([]:qBs),([]:qBs),(1:Int))) (s:=4) (qLg (by omega) (by omega)) rfl rfl (by simp[qCD,nOp]) (by omega) (by simp[qAU]) (fun e=>by simp[nOp] at e) (by simp[nOp])
  obtain ⟨t',e1,e2⟩:=qCao (d:=d) a3 a2 P.length 0 _ (by omega) (hk.mono (by omega) (by omega))
  obtain ⟨F,hF⟩:=e2
  have hvt:=qCau ⟨fun v h=>absurd h qY16,fun v h=>absurd h qY16⟩ hF (by omega) (by omega)
  obtain ⟨b,b1,b2⟩:=qCX (t:=t') fun n hn=>by have:=hF.sh n hn;omega
  have hb:b=true:=b2.2 ⟨F,hvt⟩
  have e:encS (.a d P)=qJH d P:=rfl
  rw[e]
  simp only
  rw[qDA (by omega),qDA (by omega),qDA (by omega)]
  unfold qWO
  simp only[qAA]
  have hj:=qSl (n:=((20:Int),(0:Int),([]:qBs),([]:qBs),(0:Int))) (kids:=[[((3:Int),(2:Int),([]:qBs),ti d,(0:Int))]]) (by simp) (by simp)
  rw[hj,qAA]
  rw[show ((0:Nat):Int)=0 from rfl] at e1
  have e1':qPA qDH (qJH d P,([]:List Nod),0,(((20:Int),(0:Int),([]:qBs),([]:qBs),(([[((3:Int),(2:Int),([]:qBs),ti d,(0:Int))]].length:Nat):Int)):Nod)::[[((3:Int),(2:Int),([]:qBs),ti d,(0:Int))]].flatten,0,())=some (.exit 1,(qJH d P,([]:List Nod),0,t',(P.length:Int),())):=e1
  rw[e1']
  simp only[qAA,qJB,qOA]
  rw[b1,qAA,hb]
  exact ⟨t',rfl,⟨F,hF⟩⟩
theorem qLy {c:List Int×Int} (hc:CI c) {s:Int} (hs:1<=s/\s<=4):∃ v c',qJF c s=some ((encS v,()),(c',()))/\CI c'/\qWE v=s/\qMar v/\qTX v<=1:=by
 have hf:∀ r:Int,-10<=r/\r<=10->qNG r=some ((ti r,()),())/\(ti r).length<=73:=fun r h=>by
  refine ⟨qBJ ⟨by omega,by omega⟩,?_⟩
  have:=qXD (r:Rat)
  have:=qLX (n:=r) (by omega)
  unfold ti;omega
 unfold qJF
 by_cases h1:s=1
 ·obtain ⟨r,c',n1,n2,n3,n4⟩:=qAC hc (n:=2) (by omega)
  rw[qFA h1,n1,qAA,h1]
  exact ⟨.b (r==1),c',rfl,n2,rfl,⟨trivial,trivial⟩,by simp[qTX]⟩
 rw[qDA h1]
 by_cases h4:s=4
 ·obtain ⟨r1,c1,a1,a2,a3,a4⟩:=qAC hc (n:=3) (by omega)
  obtain ⟨r2,c2,b1,b2,b3,b4⟩:=qAC a2 (n:=3) (by omega)
  obtain ⟨r3,c3,d1,d2,d3,d4⟩:=qAC b2 (n:=3) (by omega)
  rw[qFA h4,a1,qAA,(hf r1 (by omega)).1,qAA,b1,qAA,(hf r2 (by omega)).1,qAA,d1,qAA,(hf r3 (by omega)).1,qAA,h4]
  have hst:=qKg (N:=73) (by omega) (d:=r1) (i:=r2) (n:=r3) (qMb r1) (qJai (hf r1 (by omega)).2) (hf r2 (by omega)).2 (hf r3 (by omega)).2
  have e:(qJH r1 []:Val)=((4:Int),false,ti r1,([]:List qBs),([]:List qBs)):=rfl
  rw[e] at hst
  simp only
  rw[hst,qAA]
  have hlen:=qHu (d:=r1) (i:=r2) (n:=r3) (P:=[]) List.Pairwise.nil
  have hsm:=qJan (N:=73) (d:=r1) (i:=r2) (n:=r3) (P:=[]) List.Pairwise.nil (qJai (hf r1 (by omega)).2) (hf r2 (by omega)).2 (hf r3 (by omega)).2 (by simp)
  refine ⟨.a r1 (stP r1 [] r2 r3),c3,rfl,d2,rfl,⟨qBg (qMb r1) r2 r3,hsm.num,hsm.els,?_⟩,?_⟩
  ·simp at hlen;omega
  ·simpa [qTX] using hlen
 ·rw[qDA h4]
  obtain ⟨r,c',n1,n2,n3,n4⟩:=qAC hc (n:=6) (by omega)
  rw[n1,qAA]
  simp only
  rw[w64 (by omega),(hf (r - 2) (by omega)).1,qAA]
  by_cases h2:s=2
  ·rw[h2]
   exact ⟨.z (r - 2),c',rfl,n2,rfl,⟨trivial,(hf (r - 2) (by omega)).2⟩,by simp[qTX]⟩
  ·have h3:s=3:=by omega
   rw[h3]
   exact ⟨.q ((r - 2:Int):Rat),c',rfl,n2,rfl,⟨trivial,(hf (r - 2) (by omega)).2⟩,by simp[qTX]⟩
def qDM (VS:List Vr) (c:List Int×Int) (s:Int) (N d:Nat) (r:Option (((List Nod)×Unit)×(qCA×Unit))):Prop:=∃ t c',r=some ((t,()),(c',()))/\CI c'/\qVQ VS [s] N d t
theorem qLx {VS:List Vr} {c:List Int×Int} (hc:CI c) {s:Int} (hs:1<=s/\s<=4):qDM VS c s 5 3 ((qJF c s).bind fun r2=>(qHJ r2.1.1).bind fun r3=>some ((r3.1.1,()),r2.2.1,())):=by
 obtain ⟨v,c',h1,h2,h3,h4,h5⟩:=qLy hc hs
 obtain ⟨t,t1,t2⟩:=qLj h4
 rw[h1,qAA,t1,qAA]
 rw[h3] at t2
 exact ⟨t,c',rfl,h2,(t2.mono (by omega) (by omega)).sub⟩
theorem qBak {c:List Int×Int} {VS:List Vr} {s:Int} (hl:VS.length<=1000):∀ (m i:Nat) (l:List Vr),i+m=VS.length->l.length<=i->
 qPA qOD (c,s,VS,l,(i:Int),())=some (.exit 0,(c,s,VS,l++(VS.drop i).filter (fun v=>decide (v.2=s)),(VS.length:Int),())):=by
 intro m
 induction m with
 |zero=>
  intro i l hi _
  have e:VS.drop i=[]:=qY7 (by omega)
  rw[e]
  refine qTA ?_ (by simp)
  unfold qOD
  simp only
  have:i=VS.length:=by omega
  rw[qNA (by omega),this]
  simp
 |succ m ih=>
  intro i l hi hb
  have hil:i < VS.length:=by omega
  have hd:=qY6 hil
  have hg:VS.getD i zVr=VS[i]:=by simp[qZ4,hil]
  rw[hd]
  generalize VS[i]=v at hg hd
  by_cases h:v.2=s
  ·rw[qAB (y:=(c,s,VS,l++[v],((i+1:Nat):Int),())) (by
    unfold qOD
    simp only
    rw[qIA (by omega),qEA,qBA (by omega),qBA (by omega),qZ0,hg,qFA h,qEA,qBA (by omega),qBA (by omega),qBA (by simp[qCF];omega),w64 (by omega)]
    rfl)]
   rw[ih (i+1) _ (by omega) (by simp;omega),List.filter_cons,if_pos (qZ10 h)]
   simp
  ·rw[qAB (y:=(c,s,VS,l,((i+1:Nat):Int),())) (by
    unfold qOD
    simp only
    rw[qIA (by omega),qEA,qBA (by omega),qBA (by omega),qZ0,hg,qDA h,w64 (by omega)]
    rfl)]
   rw[ih (i+1) _ (by omega) (by omega),List.filter_cons,if_neg (fun e=>h (of_decide_eq_true e))]
theorem qJP {VS:List Vr} (hV:VSok VS) (hl:VS.length<=1000) {c:List Int×Int} (hc:CI c) {s:Int} (hs:1<=s/\s<=4):qDM VS c s 5 3 (qFB c s VS):=by
 unfold qFB
 have key:=qBak (c:=c) (s:=s) hl VS.length 0 [] (by omega) (by simp)
 rw[show ((0:Nat):Int)=0 from rfl] at key
 rw[key]
 simp only[qAA,qJB,qOA,qY15,List.drop_zero]
 have hmem:∀ v∈VS.filter (fun v=>decide (v.2=s)),v∈VS/\v.2=s:=fun v hv=>by simpa using hv
 have hfl:(VS.filter (fun v=>decide (v.2=s))).length<=VS.length:=List.length_filter_le _ _
 generalize VS.filter (fun v=>decide (v.2=s))=L at hmem hfl
 by_cases h0:L.length=0
 ·rw[qFA (by omega)]
  exact qLx hc hs
 ·rw[qDA (by omega)]
  obtain ⟨r,c',n1,n2,n3,n4⟩:=qAC hc (n:=(L.length:Int)) (by omega)
  obtain ⟨k,rfl⟩:∃ k:Nat,r=k:=⟨r.toNat,by omega⟩
  have hk:k < L.length:=by omega
  have hg:L.getD k zVr=L[k]:=by simp[qZ4,hk]
  rw[n1,qAA,qEA,qBA (by omega),qBA (by omega)]
  simp only[qZ0]
  rw[qBA hk,hg]
  obtain ⟨m1,m2⟩:=hmem _ (List.getElem_mem hk)
  have hm:(L[k].1,s)∈VS:=by rw[<-m2];exact m1
  exact ⟨_,c',rfl,n2,(qVap hV hm).mono (by omega) (by omega)⟩
abbrev TmF:=qCA->Int->Int->List Vr->Option (((List Nod)×Unit)×(qCA×Unit))
abbrev FmF:=qCA->Int->List Vr->Option (((List Nod)×Unit)×(qCA×Unit))
def TOk (VS:List Vr) (T:TmF) (d N D:Nat):Prop:=∀ c s,CI c->1<=s/\s<=4->qDM VS c s N D (T c s (d:Int) VS)
def AOk (VS:List Vr) (T:TmF) (d N D:Nat):Prop:=∀ c s,CI c->s=2\/s=3->qDM VS c s N D (T c s (d:Int) VS)
def FOk (VS:List Vr) (F:FmF) (d N D:Nat):Prop:=∀ c,CI c->qDM VS c 1 N D (F c (d:Int) VS)
theorem qDM.mono {VS:List Vr} {c:List Int×Int} {s:Int} {N d M e:Nat} {r:Option (((List Nod)×Unit)×(qCA×Unit))} (h:qDM VS c s N d r) (hN:N<=M) (hd:d<=e):qDM VS c s M e r:=by
 obtain ⟨t,c',h1,h2,h3⟩:=h
 exact ⟨t,c',h1,h2,h3.mono hN hd⟩
theorem qDM.eta {VS:List Vr} {c:List Int×Int} {s:Int} {N d:Nat} {r:Option (((List Nod)×Unit)×(qCA×Unit))} (h:qDM VS c s N d r):qDM VS c s N d (r.bind fun r2=>some ((r2.1.1,()),r2.2.1,())):=by
 obtain ⟨t,c',h1,h2,h3⟩:=h
 rw[h1]
 exact ⟨t,c',rfl,h2,h3⟩
section
variable {VS:List Vr} (T:TmF) (F:FmF) (I:TmF) (Ar:TmF) (At:FmF)
theorem qEO (a:List Nod):[a].flatten=a:=by simp
theorem qGP (a b:List Nod):[a,b].flatten=a++b:=by simp
theorem qFau (a b c:List Nod):[a,b,c].flatten=a++b++c:=by simp
theorem qOac {c:List Int×Int} (hc:CI c) {s:Int} (hs:1<=s/\s<=4) (hV:VSok VS) (hl:VS.length<=1000):qDM VS c s 5 3 ((qGA c 3).bind fun r1=>
 cond (r1.1.1==(0:Int))
  ((qJF r1.2.1 s).bind fun r2=>
  (qHJ r2.1.1).bind fun r3=>
  some ((r3.1.1,()),r2.2.1,()))
  ((qFB r1.2.1 s VS).bind fun r4=>
  some ((r4.1.1,()),r4.2.1,()))):=by
 obtain ⟨r,c',n1,n2,n3,n4⟩:=qAC hc (n:=3) (by omega)
 rw[n1,qAA]
 by_cases h:r=0
 ·rw[qFA h];exact qLx n2 hs
 ·rw[qDA h];exact (qJP hV hl n2 hs).eta
theorem T0 (hV:VSok VS) (hl:VS.length<=1000):TOk VS (qJG T F I Ar At) 0 5 3:=by
 intro c s hc hs
 unfold qJG
 rw[qIA (by omega)]
 exact qOac hc hs hV hl
theorem qAae (hV:VSok VS) (hl:VS.length<=1000) {d N D:Nat} (hN:N<=10000) (hT:TOk VS T d N D):FOk VS (qXK T F I Ar At) d (max 5 (1+2 * N)) (max 3 (D+1)):=by
 intro c hc
 unfold qXK
 obtain ⟨r,c1,n1,n2,n3,n4⟩:=qAC hc (n:=5) (by omega)
 rw[n1,qAA,qEA,qBA (by simpa using n3),qBA (by simp;omega)]
 have hr:r=0\/r=1\/r=2\/r=3\/r=4:=by omega
 have hg:∃ s:Int,([2,2,3,4,1]:List Int).getD r.toNat 0=s/\1<=s/\s<=4:=by
  rcases hr with rfl | rfl | rfl | rfl | rfl
  ·exact ⟨2,rfl,by omega,by omega⟩
  ·exact ⟨2,rfl,by omega,by omega⟩
  ·exact ⟨3,rfl,by omega,by omega⟩
  ·exact ⟨4,rfl,by omega,by omega⟩
  ·exact ⟨1,rfl,by omega,by omega⟩
 obtain ⟨s,hgs,hs⟩:=hg
 simp only
 rw[hgs]
 by_cases h1:s=1
 ·rw[qFA h1]
  obtain ⟨r2,c2,m1,m2,m3,m4⟩:=qAC n2 (n:=3) (by omega)
  rw[m1,qAA]
  by_cases h0:r2=0
  ·rw[qFA h0]
   obtain ⟨r3,c3,k1,k2,k3,k4⟩:=qAC m2 (n:=2) (by omega)
   simp only
   rw[k1,qAA]
   simp only
   unfold qNm
   cases (r3==1)
   ·exact ⟨_,c3,rfl,k2,qWo.mono (by omega) (by omega)⟩
   ·exact ⟨_,c3,rfl,k2,qVv.mono (by omega) (by omega)⟩
  ·rw[qDA h0,h1]
   exact ((qJP hV hl m2 (by omega)).eta).mono (by omega) (by omega)
 rw[qDA h1]
 by_cases h4:s=4
 ·rw[qMD h4]
  obtain ⟨t1,c2,a1,a2,a3⟩:=hT _ s n2 hs
  obtain ⟨t2,c3,b1,b2,b3⟩:=hT _ s a2 hs
  rw[a1,qAA,b1,qAA]
  obtain ⟨t,o1,o2⟩:=qDV (o:=11) (s:=1) (kids:=[t1,t2]) (by rw[qGP];exact a3.app b3) rfl (by simp) (by omega) (by omega) (by omega) rfl (by simp[qCD,nOp]) (by omega)
  rw[o1,qAA]
  exact ⟨t,c3,rfl,b2,o2.mono (by omega) (by omega)⟩
 ·rw[qFE h4]
  obtain ⟨r2,c2,m1,m2,m3,m4⟩:=qAC n2 (n:=3) (by omega)
  obtain ⟨t1,c3,a1,a2,a3⟩:=hT _ s m2 hs
  obtain ⟨t2,c4,b1,b2,b3⟩:=hT _ s a2 hs
  rw[m1,qAA,a1,qAA,b1,qAA]
  simp only
  rw[w64 (by omega)]
  have hs':s=2\/s=3:=by omega
  have hsm:qCD (((11:Int)+r2,0,[],[],(([s]++[s]:List Int).length:Int)):Nod) ((t1++t2).getD 0 qHF).1 ([s]++[s])=1:=by
   have:r2=0\/r2=1\/r2=2:=by omega
   rcases this with rfl | rfl | rfl
   ·simp[qCD,nOp]
   ·simp[qCD,nOp,hs']
   ·simp[qCD,nOp,hs']
  have hcc:qXA ((11:Int)+r2) ([s]++[s]:List Int).length=true:=by
   have:r2=0\/r2=1\/r2=2:=by omega
   rcases this with rfl | rfl | rfl<;>rfl
  obtain ⟨t,o1,o2⟩:=qDV (o:=(11:Int)+r2) (s:=1) (kids:=[t1,t2]) (ss:=[s]++[s]) (by rw[qGP];exact a3.app b3) rfl (by simp) (by omega) (by omega) (by omega) hcc (by rw[qGP];exact hsm) (by omega)
  rw[o1,qAA]
  exact ⟨t,c4,rfl,b2,o2.mono (by omega) (by omega)⟩
theorem qLau {d N D:Nat} (hd:d<=1000) (hN:N<=10000) (hT:TOk VS T d N D) (hF:FOk VS F d N D):TOk VS (qSM T F I Ar At) (d+1) (1+3 * N) (D+1):=by
 intro c s hc hs
 unfold qSM
 have hw:qI (((d+1:Nat):Int) - 1)=(d:Int):=by rw[w64 (by omega)];omega
 obtain ⟨t1,c1,a1,a2,a3⟩:=hF _ hc
 obtain ⟨t2,c2,b1,b2,b3⟩:=hT _ s a2 hs
 obtain ⟨t3,c3,e1,e2,e3⟩:=hT _ s b2 hs
 rw[hw,a1,qAA,b1,qAA,e1,qAA]
 obtain ⟨t,o1,o2⟩:=qDV (o:=10) (s:=s) (kids:=[t1,t2,t3]) (ss:=[1]++[s]++[s]) (by rw[qFau];exact (a3.app b3).app e3) rfl (by simp) (by omega) (by omega) (by omega) rfl (by simp[qCD,nOp]) (by omega)
 rw[o1,qAA]
 exact ⟨t,c3,rfl,e2,o2.mono (by omega) (by omega)⟩
theorem qEw (n:Nat) (s:Int):List.replicate n s++[s]=List.replicate (n+1) s:=by rw[List.replicate_succ']
theorem qKak {d N D:Nat} (hd:d<=1000) (hN:N<=10000) (hT:TOk VS T d N D) {s:Int} (hs:1<=s/\s<=4):∀ (m k:Nat) (c:List Int×Int) (l:List (List Nod)),CI c->k+m<=5->l.length=k->qVQ VS (List.replicate k s) (k * N) D l.flatten->
 ∃ c' l',qPA (qIE T F I Ar At) (c,s,((d+1:Nat):Int),VS,l,(m:Int),())=some (.exit 1,(c',s,((d+1:Nat):Int),VS,l',0,()))/\CI c'/\l'.length=k+m/\qVQ VS (List.replicate (k+m) s) ((k+m) * N) D l'.flatten:=by
 have hw:qI (((d+1:Nat):Int) - 1)=(d:Int):=by rw[w64 (by omega)];omega
 intro m
 induction m with
 |zero=>
  intro k c l hc _ hlk hg
  exact ⟨c,l,qTA (by unfold qIE;simp only;rw[qNA (by omega)];rfl) (by simp),hc,hlk,hg⟩
 |succ m ih=>
  intro k c l hc hb hlk hg
  obtain ⟨t1,c1,a1,a2,a3⟩:=hT _ s hc hs
  have hg':qVQ VS (List.replicate (k+1) s) ((k+1) * N) D (l++[t1]).flatten:=by
   have:=hg.app a3
   rw[qEw] at this
   rw[List.flatten_append,qEO,Nat.add_mul,Nat.one_mul]
   exact this
  obtain ⟨c',l',e1,e2,e3,e4⟩:=ih (k+1) c1 (l++[t1]) a2 (by omega) (by simp[hlk]) hg'
  refine ⟨c',l',?_,e2,by omega,?_⟩
  ·rw[qAB (y:=(c1,s,((d+1:Nat):Int),VS,l++[t1],(m:Int),())) (by
    unfold qIE
    simp only
    rw[qIA (by omega),hw,a1,qAA,qBA (by simp[qCF];omega),w64 (by omega)]
    have e:((m+1:Nat):Int) - 1=(m:Int):=by omega
    rw[e])]
   exact e1
  ·have e:k+(m+1)=k+1+m:=by omega
   rw[e];exact e4
theorem qGal {d N D:Nat} (hd:d<=1000) (hN:N<=10000) (hF:FOk VS F d N D):∀ (m k:Nat) (c:List Int×Int) (l:List (List Nod)),CI c->k+m<=5->l.length=k->qVQ VS (List.replicate k 1) (k * N) D l.flatten->
 ∃ c' l',qPA (qUB T F I Ar At) (c,((d+1:Nat):Int),VS,l,(m:Int),())=some (.exit 1,(c',((d+1:Nat):Int),VS,l',0,()))/\CI c'/\l'.length=k+m/\qVQ VS (List.replicate (k+m) 1) ((k+m) * N) D l'.flatten:=by
 have hw:qI (((d+1:Nat):Int) - 1)=(d:Int):=by rw[w64 (by omega)];omega
 intro m
 induction m with
 |zero=>
  intro k c l hc _ hlk hg
  exact ⟨c,l,qTA (by unfold qUB;simp only;rw[qNA (by omega)];rfl) (by simp),hc,hlk,hg⟩
 |succ m ih=>
  intro k c l hc hb hlk hg
  obtain ⟨t1,c1,a1,a2,a3⟩:=hF _ hc
  have hg':qVQ VS (List.replicate (k+1) 1) ((k+1) * N) D (l++[t1]).flatten:=by
   have:=hg.app a3
   rw[qEw] at this
   rw[List.flatten_append,qEO,Nat.add_mul,Nat.one_mul]
   exact this
  obtain ⟨c',l',e1,e2,e3,e4⟩:=ih (k+1) c1 (l++[t1]) a2 (by omega) (by simp[hlk]) hg'
  refine ⟨c',l',?_,e2,by omega,?_⟩
  ·rw[qAB (y:=(c1,((d+1:Nat):Int),VS,l++[t1],(m:Int),())) (by
    unfold qUB
    simp only
    rw[qIA (by omega),hw,a1,qAA,qBA (by simp[qCF];omega),w64 (by omega)]
    have e:((m+1:Nat):Int) - 1=(m:Int):=by omega
    rw[e])]
   exact e1
  ·have e:k+(m+1)=k+1+m:=by omega
   rw[e];exact e4
theorem qAan {c:List Int×Int} (hc:CI c) {s:Int} (hs:s=2\/s=3):∃ a c',qKE c s=some ((a,()),(c',()))/\CI c'/\qWO s a=some (([((3:Int),s,([]:qBs),a,(0:Int))],()),())/\qVQ VS [s] 1 1 [((3:Int),s,([]:qBs),a,(0:Int))]:=by
 unfold qKE
 rcases hs with rfl | rfl
 ·obtain ⟨z,c',h1,h2,h3⟩:=qJb hc
  rw[qFA rfl,h1,qAA]
  exact ⟨ti z,c',rfl,h2,rfl,qNg (by omega)⟩
 ·obtain ⟨q,c',h1,h2,h3⟩:=qTi hc
  have:=qXD q
  rw[qDA (by omega),h1,qAA]
  exact ⟨txt q,c',rfl,h2,rfl,qXac (by omega)⟩
end
section
variable {VS:List Vr} (T:TmF) (F:FmF) (I:TmF) (Ar:TmF) (At:FmF)
theorem qLal {VS:List Vr} {N D:Nat} {t:List Nod} (h:qVQ VS [2] N D t) {o r:Int} (ho:o=16\/o=17) (hr:0 < r/\r < 1000):qVQ VS [2] (N+1) (D+1) ((o,0,[],ti r,1)::t):=by
 have hsg:qJT (ti r)=1:=by
  unfold qJT ti
  rw[qPK]
  simp only[Rat.num_intCast]
  exact Int.sign_eq_one_of_pos hr.1
 have hl:(ti r).length<=73:=by
  have:=qXD (r:Rat)
  have:=qLX (n:=r) (by omega)
  unfold ti;omega
 refine h.node (n:=(o,0,[],ti r,1)) ?_ ?_ rfl ?_ (by omega) hl (fun e=>?_) ?_
 ·unfold qRC
  simp only[nOp,qHG,qDP,qAU]
  rw[if_neg (by omega),if_neg (by omega),if_pos ho,qDZ,hsg]
  rfl
 ·rcases ho with rfl | rfl<;>rfl
 ·rcases ho with rfl | rfl<;>simp[qCD,nOp]
 ·simp only[nOp] at e;omega
 ·simp only[nOp];omega
theorem qXaj (hV:VSok VS) (hl:VS.length<=1000) {d N D:Nat} (hd:d<=1000) (hN:5<=N/\N<=10000) (hD:3<=D) (hT:TOk VS T d N D) (hI:TOk VS I (d+1) (1+3 * N) (D+1)):AOk VS (qDG T F I Ar At) (d+1) (1+3 * N) (D+1):=by
 intro c s hc hs
 have hs':1<=s/\s<=4:=by omega
 have hw:qI (((d+1:Nat):Int) - 1)=(d:Int):=by rw[w64 (by omega)];omega
 have hvar:∀ c,CI c->qDM VS c s (1+3 * N) (D+1) ((qFB c s VS).bind fun r=>some ((r.1.1,()),r.2.1,())):=fun c hc=>((qJP hV hl hc hs').eta).mono (by omega) (by omega)
 have hnum:∀ c,CI c->qDM VS c s (1+3 * N) (D+1) ((qKE c s).bind fun r=>(qWO s r.1.1).bind fun r'=>some ((r'.1.1,()),r.2.1,())):=fun c hc=>by
  obtain ⟨a,c',h1,h2,h3,h4⟩:=qAan hc hs (VS:=VS)
  rw[h1,qAA,h3,qAA]
  exact ⟨_,c',rfl,h2,h4.mono (by omega) (by omega)⟩
 unfold qDG
 obtain ⟨r,c1,n1,n2,n3,n4⟩:=qAC hc (n:=10) (by omega)
 rw[n1,qAA]
 simp only[hw]
 by_cases h3:r < 3
 ·rw[qIA h3]
  obtain ⟨t1,c2,a1,a2,a3⟩:=hT _ s n2 hs'
  obtain ⟨r2,c3,m1,m2,m3,m4⟩:=qAC a2 (n:=3) (by omega)
  obtain ⟨m,rfl⟩:∃ m:Nat,r2=m:=⟨r2.toNat,by omega⟩
  obtain ⟨c4,l',e1,e2,e3,e4⟩:=qKak T F I Ar At hd hN.2 hT hs' m 1 c3 [t1] m2 (by omega) rfl (by rw[qEO,Nat.one_mul];exact a3)
  rw[a1,qAA,m1,qAA]
  simp only
  rw[e1]
  simp only[qAA,qJB,qOA]
  have hb:(1+m) * N<=3 * N:=Nat.mul_le_mul_right N (by omega)
  obtain ⟨t,o1,o2⟩:=qDV (o:=14) (s:=s) (kids:=l') e4 (by rw[e3,List.length_replicate]) (by omega) (by omega) (by omega) (by omega) (by rw[List.length_replicate];exact qZ10 (show (1:Int)<=((1+m:Nat):Int) by omega)) (by
   have e:(List.replicate (1+m) s).getD 0 0=s:=by rw[Nat.add_comm];simp[List.replicate_succ]
   have hal:∀ x∈List.replicate (1+m) s,x=s:=fun x hx=>(List.mem_replicate.1 hx).2
   unfold qCD
   simp only[nOp]
   rw[if_neg (by omega),if_neg (by omega),if_neg (by omega),if_neg (by omega),if_neg (by omega),if_pos trivial,e,if_pos ⟨hs,hal⟩]) (by omega)
  rw[o1,qAA]
  exact ⟨t,c4,rfl,e2,o2.mono (by omega) (by omega)⟩
 rw[qNA h3]
 by_cases h5:r < 5
 ·rw[qIA h5]
  obtain ⟨a,c2,k1,k2,k3,k4⟩:=qAan n2 hs (VS:=VS)
  obtain ⟨t1,c3,a1,a2,a3⟩:=hT _ s k2 hs'
  rw[k1,qAA,k3,qAA,a1,qAA]
  obtain ⟨t,o1,o2⟩:=qDV (o:=15) (s:=s) (kids:=[[((3:Int),s,([]:qBs),a,(0:Int))],t1]) (ss:=[s]++[s]) (by rw[qGP];exact (k4.mono (Nat.le_refl _) (show 1<=D by omega)).app a3) rfl (by simp) (by omega) (by omega) (by omega) rfl (by simp[qCD,nOp,hs]) (by omega)
  rw[o1,qAA]
  exact ⟨t,c3,rfl,a2,o2.mono (by omega) (by omega)⟩
 rw[qNA h5]
 by_cases h5':r=5
 ·rw[qFA h5']
  exact (hI _ s n2 hs').eta
 rw[qDA h5']
 by_cases h6:r=6
 ·rw[qFA h6]
  by_cases h2:s=2
  ·rw[qFA h2]
   obtain ⟨r2,c2,m1,m2,m3,m4⟩:=qAC n2 (n:=2) (by omega)
   obtain ⟨r3,c3,k1,k2,k3,k4⟩:=qAC m2 (n:=5) (by omega)
   obtain ⟨t1,c4,a1,a2,a3⟩:=hT _ s k2 hs'
   rw[m1,qAA]
   simp only
   rw[k1,qAA]
   simp only
   rw[w64 (x:=1+r3) (by omega),w64 (x:=16+r2) (by omega),qBJ (show qTt (1+r3) from ⟨by omega,by omega⟩),qAA,a1,qAA]
   have hj:=qSl (n:=((16:Int)+r2,(0:Int),([]:qBs),txt ((1+r3:Int):Rat),(0:Int))) (kids:=[t1]) (by simp) (by rw[qEO];have:=a3.len;omega)
   rw[qEO] at hj
   simp only
   rw[hj,qAA]
   rw[h2] at a3 ⊢
   exact ⟨_,c4,rfl,a2,(qLal a3 (o:=16+r2) (r:=1+r3) (by omega) (by omega)).mono (by omega) (by omega)⟩
  ·rw[qDA h2,qDA (by omega),qDA (by omega)]
   exact hvar _ n2
 rw[qDA h6]
 by_cases h7:r=7
 ·rw[qFA h7]
  by_cases h2:s=2
  ·rw[qFA h2]
   obtain ⟨t1,c2,a1,a2,a3⟩:=hT _ 4 n2 (by omega)
   obtain ⟨t2,c3,b1,b2,b3⟩:=hT _ s a2 hs'
   rw[a1,qAA,b1,qAA]
   rw[h2] at b3 ⊢
   obtain ⟨t,o1,o2⟩:=qDV (o:=18) (s:=2) (kids:=[t1,t2]) (ss:=[4]++[2]) (by rw[qGP];exact a3.app b3) rfl (by simp) (by omega) (by omega) (by omega) rfl (by simp[qCD,nOp]) (by omega)
   rw[o1,qAA]
   exact ⟨t,c3,rfl,b2,o2.mono (by omega) (by omega)⟩
  ·rw[qDA h2,qDA (by omega)]
   exact hvar _ n2
 rw[qDA h7]
 by_cases h8:r=8
 ·rw[qFA h8]
  exact hnum _ n2
 ·rw[qDA h8]
  exact hvar _ n2
theorem qIad (c:List Int×Int):qKN c=some ((decide (c.2 < (c.1.length:Int)),()),(c,())):=rfl
theorem qXao {d N D:Nat} (hd:d<=1000) (hN:5<=N/\N<=10000) (hD:3<=D) (hF:FOk VS F d N D) (hI:TOk VS I (d+1) (1+3 * N) (D+1)) (hA0:FOk VS At 0 11 4) (hA:FOk VS At d (1+3 * N) (D+1)):FOk VS (qBF T F I Ar At) (d+1) (1+3 * N) (D+1):=by
 intro c hc
 have hw:qI (((d+1:Nat):Int) - 1)=(d:Int):=by rw[w64 (by omega)];omega
 unfold qBF
 rw[qNA (by omega),qIad,qAA]
 by_cases hlf:¬ c.2 < (c.1.length:Int)
 ·rw[qZ9 hlf]
  simp only[qY1,qOA]
  exact ((hA0 _ hc).eta).mono (by omega) (by omega)
 rw[qZ10 (Decidable.not_not.1 hlf)]
 simp only[qY2,qWA]
 obtain ⟨r,c1,n1,n2,n3,n4⟩:=qAC hc (n:=12) (by omega)
 rw[n1,qAA]
 simp only[hw]
 have hnot:qDM VS c 1 (1+3 * N) (D+1) ((F c1 (d:Int) VS).bind fun r5=>(qEe 6 ([r5.1.1]:List (List Nod))).bind fun r6=>some ((r6.1.1,()),r5.2.1,())):=by
  obtain ⟨t1,c2,a1,a2,a3⟩:=hF _ n2
  rw[a1,qAA]
  obtain ⟨t,o1,o2⟩:=qDV (o:=6) (s:=1) (kids:=[t1]) (ss:=[1]) (by rw[qEO];exact a3) rfl (by simp) (by omega) (by omega) (by omega) rfl (by simp[qCD,nOp]) (by omega)
  rw[o1,qAA]
  exact ⟨t,c2,rfl,a2,o2.mono (by omega) (by omega)⟩
 have htwo:∀ o:Int,o=9\/o=11->qDM VS c 1 (1+3 * N) (D+1) ((F c1 (d:Int) VS).bind fun r5=>(F r5.2.1 (d:Int) VS).bind fun r6=>(qEe o ([r5.1.1,r6.1.1]:List (List Nod))).bind fun r7=>some ((r7.1.1,()),r6.2.1,())):=by
  intro o ho
  obtain ⟨t1,c2,a1,a2,a3⟩:=hF _ n2
  obtain ⟨t2,c3,b1,b2,b3⟩:=hF _ a2
  rw[a1,qAA,b1,qAA]
  obtain ⟨t,o1,o2⟩:=qDV (o:=o) (s:=1) (kids:=[t1,t2]) (ss:=[1]++[1]) (by rw[qGP];exact a3.app b3) rfl (by simp) (by omega) (by omega) (by omega) (by rcases ho with rfl | rfl<;>rfl) (by rcases ho with rfl | rfl<;>simp[qCD,nOp]) (by omega)
  rw[o1,qAA]
  exact ⟨t,c3,rfl,b2,o2.mono (by omega) (by omega)⟩
 have hand:qDM VS c 1 (1+3 * N) (D+1) ((qGA c1 4).bind fun r9=>(qPA (qUB T F I Ar At) (r9.2.1,((d+1:Nat):Int),VS,([]:List (List Nod)),r9.1.1,())).bind fun y10=>
  cond (Ex.same y10.1 (Ex.exit 1)) ((qGA y10.2.1 2).bind fun r11=>(qEe (qI ((7:Int)+r11.1.1)) y10.2.2.2.2.1).bind fun r12=>some ((r12.1.1,()),r11.2.1,())) none):=by
  obtain ⟨r2,c2,m1,m2,m3,m4⟩:=qAC n2 (n:=4) (by omega)
  obtain ⟨m,rfl⟩:∃ m:Nat,r2=m:=⟨r2.toNat,by omega⟩
  obtain ⟨c3,l',e1,e2,e3,e4⟩:=qGal T F I Ar At hd hN.2 hF m 0 c2 [] m2 (by omega) rfl (by rw[Nat.zero_mul];exact (qVQ.nil VS).mono (Nat.le_refl _) (Nat.zero_le _))
  obtain ⟨r3,c4,k1,k2,k3,k4⟩:=qAC e2 (n:=2) (by omega)
  rw[m1,qAA]
  simp only
  rw[e1]
  simp only[qAA,qJB,qOA]
  rw[k1,qAA]
  simp only
  rw[w64 (by omega)]
  have hb:(0+m) * N<=3 * N:=Nat.mul_le_mul_right N (by omega)
  have hal:∀ x∈List.replicate (0+m) (1:Int),x=1:=fun x hx=>(List.mem_replicate.1 hx).2
  obtain ⟨t,o1,o2⟩:=qDV (o:=7+r3) (s:=1) (kids:=l') e4 (by rw[e3,List.length_replicate]) (by omega) (by omega) (by omega) (by omega) (by
   have:r3=0\/r3=1:=by omega
   rw[List.length_replicate]
   rcases this with rfl | rfl
   ·exact qZ10 (show (0:Int)<=((0+m:Nat):Int) by omega)
   ·exact qZ10 (show (0:Int)<=((0+m:Nat):Int) by omega)) (by
   unfold qCD
   simp only[nOp]
   rw[if_neg (by omega),if_pos (by omega),if_pos hal]) (by omega)
  rw[o1,qAA]
  exact ⟨t,c4,rfl,k2,o2.mono (by omega) (by omega)⟩
 by_cases h0:r=0;· rw[qFA h0];exact hnot
 rw[qDA h0]
 by_cases h1:r=1;· rw[qFA h1];exact hnot
 rw[qDA h1]
 by_cases h2:r=2;· rw[qFA h2];exact hand
 rw[qDA h2]
 by_cases h3:r=3;· rw[qFA h3];exact hand
 rw[qDA h3]
 by_cases h4:r=4;· rw[qFA h4];exact hand
 rw[qDA h4]
 by_cases h5:r=5;· rw[qFA h5];exact hand
 rw[qDA h5]
 by_cases h6:r=6;· rw[qFA h6];exact htwo 9 (.inl rfl)
 rw[qDA h6]
 by_cases h7:r=7;· rw[qFA h7];exact (hI _ 1 n2 (by omega)).eta
 rw[qDA h7]
 by_cases h8:r=8;· rw[qFA h8];exact htwo 11 (.inr rfl)
 rw[qDA h8]
 exact (hA _ n2).eta
theorem qHap (hV:VSok VS) (hl:VS.length<=1000) {d N D:Nat} (hd:d<=1000) (hN:5<=N/\N<=10000) (hD:3<=D) (hT:TOk VS T d N D) (hF:FOk VS F (d+1) (1+3 * N) (D+1)) (hI:TOk VS I (d+1) (1+3 * N) (D+1)) (hA:AOk VS Ar (d+1) (1+3 * N) (D+1)):TOk VS (qJG T F I Ar At) (d+1) (1+3 * N) (D+1):=by
 intro c s hc hs
 have hw:qI (((d+1:Nat):Int) - 1)=(d:Int):=by rw[w64 (by omega)];omega
 unfold qJG
 rw[qNA (by omega),qIad,qAA]
 by_cases hlf:¬ c.2 < (c.1.length:Int)
 ·rw[qZ9 hlf]
  simp only[qY1,qOA]
  exact (qOac hc hs hV hl).mono (by omega) (by omega)
 rw[qZ10 (Decidable.not_not.1 hlf)]
 simp only[qY2,qWA]
 by_cases h1:s=1
 ·rw[qFA h1,h1];exact (hF _ hc).eta
 rw[qDA h1]
 by_cases h4:s=4
 ·rw[qFA h4]
  obtain ⟨r,c1,n1,n2,n3,n4⟩:=qAC hc (n:=5) (by omega)
  rw[n1,qAA]
  simp only[hw]
  have hst:qDM VS c s (1+3 * N) (D+1) ((T c1 4 (d:Int) VS).bind fun r14=>(T r14.2.1 2 (d:Int) VS).bind fun r15=>(T r15.2.1 2 (d:Int) VS).bind fun r16=>(qEe 19 ([r14.1.1,r15.1.1,r16.1.1]:List (List Nod))).bind fun r17=>some ((r17.1.1,()),r16.2.1,())):=by
   obtain ⟨t1,c2,a1,a2,a3⟩:=hT _ 4 n2 (by omega)
   obtain ⟨t2,c3,b1,b2,b3⟩:=hT _ 2 a2 (by omega)
   obtain ⟨t3,c4,e1,e2,e3⟩:=hT _ 2 b2 (by omega)
   rw[a1,qAA,b1,qAA,e1,qAA,h4]
   obtain ⟨t,o1,o2⟩:=qDV (o:=19) (s:=4) (kids:=[t1,t2,t3]) (ss:=[4]++[2]++[2]) (by rw[qFau];exact (a3.app b3).app e3) rfl (by simp) (by omega) (by omega) (by omega) rfl (by simp[qCD,nOp]) (by omega)
   rw[o1,qAA]
   exact ⟨t,c4,rfl,e2,o2.mono (by omega) (by omega)⟩
  by_cases k0:r=0
  ·rw[qFA k0]
   obtain ⟨t1,c2,a1,a2,a3⟩:=hT _ 2 n2 (by omega)
   rw[a1,qAA,h4]
   obtain ⟨t,o1,o2⟩:=qDV (o:=20) (s:=4) (kids:=[t1]) (ss:=[2]) (by rw[qEO];exact a3) rfl (by simp) (by omega) (by omega) (by omega) rfl (by simp[qCD,nOp]) (by omega)
   rw[o1,qAA]
   exact ⟨t,c2,rfl,a2,o2.mono (by omega) (by omega)⟩
  rw[qDA k0]
  by_cases k1:r=1;· rw[qFA k1];exact hst
  rw[qDA k1]
  by_cases k2:r=2;· rw[qFA k2];exact hst
  rw[qDA k2]
  by_cases k3:r=3;· rw[qFA k3];exact (hI _ s n2 hs).eta
  rw[qDA k3]
  exact ((qJP hV hl n2 hs).eta).mono (by omega) (by omega)
 rw[qDA h4]
 exact (hA _ s hc (by omega)).eta
end
def gB:Nat->Nat
 |0=>11
 |d+1=>1+3 * gB d
theorem qRav (d:Nat):11<=gB d:=by
 induction d with
 |zero=>exact Nat.le_refl _
 |succ d ih=>simp only[gB];omega
theorem qUav:∀ {d:Nat},d<=6->gB d<=10000:=by
 intro d h
 have:d=0\/d=1\/d=2\/d=3\/d=4\/d=5\/d=6:=by omega
 rcases this with rfl | rfl | rfl | rfl | rfl | rfl | rfl<;>decide
theorem qMz {VS:List Vr} (hV:VSok VS) (hl:VS.length<=1000):∀ d,d<=5->∀ n,3 * d+3<=n->TOk VS (qBB n) d (gB d) (d+4)/\FOk VS (qVA n) d (gB d) (d+4):=by
 have hT0:∀ n,1<=n->TOk VS (qBB n) 0 5 3:=by
  intro n hn
  obtain ⟨m,rfl⟩:∃ m,n=m+1:=⟨n - 1,by omega⟩
  exact T0 (qBB m) (qVA m) (qBC m) (qRA m) (qMB m) hV hl
 have hA0:∀ n,2<=n->FOk VS (qMB n) 0 11 4:=by
  intro n hn
  obtain ⟨m,rfl⟩:∃ m,n=m+1:=⟨n - 1,by omega⟩
  exact qAae (qBB m) (qVA m) (qBC m) (qRA m) (qMB m) hV hl (by omega) (hT0 m (by omega))
 intro d
 induction d with
 |zero=>
  intro _ n hn
  refine ⟨fun c s hc hs=>(hT0 n (by omega) c s hc hs).mono (by decide) (by omega),?_⟩
  obtain ⟨m,rfl⟩:∃ m,n=m+1:=⟨n - 1,by omega⟩
  intro c hc
  have e:qVA (m+1)=qBF (qBB m) (qVA m) (qBC m) (qRA m) (qMB m):=rfl
  rw[e]
  unfold qBF
  rw[qIA (by omega)]
  exact (hA0 m (by omega) c hc).eta
 |succ d ih=>
  intro hd n hn
  have ih:=ih (by omega)
  have hN:=qRav d
  have hN':=qUav (d:=d) (by omega)
  have hI:∀ m,3 * d+4<=m->TOk VS (qBC m) (d+1) (1+3 * gB d) (d+4+1):=by
   intro m hm
   obtain ⟨k,rfl⟩:∃ k,m=k+1:=⟨m - 1,by omega⟩
   obtain ⟨i1,i2⟩:=ih k (by omega)
   exact qLau (qBB k) (qVA k) (qBC k) (qRA k) (qMB k) (by omega) (by omega) i1 i2
  have hAt:∀ m,3 * d+4<=m->FOk VS (qMB m) d (1+3 * gB d) (d+4+1):=by
   intro m hm
   obtain ⟨k,rfl⟩:∃ k,m=k+1:=⟨m - 1,by omega⟩
   obtain ⟨i1,i2⟩:=ih k (by omega)
   intro c hc
   exact (qAae (qBB k) (qVA k) (qBC k) (qRA k) (qMB k) hV hl (by omega) i1 c hc).mono (by omega) (by omega)
  have hAr:∀ m,3 * d+5<=m->AOk VS (qRA m) (d+1) (1+3 * gB d) (d+4+1):=by
   intro m hm
   obtain ⟨k,rfl⟩:∃ k,m=k+1:=⟨m - 1,by omega⟩
   obtain ⟨i1,i2⟩:=ih k (by omega)
   exact qXaj (qBB k) (qVA k) (qBC k) (qRA k) (qMB k) hV hl (by omega) (by omega) (by omega) i1 (hI k (by omega))
  have hFo:∀ m,3 * d+5<=m->FOk VS (qVA m) (d+1) (1+3 * gB d) (d+4+1):=by
   intro m hm
   obtain ⟨k,rfl⟩:∃ k,m=k+1:=⟨m - 1,by omega⟩
   obtain ⟨i1,i2⟩:=ih k (by omega)
   exact qXao (qBB k) (qVA k) (qBC k) (qRA k) (qMB k) (by omega) (by omega) (by omega) i2 (hI k (by omega)) (hA0 k (by omega)) (hAt k (by omega))
  have hTe:∀ m,3 * d+6<=m->TOk VS (qBB m) (d+1) (1+3 * gB d) (d+4+1):=by
   intro m hm
   obtain ⟨k,rfl⟩:∃ k,m=k+1:=⟨m - 1,by omega⟩
   obtain ⟨i1,i2⟩:=ih k (by omega)
   exact qHap (qBB k) (qVA k) (qBC k) (qRA k) (qMB k) hV hl (by omega) (by omega) (by omega) i1 (hFo k (by omega)) (hI k (by omega)) (hAr k (by omega))
  have e:d+4+1=d+1+4:=by omega
  rw[e] at hTe hFo
  exact ⟨hTe n (by omega),hFo n (by omega)⟩
theorem qNY {v:SV} (h:match v with
 |.b _=>True
 |.z n=>(ti n).length<=73
 |.q r=>(txt r).length<=73
 |.a d P=>Sm 73 d P/\P.length<=75):SmallV (encS v):=by
 cases v with
 |b x=>exact ⟨⟨by simp[encS],fun s hs=>by simp[encS] at hs,fun s hs=>by simp[encS] at hs,by simp[encS]⟩,by simp[encS]⟩
 |z n=>exact ⟨⟨h,fun s hs=>by simp[encS] at hs,fun s hs=>by simp[encS] at hs,by simp[encS]⟩,by simp[encS]⟩
 |q r=>exact ⟨⟨h,fun s hs=>by simp[encS] at hs,fun s hs=>by simp[encS] at hs,by simp[encS]⟩,by simp[encS]⟩
 |a d P=>exact ⟨h.1.short,by simp only[encS];rw[qEE];exact h.2⟩
theorem qPk {c:List Int×Int} (hc:CI c) {s:Int} (hs:1<=s/\s<=4):∃ v c',qXF c s=some ((encS v,()),(c',()))/\CI c'/\qWE v=s/\okS v/\SmallV (encS v):=by
 by_cases h4:s=4
 ·obtain ⟨d,P,c',h1,h2,h3,h5,h6⟩:=qOab hc
  rw[h4]
  exact ⟨.a d P,c',h1,h2,rfl,h3,qNY (v:=.a d P) ⟨⟨by have:=h5.num;omega,fun p hp=>⟨by have:=(h5.els p hp).1;omega,by have:=(h5.els p hp).2;omega⟩,h5.few⟩,by omega⟩⟩
 unfold qXF
 by_cases h1:s=1
 ·obtain ⟨r,c',n1,n2,n3,n4⟩:=qAC hc (n:=2) (by omega)
  rw[qFA h1,n1,qAA,h1]
  exact ⟨.b (r==1),c',rfl,n2,rfl,trivial,qNY (v:=.b (r==1)) trivial⟩
 rw[qDA h1,qDA h4]
 unfold qKE
 by_cases h2:s=2
 ·obtain ⟨z,c',e1,e2,e3⟩:=qJb hc
  rw[qFA h2,e1,qAA,qAA,h2]
  exact ⟨.z z,c',rfl,e2,rfl,trivial,qNY (v:=.z z) (show (ti z).length<=73 by omega)⟩
 ·obtain ⟨q,c',e1,e2,e3⟩:=qTi hc
  have h3:s=3:=by omega
  have hl:(txt q).length<=73:=by have:=qXD q;omega
  rw[qDA h2,e1,qAA,qAA,h3]
  exact ⟨.q q,c',rfl,e2,rfl,trivial,qNY (v:=.q q) hl⟩
theorem qIat (l:List Int):∃ v,qWai l=some ((encS v,()),())/\okS v/\SmallV (encS v)/\1<=qWE v/\qWE v<=4:=by
 obtain ⟨c,n1,hc⟩:=qWm l
 obtain ⟨r,c',m1,m2,m3,m4⟩:=qAC hc (n:=4) (by omega)
 obtain ⟨v,c2,h1,h2,h3,h4,h5⟩:=qPk m2 (s:=1+r) (by omega)
 unfold qWai
 rw[n1,qAA,m1,qAA]
 simp only
 rw[w64 (by omega),h1,qAA]
 exact ⟨v,rfl,h4,h5,by omega,by omega⟩
theorem qSs {VS:List Vr} (hV:VSok VS) (hl:VS.length<=1000):∀ (m i:Nat) (c:List Int×Int) (out:List Val),i+m=VS.length->CI c->out.length=i->(∀ j (hj:j < VS.length),j < i->∃ v,out[j]?=some (encS v)/\qWE v=VS[j].2/\okS v/\SmallV (encS v))->
 ∃ c' out',qPA qBG (c,VS,out,(i:Int),())=some (.exit 0,(c',VS,out',(VS.length:Int),()))/\CI c'/\out'.length=VS.length/\(∀ j (hj:j < VS.length),∃ v,out'[j]?=some (encS v)/\qWE v=VS[j].2/\okS v/\SmallV (encS v)):=by
 intro m
 induction m with
 |zero=>
  intro i c out hi hc ho hP
  have:i=VS.length:=by omega
  refine ⟨c,out,qTA (by unfold qBG;simp only;rw[qNA (by omega),this]) (by simp),hc,by omega,fun j hj=>hP j hj (by omega)⟩
 |succ m ih=>
  intro i c out hi hc ho hP
  have hil:i < VS.length:=by omega
  have hg:VS.getD i zVr=VS[i]:=by simp[qZ4,hil]
  have hs:=(hV.name _ (List.getElem_mem hil)).2
  obtain ⟨v,c1,h1,h2,h3,h4,h5⟩:=qPk hc hs
  obtain ⟨c',out',e1,e2,e3,e4⟩:=ih (i+1) c1 (out++[encS v]) (by omega) h2 (by simp[ho]) (fun j hj hji=>by
   by_cases e:j=i
   ·subst e
    exact ⟨v,by rw[qY9 (by omega),ho];simp,h3,h4,h5⟩
   ·obtain ⟨w,w1,w2⟩:=hP j hj (by omega)
    exact ⟨w,by rw[qY8 (by omega)];exact w1,w2⟩)
  refine ⟨c',out',?_,e2,e3,e4⟩
  rw[qAB (y:=(c1,VS,out++[encS v],((i+1:Nat):Int),())) (by
   unfold qBG
   simp only
   rw[qIA (by omega),qEA,qBA (by omega),qBA (by omega),qZ0,hg,h1,qAA,qBA (by simp[qCF];omega),w64 (by omega)]
   rfl)]
  exact e1
theorem qSal {VS:List Vr} {vals:List Val} (hl:VS.length<=1000) (hv:vals.length=VS.length):∀ (m i:Nat) (out:List qSJ),i+m=VS.length->out.length=i->(∀ j (hj:j < VS.length) (hj':j < vals.length),j < i->out[j]?=some (VS[j].1,vals[j]))->
 ∃ out',qPA qHZ (VS,vals,out,(i:Int),())=some (.exit 0,(VS,vals,out',(VS.length:Int),()))/\out'.length=VS.length/\(∀ j (hj:j < VS.length) (hj':j < vals.length),out'[j]?=some (VS[j].1,vals[j])):=by
 intro m
 induction m with
 |zero=>
  intro i out hi ho hP
  have:i=VS.length:=by omega
  exact ⟨out,qTA (by unfold qHZ;simp only;rw[qNA (by omega),this]) (by simp),by omega,fun j hj hj'=>hP j hj hj' (by omega)⟩
 |succ m ih=>
  intro i out hi ho hP
  have hil:i < VS.length:=by omega
  have hil':i < vals.length:=by omega
  have hg:VS.getD i zVr=VS[i]:=by simp[qZ4,hil]
  have hg':vals.getD i qHD=vals[i]:=by simp[qZ4,hil']
  obtain ⟨out',e1,e2,e3⟩:=ih (i+1) (out++[(VS[i].1,vals[i])]) (by omega) (by simp[ho]) (fun j hj hj' hji=>by
   by_cases e:j=i
   ·subst e
    rw[qY9 (by omega),ho];simp
   ·rw[qY8 (by omega)];exact hP j hj hj' (by omega))
  refine ⟨out',?_,e2,e3⟩
  rw[qAB (y:=(VS,vals,out++[(VS[i].1,vals[i])],((i+1:Nat):Int),())) (by
   unfold qHZ
   simp only
   rw[qIA (by omega),qEA,qBA (by omega),qBA (by omega),qEA,qBA (by omega),qBA (by omega),qZ0,hg,hg',qBA (by simp[qCF];omega),w64 (by omega)]
   rfl)]
  exact e1
structure EnvOk (VS:List Vr) (env:List qSJ):Prop where
 len:env.length=VS.length
 val:∀ b∈env,qMF b.2=true/\SmallV b.2
 all:∀ v∈VS,∃ x,qMs env v.1=some x/\qWE x=v.2
theorem qQam {VS:List Vr} (hV:VSok VS) (hl:VS.length<=1000) {c:List Int×Int} (hc:CI c):∃ env c',qIP c VS=some ((env,()),(c',()))/\CI c'/\EnvOk VS env:=by
 obtain ⟨c',vals,e1,e2,e3,e4⟩:=qSs hV hl VS.length 0 c [] (by omega) hc rfl (fun j hj h=>by omega)
 obtain ⟨env,f1,f2,f3⟩:=qSal (vals:=vals) hl e3 VS.length 0 [] (by omega) rfl (fun j hj hj' h=>by omega)
 rw[show ((0:Nat):Int)=0 from rfl] at e1 f1
 refine ⟨env,c',?_,e2,f2,?_,?_⟩
 ·unfold qIP qTO qGap
  rw[e1]
  simp only[qAA,qJB,qOA]
  rw[f1]
  simp only[qAA,qJB,qOA]
 ·intro b hb
  obtain ⟨j,hj⟩:=List.getElem?_of_mem hb
  have hjl:j < env.length:=(List.getElem?_eq_some_iff.1 hj).1
  have h1:=f3 j (by omega) (by omega)
  rw[hj] at h1
  obtain ⟨v,v1,v2,v3,v4⟩:=e4 j (by omega)
  rw[qZ5 (by omega)] at v1
  simp only[Option.some.injEq] at h1 v1
  rw[h1,v1]
  exact ⟨qGg v3,v4⟩
 ·intro v hv
  obtain ⟨i,hi⟩:=List.getElem?_of_mem hv
  obtain ⟨hil,hie⟩:=List.getElem?_eq_some_iff.1 hi
  have h1:=f3 i hil (by omega)
  unfold qMs
  cases hf:env.find? (fun b=>decide (b.1=v.1)) with
  |none=>
   have:=List.find?_eq_none.1 hf _ (qY14 h1)
   simp only[decide_eq_true_eq] at this
   exact absurd (by rw[hie]) this
  |some b=>
   have hb:b.1=v.1:=by simpa using List.find?_some hf
   obtain ⟨j,hj⟩:=List.getElem?_of_mem (List.mem_of_find?_eq_some hf)
   have hjl:j < env.length:=(List.getElem?_eq_some_iff.1 hj).1
   have h2:=f3 j (by omega) (by omega)
   rw[hj] at h2
   obtain ⟨x,x1,x2,x3,x4⟩:=e4 j (by omega)
   rw[qZ5 (by omega)] at x1
   simp only[Option.some.injEq] at h2 x1
   have hn:VS[j].1=v.1:=by rw[h2] at hb;exact hb
   have:=hV.once _ (List.getElem_mem (show j < VS.length by omega)) v hv hn
   refine ⟨x,?_,by rw[x2,this]⟩
   rw[Option.bind_some,h2]
   simp only
   rw[x1,qVam x3]
def VSg:List Vr:=[([120],2),([121],2),([122],3),([119],3),([112],1),([98],1),([97],4),([99],4)]
theorem qWae:qQv=some ((VSg,()),()):=rfl
theorem qOan:VSok VSg:=by
 refine ⟨?_,?_⟩
 ·decide
 ·decide
theorem qAag:VSg.length<=1000:=by decide
theorem qKac {c:List Int×Int} (hc:CI c) {s:Int} (hs:1<=s/\s<=4) {d:Nat} (hd:d<=5):qDM VSg c s (gB d) (d+4) (qBB big c s (d:Int) VSg):=by
 obtain ⟨f,hf1,hf2⟩:=qFw
 rw[hf1]
 exact (qMz qOan qAag d hd f (by omega)).1 c s hc hs
theorem qVQ.short {VS:List Vr} {ss:List Int} {N d:Nat} {l:List Nod} (h:qVQ VS ss N d l):qQk l:=by
 obtain ⟨K,hK⟩:=h
 exact hK.sh
theorem qOaq {A:qBs->Option SV} {G:Nod->List SV->Int ⊕ SV}:∀ {f g:Tf} {vs ws:List SV},evF A G f=.inr vs->evF A G g=.inr ws->evF A G (f.app g)=.inr (vs++ws):=by
 intro f
 induction f with
 |nil=>intro g vs ws h1 h2;simp only[evF,Sum.inr.injEq] at h1;subst h1;exact h2
 |cons n k r _ ir=>
  intro g vs ws h1 h2
  rw[qJv] at h1
  have e:(cons n k r).app g=cons n k (r.app g):=rfl
  rw[e,qJv]
  cases he:evF A G (cons n k Tf.nil) with
  |inl e=>rw[he] at h1;cases h1
  |inr us=>
   rw[he] at h1
   cases hr:evF A G r with
   |inl e=>rw[hr] at h1;cases h1
   |inr rs=>
    rw[hr] at h1
    simp only[Sum.inr.injEq] at h1
    rw[ir hr h2]
    simp only
    rw[<-h1,qZ1]
def EvK (env:List qSJ) (ss:List Int) (N d:Nat) (l:List Nod) (vs:List SV):Prop:=∃ K,GenF VSg ss N d l K/\evF (qMs env) G0 K=.inr vs
theorem EvK.mono {env:List qSJ} {ss:List Int} {N d M e:Nat} {l:List Nod} {vs:List SV} (h:EvK env ss N d l vs) (hN:N<=M) (hd:d<=e):EvK env ss M e l vs:=by
 obtain ⟨K,hK,hv⟩:=h
 exact ⟨K,⟨hK.flat,hK.wf,hK.srt,hK.nz,hK.sh,by have:=hK.size;omega,by have:=hK.dep;omega,hK.vars,hK.noap⟩,hv⟩
theorem EvK.nil (env:List qSJ):EvK env [] 0 0 [] []:=⟨Tf.nil,⟨rfl,rfl,rfl,by simp,fun _ h=>absurd h qY16,Nat.le_refl _,Nat.le_refl _,fun _ h=>absurd h qY16,fun _ h=>absurd h qY16⟩,rfl⟩
theorem EvK.app {env:List qSJ} {ss uu:List Int} {N M d:Nat} {l m:List Nod} {vs ws:List SV} (h:EvK env ss N d l vs) (g:EvK env uu M d m ws):EvK env (ss++uu) (N+M) d (l++m) (vs++ws):=by
 obtain ⟨K,hK,hv⟩:=h
 obtain ⟨L,hL,hw⟩:=g
 refine ⟨K.app L,⟨by rw[qWV,hK.flat,hL.flat],by rw[qKo,hK.wf,hL.wf];rfl,by rw[qIc,hK.srt,hL.srt],?_,?_,?_,?_,?_,?_⟩,qOaq hv hw⟩
 ·rw[qZ7];exact fun h=>h.elim hK.nz hL.nz
 ·exact fun x hx=>(List.mem_append.1 hx).elim (hK.sh x) (hL.sh x)
 ·rw[qJf];have:=hK.size;have:=hL.size;omega
 ·rw[qNv];have:=hK.dep;have:=hL.dep;omega
 ·exact fun x hx=>(List.mem_append.1 hx).elim (hK.vars x) (hL.vars x)
 ·exact fun x hx=>(List.mem_append.1 hx).elim (hK.noap x) (hL.noap x)
theorem EvK.node {env:List qSJ} {ss:List Int} {N d:Nat} {l:List Nod} {vs:List SV} (h:EvK env ss N d l vs) {n:Nod} {s:Int} (hf:qRC n=true) (hc:qXA (nOp n) ss.length=true) (hk:qRF n=(ss.length:Int)) (hs:qCD n (l.getD 0 qHF).1 ss=s) (hz:s≠0)
 (hnum:(qAU n).length<=73) (hv:nOp n≠4) (ha:nOp n≠5):EvK env [s] (N+1) (d+1) (n::l) [opV n vs]:=by
 obtain ⟨K,hK,hev⟩:=h
 have hl:K.len=ss.length:=by rw[<-qQM,hK.srt]
 refine ⟨cons n K Tf.nil,⟨by simp[Tf.flat,hK.flat],qSH.2 ⟨qPV.2 ⟨hf,by rw[hk];exact hc⟩,by rw[hl];exact hk,hK.wf,rfl⟩,?_,?_,?_,?_,?_,?_,?_⟩,?_⟩
 ·simp only[Tf.srt,hK.srt]
  rw[if_neg hK.nz,qMx hK.flat,hs]
 ·simp[Ne.symm hz]
 ·intro x hx
  rcases List.mem_cons.1 hx with rfl | hx
  ·exact hnum
  ·exact hK.sh x hx
 ·simp only[Tf.size];have:=hK.size;omega
 ·simp only[Tf.dep];have:=hK.dep;omega
 ·intro x hx
  rcases List.mem_cons.1 hx with rfl | hx
  ·exact fun h=>absurd h hv
  ·exact hK.vars x hx
 ·intro x hx
  rcases List.mem_cons.1 hx with rfl | hx
  ·exact ha
  ·exact hK.noap x hx
 ·simp only[evF,hev,evN]
  rw[if_neg hv,if_neg ha]
theorem qRal (l m:List Int) (cut at':Int):qIT l m cut at'=some ((true,()),()):=by
 obtain ⟨c1,n1,hc1⟩:=qWm l
 obtain ⟨c2,n2,hc2⟩:=qWm m
 obtain ⟨r,m1,m2,m3⟩:=qDn cut (n:=4) (by omega)
 obtain ⟨t,c3,t1,t2,t3⟩:=qKac hc1 (s:=1+r) (by omega) (d:=3) (by omega)
 obtain ⟨env,c4,e1,e2,hE⟩:=qQam qOan qAag hc2
 have hlen:env.length=8:=hE.len
 obtain ⟨k,k1,k2,k3⟩:=qDn at' (n:=(env.length:Int)) (by omega)
 obtain ⟨kn,rfl⟩:∃ kn:Nat,k=kn:=⟨k.toNat,by omega⟩
 obtain ⟨v,v1,v2,v3,_⟩:=qIat m
 have hsm:∀ b∈env,SmallV b.2:=fun b hb=>(hE.val b hb).2
 have htl:t.length<=360:=by
  have h1:=t3.len
  have h2:gB 3=310:=rfl
  omega
 have t1':qBB big c1 (1+r) 3 VSg=some ((t,()),(c3,())):=t1
 have hev:∀ e:List qSJ,(∀ b∈e,SmallV b.2)->e.length<=100->qXI t e []=some ((true,()),()):=fun e he hl=>qAq t3.short htl he (by omega)
 have hodd:∀ b∈env.set kn ((env.getD kn qXR).1,encS v),SmallV b.2:=by
  intro b hb
  rcases List.mem_or_eq_of_mem_set hb with h | h
  ·exact hsm b h
  ·rw[h];exact v3
 unfold qIT
 rw[n1,qAA,m1,qAA,qWae,qAA]
 simp only
 rw[w64 (by omega),t1',qAA,n2,qAA,qAA]
 simp only
 rw[e1,qAA]
 simp only
 rw[qBA (by rw[hlen];decide),k1,qAA,v1,qAA]
 simp only[qZ0]
 rw[qEA,qBA (by omega),qBA (by omega),qBA (by omega)]
 rw[hev env hsm (by omega),qAA]
 simp only[qOA]
 rw[qAA]
 simp only
 rw[qEA,qBA (by omega),qBA (by omega),hev _ (fun b hb=>hsm b (List.mem_of_mem_drop hb)) (by simp;omega),qAA]
 simp only[qOA]
 rw[hev _ hodd (by simp;omega),qAA]
 simp only[qOA]
 rw[qBA (by rw[List.length_set,hlen];decide),qBA (by rw[List.length_set,hlen];decide),hev _ (fun b hb=>(List.mem_append.1 hb).elim (hodd b) (hsm b)) (by simp;omega),qAA]
 simp only[qOA]
 rw[qAz,qAA]
end Go.AM.Num
end
section
namespace Go.AM.Num
open Go.Proofs Go.Proofs.YtmckcoeongfmhaaGreatDoor
theorem gPow : Tryz.prog.globalNamed "internal/strconv.uint64pow10" = some 0 := by kernel_rfl
theorem tPow:(Tryz.prog.globals[0]?).map (·.type)=some 313:=by kernel_rfl
theorem qPas {W:World} (h:W.ShapedOpen Tryz.prog):∃ m,W.cell? ⟨1,0,none⟩=some (.int .i64 m):=
 cell_of_shapedOpen_int (t:=3) (zero:=#[.int .i64 0]) h (of_decide_eq_true (by kernel_rfl)) (by kernel_rfl) rfl (by kernel_rfl) (by kernel_rfl) Tryz.underlying3
theorem qCaw {W:World} (hL:laidMetH Tryz.prog Rows.valueZeroRow.laid W) (hsh:W.ShapedOpen Tryz.prog):GN W:=by
 rw[MakeChecks.laidMetH_plain _ _ _ (by kernel_rfl)] at hL
 obtain ⟨ps,⟨g0,t0,cs0,f0,p0,q0,hg0,ht0,hv0,hd0,⟨g1,t1,cs1,f1,p1,q1,hg1,ht1,hv1,hd1,⟨g2,t2,cs2,f2,p2,q2,hg2,ht2,hv2,hd2,_⟩,_⟩,_⟩,_⟩:=hL
 obtain rfl:=Option.some.inj (gPow.symm.trans hg2)
 obtain rfl:=Option.some.inj (tPow.symm.trans ht2)
 refine ⟨qPas hsh,?_⟩
 have e:(Rows.laid_internal_strconv_uint64pow10:DataW Unit)=Lib.tabData .u64 Lib.pow10Tab:=by kernel_rfl
 rw[e] at hd2
 unfold Lib.TabIs
 rw[hv2,<-Lib.cells_of_tab Tryz.underlying313 Tryz.underlying231 (by kernel_rfl) (by kernel_rfl) hd2]
theorem qQar {w w':World} (h:GN w) (hb:∀ B,B < 2->w'.heap[B]?=w.heap[B]?):GN w':=by
 have hc:∀ B o,B < 2->w'.cell? ⟨B,o,none⟩=w.cell? ⟨B,o,none⟩:=fun B o hB=>by simp[World.cell?,hb B hB]
 refine ⟨?_,?_⟩
 ·rw[hc _ 0 (by decide)];exact h.maxLen
 ·have:=h.pow10
  unfold Lib.TabIs World.var? at this ⊢
  rw[gPow] at this ⊢
  simp only[Option.bind_some] at this ⊢
  rw[hb _ (by decide)]
  exact this
theorem qIap {w:World} (h:GN w):2<=w.heap.size:=by
 obtain ⟨m,hm⟩:=h.maxLen
 exact World.block_lt_of_cell? w ⟨1,0,none⟩ hm
end Go.AM.Num
end
section
namespace Go.AM.Num
open Go.Proofs
noncomputable def VN:Env where
 P:=Tryz.prog
 gb:=2
 G:=GN
 keep:=fun w w' h _ hb=>qQar h hb
 mixed:=by kernel_rfl
theorem f0:Fs Tryz.prog VN l0:=
 (((((((((((⟨rfl,qYav⟩:Fs Tryz.prog VN []).cons (qEU rfl)).cons (qKT rfl (fun _ h=>h))).cons (qIV rfl)).cons (qMe rfl (fun _ h=>h))).cons (qHU rfl (fun _ h=>h))).cons (qRb rfl)).cons (qWY rfl)).cons (qEb rfl)).cons (qQX rfl)).cons (qDU rfl))
end Go.AM.Num
end
section
namespace Go.AM.Num
open Go.Proofs Go.Proofs.YtmckcoeongfmhaaGreatDoor Go.RowKit Go.ChangeShapes Go.WideShapes Go.ChangeAt
theorem qXag {k:FuncId} {ps:List PK} {g:qKH ps->Option (qKH [.val .bool]×qSi ps)} (hG:Good VN k ⟨ps,[.val .bool],g⟩) (x:qKH ps) (hin:qQB ps x=[]) (hk:cntK ps=0) (o:qSi ps) (hx:g x=some ((true,()),o))
 (W:World) (hW:GN W) (vs:Array Value) (ha:RelL (rdW W) (fun B=>B < W.heap.size) (fun _=>none) (qNB ps x 0 0) vs.toList) :
 Calls Tryz.prog k vs W fun e w'=>e=.returned (.bool true)/\Below W.heap.size W w':=by
 refine Calls.mono (hG.spec x _ o hx W (fun B=>B < W.heap.size) (fun _=>none) vs hW (qIap hW) ?_ ?_) ?_
 ·rw[hin];exact qHar fun _ h=>h
 ·rw[hk];exact ha
 ·rintro e w' ⟨us,I',β',rfl,hf,_,hr⟩
  obtain rfl:us=[.bool true]:=by
   have:qNT ps [.val .bool] (true,())=[.bool true]:=rfl
   rw[this] at hr
   simp only[RelL,RelV] at hr
   obtain ⟨u,us',rfl,rfl,rfl⟩:=hr
   rfl
  refine ⟨rfl,hf.os,hf.tape,hf.output,hf.size,fun B hB=>hf.block B hB ?_⟩
  rw[hin]
  exact qTS B
def IL (l:List Int):Prop:=l.length<=9223372036854775807/\∀ x∈l,qTt x
theorem qKv {n:Int} (h:(Lit.int .i64 n).wf=true):qTt n:=by
 simp only[Lit.wf,qY0,decide_eq_true_eq] at h
 exact h
theorem qIas {l:List Int} (h:l.length<=maxLen) (hw:∀ x∈l,(Lit.int .i64 x).wf=true):IL l:=⟨by unfold maxLen at h;omega,fun x hx=>qKv (hw x hx)⟩
section
variable {H:Type} {enc:TypeId×Value->H} {W:World} {I:Nat->Prop} {rd:Nat->Nat->Option Value} {β:Nat->Option Place}
theorem qXam (n:Int):RelV rd I β (Go.AM.enc (.int .i64) n) (.int .i64 n):=by
 have e:Go.AM.enc (.int .i64) n=.int .i64 n:=rfl
 rw[e];simp only[RelV]
theorem qEat:RelL rd I β (qNB [] () 0 0) []:=by simp only[qNB,RelL]
theorem qGn {t:GT} {ps:List PK} {x:t.ty} {y:qKH ps} {v:Value} {vs:List Value} (h:RelV rd I β (Go.AM.enc t x) v) (r:RelL rd I β (qNB ps y 0 0) vs):RelL rd I β (qNB (.val t::ps) (x,y) 0 0) (v::vs):=by
 simp only[qNB,RelL]
 exact ⟨v,vs,rfl,h,r⟩
theorem qRar (a:Addr) (i:Nat) (h:a.spot=none):a.add i=⟨a.block,a.off+i,none⟩:=by
 obtain ⟨b,o,s⟩:=a
 simp only at h;subst h
 simp[Addr.add]
theorem qWab {t e:TypeId} {k:IntKind} {a:Option Addr} {len cap:Nat} {d:DataW H} {p:List MemPlace} (ht:Tryz.prog.underlying t=some (.slice e)) (he:Tryz.prog.underlying e=some (.int k)) (hc:Tryz.prog.cellsOf e=1) (h:DataW.Trod enc Tryz.prog W 0 (fun _=>true) true t (.slice a len cap) d p) :
 ∃ l:List Int,l.length=len/\len<=maxLen/\(∀ x∈l,(Lit.int k x).wf=true)/\TV (rdW W) (fun B=>B < W.heap.size) (.sl (.int k)) l (.slice a len cap):=by
 obtain ⟨fuel,hf⟩:=h
 rcases open_ints ht he hc hf with ⟨hcs,_⟩ | ⟨x,l,c,zs,hcs,_,hl,hm,hz,_,hcell,hwz⟩
 ·simp[Value.cells] at hcs
  obtain ⟨rfl,rfl,rfl⟩:=hcs
  refine ⟨[],rfl,Nat.zero_le _,by simp,?_⟩
  simp only[TV,GT.isAgg,RelC]
  exact ⟨none,0,rfl,Nat.le_refl _,fun h=>absurd rfl h⟩
 ·simp[Value.cells] at hcs
  obtain ⟨rfl,rfl,rfl⟩:=hcs
  simp only[if_true] at hz
  have hzl:zs.length=cap:=by simpa using hz
  refine ⟨zs.take len,by simp;omega,by omega,fun y hy=>hwz y (List.mem_of_mem_take hy),?_⟩
  have hg:∀ i,i < zs.length->W.cell? (x.add i)=some (.int k (zs.getD i 0)):=hcell
  simp only[TV,GT.isAgg,RelC]
  refine ⟨some x,cap,by simp;omega,by simp;omega,fun hne=>?_⟩
  have hpos:0 < zs.length:=by
   have:zs.take len≠[]:=hne
   rcases zs with _ | ⟨z,zs⟩
   ·simp at this
   ·simp
  have hspot:x.spot=none:=by simpa [Addr.add] using World.cell?_spot (hg 0 hpos)
  have hat:∀ i,i < zs.length->W.cell? ⟨x.block,x.off+i,none⟩=some (.int k (zs.getD i 0)):=fun i hi=>by
   rw[<-qRar x i hspot];exact hg i hi
  refine ⟨x.block,x.off,by obtain ⟨b,o,s⟩:=x;simp only at hspot;subst hspot;rfl,World.block_lt_of_cell? W ⟨x.block,x.off+0,none⟩ (hat 0 hpos),fun i z hi=>?_⟩
  have hi1:i < zs.length:=by
   have:=(List.getElem?_eq_some_iff.1 hi).1
   simp at this;omega
  have hzi:zs.getD i 0=z:=by
   rw[List.getElem?_take] at hi
   split at hi
   ·rw[qZ4,hi];rfl
   ·cases hi
  refine ⟨[.int k z],rfl,fun j hj=>?_,rfl⟩
  have:j=0:=by simp[GT.cells] at hj;omega
  subst this
  have:=hat i hi1
  rw[hzi] at this
  have h2:=qLh this rfl
  simpa [GT.cells] using h2
end
noncomputable def qGV (os:Os):World:=
 { World.doorLaid Tryz.prog 400 os with heap:=(World.doorLaid Tryz.prog 400 os).heap.modify 6 fun
  |.cells _ t frozen=>.cells (Go.Pinned.utf8FirstZ.map fun n=>Value.int .u8 (n:Nat)).toArray t frozen
  |o=>o }
set_option maxRecDepth 100000 in
theorem qPak (os:Os) (args:Array Value):laidMet Tryz.prog Rows.valueZeroRow.laid ((qGV os).forCall (fun _ _=>0) ⟨#[],args,[]⟩).memory:=
 laidMet_of_run' 8 (by kernel_rfl) (by kernel_rfl)
theorem qIal (os:Os) (args:Array Value):(((qGV os).forCall (fun _ _=>0) ⟨#[],args,[]⟩).variablesRefB Tryz.prog)=true:=by kernel_rfl
theorem qTac (os:Os) (args:Array Value):((((qGV os).forCall (fun _ _=>0) ⟨#[],args,[]⟩).heap.toList.drop Tryz.prog.globals.size).take ((begin Tryz.prog (fun _ _=>0) default).world.heap.size - Tryz.prog.globals.size) =
 (begin Tryz.prog (fun _ _=>0) default).world.heap.toList.drop Tryz.prog.globals.size):=by kernel_rfl
theorem own:ownKnob Tryz.prog.godebug=none:=by kernel_rfl
theorem qAac:laidOutB Tryz.prog=true:=by kernel_rfl
end Go.AM.Num
end
section
set_option linter.unusedVariables false
namespace Go.AM.Num
theorem qWu (l:List Int) (hl:IL l) (m:List Int) (hm:IL m) (cut:Int) (hc:qTt cut) (at':Int) (ha:qTt at'):qIT l m cut at'=some ((true,()),()):=qRal l m cut at'
end Go.AM.Num
end
