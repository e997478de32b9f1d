/- Law TermCompare: a part of its proof. No conditions. -/
import Derived.Test.YtppjkoefhkcjfaaGreatDoorTermCompare5
import Derived.Test.YtppjkoefhkcjfaaGreatDoorTermCompare3
import Derived.Test.YtppjkoefhkcjfaaGreatDoorRows
import Derived.Shelf.Vars
import Derived.Lib.LaidTab
import Derived.ProofKit
import Derived.MakeChecks
import Derived.OpenShut
import Derived.Lib.Strings
import Derived.SliceStrings
import Derived.SizedLaws
import Derived.Test.YtppjkoefhkcjfaaGreatDoorCards
import Derived.Test.YtppjkoefhkcjfaaGreatDoorTie
import Derived.ShutString
import Derived.ChangeOld
import Derived.Below
import Derived.LaidMore
import Derived.Deep.DeepHandedRow
import Derived.Deep.DeepWitnessRowRef
import GoSem.PinnedTables
import Derived.ChangeArms
set_option linter.unusedSimpArgs false
set_option linter.unusedVariables false
section
namespace Go.AM.Num
theorem TT {N:Nat} (hN:N<=100000) {v:Bh} (hv:Short N v):I8 v=some ((Do v,()),()):=by
 have h1:BV v.2.2.1=some ((Bv v.2.2.1,()),()):=Hm (by have:=hv.num;omega)
 have h2:C' v.2.2.1=some (((rd v.2.2.1).isSome,()),()):=KT (by have:=hv.num;omega)
 unfold I8 Do EE
 rw[h1,h2]
 simp only[Af]
 by_cases e4:v.1=4
 ·rw[BP e4,if_neg (by omega),if_neg (by omega),if_neg (by omega),if_pos e4,B_]
  cases hb:v.2.1 with
  |true=>rfl
  |false=>
   simp only[AX,qY1,Bool.true_and]
   rw[An,An,An,AI e4]
   cases hi:Bv v.2.2.1 with
   |false=>rfl
   |true=>
    simp only[qY2,AX,Bool.true_and]
    by_cases hl:v.2.2.2.1.length=v.2.2.2.2.length
    ·rw[BP,qZ10 hl,Bool.true_and]
     rcases XA hN hv hl with ⟨a1,a2⟩ | ⟨a1,k,a2⟩
     ·rw[a1,a2];simp only[Af,By,AK]
     ·rw[a1,a2];simp only[Af,Ce,Ci,AK,AX]
    ·rw[B_,qZ9 hl,Bool.false_and]
 ·rw[B_ e4]
  by_cases k1:v.2.2.2.1.length=0
  ·rw[AH,qZ10 k1,Bool.true_and]
   by_cases k2:v.2.2.2.2.length=0
   ·rw[AH,qZ10 k2]
    simp only[Bool.and_true]
    by_cases e1:v.1=1
    ·rw[BP e1,if_pos e1,AI e1]
    ·rw[B_ e1,if_neg e1]
     by_cases e2:v.1=2
     ·rw[if_pos e2,An e1,AI e2];cases v.2.1<;>rfl
     ·rw[if_neg e2]
      by_cases e3:v.1=3
      ·rw[if_pos e3,An e1,An e2,AI e3];cases v.2.1<;>rfl
      ·rw[if_neg e3,if_neg e4,An e1,An e2,An e3,An e4];cases v.2.1<;>rfl
   ·rw[Aw,qZ9 k2]
    simp only[Bool.and_false,if_neg e4,ite_self]
  ·rw[Aw,qZ9 k1,Bool.false_and]
   simp only[Bool.and_false,if_neg e4,ite_self]
section
variable {d i n:Int} {P:KV} {t6:Bh}
theorem F2 (Q:KV) (p:Int×Int):ks Q++[ti p.1]=ks (Q++[p]):=by simp[ks]
theorem Gf (Q:KV) (p:Int×Int):vs Q++[ti p.2]=vs (Q++[p]):=by simp[vs]
theorem AAa {Q:KV} {k:Nat} (hf:P.length<=1000000000) (hQ:Q.length<=2000000000) (hk:k < P.length) (hne:P[k].1≠i) :
 B0 (ti i,ti n,AL d P,t6,AL d Q,true,(k:Int),())=some (.normal,(ti i,ti n,AL d P,t6,AL d (Q++[P[k]]),true,((k+1:Nat):Int),())):=by
 have a1:=Cm P;have a2:=C_ P;have a3:=Cm Q;have a4:=C_ Q
 unfold B0
 simp only
 rw[Aw]
 simp only[qY2,AX]
 rw[Aw,Ay,Ag,Ag,qZ0,Es hk,FE hk,Gp,qZ9 hne]
 simp only[qY1,AK]
 rw[Ay,Ag,Ag,Ag (by rw[CW];simp only[qY11,List.length_nil];omega),Ay,Ag,Ag,Ag (by rw[CW];simp only[qY11,List.length_nil];omega),AG,F2,Gf]
 rfl
theorem Rf {Q:KV} {b:Bool}:B0 (ti i,ti n,AL d P,t6,AL d Q,b,((P.length+1:Nat):Int),())=some (.exit 0,(ti i,ti n,AL d P,t6,AL d Q,b,((P.length+1:Nat):Int),())):=by
 have a1:=Cm P
 unfold B0
 simp only
 rw[AH]
theorem YL {Q:KV} (hf:P.length<=1000000000) :
 B0 (ti i,ti n,AL d P,t6,AL d Q,true,(P.length:Int),())=some (.normal,(ti i,ti n,AL d P,t6,AL d Q,true,((P.length+1:Nat):Int),())):=by
 have a1:=Cm P
 unfold B0
 simp only
 rw[Aw]
 simp only[qY2,AX]
 rw[AH,AG]
 rfl
theorem Q3 (hf:P.length<=1000000000):∀ (R pre Q:KV),P=pre++R->(∀ p∈R,p.1≠i)->Q.length+R.length<=2000000000->
 Ak B0 (ti i,ti n,AL d P,t6,AL d Q,true,(pre.length:Int),())=some (.exit 0,(ti i,ti n,AL d P,t6,AL d (Q++R),true,((P.length+1:Nat):Int),())):=by
 intro R
 induction R with
 |nil=>
  intro pre Q e _ _
  have:pre.length=P.length:=by rw[e];simp
  rw[this,A6 (YL hf),A_ Rf (by simp),qY4]
 |cons p R ih=>
  intro pre Q e hne hQ
  have hk:pre.length < P.length:=by rw[e];simp
  have hp:P[pre.length]=p:=by simp[e]
  simp only[qY11] at hQ
  rw[A6 (AAa hf (by omega) hk (by rw[hp];exact hne p (by simp))),hp]
  have:=ih (pre++[p]) (Q++[p]) (by rw[e];simp) (fun q hq=>hne q (qY13 _ hq)) (by simp;omega)
  rw[qZ1] at this
  simp only[qZ6,qY11,List.length_nil,qY5,qY15] at this
  exact this
theorem AE1 {N:Nat} (hN:N<=100000) {Q:KV} {k:Nat} (hs:Sm N d P) (hi:(ti i).length<=N) (hQ:Q.length<=2000000000) (hk:k < P.length) (hlt:P[k].1 < i) :
 B0 (ti i,ti n,AL d P,t6,AL d Q,false,(k:Int),())=some (.normal,(ti i,ti n,AL d P,t6,AL d (Q++[P[k]]),false,((k+1:Nat):Int),())):=by
 have a1:=Cm P;have a2:=C_ P;have a3:=Cm Q;have a4:=C_ Q;have hf:=hs.few
 have hc:DK (ti P[k].1) (ti i)=some (((P[k].1 - i).sign,()),()):=K4 (by have:=(hs.els _ (List.getElem_mem hk)).1;omega) (by omega)
 have hsg:(P[k].1 - i).sign=-1:=Int.sign_eq_neg_one_of_neg (by omega)
 unfold B0
 simp only
 rw[Aw]
 simp only[qY1,AK]
 rw[An,Ay,Ag,Ag,qZ0,Es hk,FE hk,hc,Af,hsg]
 rw[AH (by simp only;omega),Aw,Ay,Ag,Ag,Gp,qZ9 (by omega)]
 simp only[qY1,AK]
 rw[Ay,Ag,Ag,Ag (by rw[CW];simp only[qY11,List.length_nil];omega),Ay,Ag,Ag,Ag (by rw[CW];simp only[qY11,List.length_nil];omega),AG,F2,Gf]
 rfl
theorem WH {N:Nat} (hN:N<=100000) (hs:Sm N d P) (hi:(ti i).length<=N):∀ (R pre Z:KV),P=pre++R++Z->(∀ p∈R,p.1 < i)->
 Ak B0 (ti i,ti n,AL d P,t6,AL d pre,false,(pre.length:Int),())=Ak B0 (ti i,ti n,AL d P,t6,AL d (pre++R),false,((pre++R).length:Int),()):=by
 intro R
 induction R with
 |nil=>intro pre Z _ _;rw[qY4]
 |cons p R ih=>
  intro pre Z e hlt
  have hk:pre.length < P.length:=by rw[e];simp
  have hp:P[pre.length]=p:=by simp[e]
  have hf:=hs.few
  rw[A6 (AE1 hN hs hi (by omega) hk (by rw[hp];exact hlt p (by simp))),hp]
  have:=ih (pre++[p]) Z (by rw[e];simp) (fun q hq=>hlt q (qY13 _ hq))
  rw[qZ1] at this
  simp only[qZ6,qY11,List.length_nil,qY5,qY15] at this ⊢
  exact this
end
def DD (d i n:Int):KV:=if n=d then [] else [(i,n)]
section
variable {d i n:Int} {P:KV} {t6:Bh}
theorem ACR {L:KV} (hf:P.length<=1000000000) (hL:L.length=P.length) :
 B0 (ti i,ti n,AL d P,t6,AL d L,false,(P.length:Int),())=some (.normal,(ti i,ti n,AL d P,t6,AL d (L++DD d i n),true,((P.length+1:Nat):Int),())):=by
 have a1:=Cm P;have a3:=Cm L;have a4:=C_ L
 unfold B0
 simp only
 rw[Aw]
 simp only[qY1,AK]
 rw[AI (by omega),Gp]
 unfold DD
 by_cases hn:n=d
 ·rw[qZ10 hn,if_pos hn]
  simp only[qY2,AX]
  rw[AH,AG,qY4]
  rfl
 ·rw[qZ9 hn,if_neg hn]
  simp only[qY1,AK]
  rw[Ag (by rw[CW];simp only[qY11,List.length_nil];omega),Ag (by rw[CW];simp only[qY11,List.length_nil];omega),AH,AG,F2 L (i,n),Gf L (i,n)]
  rfl
theorem ACI {N:Nat} (hN:N<=100000) (hs:Sm N d P) (hi:(ti i).length<=N) {L:KV} (hk:L.length < P.length) (hgt:i < P[L.length].1) :
 B0 (ti i,ti n,AL d P,t6,AL d L,false,(L.length:Int),())=some (.normal,(ti i,ti n,AL d P,t6,AL d (L++DD d i n++[P[L.length]]),true,((L.length+1:Nat):Int),())):=by
 have a1:=Cm P;have a2:=C_ P;have a3:=Cm L;have a4:=C_ L;have hf:=hs.few
 have hc:DK (ti P[L.length].1) (ti i)=some (((P[L.length].1 - i).sign,()),()):=K4 (by have:=(hs.els _ (List.getElem_mem hk)).1;omega) (by omega)
 have hsg:(P[L.length].1 - i).sign=1:=Int.sign_eq_one_of_pos (by omega)
 unfold B0
 simp only
 rw[Aw]
 simp only[qY1,AK]
 rw[An,Ay,Ag,Ag,qZ0,Es hk,FE hk,hc,Af,hsg]
 rw[Aw (by simp only;omega),Gp,Gp]
 unfold DD
 by_cases hn:n=d
 ·rw[qZ10 hn,if_pos hn,qY4]
  simp only[qY2,AX]
  rw[Aw,Ay,Ag,Ag,qZ9 (by omega)]
  simp only[qY1,AK]
  rw[Ay,Ag,Ag,Ag (by rw[CW];simp only[qY11,List.length_nil];omega),Ay,Ag,Ag,Ag (by rw[CW];simp only[qY11,List.length_nil];omega),AG,F2,Gf]
  rfl
 ·rw[qZ9 hn,if_neg hn]
  simp only[qY1,AK]
  rw[Ag (by rw[CW];simp only[qY11,List.length_nil];omega),Ag (by rw[CW];simp only[qY11,List.length_nil];omega),Aw,Ay,Ag,Ag,qZ9 (by omega)]
  simp only[qY1,AK]
  rw[Ay,Ag,Ag,Ag (by rw[CW];simp only[qZ6,qY11,List.length_nil];omega),Ay,Ag,Ag,Ag (by rw[CW];simp only[qZ6,qY11,List.length_nil];omega),AG,F2 L (i,n),Gf L (i,n),F2,Gf]
  rfl
theorem AAy {N:Nat} (hN:N<=100000) (hs:Sm N d P) (hi:(ti i).length<=N) {L:KV} (hk:L.length < P.length) (heq:P[L.length].1=i) :
 B0 (ti i,ti n,AL d P,t6,AL d L,false,(L.length:Int),())=some (.normal,(ti i,ti n,AL d P,t6,AL d (L++DD d i n),true,((L.length+1:Nat):Int),())):=by
 have a1:=Cm P;have a2:=C_ P;have a3:=Cm L;have a4:=C_ L;have hf:=hs.few
 have hc:DK (ti P[L.length].1) (ti i)=some (((P[L.length].1 - i).sign,()),()):=K4 (by have:=(hs.els _ (List.getElem_mem hk)).1;omega) (by omega)
 have hsg:(P[L.length].1 - i).sign=0:=by rw[show P[L.length].1 - i=0 by omega];rfl
 unfold B0
 simp only
 rw[Aw]
 simp only[qY1,AK]
 rw[An,Ay,Ag,Ag,qZ0,Es hk,FE hk,hc,Af,hsg]
 rw[Aw (by simp only;omega),Gp,Gp]
 unfold DD
 by_cases hn:n=d
 ·rw[qZ10 hn,if_pos hn,qY4]
  simp only[qY2,AX]
  rw[Aw,Ay,Ag,Ag,qZ10 heq]
  simp only[qY2,AX]
  rw[AG]
  rfl
 ·rw[qZ9 hn,if_neg hn]
  simp only[qY1,AK]
  rw[Ag (by rw[CW];simp only[qY11,List.length_nil];omega),Ag (by rw[CW];simp only[qY11,List.length_nil];omega),Aw,Ay,Ag,Ag,qZ10 heq]
  simp only[qY2,AX]
  rw[AG,F2 L (i,n),Gf L (i,n)]
  rfl
theorem ACd {N:Nat} (hN:N<=100000) (hP:Ea P) (hs:Sm N d P) (hi:(ti i).length<=N) :
 Ak B0 (ti i,ti n,AL d P,t6,AL d [],false,0,())=some (.exit 0,(ti i,ti n,AL d P,t6,AL d (CN d P i n),true,((P.length+1:Nat):Int),())):=by
 obtain ⟨m,e,hp⟩:=X' hP i
 have hf:=hs.few
 have hd:=WH (n:=n) (t6:=t6) hN hs hi (lo i P) [] (m++Num.hi i P) (by rw[qY15,<-qZ1];exact e) hp.lo
 simp only[qY15,List.length_nil] at hd
 rw[show ((0:Nat):Int)=0 from rfl] at hd
 rw[hd]
 have hst:CN d P i n=lo i P++DD d i n++Num.hi i P:=rfl
 have hil:(DD d i n).length<=1:=by unfold DD;split<;>simp
 have hlen:=congrArg List.length e
 simp only[qZ6] at hlen
 rcases hp.mid with rfl | ⟨w,rfl⟩
 ·cases hH:Num.hi i P with
  |nil=>
   have hL:(lo i P).length=P.length:=by rw[hH] at hlen;simp at hlen;omega
   rw[hL,A6 (ACR hf hL),A_ Rf (by simp),hst,hH,qY4]
  |cons p H'=>
   have hk:(lo i P).length < P.length:=by rw[hH] at hlen;simp at hlen;omega
   have hp0:P[(lo i P).length]=p:=by
    have:P=lo i P++p::H':=by rw[hH,qY4] at e;exact e
    have h2:P[(lo i P).length]?=some p:=(congrArg (fun Q:KV=>Q[(lo i P).length]?) this).trans (by simp)
    rw[qZ5 hk] at h2
    exact Option.some.inj h2
   have hmem:∀ q∈p::H',i < q.1:=fun q hq=>hp.hi q (by show q∈Num.hi i P;rw[hH];exact hq)
   have h1:=ACI (n:=n) (t6:=t6) hN hs hi hk (by rw[hp0];exact hmem p (by simp))
   rw[hp0] at h1
   have h2:=Q3 (i:=i) (n:=n) (d:=d) (t6:=t6) hf H' (lo i P++[p]) (lo i P++DD d i n++[p]) (by rw[hH] at e;simpa using e) (fun q hq=>by have:=hmem q (qY13 _ hq);omega)
    (by rw[hH] at hlen;simp at hlen ⊢;omega)
   rw[A6 h1,hst,hH]
   simp only[qZ6,qY11,List.length_nil,qZ1,qY5,qY15] at h2 ⊢
   exact h2
 ·have hk:(lo i P).length < P.length:=by simp at hlen;omega
  have hp0:P[(lo i P).length].1=i:=by
   have h2:P[(lo i P).length]?=some (i,w):=(congrArg (fun Q:KV=>Q[(lo i P).length]?) e).trans (by simp)
   rw[qZ5 hk] at h2
   rw[Option.some.inj h2]
  have h1:=AAy (n:=n) (t6:=t6) hN hs hi hk hp0
  have h2:=Q3 (i:=i) (n:=n) (d:=d) (t6:=t6) hf (Num.hi i P) (lo i P++[(i,w)]) (lo i P++DD d i n) e (fun q hq=>by have:=hp.hi q hq;omega)
   (by simp at hlen ⊢;omega)
  rw[A6 h1,hst]
  simp only[qZ6,qY11,List.length_nil] at h2 ⊢
  exact h2
end
theorem AFf {N:Nat} (hN:N<=100000) {d i n:Int} {P:KV} (hP:Canon d P) (hs:Sm N d P) (hi:(ti i).length<=N) (hn:(ti n).length<=N) :
 JB (AL d P) (ti i) (ti n)=some ((AL d (CN d P i n),0,()),()):=by
 unfold JB
 simp only
 rw[BP,TT hN hs.short,Af,Th hP,Hm (by omega),Hm (by omega),ER,ER]
 simp only[qY2,AX,Af]
 have:=ACd (n:=n) (t6:=((0:Int),false,([]:qBs),([]:List qBs),([]:List qBs))) hN hP.incr hs hi
 have e:(AL d []:Bh)=(4,false,ti d,([]:List qBs),([]:List qBs)):=rfl
 rw[e] at this
 rw[this,Af]
 simp only[By,AK]
theorem Rs {d i n:Int} {P:KV} (h:Ea P):(CN d P i n).length<=P.length+1:=by
 obtain ⟨m,e,_⟩:=RW i h
 have:=congrArg List.length e
 unfold CN
 simp only[qZ6] at this ⊢
 split<;>simp<;>omega
theorem YA {N:Nat} {d i n:Int} {P:KV} (hP:Ea P) (h:Sm N d P) (hi:(ti i).length<=N) (hn:(ti n).length<=N) (hl:P.length < 1000000000):Sm N d (CN d P i n):=by
 refine ⟨h.num,fun p hp=>?_,by have:=Rs (d:=d) (i:=i) (n:=n) hP;omega⟩
 unfold CN at hp
 rcases List.mem_append.1 hp with hp | hp
 ·rcases List.mem_append.1 hp with hp | hp
  ·exact h.els p (Gw.1 hp).1
  ·split at hp
   ·cases hp
   ·rw[List.mem_singleton.1 hp];exact ⟨hi,hn⟩
 ·exact h.els p (HO.1 hp).1
theorem W7 {c:List Int×Int} (hc:CI c):∃ (z:Int) (c':List Int×Int),Fx c=some ((ti z,()),(c',()))/\CI c'/\(ti z).length<=52:=by
 obtain ⟨z,c',h1,h2,h3⟩:=P3 hc
 exact ⟨z,c',h1,h2,by have:=DM (z:Rat);unfold ti;omega⟩
theorem K3 (d:Int):Canon d []:=⟨List.Pairwise.nil,fun _ hp=>absurd hp qY16⟩
theorem Rk {N:Nat} {d:Int} (h:(ti d).length<=N):Sm N d []:=⟨h,fun _ hp=>absurd hp qY16,Nat.zero_le _⟩
abbrev Aj (n:Aa):Int:=n.1
abbrev A5 (n:Aa):Int:=n.2.1
abbrev BW (n:Aa):qBs:=n.2.2.1
abbrev Ba (n:Aa):qBs:=n.2.2.2.1
abbrev Bf (n:Aa):Int:=n.2.2.2.2
def Gq (c:UInt8):Bool:=(decide (97<=c)&&decide (c<=122))||(decide (65<=c)&&decide (c<=90))||c==95||c==36||c==33
def FF (c:UInt8):Bool:=Gq c||(decide (48<=c)&&decide (c<=57))||c==46||c==64
def Mp:List qBs:=[[97,110,100],[111,114],[110,111,116],[105,116,101],[116,114,117,101],[102,97,108,115,101],[108,101,116],[102,111,114,97,108,108],[101,120,105,115,116,115],
 [100,105,115,116,105,110,99,116],[100,105,118],[109,111,100],[115,101,108,101,99,116],[115,116,111,114,101],[99,111,110,115,116],[66,111,111,108],[73,110,116],[82,101,97,108],[65,114,114,97,121]]
def Gg (s:qBs):Bool:=decide (s.length<=40)&&Gq (s.getD 0 0)&&!(decide (s∈Mp))&&s.all FF
noncomputable def BK (n:Aa):Bool:=
 if Aj n=3 then decide (BW n=[])&&((decide (A5 n=2)&&Bv (Ba n))||(decide (A5 n=3)&&(rd (Ba n)).isSome))
 else if Aj n=4\/Aj n=5 then decide (1<=A5 n/\A5 n<=4)&&Gg (BW n)&&decide (Ba n=[])
 else if Aj n=16\/Aj n=17 then decide (A5 n=0)&&decide (BW n=[])&&Bv (Ba n)&&decide (0 < F' (Ba n))
 else decide (1<=Aj n/\Aj n<=20)&&decide (A5 n=0)&&decide (BW n=[])&&decide (Ba n=[])
def Be (o k:Int):Bool:=
 if o=1\/o=2\/o=3\/o=4 then decide (k=0)
 else if o=5 then decide (1<=k/\k<=40)
 else if o=6\/o=16\/o=17\/o=20 then decide (k=1)
 else if o=7\/o=8 then decide (0<=k)
 else if o=14 then decide (1<=k)
 else if o=10\/o=19 then decide (k=3)
 else decide (k=2)
theorem M7 {o k:Int} (h:Be o k=true):0<=k:=by
 unfold Be at h
 repeat' split at h
 all_goals (simp at h;omega)
noncomputable def CO (n:Aa):Bool:=BK n&&Be (Aj n) (Bf n)
def AZ (n:Aa) (first:Int) (ss:List Int):Int:=
 if Aj n=3\/Aj n=4\/Aj n=5 then A5 n
 else if Aj n=1\/Aj n=2\/Aj n=6\/Aj n=7\/Aj n=8\/Aj n=9 then (if ∀ s∈ss,s=1 then 1 else 0)
 else if Aj n=10 then (if ss.getD 0 0=1/\ss.getD 1 0=ss.getD 2 0 then ss.getD 1 0 else 0)
 else if Aj n=11 then (if ss.getD 0 0=ss.getD 1 0 then 1 else 0)
 else if Aj n=12\/Aj n=13 then (if (ss.getD 0 0=2\/ss.getD 0 0=3)/\∀ s∈ss,s=ss.getD 0 0 then 1 else 0)
 else if Aj n=14 then (if (ss.getD 0 0=2\/ss.getD 0 0=3)/\∀ s∈ss,s=ss.getD 0 0 then ss.getD 0 0 else 0)
 else if Aj n=15 then (if first=3/\(ss.getD 0 0=2\/ss.getD 0 0=3)/\∀ s∈ss,s=ss.getD 0 0 then ss.getD 0 0 else 0)
 else if Aj n=16\/Aj n=17 then (if ss.getD 0 0=2 then 2 else 0)
 else if Aj n=18 then (if ss.getD 0 0=4/\ss.getD 1 0=2 then 2 else 0)
 else if Aj n=19 then (if ss.getD 0 0=4/\ss.getD 1 0=2/\ss.getD 2 0=2 then 4 else 0)
 else if Aj n=20 then (if ss.getD 0 0=2 then 4 else 0)
 else 0
inductive Tf where
 |nil
 |cons (n:Aa) (k r:Tf)
namespace Tf
def flat:Tf->List Aa
 |nil=>[]
 |cons n k r=>n::(flat k++flat r)
def len:Tf->Nat
 |nil=>0
 |cons _ _ r=>len r+1
def size:Tf->Nat
 |nil=>0
 |cons _ k r=>size k+size r+1
def app:Tf->Tf->Tf
 |nil,g=>g
 |cons n k r,g=>cons n k (app r g)
def dep:Tf->Nat
 |nil=>0
 |cons _ k r=>max (dep k+1) (dep r)
def op1:Tf->Int
 |nil=>0
 |cons n _ _=>Aj n
def srt:Tf->List Int
 |nil=>[]
 |cons n k r=>(if 0∈srt k then 0 else AZ n (op1 k) (srt k))::srt r
noncomputable def wf:Tf->Bool
 |nil=>true
 |cons n k r=>CO n&&decide (Bf n=(len k:Int))&&wf k&&wf r
def take:Nat->Tf->Tf
 |0,_=>nil
 |_+1,nil=>nil
 |c+1,cons n k r=>cons n k (take c r)
def drop:Nat->Tf->Tf
 |0,f=>f
 |_+1,nil=>nil
 |c+1,cons _ _ r=>drop c r
theorem CV (f:Tf):f.flat.length=f.size:=by
 induction f with
 |nil=>rfl
 |cons n k r ik ir=>simp only[flat,size,qY11,qZ6];omega
theorem KH (f g:Tf):(f.app g).flat=f.flat++g.flat:=by
 induction f with
 |nil=>rfl
 |cons n k r _ ir=>simp only[app,flat,ir,qY5,qZ1]
theorem Qf (f g:Tf):(f.app g).len=f.len+g.len:=by
 induction f with
 |nil=>simp[app,len]
 |cons n k r _ ir=>simp only[app,len,ir];omega
theorem Su (f g:Tf):(f.app g).size=f.size+g.size:=by
 induction f with
 |nil=>simp[app,size]
 |cons n k r _ ir=>simp only[app,size,ir];omega
theorem Kn (f g:Tf):(f.app g).srt=f.srt++g.srt:=by
 induction f with
 |nil=>rfl
 |cons n k r _ ir=>simp only[app,srt,ir,qY5]
theorem Kl (f g:Tf):(f.app g).wf=(f.wf&&g.wf):=by
 induction f with
 |nil=>simp[app,wf]
 |cons n k r _ ir=>simp only[app,wf,ir,Bool.and_assoc]
theorem Tz (f g:Tf):(f.app g).dep=max f.dep g.dep:=by
 induction f with
 |nil=>simp[app,dep]
 |cons n k r _ ir=>simp only[app,dep,ir];omega
theorem ADB (f:Tf):f.app nil=f:=by
 induction f with
 |nil=>rfl
 |cons n k r _ ir=>simp only[app,ir]
theorem EC (f:Tf):f.srt.length=f.len:=by
 induction f with
 |nil=>rfl
 |cons n k r _ ir=>simp only[srt,len,qY11,ir]
theorem AAJ:∀ (c:Nat) (f:Tf),(take c f).app (drop c f)=f:=by
 intro c
 induction c with
 |zero=>intro f;cases f<;>rfl
 |succ c ih=>
  intro f
  cases f with
  |nil=>rfl
  |cons n k r=>simp only[take,drop,app,ih]
theorem ADG:∀ (c:Nat) (f:Tf),c<=f.len->(take c f).len=c:=by
 intro c
 induction c with
 |zero=>intro f _;cases f<;>rfl
 |succ c ih=>
  intro f h
  cases f with
  |nil=>simp[len] at h
  |cons n k r=>simp only[len] at h;simp only[take,len,ih r (by omega)]
theorem Xc (f g:Tf):take f.len (f.app g)=f:=by
 induction f with
 |nil=>cases g<;>rfl
 |cons n k r _ ir=>simp only[len,app,take,ir]
theorem Wt (f g:Tf):drop f.len (f.app g)=g:=by
 induction f with
 |nil=>cases g<;>rfl
 |cons n k r _ ir=>simp only[len,app,drop,ir]
theorem JA (f:Tf):f.len<=f.size:=by
 induction f with
 |nil=>simp[len,size]
 |cons n k r _ ir=>simp only[len,size];omega
theorem CZ {n:Aa} {k r:Tf}:(cons n k r).wf=true ↔ CO n=true/\Bf n=(len k:Int)/\wf k=true/\wf r=true:=by
 simp only[wf,qY0,decide_eq_true_eq,and_assoc]
theorem Gy {n:Aa} {k r:Tf}:(0:Int)∉(cons n k r).srt ↔ (0:Int)∉k.srt/\AZ n (op1 k) k.srt≠0/\(0:Int)∉r.srt:=by
 simp only[srt,qY12,not_or]
 constructor
 ·rintro ⟨h1,h2⟩
  split at h1
  ·exact absurd rfl h1
  ·rename_i h;exact ⟨h,fun e=>h1 e.symm,h2⟩
 ·rintro ⟨h1,h2,h3⟩
  rw[if_neg h1]
  exact ⟨fun e=>h2 e.symm,h3⟩
end Tf
open Tf
noncomputable def bkp:List Aa->Option Tf
 |[]=>some nil
 |n::l=>(bkp l).bind fun f=>if CO n=true/\Bf n<=(f.len:Int)/\(0:Int)≠AZ n (op1 (take (Bf n).toNat f)) (take (Bf n).toNat f).srt then some (cons n (take (Bf n).toNat f) (drop (Bf n).toNat f)) else none
theorem W_:∀ {t:List Aa} {f:Tf},bkp t=some f->f.flat=t/\f.wf=true/\(0:Int)∉f.srt:=by
 intro t
 induction t with
 |nil=>intro f h;simp only[bkp,Option.some.injEq] at h;subst h;exact ⟨rfl,rfl,by simp[srt]⟩
 |cons n l ih=>
  intro f h
  simp only[bkp,Option.bind_eq_some_iff] at h
  obtain ⟨g,hg,h⟩:=h
  split at h
  ·rename_i hc
   obtain ⟨h1,h2,h3⟩:=hc
   obtain ⟨i1,i2,i3⟩:=ih hg
   simp only[Option.some.injEq] at h
   subst h
   have e:=AAJ (Bf n).toNat g
   have hk:0<=Bf n:=by
    unfold CO at h1
    simp only[qY0] at h1
    exact M7 h1.2
   have hl:=ADG (Bf n).toNat g (by omega)
   rw[<-e,Kl,qY0] at i2
   rw[<-e,Kn,qZ7,not_or] at i3
   refine ⟨?_,CZ.2 ⟨h1,by rw[hl];omega,i2.1,i2.2⟩,Gy.2 ⟨i3.1,fun e=>h3 e.symm,i3.2⟩⟩
   rw[<-i1]
   simp only[flat]
   rw[<-KH,e]
  ·cases h
theorem ABY:∀ (N:Nat) (f:Tf),f.size<=N->f.wf=true->(0:Int)∉f.srt->bkp f.flat=some f:=by
 intro N
 induction N with
 |zero=>intro f h _ _;cases f with
  |nil=>rfl
  |cons n k r=>simp[size] at h
 |succ N ih=>
  intro f h hw hs
  cases f with
  |nil=>rfl
  |cons n k r=>
   obtain ⟨h1,h2,h3,h4⟩:=CZ.1 hw
   obtain ⟨s1,s2,s3⟩:=Gy.1 hs
   simp only[size] at h
   have:=ih (k.app r) (by rw[Su];omega) (by rw[Kl,h3,h4];rfl) (by rw[Kn,qZ7];exact fun e=>e.elim s1 s3)
   rw[KH] at this
   simp only[flat,bkp,this,Option.bind_some]
   have e:(Bf n).toNat=k.len:=by omega
   rw[e,Xc,Wt,if_pos ⟨h1,by rw[Qf];omega,fun e=>s2 e.symm⟩]
theorem AC6 {t:List Aa} {f:Tf}:bkp t=some f ↔ f.flat=t/\f.wf=true/\(0:Int)∉f.srt:=
 ⟨W_,fun ⟨h1,h2,h3⟩=>h1 ▸ ABY _ f (Nat.le_refl _) h2 h3⟩
def many (p:List Aa->Option (Tf×List Aa)):Nat->List Aa->Option (Tf×List Aa)
 |0,l=>some (nil,l)
 |c+1,l=>(p l).bind fun x=>(many p c x.2).bind fun y=>some (x.1.app y.1,y.2)
noncomputable def one:Nat->List Aa->Option (Tf×List Aa)
 |0,_=>none
 |_+1,[]=>none
 |d+1,n::l=>if CO n=true then (many (one d) (Bf n).toNat l).bind fun x=>some (cons n x.1 nil,x.2) else none
theorem Tq {d:Nat} (ho:∀ {l l':List Aa} {f:Tf},one d l=some (f,l')->l=f.flat++l'/\f.wf=true/\f.len=1/\f.dep<=d) :
 ∀ (c:Nat) {l l':List Aa} {f:Tf},many (one d) c l=some (f,l')->l=f.flat++l'/\f.wf=true/\f.len=c/\f.dep<=d:=by
 intro c
 induction c with
 |zero=>intro l l' f h;simp only[many,Option.some.injEq,Prod.mk.injEq] at h;obtain ⟨rfl,rfl⟩:=h;exact ⟨rfl,rfl,rfl,Nat.zero_le _⟩
 |succ c ih=>
  intro l l' f h
  simp only[many,Option.bind_eq_some_iff] at h
  obtain ⟨⟨g,l1⟩,h1,⟨g2,l2⟩,h2,h3⟩:=h
  simp only[Option.some.injEq,Prod.mk.injEq] at h3
  obtain ⟨rfl,rfl⟩:=h3
  obtain ⟨e1,w1,n1,d1⟩:=ho h1
  obtain ⟨e2,w2,n2,d2⟩:=ih h2
  simp only at e2
  refine ⟨by rw[e1,e2,KH,qZ1],by rw[Kl,w1,w2];rfl,by rw[Qf];omega,by rw[Tz];omega⟩
theorem KM:∀ (d:Nat) {l l':List Aa} {f:Tf},one d l=some (f,l')->l=f.flat++l'/\f.wf=true/\f.len=1/\f.dep<=d:=by
 intro d
 induction d with
 |zero=>intro l l' f h;simp[one] at h
 |succ d ih=>
  intro l l' f h
  cases l with
  |nil=>simp[one] at h
  |cons n l=>
   simp only[one] at h
   split at h
   ·rename_i hn
    simp only[Option.bind_eq_some_iff] at h
    obtain ⟨⟨g,l1⟩,h1,h2⟩:=h
    simp only[Option.some.injEq,Prod.mk.injEq] at h2
    obtain ⟨rfl,rfl⟩:=h2
    obtain ⟨e1,w1,n1,d1⟩:=Tq ih _ h1
    have hk:0<=Bf n:=by
     unfold CO at hn
     simp only[qY0] at hn
     exact M7 hn.2
    refine ⟨by rw[e1];simp only[flat,qY4,qY5],CZ.2 ⟨hn,by omega,w1,rfl⟩,rfl,by simp only[dep];omega⟩
   ·cases h
theorem ADe (f:Tf):∀ (d:Nat) (l:List Aa),f.wf=true->f.dep<=d->many (one d) f.len (f.flat++l)=some (f,l):=by
 induction f with
 |nil=>intro d l _ _;rfl
 |cons n k r ik ir=>
  intro d l hw hd
  obtain ⟨h1,h2,h3,h4⟩:=CZ.1 hw
  simp only[dep] at hd
  obtain ⟨e,rfl⟩:∃ e,d=e+1:=⟨d - 1,by omega⟩
  have e1:=ik e (r.flat++l) h3 (by omega)
  have e2:=ir (e+1) l h4 (by omega)
  have ek:(Bf n).toNat=k.len:=by omega
  simp only[len,flat,many,qY5,one,qZ1]
  rw[if_pos h1,ek,e1]
  simp only[Option.bind_some]
  rw[e2]
  rfl
theorem SF {f:Tf} {d:Nat} (l:List Aa) (hw:f.wf=true) (hl:f.len=1) (hd:f.dep<=d):one d (f.flat++l)=some (f,l):=by
 have:=ADe f d l hw hd
 rw[hl] at this
 simp only[many,Option.bind_eq_some_iff] at this
 obtain ⟨⟨g,l1⟩,h1,⟨g2,l2⟩,h2,h3⟩:=this
 simp only[Option.some.injEq,Prod.mk.injEq] at h2 h3
 obtain ⟨rfl,rfl⟩:=h2
 obtain ⟨rfl,rfl⟩:=h3
 rw[h1,ADB]
end Go.AM.Num
end
section
namespace Go.AM.Num
theorem E' {P:UInt8->Prop} (h:∀ n:Fin 256,P (UInt8.ofNat n.val)) (c:UInt8):P c:=by
 have:=h ⟨c.toNat,c.toNat_lt⟩
 simpa using this
theorem YF (c:UInt8):((c.toNat:Int) !=46)=!(c==46):=by
 refine E' (P:=fun c=>((c.toNat:Int) !=46)=!(c==46)) ?_ c
 decide +kernel
theorem W5 (c:UInt8):((c.toNat:Int) !=64)=!(c==64):=by
 refine E' (P:=fun c=>((c.toNat:Int) !=64)=!(c==64)) ?_ c
 decide +kernel
theorem LO {α:Type} (l:List α) (d:α) (p:α->Bool):(List.range l.length).all (fun k=>p (l.getD k d))=l.all p:=by
 rw[Bool.eq_iff_iff,qY3,qY3]
 constructor
 ·intro h x hx
  obtain ⟨i,hi⟩:=List.getElem?_of_mem hx
  have:=h i (by simp only[List.mem_range];exact (List.getElem?_eq_some_iff.1 hi).1)
  simpa [qZ4,hi] using this
 ·intro h k hk
  simp only[List.mem_range] at hk
  simpa [qZ4,hk] using h _ (List.getElem_mem hk)
theorem ZY (s:qBs):(s==[])=decide (s=[]):=by
 cases s<;>simp
theorem Z6 (s:Int):EK s=some ((decide (1<=s/\s<=4),()),()):=by
 unfold EK
 by_cases h:s>=1
 ·rw[Aw h]
  have:decide (s<=4)=decide (1<=s/\s<=4):=by rw[decide_eq_decide];omega
  rw[this]
 ·rw[AH h,qZ9 (by omega)]
theorem Vs (s:Int):Fc s=some ((decide (s=2\/s=3),()),()):=by
 unfold Fc
 by_cases h:s=2
 ·rw[AI h,qZ10 (.inl h)]
 ·rw[An h]
  have:(s==3)=decide (s=2\/s=3):=by
   have e:(s==3)=decide (s=3):=rfl
   rw[e,decide_eq_decide];omega
  rw[this]
namespace Tf
def info:Nat->Tf->List (Int×Int×Int)
 |_,nil=>[]
 |p,cons n k r=>((if 0∈srt k then 0 else AZ n (op1 k) (srt k)),((dep k+1:Nat):Int),((p+1+size k:Nat):Int))::(info (p+1) k++info (p+1+size k) r)
theorem M3 (f:Tf):∀ p,(info p f).length=f.size:=by
 induction f with
 |nil=>intro p;rfl
 |cons n k r ik ir=>intro p;simp only[info,size,qY11,qZ6,ik,ir]
end Tf
open Tf
theorem Lu {α:Type} {l r:List α} {p:Nat} {x d:α} (h:l.drop p=x::r):l.getD p d=x/\p < l.length:=by
 have h0:(l.drop p)[0]?=some x:=by rw[h];rfl
 rw[List.getElem?_drop] at h0
 have e:p+0=p:=by omega
 rw[e] at h0
 exact ⟨by rw[qZ4,h0];rfl,(List.getElem?_eq_some_iff.1 h0).1⟩
def E8 (t:List Aa):Prop:=∀ n∈t,(Ba n).length<=100000
end Go.AM.Num
end
section
namespace Go.AM.Num
theorem HP {α:Type} (s:qBs) (x:α):∀ l,AY s (Bn s x l)=some x:=by
 intro l
 induction l with
 |nil=>simp[Bn,AY]
 |cons a l ih=>
  obtain ⟨k,y⟩:=a
  simp only[Bn]
  by_cases h:k=s
  ·rw[show (k==s)=true by simpa using h];simp[AY,h]
  ·have hk:(k==s)=false:=by simpa using h
   rw[hk];simp[AY,hk,ih]
theorem Ia {α:Type} {s t:qBs} (h:t≠s) (x:α):∀ l,AY t (Bn s x l)=AY t l:=by
 intro l
 have h2:(s==t)=false:=by simpa using fun e=>h e.symm
 induction l with
 |nil=>simp[Bn,AY,h2]
 |cons a l ih=>
  obtain ⟨k,y⟩:=a
  simp only[Bn]
  by_cases hk:k=s
  ·subst hk;simp[AY,h2]
  ·rw[show (k==s)=false by simpa using hk]
   simp only[AX,AY,ih]
namespace Tf
def subs:Tf->List (Aa×Tf)
 |nil=>[]
 |cons n k r=>(n,k)::(subs k++subs r)
theorem Jh (f:Tf):f.subs.length=f.size:=by
 induction f with
 |nil=>rfl
 |cons n k r ik ir=>simp only[subs,size,qY11,qZ6,ik,ir]
theorem ZO (f:Tf):∀ (o p:Nat),p < f.size->∃ n k x rest rest2,f.subs[p]?=some (n,k)/\f.flat.drop p=n::(k.flat++rest)/\(info o f).drop p=x::(info (o+p+1) k++rest2):=by
 induction f with
 |nil=>intro o p h;simp[size] at h
 |cons n k r ik ir=>
  intro o p h
  cases p with
  |zero=>exact ⟨n,k,((if 0∈srt k then 0 else AZ n (op1 k) (srt k)),((dep k+1:Nat):Int),((o+1+size k:Nat):Int)),flat r,info (o+1+size k) r,rfl,rfl,rfl⟩
  |succ p=>
   simp only[size] at h
   by_cases hp:p < k.size
   ·obtain ⟨n',k',x,rest,rest2,h1,h2,h3⟩:=ik (o+1) p hp
    refine ⟨n',k',x,rest++r.flat,rest2++info (o+1+k.size) r,?_,?_,?_⟩
    ·simp only[subs,List.getElem?_cons_succ]
     rw[qY8 (by rw[Jh];exact hp)]
     exact h1
    ·simp only[flat,List.drop_succ_cons]
     rw[List.drop_append_of_le_length (by rw[CV];omega),h2]
     simp
    ·simp only[info,List.drop_succ_cons]
     rw[List.drop_append_of_le_length (by rw[M3];omega),h3]
     have e:o+1+p+1=o+(p+1)+1:=by omega
     simp[e]
   ·obtain ⟨n',k',x,rest,rest2,h1,h2,h3⟩:=ir (o+1+k.size) (p - k.size) (by omega)
    refine ⟨n',k',x,rest,rest2,?_,?_,?_⟩
    ·simp only[subs,List.getElem?_cons_succ]
     rw[qY9 (by rw[Jh];omega),Jh]
     exact h1
    ·simp only[flat,List.drop_succ_cons]
     rw[List.drop_append,CV,qY7 (by rw[CV];omega),h2]
     rfl
    ·simp only[info,List.drop_succ_cons]
     rw[List.drop_append,M3,qY7 (by rw[M3];omega),h3]
     have e:o+1+k.size+(p - k.size)+1=o+(p+1)+1:=by omega
     simp[e]
theorem UD {f:Tf} (hw:f.wf=true) (hs:(0:Int)∉f.srt):∀ {n:Aa} {k:Tf},(n,k)∈f.subs->CO n=true/\Bf n=(k.len:Int)/\k.wf=true/\(0:Int)∉k.srt:=by
 induction f with
 |nil=>intro n k h;simp[subs] at h
 |cons m a b ia ib=>
  intro n k h
  obtain ⟨h1,h2,h3,h4⟩:=CZ.1 hw
  obtain ⟨s1,s2,s3⟩:=Gy.1 hs
  simp only[subs,qY12,qZ7,Prod.mk.injEq] at h
  rcases h with ⟨rfl,rfl⟩ | h | h
  ·exact ⟨h1,h2,h3,s1⟩
  ·exact ia h3 s1 h
  ·exact ib h4 s3 h
theorem Og {f:Tf}:∀ {n:Aa} {k:Tf},(n,k)∈f.subs->k.size < f.size:=by
 induction f with
 |nil=>intro n k h;simp[subs] at h
 |cons m a b ia ib=>
  intro n k h
  simp only[subs,qY12,qZ7,Prod.mk.injEq] at h
  simp only[size]
  rcases h with ⟨rfl,rfl⟩ | h | h
  ·omega
  ·have:=ia h;omega
  ·have:=ib h;omega
end Tf
open Tf
abbrev Us:=qBs×Bool×List Int×Int
def CK (x:Aa×Tf):Option Us:=if Aj x.1=4 then some (BW x.1,false,[],A5 x.1) else if Aj x.1=5 then some (BW x.1,true,x.2.srt,A5 x.1) else none
def C1 (f:Tf):List Us:=f.subs.filterMap CK
def DX (us:List Us):Prop:=∀ a∈us,∀ b∈us,a.1=b.1->a=b
theorem DX.mono {us vs:List Us} (h:DX vs) (hs:∀ a∈us,a∈vs):DX us:=fun a ha b hb e=>h a (hs a ha) b (hs b hb) e
structure NI (us:List Us) (vars:List (qBs×Vr)) (funcs:List (qBs×qBs×Ac)):Prop where
 cns:DX us
 w:∀ a∈us,(a.2.1=false/\a.2.2.1=[])\/a.2.1=true
 v:∀ nm x,AY nm vars=some x->x.1=nm/\(nm,false,[],x.2)∈us
 v':∀ nm s,(nm,false,[],s)∈us->(AY nm vars).isSome=true
 f:∀ nm x,AY nm funcs=some x->x.1=nm/\(nm,true,x.2.1,x.2.2)∈us
 f':∀ nm a s,(nm,true,a,s)∈us->(AY nm funcs).isSome=true
theorem NI.nil:NI [] [] []:=⟨fun a h=>absurd h qY16,fun a h=>absurd h qY16,fun nm x h=>(by simp[AY] at h),fun nm s h=>absurd h qY16,fun nm x h=>(by simp[AY] at h),fun nm a s h=>absurd h qY16⟩
theorem NI.fresh {us:List Us} {vars:List (qBs×Vr)} {funcs:List (qBs×qBs×Ac)} (h:NI us vars funcs) {nm:qBs} (h1:AY nm vars=none) (h2:AY nm funcs=none):∀ a∈us,a.1≠nm:=by
 rintro ⟨m,b,l,s⟩ ha e
 simp only at e
 subst e
 rcases h.w _ ha with ⟨e1,e2⟩ | e1
 ·simp only at e1 e2;subst e1;subst e2
  have:=h.v' _ _ ha
  rw[h1] at this;cases this
 ·simp only at e1;subst e1
  have:=h.f' _ _ _ ha
  rw[h2] at this;cases this
theorem Lh {us:List Us} {u:Us} (h:DX us) (hu:∀ a∈us,a.1=u.1->a=u):DX (us++[u]):=by
 intro a ha b hb e
 rcases List.mem_append.1 ha with ha1 | ha1
 ·rcases List.mem_append.1 hb with hb1 | hb1
  ·exact h a ha1 b hb1 e
  ·rw[qZ8] at hb1
   rw[hb1] at e ⊢
   exact hu a ha1 e
 ·rw[qZ8] at ha1
  rw[ha1] at e ⊢
  rcases List.mem_append.1 hb with hb1 | hb1
  ·exact (hu b hb1 e.symm).symm
  ·rw[qZ8] at hb1;exact hb1.symm
theorem NI.addV {us:List Us} {vars:List (qBs×Vr)} {funcs:List (qBs×qBs×Ac)} (h:NI us vars funcs) {nm:qBs} {s:Int} (h1:AY nm vars=none) (h2:AY nm funcs=none):NI (us++[(nm,false,[],s)]) (Bn nm (nm,s) vars) funcs:=by
 have hf:=h.fresh h1 h2
 refine ⟨Lh h.cns fun a ha e=>absurd e (hf a ha),fun a ha=>?_,fun m x hx=>?_,fun m x hx=>?_,fun m x hx=>?_,fun m a x hx=>?_⟩
 ·rcases List.mem_append.1 ha with ha | ha
  ·exact h.w a ha
  ·rw[qZ8] at ha;subst ha;exact .inl ⟨rfl,rfl⟩
 ·by_cases e:m=nm
  ·subst e;rw[HP] at hx;cases hx;exact ⟨rfl,by simp⟩
  ·rw[Ia e] at hx
   obtain ⟨a1,a2⟩:=h.v m x hx
   exact ⟨a1,List.mem_append_left _ a2⟩
 ·by_cases e:m=nm
  ·subst e;rw[HP];rfl
  ·rw[Ia e]
   rcases List.mem_append.1 hx with hx | hx
   ·exact h.v' m x hx
   ·rw[qZ8] at hx;cases hx;exact absurd rfl e
 ·obtain ⟨a1,a2⟩:=h.f m x hx
  exact ⟨a1,List.mem_append_left _ a2⟩
 ·rcases List.mem_append.1 hx with hx | hx
  ·exact h.f' m a x hx
  ·rw[qZ8] at hx;cases hx
theorem NI.addF {us:List Us} {vars:List (qBs×Vr)} {funcs:List (qBs×qBs×Ac)} (h:NI us vars funcs) {nm:qBs} {l:List Int} {s:Int} (h1:AY nm vars=none) (h2:AY nm funcs=none):NI (us++[(nm,true,l,s)]) vars (Bn nm (nm,l,s) funcs):=by
 have hf:=h.fresh h1 h2
 refine ⟨Lh h.cns fun a ha e=>absurd e (hf a ha),fun a ha=>?_,fun m x hx=>?_,fun m x hx=>?_,fun m x hx=>?_,fun m a x hx=>?_⟩
 ·rcases List.mem_append.1 ha with ha | ha
  ·exact h.w a ha
  ·rw[qZ8] at ha;subst ha;exact .inr rfl
 ·obtain ⟨a1,a2⟩:=h.v m x hx
  exact ⟨a1,List.mem_append_left _ a2⟩
 ·rcases List.mem_append.1 hx with hx | hx
  ·exact h.v' m x hx
  ·rw[qZ8] at hx;cases hx
 ·by_cases e:m=nm
  ·subst e;rw[HP] at hx;cases hx;exact ⟨rfl,by simp⟩
  ·rw[Ia e] at hx
   obtain ⟨a1,a2⟩:=h.f m x hx
   exact ⟨a1,List.mem_append_left _ a2⟩
 ·by_cases e:m=nm
  ·subst e;rw[HP];rfl
  ·rw[Ia e]
   rcases List.mem_append.1 hx with hx | hx
   ·exact h.f' m a x hx
   ·rw[qZ8] at hx;cases hx;exact absurd rfl e
theorem NI.again {us:List Us} {vars:List (qBs×Vr)} {funcs:List (qBs×qBs×Ac)} (h:NI us vars funcs) {u:Us} (hu:u∈us):NI (us++[u]) vars funcs:=by
 have hm:∀ a,a∈us++[u] ↔ a∈us:=fun a=>by
  rw[qZ7,qZ8]
  exact ⟨fun h=>h.elim id fun e=>e ▸ hu,.inl⟩
 exact ⟨Lh h.cns fun a ha e=>h.cns a ha u hu e,fun a ha=>h.w a ((hm a).1 ha),fun m x hx=>⟨(h.v m x hx).1,(hm _).2 (h.v m x hx).2⟩,fun m s hx=>h.v' m s ((hm _).1 hx),fun m x hx=>⟨(h.f m x hx).1,(hm _).2 (h.f m x hx).2⟩,fun m a s hx=>h.f' m a s ((hm _).1 hx)⟩
end Go.AM.Num
end
section
namespace Go.AM.Num
open Tf
section
variable {F:Tf} {t:List Aa} {P:List (Int×Ae)}
abbrev DH (F:Tf) (p:Nat):List Us:=(F.subs.take p).filterMap CK
theorem Qc {p:Nat}:∀ a∈DH F p,a∈C1 F:=by
 intro a ha
 simp only[DH,C1,List.mem_filterMap] at ha ⊢
 obtain ⟨x,h1,h2⟩:=ha
 exact ⟨x,List.mem_of_mem_take h1,h2⟩
theorem ABR {p:Nat} {n:Aa} {k:Tf} (h:F.subs[p]?=some (n,k)):DH F (p+1)=DH F p++(CK (n,k)).toList:=by
 simp only[DH,List.take_add_one,h,Option.toList_some,List.filterMap_append]
 cases hu:CK (n,k)<;>simp[hu]
def KL {α β:Type} (l:List (qBs×β)) (vars:List (qBs×α)):Prop:=∀ nm,AY nm vars=none ↔ ∀ y∈l,y.1≠nm
theorem KL.nil {α β:Type}:KL ([]:List (qBs×β)) ([]:List (qBs×α)):=fun nm=>⟨fun _ y hy=>absurd hy qY16,fun _=>rfl⟩
theorem KL.add {α β:Type} {l:List (qBs×β)} {vars:List (qBs×α)} (h:KL l vars) (nm:qBs) (y:α) (z:β):KL (l++[(nm,z)]) (Bn nm y vars):=fun x=>by
 by_cases e:x=nm
 ·subst e
  rw[HP]
  constructor
  ·intro h;cases h
  ·intro h';exact absurd rfl (h' (x,z) (by simp))
 ·rw[Ia e,h x]
  constructor
  ·intro h' w hw
   rcases List.mem_append.1 hw with hw | hw
   ·exact h' w hw
   ·rw[List.mem_singleton.1 hw];exact fun e'=>e e'.symm
  ·exact fun h' w hw=>h' w (List.mem_append_left _ hw)
theorem KL.some {α β:Type} {l:List (qBs×β)} {vars:List (qBs×α)} (h:KL l vars) {nm:qBs} {x:α} (hx:AY nm vars=some x):¬ ∀ y∈l,y.1≠nm:=fun h'=>by rw[(h nm).2 h'] at hx;cases hx
end
structure VT (t:List Aa) (F:Tf):Prop where
 flat:F.flat=t
 wf:F.wf=true
 srt:(0:Int)∉F.srt
 len:F.len=1
 size:F.size<=20000
 dep:F.dep<=257
 cns:DX (C1 F)
theorem VT.one {t:List Aa} {F:Tf} (h:VT t F):∃ n k,F=cons n k nil:=by
 have:=h.len
 cases F with
 |nil=>simp[Tf.len] at this
 |cons n k r=>
  cases r with
  |nil=>exact ⟨n,k,rfl⟩
  |cons a b c=>simp only[Tf.len] at this;omega
theorem VT.bkp {t:List Aa} {F:Tf} (h:VT t F):bkp t=some F:=AC6.2 ⟨h.flat,h.wf,h.srt⟩
theorem VT.uniq {t:List Aa} {F G:Tf} (h:VT t F) (g:VT t G):F=G:=by
 have:=h.bkp;rw[g.bkp] at this;exact (Option.some.inj this).symm
end Go.AM.Num
end
section
namespace Go.AM.Num
inductive SV where
 |b (x:Bool)
 |z (n:Int)
 |q (r:Rat)
 |a (d:Int) (P:KV)
def encS:SV->Bh
 |.b x=>(1,x,[],[],[])
 |.z n=>(2,false,ti n,[],[])
 |.q r=>(3,false,Az r,[],[])
 |.a d P=>AL d P
def Cf:SV->Int
 |.b _=>1
 |.z _=>2
 |.q _=>3
 |.a _ _=>4
def DV:SV->Prop
 |.a d P=>Canon d P
 |_=>True
def Ft:SV->Bool
 |.b x=>x
 |_=>false
def C2:SV->Rat
 |.z n=>(n:Rat)
 |.q r=>r
 |_=>0
def intV (v:SV):Int:=(C2 v).num
def Ej (s:Int) (r:Rat):SV:=if s=2 then .z r.num else .q r
def P1:SV->Int->Int
 |.a d P,i=>Jz d P i
 |_,_=>0
def Oe:SV->Int->Int->SV
 |.a d P,i,n=>.a d (CN d P i n)
 |v,_,_=>v
def UT (vs:List SV):Rat:=vs.foldl (fun s v=>s+C2 v) 0
noncomputable def CT (n:Aa):Rat:=(rd (Ba n)).getD 0
open Classical in
noncomputable def GA (n:Aa) (vs:List SV):SV:=
 if Aj n=1\/Aj n=7 then .b (vs.all Ft)
 else if Aj n=2\/Aj n=8 then .b (vs.any Ft)
 else if Aj n=6 then .b (!Ft (vs.getD 0 (.b false)))
 else if Aj n=9 then .b (!Ft (vs.getD 0 (.b false))||Ft (vs.getD 1 (.b false)))
 else if Aj n=10 then (if Ft (vs.getD 0 (.b false))=true then vs.getD 1 (.b false) else vs.getD 2 (.b false))
 else if Aj n=11 then .b (decide (vs.getD 0 (.b false)=vs.getD 1 (.b false)))
 else if Aj n=12 then .b (decide (C2 (vs.getD 0 (.b false))<=C2 (vs.getD 1 (.b false))))
 else if Aj n=13 then .b (decide (C2 (vs.getD 0 (.b false)) < C2 (vs.getD 1 (.b false))))
 else if Aj n=3 then Ej (A5 n) (CT n)
 else if Aj n=14 then Ej (Cf (vs.getD 0 (.b false))) (UT vs)
 else if Aj n=15 then Ej (Cf (vs.getD 0 (.b false))) (C2 (vs.getD 0 (.b false)) * C2 (vs.getD 1 (.b false)))
 else if Aj n=16 then .z (intV (vs.getD 0 (.b false)) / (CT n).num)
 else if Aj n=17 then .z (intV (vs.getD 0 (.b false)) % (CT n).num)
 else if Aj n=18 then .z (P1 (vs.getD 0 (.b false)) (intV (vs.getD 1 (.b false))))
 else if Aj n=19 then Oe (vs.getD 0 (.b false)) (intV (vs.getD 1 (.b false))) (intV (vs.getD 2 (.b false)))
 else .a (intV (vs.getD 0 (.b false))) []
theorem MG {v:Bh}:EE v=true ↔ v.2.2.2.1=[]/\v.2.2.2.2=[]:=by
 unfold EE
 simp only[qY0,decide_eq_true_eq,List.length_eq_zero_iff]
theorem UG {v:Bh}:Do v=true ↔ ∃ s,DV s/\v=encS s:=by
 constructor
 ·intro h
  by_cases h4:v.1=4
  ·obtain ⟨d,P,e,c⟩:=AFu h h4
   exact ⟨.a d P,c,e⟩
  obtain ⟨s,b,num,k,w⟩:=v
  simp only at h4
  unfold Do at h
  simp only at h
  split at h
  ·rename_i h1
   subst h1
   simp only[qY0,MG,beq_iff_eq] at h
   obtain ⟨rfl,rfl,rfl⟩:=h
   exact ⟨.b b,trivial,rfl⟩
  ·split at h
   ·rename_i h1
    subst h1
    simp only[qY0,MG,Bool.not_eq_true'] at h
    obtain ⟨⟨rfl,h2⟩,rfl,rfl⟩:=h
    obtain ⟨z,rfl⟩:=K5 h2
    exact ⟨.z z,trivial,rfl⟩
   ·split at h
    ·rename_i h1
     subst h1
     simp only[qY0,MG,Bool.not_eq_true',Option.isSome_iff_exists] at h
     obtain ⟨⟨rfl,q,h2⟩,rfl,rfl⟩:=h
     have:=Et h2
     subst this
     exact ⟨.q q,trivial,rfl⟩
    ·first | cases h | (rw[if_neg h4] at h;cases h)
 ·rintro ⟨s,h,rfl⟩
  cases s with
  |b x=>simp[encS,Do,EE]
  |z n=>simp[encS,Do,EE,ER]
  |q r=>simp[encS,Do,EE,Dq]
  |a d P=>exact Th h
theorem ZG {s:SV} (h:DV s):Do (encS s)=true:=UG.2 ⟨s,h,rfl⟩
theorem Ly {s:Int} (h:s=2\/s=3) (r:Rat):Cf (Ej s r)=s:=by
 unfold Ej
 split
 ·rename_i e;rw[e];rfl
 ·rcases h with h | h
  ·contradiction
  ·rw[h];rfl
theorem MP (s:Int) (r:Rat):DV (Ej s r):=by unfold Ej;split<;>trivial
theorem AA5 {n:Aa} {vs:List SV} {f:Int} (hn:BK n=true) (h4:Aj n≠4) (h5:Aj n≠5) (hc:Be (Aj n) vs.length=true) (hs:AZ n f (vs.map Cf)≠0) (hok:∀ v∈vs,DV v) :
 Cf (GA n vs)=AZ n f (vs.map Cf)/\DV (GA n vs):=by
 obtain ⟨o,s,nm,num,kd⟩:=n
 simp only[Aj] at h4 h5 hc
 have hall:∀ ws:List SV,(if ∀ s∈ws.map Cf,s=1 then (1:Int) else 0)≠0->(1:Int)=if ∀ s∈ws.map Cf,s=1 then (1:Int) else 0:=fun ws h=>by
  split at h<;>rename_i hh
  ·rw[if_pos hh]
  ·exact absurd rfl h
 unfold GA AZ at *
 simp only[Aj,A5] at *
 by_cases e3:o=3
 ·subst e3
  simp at hs ⊢
  refine ⟨Ly ?_ _,MP _ _⟩
  simp[BK] at hn
  rcases hn.2 with h | h
  ·exact .inl h.1
  ·exact .inr h.1
 rw[if_neg (show ¬ (o=3\/o=4\/o=5) by omega)] at hs ⊢
 by_cases e1:o=1\/o=7
 ·rw[if_pos e1,if_pos (by omega)]
  rw[if_pos (by omega)] at hs
  exact ⟨hall vs hs,trivial⟩
 rw[if_neg e1]
 by_cases e2:o=2\/o=8
 ·rw[if_pos e2,if_pos (by omega)]
  rw[if_pos (by omega)] at hs
  exact ⟨hall vs hs,trivial⟩
 rw[if_neg e2]
 by_cases e6:o=6
 ·rw[if_pos e6,if_pos (by omega)]
  rw[if_pos (by omega)] at hs
  exact ⟨hall vs hs,trivial⟩
 rw[if_neg e6]
 by_cases e9:o=9
 ·rw[if_pos e9,if_pos (by omega)]
  rw[if_pos (by omega)] at hs
  exact ⟨hall vs hs,trivial⟩
 rw[if_neg e9]
 rw[if_neg (show ¬ (o=1\/o=2\/o=6\/o=7\/o=8\/o=9) by omega)] at hs ⊢
 by_cases e10:o=10
 ·subst e10
  rcases vs with _ | ⟨a,_ | ⟨b,_ | ⟨c,_ | ⟨d,l⟩⟩⟩⟩<;>simp[Be] at hc
  ·simp at hs hok ⊢
   by_cases q:Ft a=true
   ·rw[if_pos q,if_pos ⟨hs.1,hs.2.1⟩];exact ⟨rfl,hok.2.1⟩
   ·rw[if_neg q,if_pos ⟨hs.1,hs.2.1⟩];exact ⟨hs.2.1.symm,hok.2.2⟩
  ·omega
 rw[if_neg e10] at hs ⊢
 rw[if_neg e10]
 by_cases e11:o=11
 ·subst e11
  simp at hs ⊢
  rw[if_pos hs];exact ⟨rfl,trivial⟩
 rw[if_neg e11] at hs ⊢
 rw[if_neg e11]
 by_cases e12:o=12
 ·subst e12
  simp only[true_or,if_true] at hs ⊢
  split at hs<;>rename_i hh
  ·rw[if_pos hh];exact ⟨rfl,trivial⟩
  ·exact absurd rfl hs
 rw[if_neg e12]
 by_cases e13:o=13
 ·subst e13
  simp only[or_true,if_true] at hs ⊢
  split at hs<;>rename_i hh
  ·rw[if_pos hh];exact ⟨rfl,trivial⟩
  ·exact absurd rfl hs
 rw[if_neg e13,if_neg e3]
 rw[if_neg (show ¬ (o=12\/o=13) by omega)] at hs ⊢
 by_cases e14:o=14
 ·subst e14
  rcases vs with _ | ⟨a,l⟩<;>simp[Be] at hc
  simp only[if_true,List.map_cons,qZ3] at hs ⊢
  split at hs<;>rename_i hh
  ·rw[if_pos hh];exact ⟨Ly hh.1 _,MP _ _⟩
  ·exact absurd rfl hs
 rw[if_neg e14] at hs ⊢
 rw[if_neg e14]
 by_cases e15:o=15
 ·subst e15
  rcases vs with _ | ⟨a,l⟩<;>simp[Be] at hc
  simp only[if_true,List.map_cons,qZ3] at hs ⊢
  split at hs<;>rename_i hh
  ·rw[if_pos hh];exact ⟨Ly hh.2.1 _,MP _ _⟩
  ·exact absurd rfl hs
 rw[if_neg e15] at hs ⊢
 rw[if_neg e15]
 by_cases e16:o=16
 ·rw[if_pos e16,if_pos (.inl e16)]
  rw[if_pos (.inl e16)] at hs
  split at hs<;>rename_i hh
  ·rw[if_pos hh];exact ⟨rfl,trivial⟩
  ·exact absurd rfl hs
 rw[if_neg e16]
 by_cases e17:o=17
 ·rw[if_pos e17,if_pos (.inr e17)]
  rw[if_pos (.inr e17)] at hs
  split at hs<;>rename_i hh
  ·rw[if_pos hh];exact ⟨rfl,trivial⟩
  ·exact absurd rfl hs
 rw[if_neg e17]
 rw[if_neg (show ¬ (o=16\/o=17) by omega)] at hs ⊢
 by_cases e18:o=18
 ·rw[if_pos e18] at hs ⊢
  rw[if_pos e18]
  split at hs<;>rename_i hh
  ·rw[if_pos hh];exact ⟨rfl,trivial⟩
  ·exact absurd rfl hs
 rw[if_neg e18] at hs ⊢
 rw[if_neg e18]
 by_cases e19:o=19
 ·subst e19
  rcases vs with _ | ⟨a,_ | ⟨b,_ | ⟨c,_ | ⟨d,l⟩⟩⟩⟩<;>simp[Be] at hc
  ·simp at hs hok ⊢
   rw[if_pos hs]
   cases a with
   |a d P=>exact ⟨rfl,S' hok.1 _ _⟩
   |b x=>simp[Cf] at hs
   |z x=>simp[Cf] at hs
   |q x=>simp[Cf] at hs
  ·omega
 rw[if_neg e19] at hs ⊢
 rw[if_neg e19]
 split at hs<;>rename_i hh
 ·rw[if_pos hh]
  split at hs<;>rename_i h2
  ·rw[if_pos h2];exact ⟨rfl,K3 _⟩
  ·exact absurd rfl hs
 ·exact absurd rfl hs
structure Ht (m:Nat) (r:Rat):Prop where
 num:(dd r.num.natAbs).length<=m
 den:(dd r.den).length<=m
theorem Ht.mono {m k:Nat} {r:Rat} (h:Ht m r) (hk:m<=k):Ht k r:=⟨by have:=h.num;omega,by have:=h.den;omega⟩
theorem Ht.D {m:Nat} {r:Rat} (h:Ht m r):D r<=2 * m:=by have:=h.num;have:=h.den;unfold Num.D;omega
theorem Y7 {m:Nat} {r:Rat} (h:D r<=m):Ht m r:=by unfold Num.D at h;exact ⟨by omega,by omega⟩
theorem Pn {n:Int} {d m:Nat} (hd:d≠0) (h1:(dd n.natAbs).length<=m) (h2:(dd d).length<=m):Ht m (mkRat n d):=by
 have e1:(n / (d.gcd n.natAbs:Nat)).natAbs<=n.natAbs:=by
  obtain ⟨k,hk⟩:((d.gcd n.natAbs:Nat):Int) ∣ n:=by
   have:=Nat.gcd_dvd_right d n.natAbs
   exact Int.ofNat_dvd_left.2 this
  have hg:((d.gcd n.natAbs:Nat):Int)≠0:=fun e=>hd (Nat.gcd_eq_zero_iff.1 (by exact_mod_cast e)).1
  have e1:n / (d.gcd n.natAbs:Nat)=k:=by
   conv=>lhs;lhs;rw[hk]
   exact Int.mul_ediv_cancel_left _ hg
  rw[e1]
  conv=>rhs;rw[hk,Int.natAbs_mul]
  exact Nat.le_mul_of_pos_left _ (by omega)
 have e2:=Nat.div_le_self d (d.gcd n.natAbs)
 have:=B8 e1
 have:=B8 e2
 refine ⟨?_,?_⟩
 ·rw[Rat.num_mkRat,if_neg hd];omega
 ·rw[Rat.den_mkRat,if_neg hd];omega
theorem UL {m k:Nat} {p q:Rat} (hp:Ht m p) (hq:Ht k q):Ht (m+k+1) (p+q):=by
 rw[Rat.add_def']
 have h1:=B8 (Sc (p.num * q.den) (q.num * p.den))
 have h2:=LL (p.num * q.den).natAbs (q.num * p.den).natAbs
 rw[Int.natAbs_mul,Int.natAbs_mul,Int.natAbs_natCast,Int.natAbs_natCast] at h1 h2
 have h3:=Cl p.num.natAbs q.den
 have h4:=Cl q.num.natAbs p.den
 have h5:=Cl p.den q.den
 have:=hp.num;have:=hp.den;have:=hq.num;have:=hq.den
 exact Pn (Nat.mul_ne_zero p.den_nz q.den_nz) (by omega) (by omega)
theorem ZK {m k:Nat} {p q:Rat} (hp:Ht m p) (hq:Ht k q):Ht (m+k) (p * q):=by
 rw[Rat.mul_def']
 have h1:=Cl p.num.natAbs q.num.natAbs
 have h5:=Cl p.den q.den
 have:=hp.num;have:=hp.den;have:=hq.num;have:=hq.den
 exact Pn (Nat.mul_ne_zero p.den_nz q.den_nz) (by rw[Int.natAbs_mul];omega) (by omega)
theorem DP {m:Nat} {n:Int} (h:(dd n.natAbs).length<=m):Ht m (n:Rat):=by
 refine ⟨by rw[Rat.num_intCast];exact h,?_⟩
 rw[Rat.den_intCast,Fn]
 have:=GY n.natAbs
 simp;omega
theorem Np {m:Nat} {r:Rat} (h:Ht m r):Ht m ((r.num:Int):Rat):=DP h.num
theorem Ss {m:Nat} {x y:Int} (h:Ht m (x:Rat)) (hy:y.natAbs<=x.natAbs):Ht m (y:Rat):=by
 have:=h.num
 rw[Rat.num_intCast] at this
 exact DP (by have:=B8 hy;omega)
def C3 (B:Nat):SV->Prop
 |.b _=>True
 |.z n=>Ht B (n:Rat)
 |.q r=>Ht B r
 |.a d P=>Ht B (d:Rat)/\(∀ p∈P,Ht B (p.1:Rat)/\Ht B (p.2:Rat))/\P.length<=B
theorem C3.mono {B C:Nat} {v:SV} (h:C3 B v) (hc:B<=C):C3 C v:=by
 cases v with
 |b _=>trivial
 |z n=>exact Ht.mono h hc
 |q r=>exact Ht.mono h hc
 |a d P=>
  obtain ⟨h1,h2,h3⟩:=h
  exact ⟨h1.mono hc,fun p hp=>⟨(h2 p hp).1.mono hc,(h2 p hp).2.mono hc⟩,by omega⟩
theorem Ih {B:Nat} {v:SV} (h:C3 B v) (hB:1<=B):Ht B (C2 v):=by
 have h0:Ht B ((0:Int):Rat):=DP (by simp[Ck];exact hB)
 cases v with
 |b _=>exact h0
 |z n=>exact h
 |q r=>exact h
 |a d P=>exact h0
theorem ABu {B:Nat} {v:SV} (h:C3 B v) (hB:1<=B):Ht B ((intV v:Int):Rat):=Np (Ih h hB)
def Hs:List SV->Nat->Prop
 |[],_=>True
 |v::vs,B=>∃ b c,1<=b/\C3 b v/\Hs vs c/\b+1+c<=B
theorem Hs.mono {vs:List SV} {B C:Nat} (h:Hs vs B) (hc:B<=C):Hs vs C:=by
 cases vs with
 |nil=>trivial
 |cons v vs=>obtain ⟨b,c,h1,h2,h3,h4⟩:=h;exact ⟨b,c,h1,h2,h3,by omega⟩
theorem Hs.mem:∀ {vs:List SV} {B:Nat},Hs vs B->∀ v∈vs,C3 B v:=by
 intro vs
 induction vs with
 |nil=>intro B _ v hv;cases hv
 |cons w vs ih=>
  intro B h v hv
  obtain ⟨b,c,h1,h2,h3,h4⟩:=h
  rcases List.mem_cons.1 hv with rfl | hv
  ·exact h2.mono (by omega)
  ·exact (ih h3 v hv).mono (by omega)
theorem Hs.sum:∀ {vs:List SV} {a B:Nat} {r:Rat},Ht a r->Hs vs B->Ht (a+B) (vs.foldl (fun s v=>s+C2 v) r):=by
 intro vs
 induction vs with
 |nil=>intro a B r h _;exact h.mono (by omega)
 |cons w vs ih=>
  intro a B r h hs
  obtain ⟨b,c,h1,h2,h3,h4⟩:=hs
  exact (ih (UL h (Ih h2 h1)) h3).mono (by omega)
theorem Hs.get {vs:List SV} {B:Nat} (h:Hs vs B) (i:Nat):C3 B (vs.getD i (.b false)):=by
 rw[qZ4]
 cases hi:vs[i]? with
 |none=>trivial
 |some v=>exact h.mem v (qY14 hi)
theorem ADq (i:Int):∀ P:KV,(lo i P).length+(hi i P).length<=P.length:=by
 intro P
 induction P with
 |nil=>simp[lo,hi]
 |cons p P ih=>
  simp only[lo,hi] at ih
  simp only[lo,hi,List.filter_cons]
  by_cases h1:p.1 < i
  ·rw[if_pos (qZ10 h1),if_neg (by simp;omega)];simp;omega
  ·rw[if_neg (by simp;omega)]
   split<;>simp<;>omega
theorem MX {B:Nat} {r:Rat} (s:Int) (h:Ht B r):C3 B (Ej s r):=by unfold Ej;split;exact Np h;exact h
theorem UM {n:Aa} {vs:List SV} {B:Nat} (hB:Hs vs B) (hn:Ht 75 (CT n)):C3 (B+79) (GA n vs):=by
 have g:=hB.get
 have gi:∀ i,Ht (B+1) ((intV (vs.getD i (.b false)):Int):Rat):=fun i=>ABu ((g i).mono (by omega)) (by omega)
 have gv:∀ i,Ht (B+1) (C2 (vs.getD i (.b false))):=fun i=>Ih ((g i).mono (by omega)) (by omega)
 unfold GA
 by_cases c0:Aj n=1\/Aj n=7
 ·rw[if_pos c0];trivial
 rw[if_neg c0]
 by_cases c1:Aj n=2\/Aj n=8
 ·rw[if_pos c1];trivial
 rw[if_neg c1]
 by_cases c2:Aj n=6
 ·rw[if_pos c2];trivial
 rw[if_neg c2]
 by_cases c3:Aj n=9
 ·rw[if_pos c3];trivial
 rw[if_neg c3]
 by_cases c4:Aj n=10
 ·rw[if_pos c4]
  split<;>exact (g _).mono (by omega)
 rw[if_neg c4]
 by_cases c5:Aj n=11
 ·rw[if_pos c5];trivial
 rw[if_neg c5]
 by_cases c6:Aj n=12
 ·rw[if_pos c6];trivial
 rw[if_neg c6]
 by_cases c7:Aj n=13
 ·rw[if_pos c7];trivial
 rw[if_neg c7]
 by_cases c8:Aj n=3
 ·rw[if_pos c8];exact MX _ (hn.mono (by omega))
 rw[if_neg c8]
 by_cases c9:Aj n=14
 ·rw[if_pos c9]
  have h0:Ht 1 (0:Rat):=DP (n:=0) (by simp[Ck])
  exact MX _ ((hB.sum h0).mono (by omega))
 rw[if_neg c9]
 by_cases c10:Aj n=15
 ·rw[if_pos c10]
  refine MX _ ?_
  rcases vs with _ | ⟨a,_ | ⟨b,l⟩⟩
  ·simp only[List.getD_nil,C2]
   rw[Rat.zero_mul]
   exact DP (n:=0) (by simp[Ck])
  ·simp only[qZ2,List.getD_nil,C2]
   rw[Rat.mul_zero]
   exact DP (n:=0) (by simp[Ck])
  ·obtain ⟨x,c,h1,h2,⟨y,c2,h5,h6,h7,h8⟩,h4⟩:=hB
   simp only[qZ2,qZ3]
   exact (ZK (Ih h2 h1) (Ih h6 h5)).mono (by omega)
 rw[if_neg c10]
 by_cases c11:Aj n=16
 ·rw[if_pos c11]
  have:(intV (vs.getD 0 (.b false)) / (CT n).num).natAbs<=(intV (vs.getD 0 (.b false))).natAbs:=by
   have h:=Int.natAbs_ediv_le_natAbs (intV (vs.getD 0 (.b false))) (CT n).num
   exact h
  exact (Ss (gi 0) this).mono (by omega)
 rw[if_neg c11]
 by_cases c12:Aj n=17
 ·rw[if_pos c12]
  by_cases hz:(CT n).num=0
  ·rw[hz,Int.emod_zero];exact (gi 0).mono (by omega)
  ·have:(intV (vs.getD 0 (.b false)) % (CT n).num).natAbs<=(CT n).num.natAbs:=by
    have h1:=Int.emod_nonneg (intV (vs.getD 0 (.b false))) hz
    have h2:=Int.emod_lt (intV (vs.getD 0 (.b false))) hz
    omega
   exact (Ss (Np hn) this).mono (by omega)
 rw[if_neg c12]
 by_cases c13:Aj n=18
 ·rw[if_pos c13]
  have ga:=g 0
  generalize vs.getD 0 (.b false)=v at ga
  cases v with
  |a d P=>
   obtain ⟨h1,h2,h3⟩:=ga
   have:Jz d P (intV (vs.getD 1 (.b false)))=d\/∃ p∈P,Jz d P (intV (vs.getD 1 (.b false)))=p.2:=by
    unfold Jz
    cases hf:P.find? fun p=>decide (p.1=intV (vs.getD 1 (.b false))) with
    |none=>exact .inl rfl
    |some p=>exact .inr ⟨p,List.mem_of_find?_eq_some hf,rfl⟩
   simp only[P1]
   rcases this with e | ⟨p,hp,e⟩
   ·rw[e];exact h1.mono (by omega)
   ·rw[e];exact (h2 p hp).2.mono (by omega)
  |b _=>exact DP (n:=0) (by simp[Ck])
  |z _=>exact DP (n:=0) (by simp[Ck])
  |q _=>exact DP (n:=0) (by simp[Ck])
 rw[if_neg c13]
 by_cases c14:Aj n=19
 ·rw[if_pos c14]
  have ga:=g 0
  generalize vs.getD 0 (.b false)=v at ga
  cases v with
  |a d P=>
   obtain ⟨h1,h2,h3⟩:=ga
   simp only[Oe]
   refine ⟨h1.mono (by omega),fun p hp=>?_,?_⟩
   ·unfold CN at hp
    rcases List.mem_append.1 hp with hp | hp
    ·rcases List.mem_append.1 hp with hp | hp
     ·have:=h2 p (Gw.1 hp).1;exact ⟨this.1.mono (by omega),this.2.mono (by omega)⟩
     ·split at hp
      ·cases hp
      ·rw[List.mem_singleton.1 hp];exact ⟨(gi 1).mono (by omega),(gi 2).mono (by omega)⟩
    ·have:=h2 p (HO.1 hp).1;exact ⟨this.1.mono (by omega),this.2.mono (by omega)⟩
   ·have e:=ADq (intV (vs.getD 1 (.b false))) P
    unfold CN
    simp only[qZ6]
    split<;>simp only[List.length_nil,qY11]<;>omega
  |b _=>trivial
  |z _=>exact Ht.mono ga (by omega)
  |q _=>exact Ht.mono ga (by omega)
 rw[if_neg c14]
 ·exact ⟨(gi 0).mono (by omega),fun p hp=>absurd hp qY16,Nat.zero_le _⟩
end Go.AM.Num
end
section
namespace Go.AM.Num
open Tf
noncomputable def N0 (A:qBs->Option SV) (G:Aa->List SV->Int ⊕ SV) (n:Aa) (vs:List SV):Int ⊕ SV:=
 if Aj n=4 then (match A (BW n) with | none=>.inl 7 | some v=>if Cf v=A5 n then .inr v else .inl 3)
 else if Aj n=5 then G n vs
 else .inr (GA n vs)
noncomputable def HE (A:qBs->Option SV) (G:Aa->List SV->Int ⊕ SV):Tf->Int ⊕ List SV
 |.nil=>.inr []
 |.cons n k r=>match HE A G k with
  |.inl e=>.inl e
  |.inr vs=>match N0 A G n vs with
   |.inl e=>.inl e
   |.inr v=>match HE A G r with
    |.inl e=>.inl e
    |.inr ws=>.inr (v::ws)
structure EA (A:qBs->Option SV) (G:Aa->List SV->Int ⊕ SV):Prop where
 ok:∀ nm v,A nm=some v->DV v/\C3 75 v
 fn:∀ n vs v,G n vs=.inr v->DV v/\C3 75 v/\Cf v=A5 n
 er:∀ n vs e,G n vs=.inl e->e≠0
def LM (f:Tf):Prop:=∀ n∈f.flat,(Ba n).length<=73
theorem Y0 {n:Aa} (h:(Ba n).length<=73):Ht 75 (CT n):=by
 unfold CT
 cases hr:rd (Ba n) with
 |none=>exact DP (n:=0) (by simp[Ck])
 |some q=>
  have e:=Et hr
  have:=IH q
  rw[<-e] at this
  exact Y7 (r:=q) (by omega)
theorem Hn {n:Aa}:CO n=true ↔ BK n=true/\Be (Aj n) (Bf n)=true:=by unfold CO;rw[qY0]
theorem Aq {A:qBs->Option SV} {G:Aa->List SV->Int ⊕ SV} (hE:EA A G):∀ (F:Tf),F.wf=true->(0:Int)∉F.srt->LM F->∀ vs,HE A G F=.inr vs->vs.map Cf=F.srt/\(∀ v∈vs,DV v)/\Hs vs (80 * F.size):=by
 intro F
 induction F with
 |nil=>
  intro _ _ _ vs h
  simp only[HE,Sum.inr.injEq] at h
  subst h
  exact ⟨rfl,fun v hv=>(by cases hv),trivial⟩
 |cons n k r ik ir=>
  intro hw hs hn vs h
  obtain ⟨w1,w2,w3,w4⟩:=CZ.1 hw
  obtain ⟨s1,s2,s3⟩:=Gy.1 hs
  have hnk:LM k:=fun m hm=>hn m (by simp only[flat,qY12,qZ7];exact .inr (.inl hm))
  have hnr:LM r:=fun m hm=>hn m (by simp only[flat,qY12,qZ7];exact .inr (.inr hm))
  have hnn:=Y0 (hn n (by simp[flat]))
  simp only[HE] at h
  split at h
  ·cases h
  rename_i ks hk
  obtain ⟨k1,k2,k3⟩:=ik w3 s1 hnk _ hk
  split at h
  ·cases h
  rename_i v hv
  split at h
  ·cases h
  rename_i ws hr
  obtain ⟨r1,r2,r3⟩:=ir w4 s3 hnr _ hr
  simp only[Sum.inr.injEq] at h
  subst h
  have key:Cf v=AZ n (op1 k) k.srt/\DV v/\C3 (80 * k.size+79) v:=by
   unfold N0 at hv
   split at hv
   ·rename_i h4
    split at hv
    ·cases hv
    rename_i u hu
    split at hv
    ·rename_i e
     simp only[Sum.inr.injEq] at hv
     subst hv
     obtain ⟨a1,a2⟩:=hE.ok _ _ hu
     exact ⟨by rw[e];unfold AZ;rw[if_pos (by omega)],a1,a2.mono (by omega)⟩
    ·cases hv
   ·rename_i h4
    split at hv
    ·rename_i h5
     obtain ⟨a1,a2,a3⟩:=hE.fn _ _ _ hv
     exact ⟨by rw[a3];unfold AZ;rw[if_pos (by omega)],a1,a2.mono (by omega)⟩
    ·rename_i h5
     simp only[Sum.inr.injEq] at hv
     subst hv
     obtain ⟨f1,f2⟩:=Hn.1 w1
     have hl:(ks.length:Int)=Bf n:=by
      have:=congrArg List.length k1
      rw[List.length_map,EC] at this
      omega
     obtain ⟨a1,a2⟩:=AA5 (f:=op1 k) f1 h4 h5 (by rw[hl];exact f2) (by rw[k1];exact s2) k2
     rw[k1] at a1
     exact ⟨a1,a2,UM k3 hnn⟩
  obtain ⟨q1,q2,q3⟩:=key
  refine ⟨?_,?_,?_⟩
  ·simp only[List.map_cons,srt,r1,q1]
   rw[if_neg s1]
  ·intro u hu
   rcases List.mem_cons.1 hu with rfl | hu
   ·exact q2
   ·exact r2 u hu
  ·exact ⟨80 * k.size+79,80 * r.size,by omega,q3,r3,by simp only[size];omega⟩
theorem Zq {n:Aa} (hf:BK n=true) (ho:Aj n=3):(A5 n=2\/A5 n=3)/\Ba n=Az (CT n)/\(A5 n=2->(CT n).den=1):=by
 unfold BK at hf
 rw[if_pos ho] at hf
 simp only[qY0,Bool.or_eq_true,decide_eq_true_eq] at hf
 unfold CT
 rcases hf.2 with ⟨h1,h2⟩ | ⟨h1,h2⟩
 ·obtain ⟨m,h3,h4⟩:=Pm h2
  rw[h4]
  exact ⟨.inl h1,h3,fun _=>Rat.den_intCast m⟩
 ·obtain ⟨q,h3⟩:=Option.isSome_iff_exists.1 h2
  rw[h3]
  exact ⟨.inr h1,Et h3,fun e=>by omega⟩
theorem i0:(0:Int).toNat=0:=rfl
theorem i1:(1:Int).toNat=1:=rfl
theorem i2:(2:Int).toNat=2:=rfl
structure SmallV (v:Bh):Prop where
 sh:Short 73 v
 few:v.2.2.2.1.length<=75
def Lm (t:List Aa):Prop:=∀ n∈t,(Ba n).length<=73
structure VSok (VS:List Vr):Prop where
 name:∀ v∈VS,Gg v.1=true/\1<=v.2/\v.2<=4
 once:∀ v∈VS,∀ w∈VS,v.1=w.1->v=w
structure GenF (VS:List Vr) (ss:List Int) (N d:Nat) (l:List Aa) (K:Tf):Prop where
 flat:K.flat=l
 wf:K.wf=true
 srt:K.srt=ss
 nz:(0:Int)∉ss
 sh:Lm l
 size:K.size<=N
 dep:K.dep<=d
 vars:∀ x∈l,Aj x=4->(BW x,A5 x)∈VS
 noap:∀ x∈l,Aj x≠5
def AT (VS:List Vr) (ss:List Int) (N d:Nat) (l:List Aa):Prop:=∃ K,GenF VS ss N d l K
theorem AT.nil (VS:List Vr):AT VS [] 0 0 []:=⟨Tf.nil,rfl,rfl,rfl,by simp,fun _ h=>absurd h qY16,Nat.le_refl _,Nat.le_refl _,fun _ h=>absurd h qY16,fun _ h=>absurd h qY16⟩
theorem AT.mono {VS:List Vr} {ss:List Int} {N M d e:Nat} {l:List Aa} (h:AT VS ss N d l) (hN:N<=M) (hd:d<=e):AT VS ss M e l:=by
 obtain ⟨K,hK⟩:=h
 exact ⟨K,hK.flat,hK.wf,hK.srt,hK.nz,hK.sh,by have:=hK.size;omega,by have:=hK.dep;omega,hK.vars,hK.noap⟩
theorem AT.app {VS:List Vr} {ss uu:List Int} {N M d:Nat} {l m:List Aa} (h:AT VS ss N d l) (g:AT VS uu M d m):AT VS (ss++uu) (N+M) d (l++m):=by
 obtain ⟨K,hK⟩:=h
 obtain ⟨L,hL⟩:=g
 refine ⟨K.app L,by rw[KH,hK.flat,hL.flat],by rw[Kl,hK.wf,hL.wf];rfl,by rw[Kn,hK.srt,hL.srt],?_,?_,?_,?_,?_,?_⟩
 ·rw[qZ7];exact fun h=>h.elim hK.nz hL.nz
 ·exact fun x hx=>(List.mem_append.1 hx).elim (hK.sh x) (hL.sh x)
 ·rw[Su];have:=hK.size;have:=hL.size;omega
 ·rw[Tz];have:=hK.dep;have:=hL.dep;omega
 ·exact fun x hx=>(List.mem_append.1 hx).elim (hK.vars x) (hL.vars x)
 ·exact fun x hx=>(List.mem_append.1 hx).elim (hK.noap x) (hL.noap x)
theorem XU {K:Tf} {l:List Aa} (h:K.flat=l):op1 K=(l.getD 0 Am).1:=by
 subst h
 cases K<;>rfl
theorem AT.node {VS:List Vr} {ss:List Int} {N d:Nat} {l:List Aa} (h:AT VS ss N d l) {n:Aa} {s:Int} (hf:BK n=true) (hc:Be (Aj n) ss.length=true) (hk:Bf n=(ss.length:Int)) (hs:AZ n (l.getD 0 Am).1 ss=s) (hz:s≠0)
 (hnum:(Ba n).length<=73) (hv:Aj n=4->(BW n,A5 n)∈VS) (ha:Aj n≠5):AT VS [s] (N+1) (d+1) (n::l):=by
 obtain ⟨K,hK⟩:=h
 have hl:K.len=ss.length:=by rw[<-EC,hK.srt]
 refine ⟨cons n K Tf.nil,by simp[Tf.flat,hK.flat],CZ.2 ⟨Hn.2 ⟨hf,by rw[hk];exact hc⟩,by rw[hl];exact hk,hK.wf,rfl⟩,?_,?_,?_,?_,?_,?_,?_⟩
 ·simp only[Tf.srt,hK.srt]
  rw[if_neg hK.nz,XU hK.flat,hs]
 ·simp[Ne.symm hz]
 ·intro x hx
  rcases List.mem_cons.1 hx with rfl | hx
  ·exact hnum
  ·exact hK.sh x hx
 ·simp only[Tf.size];have:=hK.size;omega
 ·simp only[Tf.dep];have:=hK.dep;omega
 ·intro x hx
  rcases List.mem_cons.1 hx with rfl | hx
  ·exact hv
  ·exact hK.vars x hx
 ·intro x hx
  rcases List.mem_cons.1 hx with rfl | hx
  ·exact ha
  ·exact hK.noap x hx
theorem S6 {n:Aa} {k:Tf}:∀ {f:Tf},(n,k)∈f.subs->n∈f.flat:=by
 intro f
 induction f with
 |nil=>intro h;simp[subs] at h
 |cons m a b ia ib=>
  intro h
  simp only[subs,qY12,qZ7,Prod.mk.injEq] at h
  simp only[Tf.flat,qY12,qZ7]
  rcases h with ⟨rfl,_⟩ | h | h
  ·exact .inl rfl
  ·exact .inr (.inl (ia h))
  ·exact .inr (.inr (ib h))
theorem M6 {VS:List Vr} (hV:VSok VS) {s:Int} {N d:Nat} {t:List Aa} {F:Tf} (h:GenF VS [s] N d t F) (hN:N<=20000) (hd:d<=257):VT t F:=by
 refine ⟨h.flat,h.wf,by rw[h.srt];exact h.nz,by rw[<-EC,h.srt];rfl,by have:=h.size;omega,by have:=h.dep;omega,?_⟩
 have key:∀ a∈C1 F,a.2.1=false/\a.2.2.1=[]/\(a.1,a.2.2.2)∈VS:=by
  intro a ha
  obtain ⟨⟨n,k⟩,h1,h2⟩:=List.mem_filterMap.1 ha
  have hm:n∈t:=by rw[<-h.flat];exact S6 h1
  unfold CK at h2
  split at h2
  ·rename_i h4
   simp only[Option.some.injEq] at h2
   subst h2
   exact ⟨rfl,rfl,h.vars n hm h4⟩
  ·split at h2
   ·rename_i h5
    exact absurd h5 (h.noap n hm)
   ·cases h2
 rintro ⟨a,b,c,e⟩ ha ⟨a',b',c',e'⟩ ha' hn
 obtain ⟨p1,p2,p3⟩:=key _ ha
 obtain ⟨q1,q2,q3⟩:=key _ ha'
 simp only at p1 p2 p3 q1 q2 q3 hn
 have:=hV.once _ p3 _ q3 hn
 simp only[Prod.mk.injEq] at this
 rw[p1,p2,q1,q2,this.1,this.2]
theorem VG {VS:List Vr} (hV:VSok VS) {nm:qBs} {s:Int} (h:(nm,s)∈VS):AT VS [s] 1 1 [((4:Int),s,nm,([]:qBs),(0:Int))]:=by
 obtain ⟨h1,h2,h3⟩:=hV.name _ h
 exact (AT.nil VS).node (by simp[Aj,A5,BW,Ba,BK,h1,h2,h3]) rfl rfl (by simp[Aj,A5,AZ]) (by simp only at h2;omega) (by simp[Ba]) (fun _=>h) (by simp[Aj])
theorem Il {VS:List Vr} {z:Int} (h:(ti z).length<=73):AT VS [2] 1 1 [((3:Int),(2:Int),([]:qBs),ti z,(0:Int))]:=
 (AT.nil VS).node (by simp[Aj,A5,BW,Ba,BK,ER]) rfl rfl (by simp[Aj,A5,AZ]) (by omega) h (fun h=>by simp[Aj] at h) (by simp[Aj])
theorem Pl {VS:List Vr} {q:Rat} (h:(Az q).length<=73):AT VS [3] 1 1 [((3:Int),(3:Int),([]:qBs),Az q,(0:Int))]:=
 (AT.nil VS).node (by simp[Aj,A5,BW,Ba,BK,Dq]) rfl rfl (by simp[Aj,A5,AZ]) (by omega) h (fun h=>by simp[Aj] at h) (by simp[Aj])
theorem Ph {VS:List Vr}:AT VS [1] 1 1 [((1:Int),(0:Int),([]:qBs),([]:qBs),(0:Int))]:=
 (AT.nil VS).node (by simp[Aj,A5,BW,Ba,BK]) rfl rfl (by simp[Aj,A5,AZ]) (by omega) (by simp[Ba]) (fun h=>by simp[Aj] at h) (by simp[Aj])
theorem Qn {VS:List Vr}:AT VS [1] 1 1 [((2:Int),(0:Int),([]:qBs),([]:qBs),(0:Int))]:=
 (AT.nil VS).node (by simp[Aj,A5,BW,Ba,BK]) rfl rfl (by simp[Aj,A5,AZ]) (by omega) (by simp[Ba]) (fun h=>by simp[Aj] at h) (by simp[Aj])
def alphaB (c:UInt8):Bool:=(decide (97<=c)&&decide (c<=122))||(decide (65<=c)&&decide (c<=90))
theorem AFC (c:UInt8):KJ (c.toNat:Int)=some ((alphaB c,()),()):=by
 refine E' (P:=fun c=>KJ (c.toNat:Int)=some ((alphaB c,()),())) ?_ c
 decide +kernel
theorem Ow (c:UInt8):Gq c=(alphaB c||c==95||c==36||c==33):=rfl
theorem AFv (c:UInt8):decide ((c.toNat:Int) < 48)=!decide (48<=c):=by
 refine E' (P:=fun c=>decide ((c.toNat:Int) < 48)=!decide (48<=c)) ?_ c
 decide +kernel
theorem AAW (c:UInt8):decide ((c.toNat:Int) > 57)=!decide (c<=57):=by
 refine E' (P:=fun c=>decide ((c.toNat:Int) > 57)=!decide (c<=57)) ?_ c
 decide +kernel
theorem AAg (c:UInt8):((c.toNat:Int)==95)=(c==95):=by
 refine E' (P:=fun c=>((c.toNat:Int)==95)=(c==95)) ?_ c
 decide +kernel
theorem Xb (c:UInt8):((c.toNat:Int)==36)=(c==36):=by
 refine E' (P:=fun c=>((c.toNat:Int)==36)=(c==36)) ?_ c
 decide +kernel
theorem XM (c:UInt8):((c.toNat:Int)==33)=(c==33):=by
 refine E' (P:=fun c=>((c.toNat:Int)==33)=(c==33)) ?_ c
 decide +kernel
theorem Uz {l:List qBs} {s:qBs} (hl:l.length<=1000000000):JH l s=some ((decide (s∈l),()),()):=by
 have key:=IG (step:=IN) (fun k=>(l,s,false,(k:Int),())) (fun k=>(l,s,true,(k:Int),())) l.length (E:=.exit 0) (B:=.ret) (by simp) (by simp) (fun k=>!(l.getD k []==s)) (fun k hk=>by
  unfold IN
  simp only
  rw[Aw,Ay,Ag,Ag,qZ0,AG (x:=(k:Int)+1) (by omega)]
  cases (l.getD k []==s)<;>rfl) (by
  unfold IN
  simp only
  rw[AH])
 rw[LO l [] (fun x=>!(x==s))] at key
 rw[show ((0:Nat):Int)=0 from rfl] at key
 unfold JH
 rcases key with ⟨k1,k2⟩ | ⟨k1,j,k2⟩
 ·rw[k2]
  simp only[Af,By,AK]
  rw[qZ9]
  intro h
  have:=List.all_eq_true.1 k1 s h
  simp at this
 ·rw[k2]
  simp only[Af,Ce,Ci,AK,AX]
  rw[qZ10]
  by_cases h:s∈l
  ·exact h
  ·rw[List.all_eq_true.2 (fun x hx=>by simp;exact fun e=>h (e ▸ hx))] at k1;cases k1
theorem AFd:MZ=some ((Mp,()),()):=rfl
theorem AD5 {s:qBs} (h:s≠[]):(List.range s.length).all (fun k=>if k=0 then Gq (s.getD 0 0) else FF (s.getD k 0))=(Gq (s.getD 0 0)&&s.all FF):=by
 have hpos:0 < s.length:=List.length_pos_iff.2 h
 rw[<-LO s 0 FF,Bool.eq_iff_iff,qY0,qY3,qY3]
 constructor
 ·intro hh
  have h0:=hh 0 (List.mem_range.2 hpos)
  simp only[if_true] at h0
  refine ⟨h0,fun k hk=>?_⟩
  have hk':=hh k hk
  by_cases e:k=0
  ·subst e
   unfold FF
   rw[h0];rfl
  ·rw[if_neg e] at hk';exact hk'
 ·rintro ⟨h0,hh⟩ k hk
  split
  ·exact h0
  ·exact hh k hk
theorem U3 (s:qBs):If s=some ((Gg s,()),()):=by
 unfold If
 by_cases h0:s=[]
 ·subst h0;decide
 ·rw[show (s==([]:qBs))=false by simpa using h0,AX]
  have hpos:0 < s.length:=List.length_pos_iff.2 h0
  unfold Gg
  by_cases h1:s.length<=40
  ·rw[AH,qZ10 h1,AFd,Af]
   simp only
   rw[Uz (by decide),Af,Bool.true_and]
   cases hw:decide (s∈Mp) with
   |true=>cases Gq (s.getD 0 0)<;>rfl
   |false=>
    simp only[AX]
    have key:=IG (step:=Ix) (fun k=>(s,false,(k:Int),())) (fun k=>(s,false,(k:Int),())) s.length (E:=.exit 0) (B:=.ret) (by simp) (by simp) (fun k=>if k=0 then Gq (s.getD 0 0) else FF (s.getD k 0)) (fun k hk=>by
     unfold Ix
     simp only
     rw[Aw,Ay,Ag,Ag,qZ0,AFC,Af,AFv,AAW,YF,W5,AAg,Xb,XM,AG (x:=(k:Int)+1) (by omega)]
     by_cases hk0:k=0
     ·subst hk0
      rw[if_pos rfl,Ow]
      generalize alphaB (s.getD 0 0)=a
      generalize (s.getD 0 0==95)=b
      generalize (s.getD 0 0==36)=c
      generalize (s.getD 0 0==33)=d
      cases a<;>cases b<;>cases c<;>cases d<;>rfl
     ·rw[if_neg hk0]
      unfold FF
      rw[Ow,An (show (k:Int)≠0 by omega)]
      generalize alphaB (s.getD k 0)=a
      generalize (s.getD k 0==95)=b
      generalize (s.getD k 0==36)=c
      generalize (s.getD k 0==33)=d
      generalize decide (48<=s.getD k 0)=e
      generalize decide (s.getD k 0<=57)=f
      generalize (s.getD k 0==46)=g
      generalize (s.getD k 0==64)=h
      cases a<;>cases b<;>cases c<;>cases d<;>cases e<;>cases f<;>cases g<;>cases h<;>rfl) (by
     unfold Ix
     simp only
     rw[AH])
    rw[AD5 h0] at key
    rcases key with ⟨k1,k2⟩ | ⟨k1,j,k2⟩
    ·rw[show ((0:Nat):Int)=0 from rfl] at k2
     rw[k2]
     simp only[Af,By,AK,qY1,Bool.and_true]
     rw[k1]
    ·rw[show ((0:Nat):Int)=0 from rfl] at k2
     rw[k2]
     simp only[Af,Ce,Ci,AK,AX,qY1,Bool.and_true]
     rw[k1]
  ·rw[Aw,qZ9 h1]
   rfl
theorem AFy (s:Int):Jx s=some ((decide (1<=s/\s<=4),()),()):=Z6 s
theorem Y3 {n:Aa} (h:(Ba n).length<=100000):Jp n=some ((BK n,()),()):=by
 obtain ⟨o,s,nm,num,kd⟩:=n
 simp only[Ba] at h
 unfold Jp BK
 simp only[Aj,A5,BW,Ba]
 rw[AFy,U3,Hm (by omega),S_ (by omega),KT (by omega)]
 simp only[Af,ZY]
 by_cases e3:o=3
 ·rw[AI e3,if_pos e3]
  by_cases h2:s=2
  ·subst h2
   cases decide (nm=[])<;>cases Bv num<;>rfl
  ·rw[An h2,qZ9 h2,Bool.false_and,Bool.false_or]
   by_cases h3:s=3
   ·subst h3;cases decide (nm=[])<;>rfl
   ·rw[An h3,qZ9 h3,Bool.false_and];cases decide (nm=[])<;>rfl
 ·rw[An e3,if_neg e3]
  by_cases e4:o=4
  ·rw[AI e4,if_pos (.inl e4)];cases decide (1<=s/\s<=4)<;>cases Gg nm<;>cases decide (num=[])<;>rfl
  ·rw[An e4]
   by_cases e5:o=5
   ·rw[AI e5,if_pos (.inr e5)];cases decide (1<=s/\s<=4)<;>cases Gg nm<;>cases decide (num=[])<;>rfl
   ·rw[An e5,if_neg (by omega)]
    by_cases e6:o=16
    ·rw[AI e6,if_pos (.inl e6)]
     by_cases z:s=0
     ·rw[AI z,qZ10 z];cases decide (nm=[])<;>cases Bv num<;>rfl
     ·rw[An z,qZ9 z];rfl
    ·rw[An e6]
     by_cases e7:o=17
     ·rw[AI e7,if_pos (.inr e7)]
      by_cases z:s=0
      ·rw[AI z,qZ10 z];cases decide (nm=[])<;>cases Bv num<;>rfl
      ·rw[An z,qZ9 z];rfl
     ·rw[An e7,if_neg (by omega)]
      by_cases g1:o>=1
      ·rw[Aw g1]
       by_cases g2:o<=20
       ·rw[Aw g2,qZ10 (show 1<=o/\o<=20 from ⟨g1,g2⟩)]
        by_cases z:s=0
        ·rw[AI z,qZ10 z];cases decide (nm=[])<;>rfl
        ·rw[An z,qZ9 z];rfl
       ·rw[AH g2,qZ9 (by omega)];rfl
      ·rw[AH g1,qZ9 (by omega)];rfl
theorem AAX (o k:Int):H_ o k=some ((Be o k,()),()):=by
 by_cases h1:o=1;· subst h1;rfl
 by_cases h2:o=2;· subst h2;rfl
 by_cases h3:o=3;· subst h3;rfl
 by_cases h4:o=4;· subst h4;rfl
 by_cases h5:o=5
 ·subst h5
  have e:Be 5 k=decide (1<=k/\k<=40):=rfl
  rw[e]
  unfold H_
  rw[An (by decide),An (by decide),An (by decide),An (by decide),AI rfl]
  by_cases g:k>=1
  ·rw[Aw g]
   have:decide (k<=40)=decide (1<=k/\k<=40):=by rw[decide_eq_decide];omega
   rw[this]
  ·rw[AH g,qZ9 (by omega)]
 by_cases h6:o=6;· subst h6;rfl
 by_cases h16:o=16;· subst h16;rfl
 by_cases h17:o=17;· subst h17;rfl
 by_cases h20:o=20;· subst h20;rfl
 by_cases h7:o=7;· subst h7;rfl
 by_cases h8:o=8;· subst h8;rfl
 by_cases h10:o=10;· subst h10;rfl
 by_cases h19:o=19;· subst h19;rfl
 by_cases h14:o=14;· subst h14;rfl
 unfold H_ Be
 rw[An h1,An h2,An h3,An h4,An h5,An h6,An h16,An h17,An h20,An h7,An h8,An h10,An h19,An h14,
  if_neg (by omega),if_neg h5,if_neg (by omega),if_neg (by omega),if_neg h14,if_neg (by omega)]
 rfl
theorem AFr {ss:List Int} {s out:Int} (hl:ss.length<=1000000000):CE ss s out=some ((if ∀ x∈ss,x=s then out else 0,()),()):=by
 have key:=IG (step:=Ij) (fun k=>(ss,s,out,(0:Int),(k:Int),())) (fun k=>(ss,s,out,(0:Int),(k:Int),())) ss.length (E:=.exit 0) (B:=.ret) (by simp) (by simp) (fun k=>decide (ss.getD k 0=s)) (fun k hk=>by
  unfold Ij
  simp only
  rw[Aw,Ay,Ag,Ag,qZ0,AG (x:=(k:Int)+1) (by omega)]
  by_cases h:ss.getD k 0=s
  ·rw[BP h,if_pos (qZ10 h)];rfl
  ·rw[B_ h,if_neg (fun e=>h (of_decide_eq_true e))]) (by
  unfold Ij
  simp only
  rw[AH])
 rw[LO ss 0 (fun x=>decide (x=s))] at key
 rw[show ((0:Nat):Int)=0 from rfl] at key
 unfold CE
 rcases key with ⟨k1,k2⟩ | ⟨k1,j,k2⟩
 ·rw[k2]
  simp only[Af,By,AK]
  rw[if_pos (by simpa [qY3] using k1)]
 ·rw[k2]
  simp only[Af,Ce,Ci,AK,AX]
  rw[if_neg (fun h=>by rw[List.all_eq_true.2 (fun x hx=>qZ10 (h x hx))] at k1;cases k1)]
theorem TO {n:Aa} {f:Int} {ss:List Int} (ho:1<=Aj n/\Aj n<=20) (hl:ss.length<=1000000000) (hc:Be (Aj n) ss.length=true) (h15:Aj n=15->f=3->ss.getD 0 0=2\/ss.getD 0 0=3):Ii n f ss=some ((AZ n f ss,()),()):=by
 obtain ⟨o,s,nm,num,kd⟩:=n
 simp only[Aj] at ho hc h15
 have hnum:∀ s,Ig s=some ((decide (s=2\/s=3),()),()):=Vs
 unfold Ii AZ
 simp only[Aj,A5,AFr hl,hnum,Af,show (0:Int).toNat=0 from rfl,show (1:Int).toNat=1 from rfl,show (2:Int).toNat=2 from rfl]
 by_cases h1:o=1
 ·subst h1
  rcases ss with _ | ⟨a,l⟩<;>simp[Be] at hc
  ·simp
  ·omega
 rw[An h1]
 by_cases h2:o=2
 ·subst h2
  rcases ss with _ | ⟨a,l⟩<;>simp[Be] at hc
  ·simp
  ·omega
 rw[An h2]
 by_cases h3:o=3;· rw[AI h3,if_pos (.inl h3)]
 rw[An h3]
 by_cases h4:o=4;· rw[AI h4,if_pos (.inr (.inl h4))]
 rw[An h4]
 by_cases h5:o=5;· rw[AI h5,if_pos (.inr (.inr h5))]
 rw[An h5,if_neg (show ¬ (o=3\/o=4\/o=5) by omega)]
 by_cases h6:o=6;· rw[AI h6,if_pos (show o=1\/o=2\/o=6\/o=7\/o=8\/o=9 by omega)]
 rw[An h6]
 by_cases h7:o=7;· rw[AI h7,if_pos (show o=1\/o=2\/o=6\/o=7\/o=8\/o=9 by omega)]
 rw[An h7]
 by_cases h8:o=8;· rw[AI h8,if_pos (show o=1\/o=2\/o=6\/o=7\/o=8\/o=9 by omega)]
 rw[An h8]
 by_cases h9:o=9;· rw[AI h9,if_pos (show o=1\/o=2\/o=6\/o=7\/o=8\/o=9 by omega)]
 rw[An h9,if_neg (show ¬ (o=1\/o=2\/o=6\/o=7\/o=8\/o=9) by omega)]
 by_cases h10:o=10
 ·subst h10
  rcases ss with _ | ⟨a,_ | ⟨b,_ | ⟨c,_ | ⟨d,l⟩⟩⟩⟩<;>simp[Be] at hc
  ·by_cases q:a=1
   ·by_cases q2:b=c
    ·simp[Ab,q,q2]
    ·simp[Ab,q,q2,show (b==c)=false by simpa using q2]
   ·simp[Ab,q,show (a==1)=false by simpa using q]
  ·omega
 rw[An h10,if_neg h10]
 by_cases h11:o=11
 ·subst h11
  rcases ss with _ | ⟨a,_ | ⟨b,_ | ⟨c,l⟩⟩⟩<;>simp[Be] at hc
  ·by_cases q:b=a
   ·simp[Ab,q]
   ·simp[Ab,q]
    exact fun e=>q e.symm
  ·omega
 rw[An h11,if_neg h11]
 by_cases h12:o=12
 ·subst h12
  rcases ss with _ | ⟨a,_ | ⟨b,_ | ⟨c,l⟩⟩⟩<;>simp[Be] at hc
  ·by_cases q:a=2\/a=3<;>simp[Ab,q]
  ·omega
 rw[An h12]
 by_cases h13:o=13
 ·subst h13
  rcases ss with _ | ⟨a,_ | ⟨b,_ | ⟨c,l⟩⟩⟩<;>simp[Be] at hc
  ·by_cases q:a=2\/a=3<;>simp[Ab,q]
  ·omega
 rw[An h13,if_neg (show ¬ (o=12\/o=13) by omega)]
 by_cases h14:o=14
 ·subst h14
  rcases ss with _ | ⟨a,l⟩<;>simp[Be] at hc
  by_cases q:a=2\/a=3<;>simp[Ab,q]
 rw[An h14,if_neg h14]
 by_cases h15':o=15
 ·subst h15'
  have h15:=h15 rfl
  rcases ss with _ | ⟨a,_ | ⟨b,_ | ⟨c,l⟩⟩⟩<;>simp[Be] at hc
  ·by_cases q:f=3
   ·have:=h15 q
    simp at this
    simp[Ab,q,this]
   ·simp[q,show (f==3)=false by simpa using q]
  ·omega
 rw[An h15',if_neg h15']
 by_cases h16:o=16
 ·subst h16
  rcases ss with _ | ⟨a,_ | ⟨b,l⟩⟩<;>simp[Be] at hc
  ·simp
  ·omega
 rw[An h16]
 by_cases h17:o=17
 ·subst h17
  rcases ss with _ | ⟨a,_ | ⟨b,l⟩⟩<;>simp[Be] at hc
  ·simp
  ·omega
 rw[An h17,if_neg (show ¬ (o=16\/o=17) by omega)]
 by_cases h20:o=20
 ·subst h20
  rcases ss with _ | ⟨a,_ | ⟨b,l⟩⟩<;>simp[Be] at hc
  ·simp
  ·omega
 rw[An h20]
 by_cases h18:o=18
 ·subst h18
  rcases ss with _ | ⟨a,_ | ⟨b,_ | ⟨c,l⟩⟩⟩<;>simp[Be] at hc
  ·by_cases q:a=4
   ·by_cases q2:b=2
    ·simp[Ab,q,q2]
    ·simp[Ab,q,q2,show (b==2)=false by simpa using q2]
   ·simp[Ab,q,show (a==4)=false by simpa using q]
  ·omega
 rw[An h18,if_neg h18]
 obtain rfl:o=19:=by omega
 rcases ss with _ | ⟨a,_ | ⟨b,_ | ⟨c,_ | ⟨d,l⟩⟩⟩⟩<;>simp[Be] at hc
 ·by_cases q:a=4
  ·by_cases q2:b=2
   ·by_cases q3:c=2
    ·simp[Ab,q,q2,q3]
    ·simp[Ab,q,q2,q3,show (c==2)=false by simpa using q3]
   ·simp[Ab,q,q2,show (b==2)=false by simpa using q2]
  ·simp[Ab,q,show (a==4)=false by simpa using q]
 ·omega
theorem ACb {n:Aa} (h:BK n=true):1<=Aj n/\Aj n<=20:=by
 unfold BK at h
 split at h
 ·omega
 ·split at h
  ·omega
  ·split at h
   ·omega
   ·simp only[qY0,decide_eq_true_eq] at h
    exact h.1.1.1
theorem ACx {n:Aa} (h:BK n=true) (ho:Aj n=3\/Aj n=4\/Aj n=5):1<=A5 n/\A5 n<=4:=by
 unfold BK at h
 split at h
 ·simp only[qY0,Bool.or_eq_true,decide_eq_true_eq] at h
  rcases h.2 with h | h<;>omega
 ·rw[if_pos (by omega)] at h
  simp only[qY0,decide_eq_true_eq] at h
  exact h.1.1
theorem AEt {ss:List Int} (h:∀ s∈ss,0<=s/\s<=4) (i:Nat):0<=ss.getD i 0/\ss.getD i 0<=4:=by
 rw[qZ4]
 cases hi:ss[i]? with
 |none=>simp
 |some s=>exact h s (qY14 hi)
theorem Zh {n:Aa} {f:Int} {ss:List Int} (hf:BK n=true) (h:∀ s∈ss,0<=s/\s<=4):0<=AZ n f ss/\AZ n f ss<=4:=by
 have g:=AEt h
 have g0:=g 0
 have g1:=g 1
 unfold AZ
 by_cases c0:Aj n=3\/Aj n=4\/Aj n=5
 ·rw[if_pos c0];have:=ACx hf c0;omega
 rw[if_neg c0]
 by_cases c1:Aj n=1\/Aj n=2\/Aj n=6\/Aj n=7\/Aj n=8\/Aj n=9
 ·rw[if_pos c1];split<;>omega
 rw[if_neg c1]
 by_cases c2:Aj n=10
 ·rw[if_pos c2];split<;>omega
 rw[if_neg c2]
 by_cases c3:Aj n=11
 ·rw[if_pos c3];split<;>omega
 rw[if_neg c3]
 by_cases c4:Aj n=12\/Aj n=13
 ·rw[if_pos c4];split<;>omega
 rw[if_neg c4]
 by_cases c5:Aj n=14
 ·rw[if_pos c5];split<;>omega
 rw[if_neg c5]
 by_cases c6:Aj n=15
 ·rw[if_pos c6];split<;>omega
 rw[if_neg c6]
 by_cases c7:Aj n=16\/Aj n=17
 ·rw[if_pos c7];split<;>omega
 rw[if_neg c7]
 by_cases c8:Aj n=18
 ·rw[if_pos c8];split<;>omega
 rw[if_neg c8]
 by_cases c9:Aj n=19
 ·rw[if_pos c9];split<;>omega
 rw[if_neg c9]
 by_cases c10:Aj n=20
 ·rw[if_pos c10];split<;>omega
 rw[if_neg c10];omega
theorem Sl:∀ (f:Tf),f.wf=true->∀ s∈f.srt,0<=s/\s<=4:=by
 intro f
 induction f with
 |nil=>intro _ s hs;simp[srt] at hs
 |cons n k r ik ir=>
  intro hw s hs
  obtain ⟨w1,w2,w3,w4⟩:=CZ.1 hw
  simp only[srt,qY12] at hs
  rcases hs with rfl | hs
  ·split
   ·omega
   ·exact Zh (Hn.1 w1).1 (ik w3)
  ·exact ir w4 s hs
noncomputable def CH (d L:Nat) (l:List Aa):Int×Int:=match one d l with
 |none=>(-1,0)
 |some (T,l')=>((L:Int) - (l'.length:Int),T.srt.getD 0 0)
abbrev PW:=List Aa->Int->Int->Option ((Int×Int×Unit)×Unit)
def QP (t:List Aa) (tr:PW) (dp:Nat):Prop:=∀ i:Nat,tr t (i:Int) (dp:Int)=some (((CH (257 - dp) t.length (t.drop i)).1,(CH (257 - dp) t.length (t.drop i)).2,()),())
theorem QU {d:Nat} {l l':List Aa} {T:Tf} (h:one d l=some (T,l')):T.size+l'.length=l.length/\T.srt.length=1:=by
 obtain ⟨h1,h2,h3,h4⟩:=KM d h
 have:=congrArg List.length h1
 rw[qZ6,CV] at this
 exact ⟨this.symm,by rw[EC,h3]⟩
theorem PQ {d i:Nat} {t l':List Aa} {T:Tf} (h:one d (t.drop i)=some (T,l')) (hi:i<=t.length):t.drop (i+T.size)=l'/\i+T.size<=t.length/\(t.length:Int) - (l'.length:Int)=((i+T.size:Nat):Int):=by
 obtain ⟨h1,_,_,_⟩:=KM d h
 have h2:=(QU h).1
 rw[List.length_drop] at h2
 refine ⟨?_,by omega,by omega⟩
 rw[<-List.drop_drop,h1,List.drop_append_of_le_length (by rw[CV];omega),qY7 (by rw[CV];omega),qY15]
theorem AER {t:List Aa} (ht:t.length<=20000) {tr:PW} {dp:Nat} (hdp:dp<=256) (htr:QP t tr (dp+1)) {i:Nat} (hi:i < t.length) {K:Int} (hK:(t.getD i Am).2.2.2.2=K) :
 ∀ (c:Nat) (e k:Nat) (s:List Int) (good:Bool),e<=t.length->((k+c:Nat):Int)=K->s.length=k->k+c<=20000->
 match many (one (257 - (dp+1))) c (t.drop e) with
 |none=>∃ y,Ak (E1 tr) (t,(i:Int),(dp:Int),0,0,s,(e:Int),good,(k:Int),())=some (.ret,(t,(i:Int),(dp:Int),-1,0,y))
 |some (F,l')=>Ak (E1 tr) (t,(i:Int),(dp:Int),0,0,s,(e:Int),good,(k:Int),())=some (.exit 0,(t,(i:Int),(dp:Int),0,0,s++F.srt,(t.length:Int) - (l'.length:Int),good&&F.srt.all (fun x=>decide (x > 0)),K,())):=by
 intro c
 induction c with
 |zero=>
  intro e k s good he hk _ _
  simp only[many]
  refine A_ ?_ (by simp)
  unfold E1
  simp only
  rw[Ay,Ag,Ag,qZ0,hK,AH]
  have e1:(t.length:Int) - ((t.drop e).length:Int)=(e:Int):=by rw[List.length_drop];omega
  have e2:K=(k:Int):=by omega
  rw[e1,e2]
  simp[srt]
 |succ c ih=>
  intro e k s good he hk hs hb
  have hcall:=htr e
  simp only[many]
  have hstep0:E1 tr (t,(i:Int),(dp:Int),0,0,s,(e:Int),good,(k:Int),())=(tr t (e:Int) (qI ((dp:Int)+1))).bind fun r1=>
   cond (decide (r1.1.1 < (0:Int))) (some (Ex.ret,(t,(i:Int),(dp:Int),-1,0,s,r1.1.1,good,(k:Int),())))
    (cond good (Ab (decide (s.length+([r1.1.2.1]:List Int).length<=Ap)) (some (Ex.normal,(t,(i:Int),(dp:Int),0,0,s++([r1.1.2.1]:List Int),r1.1.1,decide (r1.1.2.1 > (0:Int)),qI ((k:Int)+(1:Int)),()))))
    (Ab (decide (s.length+([r1.1.2.1]:List Int).length<=Ap)) (some (Ex.normal,(t,(i:Int),(dp:Int),0,0,s++([r1.1.2.1]:List Int),r1.1.1,false,qI ((k:Int)+(1:Int)),()))))):=by
   unfold E1
   simp only
   rw[Ay,Ag,Ag,qZ0,hK,Aw]
  have hwd:qI ((dp:Int)+1)=((dp+1:Nat):Int):=by rw[AG];rfl
  rw[hwd] at hstep0
  cases ho:one (257 - (dp+1)) (t.drop e) with
  |none=>
   have hcall':tr t (e:Int) ((dp+1:Nat):Int)=some ((-1,0,()),()):=by rw[hcall];unfold CH;rw[ho]
   rw[hcall',Af] at hstep0
   rw[Aw (show (-1:Int) < 0 by omega)] at hstep0
   simp only[Option.bind_none]
   exact ⟨_,A_ hstep0 (by simp)⟩
  |some x=>
   obtain ⟨T,l1⟩:=x
   obtain ⟨q1,q2⟩:=QU ho
   obtain ⟨d1,d2,d3⟩:=PQ ho he
   obtain ⟨x,hx⟩:∃ x,T.srt=[x]:=by
    match h:T.srt,q2 with
    |[x],_=>exact ⟨x,rfl⟩
   have hcall':tr t (e:Int) ((dp+1:Nat):Int)=some ((((e+T.size:Nat):Int),x,()),()):=by
    rw[hcall];unfold CH;rw[ho];simp only;rw[hx,d3];rfl
   rw[hcall',Af] at hstep0
   rw[AH (show ¬ ((e+T.size:Nat):Int) < 0 by omega)] at hstep0
   have hlen:s.length+1<=Ap:=by simp only[Ap];omega
   have hgo:E1 tr (t,(i:Int),(dp:Int),0,0,s,(e:Int),good,(k:Int),())=some (.normal,(t,(i:Int),(dp:Int),0,0,s++[x],((e+T.size:Nat):Int),good&&decide (x > 0),((k+1:Nat):Int),())):=by
    rw[hstep0,AG (x:=(k:Int)+1) (by omega)]
    cases good
    ·simp only[AX,Bool.false_and];rw[Ag (by simpa using hlen)];rfl
    ·simp only[AK,Bool.true_and];rw[Ag (by simpa using hlen)];rfl
   have ih':=ih (e+T.size) (k+1) (s++[x]) (good&&decide (x > 0)) d2 (by omega) (by simp[hs]) (by omega)
   simp only[Option.bind_some]
   rw[d1] at ih'
   cases hm:many (one (257 - (dp+1))) c l1 with
   |none=>
    rw[hm] at ih'
    obtain ⟨y,hy⟩:=ih'
    simp only[Option.bind_none]
    exact ⟨y,by rw[A6 hgo,hy]⟩
   |some z=>
    obtain ⟨F,l'⟩:=z
    rw[hm] at ih'
    simp only[Option.bind_some] at ih' ⊢
    rw[A6 hgo,ih',Kn,hx]
    simp[Bool.and_assoc]
theorem U5 {f:Tf} (hw:f.wf=true):f.srt.all (fun x=>decide (x > 0))=!decide (0∈f.srt):=by
 have h:=Sl f hw
 generalize f.srt=l at h
 induction l with
 |nil=>rfl
 |cons a l ih=>
  have ha:=h a (by simp)
  rw[List.all_cons,ih fun s hs=>h s (by simp[hs])]
  by_cases h0:a=0
  ·subst h0;simp
  ·rw[qZ10 (show a > 0 by omega)]
   have:(0:Int)∈a::l ↔ 0∈l:=by simp;omega
   simp only[this,Bool.true_and]
theorem Tc {t:List Aa} (hs:E8 t) (ht:t.length<=20000):∀ (f dp:Nat),dp<=257->258<=f+dp->QP t (Ee f) dp:=by
 intro f
 induction f with
 |zero=>intro dp h1 h2;omega
 |succ f ih=>
  intro dp h1 h2 i
  have hunf:Ee (f+1) t (i:Int) (dp:Int)=Ka (Ee f) t (i:Int) (dp:Int):=rfl
  rw[hunf]
  unfold Ka
  by_cases hi:i>=t.length
  ·rw[Aw]
   unfold CH
   have e:t.drop i=[]:=qY7 hi
   rw[e]
   cases h:257 - dp<;>rfl
  rw[AH]
  by_cases hd:dp=257
  ·rw[Aw]
   unfold CH
   have e:257 - dp=0:=by omega
   rw[e]
   rfl
  rw[AH]
  have hi':i < t.length:=by omega
  have hget:t.getD i Am=t[i]:=by simp[qZ4,hi']
  have hdrop:=qY6 hi'
  have hnum:=hs _ (List.getElem_mem hi')
  have hd1:257 - dp=(257 - (dp+1))+1:=by omega
  have hone:one (257 - dp) (t.drop i)=if CO t[i]=true then (many (one (257 - (dp+1))) (Bf t[i]).toNat (t.drop (i+1))).bind fun x=>some (cons t[i] x.1 nil,x.2) else none:=by rw[hd1,hdrop];rfl
  generalize t[i]=n at hget hnum hone
  have hg:∀ (k:Option ((Int×Int×Unit)×Unit)),Ab (decide (0<=(i:Int))&&decide ((i:Int) < (t.length:Int))) k=k:=fun k=>by rw[Ay,Ag,Ag]
  rw[hg,qZ0,hget,Y3 (by omega),Af]
  have hno:CO n=false->CH (257 - dp) t.length (t.drop i)=(-1,0):=fun h=>by
   unfold CH
   rw[hone,if_neg (by rw[h];decide)]
  by_cases q3:BK n=false
  ·rw[q3,hno (by unfold CO;rw[q3];rfl)];rfl
  rw[Bool.not_eq_false] at q3
  rw[q3]
  simp only[qY2,AX]
  rw[hg,hg,AAX,Af]
  by_cases q4:Be n.1 n.2.2.2.2=false
  ·rw[q4,hno (by unfold CO;rw[q4,Bool.and_false])];rfl
  rw[Bool.not_eq_false] at q4
  rw[q4]
  simp only[qY2,AX]
  rw[hg]
  have hok:CO n=true:=Hn.2 ⟨q3,q4⟩
  rw[if_pos hok] at hone
  have hk0:=M7 q4
  have hK:n.2.2.2.2=Bf n:=rfl
  rw[hK] at hk0 ⊢
  have hbound:∀ F l',many (one (257 - (dp+1))) (Bf n).toNat (t.drop (i+1))=some (F,l')->F.len=(Bf n).toNat/\F.wf=true/\t.drop (i+1)=F.flat++l'/\F.size+l'.length=t.length - (i+1):=by
   intro F l' hm
   obtain ⟨m1,m2,m3,m4⟩:=Tq (KM _) _ hm
   have:=congrArg List.length m1
   rw[qZ6,CV,List.length_drop] at this
   exact ⟨m3,m2,m1,this.symm⟩
  by_cases q5:Bf n > (t.length:Int)
  ·rw[Aw q5]
   have hm:many (one (257 - (dp+1))) (Bf n).toNat (t.drop (i+1))=none:=by
    cases hm:many (one (257 - (dp+1))) (Bf n).toNat (t.drop (i+1)) with
    |none=>rfl
    |some x=>
     obtain ⟨F,l'⟩:=x
     obtain ⟨b1,b2,b3,b4⟩:=hbound F l' hm
     have:=JA F
     omega
   unfold CH
   rw[hone,hm]
   rfl
  rw[AH q5]
  have hwi:qI ((i:Int)+1)=((i+1:Nat):Int):=by rw[AG];rfl
  have hl:=AER ht (dp:=dp) (by omega) (ih (dp+1) (by omega) (by omega)) hi' (K:=Bf n) (by rw[hget]) (Bf n).toNat (i+1) 0 [] true (by omega) (by omega) rfl (by omega)
  rw[show ((0:Nat):Int)=0 from rfl] at hl
  rw[hwi]
  cases hm:many (one (257 - (dp+1))) (Bf n).toNat (t.drop (i+1)) with
  |none=>
   rw[hm] at hl hone
   obtain ⟨y,hy⟩:=hl
   rw[hy]
   simp only[Af,Ce,Ci,AK,AX]
   unfold CH
   rw[hone]
   rfl
  |some x=>
   obtain ⟨F,l'⟩:=x
   obtain ⟨b1,b2,b3,b4⟩:=hbound F l' hm
   rw[hm] at hl hone
   simp only at hl
   rw[hl]
   simp only[Af,By,AK,qY15,Bool.true_and]
   rw[U5 b2]
   simp only[Option.bind_some] at hone
   have htree:CH (257 - dp) t.length (t.drop i)=((t.length:Int) - (l'.length:Int),if 0∈F.srt then 0 else AZ n (op1 F) F.srt):=by
    unfold CH
    rw[hone]
    rfl
   rw[htree]
   by_cases h0:(0:Int)∈F.srt
   ·rw[qZ10 h0,if_pos h0];rfl
   rw[qZ9 h0,if_neg h0]
   simp only[qY1,qY2,AX]
   have hop:=ACb q3
   have hcl:Be (Aj n) (F.srt.length:Int)=true:=by
    have e:(F.srt.length:Int)=Bf n:=by rw[EC,b1];omega
    rw[e];exact q4
   have hsl:F.srt.length<=1000000000:=by rw[EC];have:=JA F;omega
   cases F with
   |nil=>
    rw[AH (by simp[srt]),hg,qZ0,hget,TO (f:=0) hop hsl hcl (fun _ h=>by omega),Af]
    rfl
   |cons n1 k1 r1=>
    have hb:t.drop (i+1)=n1::(k1.flat++r1.flat++l'):=by rw[b3];simp[flat]
    obtain ⟨g1,g2⟩:=Lu (d:=Am) hb
    obtain ⟨w1,w2,w3,w4⟩:=CZ.1 b2
    obtain ⟨s1,s2,s3⟩:=Gy.1 h0
    rw[Aw (by simp[srt]),hwi,Ay,Ag,Ag,hg,qZ0,qZ0,hget,g1]
    rw[TO (f:=n1.1) hop hsl hcl (fun _ h=>by
     have hsrt:(cons n1 k1 r1).srt.getD 0 0=AZ n1 (op1 k1) k1.srt:=by
      simp only[srt,qZ3]
      rw[if_neg s1]
     rw[hsrt]
     have h3:Aj n1=3:=h
     have:AZ n1 (op1 k1) k1.srt=A5 n1:=by unfold AZ;rw[if_pos (.inl h3)]
     rw[this]
     exact (Zq (Hn.1 w1).1 h3).1),Af]
    rfl
theorem Lj:∃ f,Bg=f/\258<=f:=⟨Bg,rfl,by decide⟩
theorem ACM {t rest:List Aa} {at':Nat} {n:Aa} {k r:Tf} (hd:t.drop at'=(cons n k r).flat++rest) (hw:(cons n k r).wf=true) (hdep:(cons n k r).dep<=257):one 257 (t.drop at')=some (cons n k nil,r.flat++rest):=by
 obtain ⟨w1,w2,w3,w4⟩:=CZ.1 hw
 have e:(cons n k r).flat++rest=(cons n k nil).flat++(r.flat++rest):=by simp[flat]
 rw[hd,e]
 exact SF _ (CZ.2 ⟨w1,w2,w3,rfl⟩) rfl (by simp only[dep] at hdep ⊢;omega)
theorem AE6 {t:List Aa} (hs:E8 t) (ht:t.length<=20000) {p:Nat} (hp:p < t.length) {K:Int} (hK:(t.getD p Am).2.2.2.2=K):∀ (r:Tf) (at':Nat) (rest:List Aa) (out:List Int) (idx:Nat),t.drop at'=r.flat++rest->r.wf=true->r.dep<=257->((idx+r.len:Nat):Int)=K->idx+r.len<=20000->out.length=idx->
 ∃ y,Ak G3 (t,(p:Int),out,(at':Int),(idx:Int),())=some (.exit 0,(t,(p:Int),out++r.srt,y)):=by
 intro r
 induction r with
 |nil=>
  intro at' rest out idx _ _ _ hk _ _
  simp only[len,Nat.add_zero] at hk
  refine ⟨_,A_ (y:=(t,(p:Int),out++[],(at':Int),(idx:Int),())) ?_ (by simp)⟩
  unfold G3
  simp only
  rw[Ay,Ag,Ag,qZ0,hK,AH,qY4]
 |cons n k r _ ir=>
  intro at' rest out idx hd hw hdep hk hb ho
  obtain ⟨w1,w2,w3,w4⟩:=CZ.1 hw
  have hone:=ACM hd hw hdep
  obtain ⟨f,hf1,hf2⟩:=Lj
  have htr:=Tc hs ht f 0 (by omega) (by omega) at'
  rw[show ((0:Nat):Int)=0 from rfl] at htr
  have hat:at'<=t.length:=by
   rcases Nat.lt_or_ge t.length at' with h | h
   ·rw[qY7 (by omega)] at hd
    simp[flat] at hd
   ·exact h
  obtain ⟨d1,d2,d3⟩:=PQ hone hat
  have hts:CH (257 - 0) t.length (t.drop at')=(((at'+(cons n k nil).size:Nat):Int),(cons n k nil).srt.getD 0 0):=by
   unfold CH
   rw[show 257 - 0=257 from rfl,hone]
   simp only
   rw[d3]
  rw[hts] at htr
  simp only[len] at hk hb
  have hgo:G3 (t,(p:Int),out,(at':Int),(idx:Int),())=some (.normal,(t,(p:Int),out++[(cons n k nil).srt.getD 0 0],((at'+(cons n k nil).size:Nat):Int),((idx+1:Nat):Int),())):=by
   unfold G3
   simp only
   rw[Ay,Ag,Ag,qZ0,hK,Aw,hf1,htr,Af,Ag (by simp[Ap];omega),AG]
   rfl
  obtain ⟨y,hy⟩:=ir (at'+(cons n k nil).size) rest (out++[(cons n k nil).srt.getD 0 0]) (idx+1) d1 w4 (by simp only[dep] at hdep;omega) (by omega) (by omega) (by simp[ho])
  refine ⟨y,?_⟩
  rw[A6 hgo,hy]
  simp[srt]
theorem ABS {t:List Aa} (hs:E8 t) (ht:t.length<=20000) {p:Nat} {n:Aa} {k:Tf} {rest:List Aa} (hd:t.drop p=n::(k.flat++rest)) (hn:Bf n=(k.len:Int)) (hw:k.wf=true) (hdep:k.dep<=257) (hk:k.size<=20000):Kj t (p:Int)=some ((k.srt,()),()):=by
 obtain ⟨g1,g2⟩:=Lu (d:=Am) hd
 have hkl:=JA k
 have hd':t.drop (p+1)=k.flat++rest:=by
  have:=congrArg (List.drop 1) hd
  rw[List.drop_drop] at this
  simpa using this
 unfold Kj
 obtain ⟨y,hy⟩:=AE6 hs ht g2 (K:=(k.len:Int)) (by rw[g1];exact hn) k (p+1) rest [] 0 hd' hw hdep (by omega) (by omega) rfl
 rw[show ((0:Nat):Int)=0 from rfl] at hy
 rw[AG]
 have e:(p:Int)+1=((p+1:Nat):Int):=rfl
 rw[e,hy]
 simp only[Af,By,AK,qY15]
theorem X_ {a b:List Int} (ha:a.length<=2000000000):J7 a b=some ((decide (a=b),()),()):=by
 unfold J7
 by_cases hl:a.length=b.length
 ·rw[BP]
  have:=IG (step:=II) (fun k=>(a,b,false,(k:Int),())) (fun k=>(a,b,false,(k:Int),())) a.length (E:=.exit 0) (B:=.ret) (by simp) (by simp) (fun k=>decide (a.getD k 0=b.getD k 0)) (fun k hk=>by
   unfold II
   simp only
   rw[Aw,Ay,Ag,Ag,Ay,Ag,Ag,qZ0,AG]
   by_cases h:a.getD k 0=b.getD k 0
   ·rw[BP h,if_pos (qZ10 h)];rfl
   ·rw[B_ h,if_neg (fun e=>h (of_decide_eq_true e))]) (by
   unfold II
   simp only
   rw[AH])
  rw[show ((0:Nat):Int)=0 from rfl] at this
  have heq:(List.range a.length).all (fun k=>decide (a.getD k 0=b.getD k 0))=decide (a=b):=by
   rw[Bool.eq_iff_iff,qY3,decide_eq_true_eq]
   constructor
   ·intro h
    refine List.ext_getElem hl fun k h1 h2=>?_
    have:=h k (List.mem_range.2 h1)
    simpa [qZ4,h1,h2] using this
   ·rintro rfl k _;simp
  rcases this with ⟨h1,h2⟩ | ⟨h1,k,h2⟩
  ·rw[h2,<-heq,h1];simp only[Af,By,AK]
  ·rw[h2,<-heq,h1];simp only[Af,Ce,Ci,AK,AX]
 ·rw[B_,qZ9 (fun e=>hl (by rw[e]))]
abbrev Fv:=qBs×List Int×Int
structure UI (us:List Us) (vars:List Vr) (funcs:List Fv):Prop where
 w:∀ a∈us,(a.2.1=false/\a.2.2.1=[])\/a.2.1=true
 c:∀ a∈us,∀ b∈us,a.1=b.1->a.2.1=b.2.1->a=b
 v1:∀ x∈vars,(x.1,false,[],x.2)∈us
 v2:∀ nm s,(nm,false,[],s)∈us->(nm,s)∈vars
 f1:∀ x∈funcs,(x.1,true,x.2.1,x.2.2)∈us
 f2:∀ nm a s,(nm,true,a,s)∈us->(nm,a,s)∈funcs
theorem UI.nil:UI [] [] []:=⟨fun a h=>absurd h qY16,fun a h=>absurd h qY16,fun a h=>absurd h qY16,fun _ _ h=>absurd h qY16,fun a h=>absurd h qY16,fun _ _ _ h=>absurd h qY16⟩
theorem UI.again {us:List Us} {vars:List Vr} {funcs:List Fv} (h:UI us vars funcs) {u:Us} (hu:u∈us):UI (us++[u]) vars funcs:=by
 have hm:∀ a,a∈us++[u] ↔ a∈us:=fun a=>by
  rw[qZ7,qZ8]
  exact ⟨fun h=>h.elim id fun e=>e ▸ hu,.inl⟩
 exact ⟨fun a ha=>h.w a ((hm a).1 ha),fun a ha b hb=>h.c a ((hm a).1 ha) b ((hm b).1 hb),fun x hx=>(hm _).2 (h.v1 x hx),fun nm s hx=>h.v2 nm s ((hm _).1 hx),fun x hx=>(hm _).2 (h.f1 x hx),fun nm a s hx=>h.f2 nm a s ((hm _).1 hx)⟩
theorem UI.snoc_c {us:List Us} {vars:List Vr} {funcs:List Fv} (h:UI us vars funcs) {u:Us} (hu:∀ a∈us,a.1=u.1->a.2.1=u.2.1->a=u):∀ a∈us++[u],∀ b∈us++[u],a.1=b.1->a.2.1=b.2.1->a=b:=by
 intro a ha b hb e1 e2
 rcases List.mem_append.1 ha with ha1 | ha1
 ·rcases List.mem_append.1 hb with hb1 | hb1
  ·exact h.c a ha1 b hb1 e1 e2
  ·rw[qZ8] at hb1
   rw[hb1] at e1 e2 ⊢
   exact hu a ha1 e1 e2
 ·rw[qZ8] at ha1
  rw[ha1] at e1 e2 ⊢
  rcases List.mem_append.1 hb with hb1 | hb1
  ·exact (hu b hb1 e1.symm e2.symm).symm
  ·rw[qZ8] at hb1;exact hb1.symm
theorem UI.addV {us:List Us} {vars:List Vr} {funcs:List Fv} (h:UI us vars funcs) {nm:qBs} {s:Int} (hn:∀ x∈vars,x.1≠nm):UI (us++[(nm,false,[],s)]) (vars++[(nm,s)]) funcs:=by
 refine ⟨fun a ha=>?_,h.snoc_c fun a ha e1 e2=>?_,fun x hx=>?_,fun m x hx=>?_,fun x hx=>List.mem_append_left _ (h.f1 x hx),fun m a x hx=>?_⟩
 ·rcases List.mem_append.1 ha with ha | ha
  ·exact h.w a ha
  ·rw[qZ8] at ha;subst ha;exact .inl ⟨rfl,rfl⟩
 ·exfalso
  obtain ⟨m,b,l,z⟩:=a
  simp only at e1 e2
  subst e1;subst e2
  rcases h.w _ ha with ⟨_,q⟩ | q
  ·simp only at q;subst q
   exact hn _ (h.v2 _ _ ha) rfl
  ·cases q
 ·rcases List.mem_append.1 hx with hx | hx
  ·exact List.mem_append_left _ (h.v1 x hx)
  ·rw[qZ8] at hx;subst hx;simp
 ·rcases List.mem_append.1 hx with hx | hx
  ·exact List.mem_append_left _ (h.v2 m x hx)
  ·rw[qZ8] at hx;cases hx;simp
 ·rcases List.mem_append.1 hx with hx | hx
  ·exact h.f2 m a x hx
  ·rw[qZ8] at hx;cases hx
theorem UI.addF {us:List Us} {vars:List Vr} {funcs:List Fv} (h:UI us vars funcs) {nm:qBs} {l:List Int} {s:Int} (hn:∀ x∈funcs,x.1≠nm):UI (us++[(nm,true,l,s)]) vars (funcs++[(nm,l,s)]):=by
 refine ⟨fun a ha=>?_,h.snoc_c fun a ha e1 e2=>?_,fun x hx=>List.mem_append_left _ (h.v1 x hx),fun m x hx=>?_,fun x hx=>?_,fun m a x hx=>?_⟩
 ·rcases List.mem_append.1 ha with ha | ha
  ·exact h.w a ha
  ·rw[qZ8] at ha;subst ha;exact .inr rfl
 ·exfalso
  obtain ⟨m,b,l',z⟩:=a
  simp only at e1 e2
  subst e1;subst e2
  exact hn _ (h.f2 _ _ _ ha) rfl
 ·rcases List.mem_append.1 hx with hx | hx
  ·exact h.v2 m x hx
  ·rw[qZ8] at hx;cases hx
 ·rcases List.mem_append.1 hx with hx | hx
  ·exact List.mem_append_left _ (h.f1 x hx)
  ·rw[qZ8] at hx;subst hx;simp
 ·rcases List.mem_append.1 hx with hx | hx
  ·exact List.mem_append_left _ (h.f2 m a x hx)
  ·rw[qZ8] at hx;cases hx;simp
theorem VC {t:List Aa} {vars:List Vr} {funcs:List Fv} {i:Nat} {n:Aa} (hi:i < t.length) (hn:t.getD i Am=n) (hl:vars.length<=20000):∀ (m q:Nat) (known:Bool),q+m=vars.length->
 ((∃ x∈vars.drop q,x.1=n.2.2.1/\x.2≠n.2.1)/\∃ y,Ak Fu (t,false,vars,funcs,(i:Int),known,(q:Int),())=some (.ret,(t,false,vars,funcs,(i:Int),y)))\/
 ((∀ x∈vars.drop q,x.1=n.2.2.1->x.2=n.2.1)/\Ak Fu (t,false,vars,funcs,(i:Int),known,(q:Int),())=some (.exit 3,(t,false,vars,funcs,(i:Int),known||(vars.drop q).any (fun x=>decide (x.1=n.2.2.1)),(vars.length:Int),()))):=by
 intro m
 induction m with
 |zero=>
  intro q known hq
  have e:vars.drop q=[]:=qY7 (by omega)
  rw[e]
  refine .inr ⟨fun x hx=>absurd hx qY16,A_ ?_ (by simp)⟩
  unfold Fu
  simp only
  rw[AH]
  have:q=vars.length:=by omega
  rw[this]
  simp
 |succ m ih=>
  intro q known hq
  have hql:q < vars.length:=by omega
  have hd:=qY6 hql
  have hg:vars.getD q BL=vars[q]:=by simp[qZ4,hql]
  rw[hd]
  generalize vars[q]=x at hg hd
  have hstep:Fu (t,false,vars,funcs,(i:Int),known,(q:Int),())=if x.1=n.2.2.1 then (if x.2=n.2.1 then some (.normal,(t,false,vars,funcs,(i:Int),true,((q+1:Nat):Int),())) else some (.ret,(t,false,vars,funcs,(i:Int),true,(q:Int),()))) else some (.normal,(t,false,vars,funcs,(i:Int),known,((q+1:Nat):Int),())):=by
   unfold Fu
   simp only
   rw[Aw,Ay,Ag,Ag,qZ0,qZ0,Ag hql,Ay,Ag,Ag,hg,hn,AG]
   by_cases h1:x.1=n.2.2.1
   ·rw[show (x.1==n.2.2.1)=true by simpa using h1,if_pos h1,AK,Ay,Ag,Ag,Ag hql,Ay,Ag,Ag]
    by_cases h2:x.2=n.2.1
    ·rw[BP h2,if_pos h2];rfl
    ·rw[B_ h2,if_neg h2]
   ·rw[show (x.1==n.2.2.1)=false by simpa using h1,if_neg h1,AX];rfl
  by_cases h1:x.1=n.2.2.1
  ·rw[if_pos h1] at hstep
   by_cases h2:x.2=n.2.1
   ·rw[if_pos h2] at hstep
    rcases ih (q+1) true (by omega) with ⟨⟨z,z1,z2⟩,y,hy⟩ | ⟨hz,hy⟩
    ·exact .inl ⟨⟨z,qY13 _ z1,z2⟩,y,by rw[A6 hstep,hy]⟩
    ·refine .inr ⟨fun z hz' e=>?_,?_⟩
     ·rcases List.mem_cons.1 hz' with rfl | hz'
      ·exact h2
      ·exact hz z hz' e
     ·rw[A6 hstep,hy,List.any_cons,qZ10 h1];simp
   ·rw[if_neg h2] at hstep
    exact .inl ⟨⟨x,by simp,h1,h2⟩,_,A_ hstep (by simp)⟩
  ·rw[if_neg h1] at hstep
   rcases ih (q+1) known (by omega) with ⟨⟨z,z1,z2⟩,y,hy⟩ | ⟨hz,hy⟩
   ·exact .inl ⟨⟨z,qY13 _ z1,z2⟩,y,by rw[A6 hstep,hy]⟩
   ·refine .inr ⟨fun z hz' e=>?_,?_⟩
    ·rcases List.mem_cons.1 hz' with rfl | hz'
     ·exact absurd e h1
     ·exact hz z hz' e
    ·rw[A6 hstep,hy,List.any_cons,qZ9 h1,Bool.false_or]
theorem AAn {t:List Aa} {vars:List Vr} {funcs:List Fv} {i:Nat} {g:Fv} (hl:funcs.length<=20000) (hfl:∀ x∈funcs,x.2.1.length<=20000):∀ (m q:Nat) (known:Bool),q+m=funcs.length->
 ((∃ x∈funcs.drop q,x.1=g.1/\x≠g)/\∃ y,Ak F8 (t,false,vars,funcs,(i:Int),g,known,(q:Int),())=some (.ret,(t,false,vars,funcs,(i:Int),y)))\/
 ((∀ x∈funcs.drop q,x.1=g.1->x=g)/\Ak F8 (t,false,vars,funcs,(i:Int),g,known,(q:Int),())=some (.exit 5,(t,false,vars,funcs,(i:Int),g,known||(funcs.drop q).any (fun x=>decide (x.1=g.1)),(funcs.length:Int),()))):=by
 intro m
 induction m with
 |zero=>
  intro q known hq
  have e:funcs.drop q=[]:=qY7 (by omega)
  rw[e]
  refine .inr ⟨fun x hx=>absurd hx qY16,A_ ?_ (by simp)⟩
  unfold F8
  simp only
  rw[AH]
  have:q=funcs.length:=by omega
  rw[this]
  simp
 |succ m ih=>
  intro q known hq
  have hql:q < funcs.length:=by omega
  have hd:=qY6 hql
  have hg:funcs.getD q (([]:qBs),([]:List Int),(0:Int))=funcs[q]:=by simp[qZ4,hql]
  have hxl:=hfl _ (List.getElem_mem hql)
  rw[hd]
  generalize funcs[q]=x at hg hd hxl
  obtain ⟨xn,xa,xr⟩:=x
  obtain ⟨gn,ga,gr⟩:=g
  simp only at hxl
  have hstep:F8 (t,false,vars,funcs,(i:Int),(gn,ga,gr),known,(q:Int),())=if xn=gn then (if (xn,xa,xr)=(gn,ga,gr) then some (.normal,(t,false,vars,funcs,(i:Int),(gn,ga,gr),true,((q+1:Nat):Int),())) else some (.ret,(t,false,vars,funcs,(i:Int),(gn,ga,gr),true,(q:Int),()))) else some (.normal,(t,false,vars,funcs,(i:Int),(gn,ga,gr),known,((q+1:Nat):Int),())):=by
   unfold F8
   simp only
   rw[Aw,Ay,Ag,Ag,qZ0,Ag hql,hg,AG]
   by_cases h1:xn=gn
   ·rw[show (xn==gn)=true by simpa using h1,if_pos h1,AK,Ay,Ag,Ag,Ag hql]
    by_cases h2:xr=gr
    ·rw[BP h2,Ay,Ag,Ag,Ag hql,X_ (show xa.length<=2000000000 by omega),Af]
     by_cases h3:xa=ga
     ·rw[qZ10 h3,if_pos (by rw[h1,h2,h3])];rfl
     ·rw[qZ9 h3,if_neg (fun e=>h3 (by cases e;rfl))];rfl
    ·rw[B_ h2,if_neg (fun e=>h2 (by cases e;rfl))]
   ·rw[show (xn==gn)=false by simpa using h1,if_neg h1,AX];rfl
  by_cases h1:xn=gn
  ·rw[if_pos h1] at hstep
   by_cases h2:(xn,xa,xr)=(gn,ga,gr)
   ·rw[if_pos h2] at hstep
    rcases ih (q+1) true (by omega) with ⟨⟨z,z1,z2⟩,y,hy⟩ | ⟨hz,hy⟩
    ·exact .inl ⟨⟨z,qY13 _ z1,z2⟩,y,by rw[A6 hstep,hy]⟩
    ·refine .inr ⟨fun z hz' e=>?_,?_⟩
     ·rcases List.mem_cons.1 hz' with rfl | hz'
      ·exact h2
      ·exact hz z hz' e
     ·rw[A6 hstep,hy,List.any_cons,qZ10 h1];simp
   ·rw[if_neg h2] at hstep
    exact .inl ⟨⟨_,by simp,h1,h2⟩,_,A_ hstep (by simp)⟩
  ·rw[if_neg h1] at hstep
   rcases ih (q+1) known (by omega) with ⟨⟨z,z1,z2⟩,y,hy⟩ | ⟨hz,hy⟩
   ·exact .inl ⟨⟨z,qY13 _ z1,z2⟩,y,by rw[A6 hstep,hy]⟩
   ·refine .inr ⟨fun z hz' e=>?_,?_⟩
    ·rcases List.mem_cons.1 hz' with rfl | hz'
     ·exact absurd e h1
     ·exact hz z hz' e
    ·rw[A6 hstep,hy,List.any_cons,qZ9 h1,Bool.false_or]
theorem AEO {F:Tf} {t:List Aa} (hs:E8 t) (hF:F.flat=t) (hw:F.wf=true) (h0:(0:Int)∉F.srt) (hz:F.size<=20000) (hdep:F.dep<=258) {p:Nat} (hp:p < F.size) {vars:List Vr} {funcs:List Fv}
 (hI:UI (DH F p) vars funcs) (hl:vars.length<=p) (hm:funcs.length<=p) :
 (¬ DX (DH F (p+1))/\∃ x,EN (t,false,vars,funcs,(p:Int),())=some (.ret,(t,false,x)))\/
 ∃ vars' funcs',UI (DH F (p+1)) vars' funcs'/\vars'.length<=p+1/\funcs'.length<=p+1/\EN (t,false,vars,funcs,(p:Int),())=some (.normal,(t,false,vars',funcs',((p+1:Nat):Int),())):=by
 obtain ⟨n,k,x,rest,rest2,h1,h2,h3⟩:=ZO F 0 p hp
 obtain ⟨g1,g2⟩:=Lu (d:=Am) h2
 have hmem:(n,k)∈F.subs:=qY14 h1
 obtain ⟨w1,w2,w3,w4⟩:=UD hw h0 hmem
 have hks:=Og hmem
 have htl:t.length=F.size:=by rw[<-hF,CV]
 rw[hF] at g1 h2
 have hwp:qI ((p:Int)+1)=((p+1:Nat):Int):=by rw[AG];rfl
 have hT:=ABR h1
 have hkd:k.dep<=257:=by
  have:∀ (f:Tf),(n,k)∈f.subs->k.dep+1<=f.dep:=by
   intro f
   induction f with
   |nil=>intro h;simp[subs] at h
   |cons a b c ib ic=>
    intro h
    simp only[subs,qY12,qZ7,Prod.mk.injEq] at h
    simp only[dep]
    rcases h with ⟨rfl,rfl⟩ | h | h
    ·omega
    ·have:=ib h;omega
    ·have:=ic h;omega
  have:=this F hmem
  omega
 unfold EN
 simp only
 rw[Aw,Ay,Ag,Ag,qZ0,g1]
 by_cases e4:n.1=4
 ·have hu:CK (n,k)=some (n.2.2.1,false,[],n.2.1):=by unfold CK;rw[if_pos e4]
  rw[hu] at hT
  rw[AI e4]
  rcases VC (funcs:=funcs) (t:=t) (i:=p) (n:=n) (by omega) g1 (show vars.length<=20000 by omega) vars.length 0 false (by omega) with ⟨⟨y,y1,y2,y3⟩,z,hz'⟩ | ⟨hy,hz'⟩
  ·rw[show ((0:Nat):Int)=0 from rfl] at hz'
   rw[hz']
   simp only[Af,Ce,Ci,AK,AX]
   refine .inl ⟨fun hc=>y3 ?_,_,rfl⟩
   rw[hT] at hc
   have hy1:=hI.v1 y (by simpa using y1)
   have:=hc _ (List.mem_append_left _ hy1) (n.2.2.1,false,[],n.2.1) (by simp) y2
   simp only[Prod.mk.injEq] at this
   exact this.2.2.2
  ·rw[show ((0:Nat):Int)=0 from rfl] at hz'
   rw[hz']
   simp only[Af,By,AK,Bool.false_or,List.drop_zero]
   by_cases hk:(vars.any fun x=>decide (x.1=n.2.2.1))=true
   ·rw[hk]
    simp only[qY2,AX,hwp]
    obtain ⟨y,y1,y2⟩:=List.any_eq_true.1 hk
    have y2':y.1=n.2.2.1:=of_decide_eq_true y2
    have hy1:=hI.v1 y y1
    have e2:=hy y (by simpa using y1) y2'
    rw[y2',e2] at hy1
    exact .inr ⟨_,_,by rw[hT];exact hI.again hy1,by omega,by omega,rfl⟩
   ·rw[Bool.not_eq_true] at hk
    rw[hk]
    simp only[qY1,AK]
    rw[Ay,Ag,Ag,Ay,Ag,Ag,Ag (by simp[Ap];omega),qZ0,g1,hwp]
    have hx:∀ y∈vars,y.1≠n.2.2.1:=fun y hy1 e=>List.any_eq_false.1 hk y hy1 (qZ10 e)
    exact .inr ⟨_,_,by rw[hT];exact hI.addV hx,by simp;omega,by omega,rfl⟩
 ·rw[An e4]
  by_cases e5:n.1=5
  ·have hu:CK (n,k)=some (n.2.2.1,true,k.srt,n.2.1):=by unfold CK;rw[if_neg e4,if_pos e5]
   rw[hu] at hT
   rw[AI e5]
   have hfa:JU t (p:Int)=some (((n.2.2.1,k.srt,n.2.1),()),()):=by
    unfold JU
    rw[Ay,Ag,Ag,ABS hs (by omega) h2 w2 w3 hkd (by omega),Af,Ay,Ag,Ag,qZ0,g1]
   rw[hfa,Af]
   have hfl:∀ x∈funcs,x.2.1.length<=20000:=by
    intro y hy
    have hb2:=hI.f1 y hy
    obtain ⟨⟨n',k'⟩,m1,m2⟩:=List.mem_filterMap.1 (Qc _ hb2)
    unfold CK at m2
    split at m2
    ·simp at m2
    ·split at m2
     ·simp only[Option.some.injEq,Prod.mk.injEq] at m2
      rw[<-m2.2.2.1,EC]
      have:=Og m1;have:=JA k';omega
     ·cases m2
   rcases AAn (t:=t) (vars:=vars) (i:=p) (g:=(n.2.2.1,k.srt,n.2.1)) (show funcs.length<=20000 by omega) hfl funcs.length 0 false (by omega) with ⟨⟨y,y1,y2,y3⟩,z,hz'⟩ | ⟨hy,hz'⟩
   ·rw[show ((0:Nat):Int)=0 from rfl] at hz'
    simp only
    rw[hz']
    simp only[Af,Ce,Ci,AK,AX]
    refine .inl ⟨fun hc=>y3 ?_,_,rfl⟩
    rw[hT] at hc
    have hy1:=hI.f1 y (by simpa using y1)
    have:=hc _ (List.mem_append_left _ hy1) (n.2.2.1,true,k.srt,n.2.1) (by simp) y2
    obtain ⟨ya,yb,yc⟩:=y
    simp only[Prod.mk.injEq,true_and] at this ⊢
    exact this
   ·rw[show ((0:Nat):Int)=0 from rfl] at hz'
    simp only
    rw[hz']
    simp only[Af,By,AK,Bool.false_or,List.drop_zero]
    by_cases hk:(funcs.any fun x=>decide (x.1=n.2.2.1))=true
    ·rw[hk]
     simp only[qY2,AX,hwp]
     obtain ⟨y,y1,y2⟩:=List.any_eq_true.1 hk
     have y2':y.1=n.2.2.1:=of_decide_eq_true y2
     have hy1:=hI.f1 y y1
     have e2:=hy y (by simpa using y1) y2'
     rw[e2] at hy1
     exact .inr ⟨_,_,by rw[hT];exact hI.again hy1,by omega,by omega,rfl⟩
    ·rw[Bool.not_eq_true] at hk
     rw[hk]
     simp only[qY1,AK]
     rw[Ag (by simp[Ap];omega),hwp]
     have hx:∀ y∈funcs,y.1≠n.2.2.1:=fun y hy1 e=>List.any_eq_false.1 hk y hy1 (qZ10 e)
     exact .inr ⟨_,_,by rw[hT];exact hI.addF hx,by omega,by simp;omega,rfl⟩
  ·have hu:CK (n,k)=none:=by unfold CK;rw[if_neg e4,if_neg e5]
   rw[hu] at hT
   rw[An e5,hwp]
   exact .inr ⟨_,_,by rw[hT];simpa using hI,by omega,by omega,rfl⟩
theorem Zi {F:Tf} {t:List Aa} (hs:E8 t) (hF:F.flat=t) (hw:F.wf=true) (h0:(0:Int)∉F.srt) (hz:F.size<=20000) (hdep:F.dep<=258):∀ (m p:Nat) (vars:List Vr) (funcs:List Fv),p+m=F.size->
 UI (DH F p) vars funcs->vars.length<=p->funcs.length<=p->
 (¬ DX (C1 F)/\∃ x,Ak EN (t,false,vars,funcs,(p:Int),())=some (.ret,(t,false,x)))\/
 ∃ vars' funcs' y,UI (C1 F) vars' funcs'/\vars'.length<=20000/\funcs'.length<=20000/\Ak EN (t,false,vars,funcs,(p:Int),())=some (.exit 0,(t,false,vars',funcs',y)):=by
 have htl:t.length=F.size:=by rw[<-hF,CV]
 intro m
 induction m with
 |zero=>
  intro p vars funcs hp hI hl hm
  have e:DH F p=C1 F:=by unfold DH C1;rw[List.take_of_length_le (by rw[Jh];omega)]
  rw[e] at hI
  exact .inr ⟨vars,funcs,_,hI,by omega,by omega,A_ (by unfold EN;simp only;rw[AH]) (by simp)⟩
 |succ m ih=>
  intro p vars funcs hp hI hl hm
  rcases AEO hs hF hw h0 hz hdep (p:=p) (by omega) hI hl hm with ⟨h1,x,h2⟩ | ⟨vars',funcs',h1,h2,h3,h4⟩
  ·exact .inl ⟨fun hc=>h1 (hc.mono Qc),x,A_ h2 (by simp)⟩
  ·rw[A6 h4]
   exact ih (p+1) vars' funcs' (by omega) h1 h2 h3
theorem YH {vars:List Vr} {funcs:List Fv} (hl:funcs.length<=20000) {i:Nat} (hi:i < vars.length):∀ (m q:Nat),q+m=funcs.length->
 ((∃ g∈funcs.drop q,(vars.getD i BL).1=g.1)/\∃ y,Ak Gj (false,vars,funcs,(i:Int),(q:Int),())=some (.ret,(false,vars,funcs,(i:Int),y)))\/
 ((∀ g∈funcs.drop q,(vars.getD i BL).1≠g.1)/\∃ y,Ak Gj (false,vars,funcs,(i:Int),(q:Int),())=some (.exit 9,(false,vars,funcs,(i:Int),y))):=by
 intro m
 induction m with
 |zero=>
  intro q hq
  have e:funcs.drop q=[]:=qY7 (by omega)
  rw[e]
  exact .inr ⟨fun x hx=>absurd hx qY16,_,A_ (by unfold Gj;simp only;rw[AH]) (by simp)⟩
 |succ m ih=>
  intro q hq
  have hql:q < funcs.length:=by omega
  have hd:=qY6 hql
  have hg:funcs.getD q (([]:qBs),([]:List Int),(0:Int))=funcs[q]:=by simp[qZ4,hql]
  rw[hd]
  generalize funcs[q]=x at hg hd
  have hstep:Gj (false,vars,funcs,(i:Int),(q:Int),())=if (vars.getD i BL).1=x.1 then some (.ret,(false,vars,funcs,(i:Int),(q:Int),())) else some (.normal,(false,vars,funcs,(i:Int),((q+1:Nat):Int),())):=by
   unfold Gj
   simp only
   rw[Aw,Ay,Ag,Ag,qZ0,qZ0,Ag hi,Ay,Ag,Ag,Ag hql,hg,AG]
   by_cases h1:(vars.getD i BL).1=x.1
   ·rw[show ((vars.getD i BL).1==x.1)=true from beq_iff_eq.2 h1,if_pos h1,AK]
   ·rw[show ((vars.getD i BL).1==x.1)=false from beq_eq_false_iff_ne.2 h1,if_neg h1,AX];rfl
  by_cases h1:(vars.getD i BL).1=x.1
  ·rw[if_pos h1] at hstep
   exact .inl ⟨⟨x,by simp,h1⟩,_,A_ hstep (by simp)⟩
  ·rw[if_neg h1] at hstep
   rcases ih (q+1) (by omega) with ⟨⟨z,z1,z2⟩,y,hy⟩ | ⟨hz,y,hy⟩
   ·exact .inl ⟨⟨z,qY13 _ z1,z2⟩,y,by rw[A6 hstep,hy]⟩
   ·refine .inr ⟨fun z hz'=>?_,y,by rw[A6 hstep,hy]⟩
    rcases List.mem_cons.1 hz' with rfl | hz'
    ·exact h1
    ·exact hz z hz'
theorem ABC {vars:List Vr} {funcs:List Fv} (hv:vars.length<=20000) (hl:funcs.length<=20000):∀ (m i:Nat),i+m=vars.length->
 ((∃ v∈vars.drop i,∃ g∈funcs,v.1=g.1)/\∃ y,Ak EQ (false,vars,funcs,(i:Int),())=some (.ret,(false,y)))\/
 ((∀ v∈vars.drop i,∀ g∈funcs,v.1≠g.1)/\∃ y,Ak EQ (false,vars,funcs,(i:Int),())=some (.exit 7,y)):=by
 intro m
 induction m with
 |zero=>
  intro i hi
  have e:vars.drop i=[]:=qY7 (by omega)
  rw[e]
  exact .inr ⟨fun x hx=>absurd hx qY16,_,A_ (by unfold EQ;simp only;rw[AH]) (by simp)⟩
 |succ m ih=>
  intro i hi
  have hil:i < vars.length:=by omega
  have hd:=qY6 hil
  have hg:vars.getD i BL=vars[i]:=by simp[qZ4,hil]
  have hin:=YH (vars:=vars) hl hil funcs.length 0 (by omega)
  rw[hg] at hin
  rw[hd]
  generalize vars[i]=x at hg hd hin
  rw[List.drop_zero,show ((0:Nat):Int)=0 from rfl] at hin
  rcases hin with ⟨⟨g,g1,g2⟩,y,hy⟩ | ⟨hn,y,hy⟩
  ·refine .inl ⟨⟨x,by simp,g,g1,g2⟩,_,A_ (y:=(false,vars,funcs,(i:Int),())) ?_ (by simp)⟩
   unfold EQ
   simp only
   rw[Aw,hy]
   simp only[Af,Ce,Ci,AK,AX]
  ·have hgo:EQ (false,vars,funcs,(i:Int),())=some (.normal,(false,vars,funcs,((i+1:Nat):Int),())):=by
    unfold EQ
    simp only
    rw[Aw,hy]
    simp only[Af,By,AK]
    rw[AG]
    rfl
   rcases ih (i+1) (by omega) with ⟨⟨v,v1,v2⟩,y,hy⟩ | ⟨hz,y,hy⟩
   ·exact .inl ⟨⟨v,qY13 _ v1,v2⟩,y,by rw[A6 hgo,hy]⟩
   ·refine .inr ⟨fun z hz'=>?_,y,by rw[A6 hgo,hy]⟩
    rcases List.mem_cons.1 hz' with rfl | hz'
    ·exact hn
    ·exact hz z hz'
theorem Y' {F:Tf} {t:List Aa} (hs:E8 t) (hF:F.flat=t) (hw:F.wf=true) (h0:(0:Int)∉F.srt) (hz:F.size<=20000) (hdep:F.dep<=258):∃ b,Jb t=some ((b,()),())/\(b=true ↔ DX (C1 F)):=by
 unfold Jb
 rcases Zi hs hF hw h0 hz hdep F.size 0 [] [] (by omega) UI.nil (by simp) (by simp) with ⟨h1,x,h2⟩ | ⟨vars,funcs,y,h1,h2,h3,h4⟩
 ·rw[show ((0:Nat):Int)=0 from rfl] at h2
  rw[h2]
  simp only[Af,Ce,Ci,AK,AX]
  exact ⟨false,rfl,fun h=>(by cases h),fun h=>absurd h h1⟩
 ·rw[show ((0:Nat):Int)=0 from rfl] at h4
  rw[h4]
  simp only[Af,By,AK]
  rcases ABC h2 h3 vars.length 0 (by omega) with ⟨⟨v,v1,g,g1,e⟩,y,hy⟩ | ⟨hn,y,hy⟩
  ·rw[show ((0:Nat):Int)=0 from rfl] at hy
   rw[hy]
   simp only[Af,Ce,Ci,AK,AX]
   refine ⟨false,rfl,fun h=>(by cases h),fun hc=>?_⟩
   have:=hc _ (h1.v1 v (by simpa using v1)) _ (h1.f1 g g1) e
   simp at this
  ·rw[show ((0:Nat):Int)=0 from rfl] at hy
   rw[hy]
   simp only[Af,By,AK]
   refine ⟨true,rfl,fun _=>?_,fun _=>rfl⟩
   intro a ha b hb e
   obtain ⟨an,ab,al,azs'⟩:=a
   obtain ⟨bn,bb,bl,bs⟩:=b
   simp only at e
   subst e
   rcases h1.w _ ha with ⟨p1,p2⟩ | p1<;>rcases h1.w _ hb with ⟨q1,q2⟩ | q1<;>simp only at p1 q1
   ·exact h1.c _ ha _ hb rfl (by simp only;rw[p1,q1])
   ·simp only at p2
    subst p1;subst p2;subst q1
    exact absurd rfl (hn _ (by simpa using h1.v2 _ _ ha) _ (h1.f2 _ _ _ hb))
   ·simp only at q2
    subst p1;subst q2;subst q1
    exact absurd rfl (hn _ (by simpa using h1.v2 _ _ hb) _ (h1.f2 _ _ _ ha))
   ·exact h1.c _ ha _ hb rfl (by simp only;rw[p1,q1])
theorem AA4 {t:List Aa} (hs:E8 t):(∃ F,VT t F/\Ey t=some ((F.srt.getD 0 0,()),())/\1<=F.srt.getD 0 0)\/((¬ ∃ F,VT t F)/\Ey t=some ((0,()),())):=by
 unfold Ey
 by_cases hl:t.length > 20000
 ·rw[Aw]
  refine .inr ⟨fun ⟨F,hF⟩=>?_,rfl⟩
  have:=hF.size
  have h2:=CV F
  rw[hF.flat] at h2
  omega
 rw[AH]
 obtain ⟨f,hf1,hf2⟩:=Lj
 have htr:=Tc hs (by omega) f 0 (by omega) (by omega) 0
 rw[show ((0:Nat):Int)=0 from rfl,List.drop_zero] at htr
 rw[hf1,htr,Af]
 have hiff:∀ F,VT t F->one 257 t=some (F,[]):=by
  intro F hF
  have:=SF (f:=F) (d:=257) [] hF.wf hF.len hF.dep
  rw[qY4,hF.flat] at this
  exact this
 unfold CH
 rw[show 257 - 0=257 from rfl]
 cases ho:one 257 t with
 |none=>
  simp only
  rw[B_ (show (-1:Int)≠(t.length:Int) by omega)]
  exact .inr ⟨fun ⟨F,hF⟩=>(by rw[hiff F hF] at ho;cases ho),rfl⟩
 |some x=>
  obtain ⟨F,l'⟩:=x
  obtain ⟨o1,o2,o3,o4⟩:=KM 257 ho
  simp only
  by_cases hl':l'=[]
  ·subst hl'
   rw[qY4] at o1
   rw[BP (show (t.length:Int) - (([]:List Aa).length:Int)=(t.length:Int) by simp)]
   obtain ⟨x,hx⟩:∃ x,F.srt=[x]:=by
    have:=EC F
    rw[o3] at this
    match h:F.srt,this with
    |[x],_=>exact ⟨x,rfl⟩
   have hg:F.srt.getD 0 0=x:=by rw[hx];rfl
   have hz:F.size<=20000:=by rw[<-CV,<-o1];omega
   by_cases h0:F.srt.getD 0 0=0
   ·rw[AI h0]
    refine .inr ⟨fun ⟨G,hG⟩=>?_,rfl⟩
    have:=hiff G hG
    rw[ho] at this
    cases this
    exact hG.srt (by rw[hx,<-hg,h0];simp)
   rw[An h0]
   have hn:(0:Int)∉F.srt:=by rw[hx];simp;rw[hg] at h0;exact fun e=>h0 e.symm
   obtain ⟨b,b1,b2⟩:=Y' hs o1.symm o2 hn hz (Nat.le_succ_of_le o4)
   rw[b1,Af]
   cases b with
   |true=>
    refine .inl ⟨F,⟨o1.symm,o2,hn,o3,hz,o4,b2.1 rfl⟩,rfl,?_⟩
    have:=Sl F o2 x (by rw[hx];simp)
    omega
   |false=>
    refine .inr ⟨fun ⟨G,hG⟩=>?_,rfl⟩
    have:=hiff G hG
    rw[ho] at this
    cases this
    have:=b2.2 hG.cns
    cases this
  ·have hpos:0 < l'.length:=List.length_pos_iff.2 hl'
   rw[B_]
   refine .inr ⟨fun ⟨G,hG⟩=>?_,rfl⟩
   have:=hiff G hG
   rw[ho] at this
   cases this
   exact hl' rfl
theorem VF {t:List Aa} (hs:E8 t):∃ b,KQ t=some ((b,()),())/\(b=true ↔ ∃ F,VT t F):=by
 unfold KQ
 rcases AA4 hs with ⟨F,h1,h2,h3⟩ | ⟨h1,h2⟩
 ·rw[h2,Af]
  exact ⟨_,rfl,fun _=>⟨F,h1⟩,fun _=>qZ10 (show F.srt.getD 0 0 > 0 by omega)⟩
 ·rw[h2,Af]
  exact ⟨_,rfl,fun h=>(by cases h),fun h=>absurd h h1⟩
theorem AFF (kids:List (List Aa)) (hl:kids.length<=1000):∀ (m i:Nat) (t:List Aa),i+m=kids.length->t.length+(kids.drop i).flatten.length<=100000->
 Ak HZ (kids,t,(i:Int),())=some (.exit 0,(kids,t++(kids.drop i).flatten,(kids.length:Int),())):=by
 intro m
 induction m with
 |zero=>
  intro i t hi _
  have e:kids.drop i=[]:=qY7 (by omega)
  rw[e]
  refine A_ ?_ (by simp)
  unfold HZ
  simp only
  have:i=kids.length:=by omega
  rw[AH,this]
  simp
 |succ m ih=>
  intro i t hi hb
  have hil:i < kids.length:=by omega
  have hd:=qY6 hil
  have hg:kids.getD i []=kids[i]:=by simp[qZ4,hil]
  rw[hd] at hb ⊢
  simp only[List.flatten_cons,qZ6] at hb
  rw[A6 (y:=(kids,t++kids[i],((i+1:Nat):Int),())) (by
   unfold HZ
   simp only
   rw[Aw,Ay,Ag,Ag,qZ0,hg,Ag (by simp only[Ap];omega),AG]
   rfl)]
  rw[ih (i+1) _ (by omega) (by simp only[qZ6];omega)]
  simp only[List.flatten_cons,qZ1]
theorem AAD {n:Aa} {kids:List (List Aa)} (hl:kids.length<=1000) (hb:kids.flatten.length<=90000):Dd n kids=some (((n.1,n.2.1,n.2.2.1,n.2.2.2.1,(kids.length:Int))::kids.flatten,()),()):=by
 unfold Dd
 have:=AFF kids hl kids.length 0 [(n.1,n.2.1,n.2.2.1,n.2.2.2.1,(kids.length:Int))] (by omega) (by simp only[List.drop_zero,qY11,List.length_nil];omega)
 rw[show ((0:Nat):Int)=0 from rfl] at this
 rw[this]
 simp only[Af,By,AK,List.drop_zero]
 rfl
theorem AT.len {VS:List Vr} {ss:List Int} {N d:Nat} {l:List Aa} (h:AT VS ss N d l):l.length<=N:=by
 obtain ⟨K,hK⟩:=h
 rw[<-hK.flat,CV];exact hK.size
theorem AT.sub {VS:List Vr} {ss:List Int} {N d:Nat} {l:List Aa} (h:AT [] ss N d l):AT VS ss N d l:=by
 obtain ⟨K,hK⟩:=h
 exact ⟨K,hK.flat,hK.wf,hK.srt,hK.nz,hK.sh,hK.size,hK.dep,fun x hx h4=>absurd (hK.vars x hx h4) qY16,hK.noap⟩
theorem Nt {o k:Int} (h:1<=o/\o<=20) (h':o≠3/\o≠4/\o≠5/\o≠16/\o≠17):BK ((o,0,[],[],k):Aa)=true:=by
 unfold BK
 simp only[Aj,A5,BW,Ba]
 rw[if_neg (by omega),if_neg (by omega),if_neg (by omega),qZ10 h]
 rfl
theorem DG {VS:List Vr} {ss:List Int} {N d:Nat} {kids:List (List Aa)} {o s:Int} (hK:AT VS ss N d kids.flatten) (hl:kids.length=ss.length) (h1000:kids.length<=1000) (hN:N<=50000) (h:1<=o/\o<=20) (h':o≠3/\o≠4/\o≠5/\o≠16/\o≠17)
 (hc:Be o ss.length=true) (hs:AZ ((o,0,[],[],(ss.length:Int)):Aa) (kids.flatten.getD 0 Am).1 ss=s) (hz:s≠0):∃ t,BC o kids=some ((t,()),())/\AT VS [s] (N+1) (d+1) t:=by
 refine ⟨(o,0,[],[],(kids.length:Int))::kids.flatten,?_,?_⟩
 ·unfold BC
  rw[AAD h1000 (by have:=hK.len;omega),Af]
 ·rw[hl]
  exact hK.node (Nt h h') hc rfl hs hz (by simp[Ba]) (fun e=>absurd e h'.2.1) h'.2.2.1
theorem Xk {d:Int} {P:KV} (hP:P.length<=100) (hs:∀ p∈P,(ti p.1).length<=73/\(ti p.2).length<=73):∀ (m i:Nat) (t:List Aa),i+m=P.length->AT [] [4] (2+3 * i) (2+i) t->
 ∃ t',Ak G5 (AL d P,([]:List Aa),0,t,(i:Int),())=some (.exit 1,(AL d P,([]:List Aa),0,t',(P.length:Int),()))/\AT [] [4] (2+3 * P.length) (2+P.length) t':=by
 intro m
 induction m with
 |zero=>
  intro i t hi hg
  have:i=P.length:=by omega
  refine ⟨t,A_ ?_ (by simp),by rw[<-this];exact hg⟩
  unfold G5
  simp only
  rw[AH (by rw[Cm];omega),this]
 |succ m ih=>
  intro i t hi hg
  have hil:i < P.length:=by omega
  have hp:=hs _ (List.getElem_mem hil)
  have hlen:=hg.len
  have hk:=((hg.app ((Il hp.1).mono (Nat.le_refl _) (show 1<=2+i by omega))).app ((Il hp.2).mono (Nat.le_refl _) (show 1<=2+i by omega)))
  have hfl:[t,[((3:Int),(2:Int),([]:qBs),ti P[i].1,(0:Int))],[((3:Int),(2:Int),([]:qBs),ti P[i].2,(0:Int))]].flatten=t++[((3:Int),(2:Int),([]:qBs),ti P[i].1,(0:Int))]++[((3:Int),(2:Int),([]:qBs),ti P[i].2,(0:Int))]:=by simp
  have hj:=AAD (n:=((19:Int),(0:Int),([]:qBs),([]:qBs),(0:Int))) (kids:=[t,[((3:Int),(2:Int),([]:qBs),ti P[i].1,(0:Int))],[((3:Int),(2:Int),([]:qBs),ti P[i].2,(0:Int))]]) (by simp) (by simp;omega)
  rw[hfl] at hj
  have hn:=hk.node (n:=((19:Int),(0:Int),([]:qBs),([]:qBs),(3:Int))) (s:=4) (Nt (by omega) (by omega)) rfl rfl (by simp[AZ,Aj]) (by omega) (by simp[Ba]) (fun e=>by simp[Aj] at e) (by simp[Aj])
  obtain ⟨t',h1,h2⟩:=ih (i+1) _ (by omega) (hn.mono (show 2+3 * i+1+1+1<=2+3 * (i+1) by omega) (show 2+i+1<=2+(i+1) by omega))
  refine ⟨t',?_,h2⟩
  rw[A6 (y:=(AL d P,([]:List Aa),0,_,((i+1:Nat):Int),())) (by
   unfold G5
   simp only
   rw[Aw (by rw[Cm];omega),AH,Ay,Ag,Ag (by rw[Cm];omega),qZ0,Es hil,FE hil]
   unfold CB
   rw[Af,Ay,Ag,Ag (by rw[C_];omega),Af]
   simp only
   rw[hj,Af,AG]
   rfl)]
  exact h1
def Nx (v:SV):Prop:=DV v/\match v with
 |.b _=>True
 |.z n=>(ti n).length<=73
 |.q r=>(Az r).length<=73
 |.a d P=>(ti d).length<=73/\(∀ p∈P,(ti p.1).length<=73/\(ti p.2).length<=73)/\P.length<=100
def CF:SV->Nat
 |.a _ P=>P.length
 |_=>0
theorem AAk {v:SV} (h:Nx v):Short 73 (encS v):=by
 obtain ⟨h1,h2⟩:=h
 cases v with
 |b x=>exact ⟨by simp[encS],fun s hs=>by simp[encS] at hs,fun s hs=>by simp[encS] at hs,by simp[encS]⟩
 |z n=>exact ⟨h2,fun s hs=>by simp[encS] at hs,fun s hs=>by simp[encS] at hs,by simp[encS]⟩
 |q r=>exact ⟨h2,fun s hs=>by simp[encS] at hs,fun s hs=>by simp[encS] at hs,by simp[encS]⟩
 |a d P=>
  obtain ⟨a1,a2,a3⟩:=h2
  exact (Sm.short (N:=73) ⟨a1,a2,by omega⟩)
theorem AD2 {v:SV} (h:Nx v):∃ t,E7 (encS v)=some ((t,0,()),())/\AT [] [Cf v] (2+3 * CF v) (2+CF v) t:=by
 have hsh:=AAk h
 obtain ⟨h1,h2⟩:=h
 have hval:=TT (N:=73) (by omega) hsh
 rw[ZG h1] at hval
 unfold E7
 rw[hval,Af]
 simp only[qY2,AX]
 cases v with
 |b x=>
  cases x
  ·exact ⟨_,rfl,Qn.mono (by simp[CF]) (by simp[CF])⟩
  ·exact ⟨_,rfl,Ph.mono (by simp[CF]) (by simp[CF])⟩
 |z n=>exact ⟨_,rfl,(Il h2).mono (by simp[CF]) (by simp[CF])⟩
 |q r=>exact ⟨_,rfl,(Pl h2).mono (by simp[CF]) (by simp[CF])⟩
 |a d P=>
  obtain ⟨a1,a2,a3⟩:=h2
  have hk:=(Il (VS:=[]) a1).node (n:=((20:Int),(0:Int),([]:qBs),([]:qBs),(1:Int))) (s:=4) (Nt (by omega) (by omega)) rfl rfl (by simp[AZ,Aj]) (by omega) (by simp[Ba]) (fun e=>by simp[Aj] at e) (by simp[Aj])
  obtain ⟨t',e1,e2⟩:=Xk (d:=d) a3 a2 P.length 0 _ (by omega) (hk.mono (by omega) (by omega))
  obtain ⟨F,hF⟩:=e2
  have hvt:=M6 ⟨fun v h=>absurd h qY16,fun v h=>absurd h qY16⟩ hF (by omega) (by omega)
  obtain ⟨b,b1,b2⟩:=VF (t:=t') fun n hn=>by have:=hF.sh n hn;omega
  have hb:b=true:=b2.2 ⟨F,hvt⟩
  have e:encS (.a d P)=AL d P:=rfl
  rw[e]
  simp only
  rw[An,An,An]
  unfold CB
  simp only[Af]
  have hj:=AAD (n:=((20:Int),(0:Int),([]:qBs),([]:qBs),(0:Int))) (kids:=[[((3:Int),(2:Int),([]:qBs),ti d,(0:Int))]]) (by simp) (by simp)
  rw[hj,Af]
  rw[show ((0:Nat):Int)=0 from rfl] at e1
  have e1':Ak G5 (AL d P,([]:List Aa),0,(((20:Int),(0:Int),([]:qBs),([]:qBs),(([[((3:Int),(2:Int),([]:qBs),ti d,(0:Int))]].length:Nat):Int)):Aa)::[[((3:Int),(2:Int),([]:qBs),ti d,(0:Int))]].flatten,0,())=some (.exit 1,(AL d P,([]:List Aa),0,t',(P.length:Int),())):=e1
  rw[e1']
  simp only[Af,By,AK]
  rw[b1,Af,hb]
  exact ⟨t',rfl,⟨F,hF⟩⟩
theorem ACe {c:List Int×Int} (hc:CI c) {s:Int} (hs:1<=s/\s<=4):∃ v c',E6 c s=some ((encS v,()),(c',()))/\CI c'/\Cf v=s/\Nx v/\CF v<=1:=by
 have hf:∀ r:Int,-10<=r/\r<=10->CP r=some ((ti r,()),())/\(ti r).length<=73:=fun r h=>by
  refine ⟨FP ⟨by omega,by omega⟩,?_⟩
  have:=DM (r:Rat)
  have:=Fy (n:=r) (by omega)
  unfold ti;omega
 unfold E6
 by_cases h1:s=1
 ·obtain ⟨r,c',n1,n2,n3,n4⟩:=Bu hc (n:=2) (by omega)
  rw[AI h1,n1,Af,h1]
  exact ⟨.b (r==1),c',rfl,n2,rfl,⟨trivial,trivial⟩,by simp[CF]⟩
 rw[An h1]
 by_cases h4:s=4
 ·obtain ⟨r1,c1,a1,a2,a3,a4⟩:=Bu hc (n:=3) (by omega)
  obtain ⟨r2,c2,b1,b2,b3,b4⟩:=Bu a2 (n:=3) (by omega)
  obtain ⟨r3,c3,d1,d2,d3,d4⟩:=Bu b2 (n:=3) (by omega)
  rw[AI h4,a1,Af,(hf r1 (by omega)).1,Af,b1,Af,(hf r2 (by omega)).1,Af,d1,Af,(hf r3 (by omega)).1,Af,h4]
  have hst:=AFf (N:=73) (by omega) (d:=r1) (i:=r2) (n:=r3) (K3 r1) (Rk (hf r1 (by omega)).2) (hf r2 (by omega)).2 (hf r3 (by omega)).2
  have e:(AL r1 []:Bh)=((4:Int),false,ti r1,([]:List qBs),([]:List qBs)):=rfl
  rw[e] at hst
  simp only
  rw[hst,Af]
  have hlen:=Rs (d:=r1) (i:=r2) (n:=r3) (P:=[]) List.Pairwise.nil
  have hsm:=YA (N:=73) (d:=r1) (i:=r2) (n:=r3) (P:=[]) List.Pairwise.nil (Rk (hf r1 (by omega)).2) (hf r2 (by omega)).2 (hf r3 (by omega)).2 (by simp)
  refine ⟨.a r1 (CN r1 [] r2 r3),c3,rfl,d2,rfl,⟨S' (K3 r1) r2 r3,hsm.num,hsm.els,?_⟩,?_⟩
  ·simp at hlen;omega
  ·simpa [CF] using hlen
 ·rw[An h4]
  obtain ⟨r,c',n1,n2,n3,n4⟩:=Bu hc (n:=6) (by omega)
  rw[n1,Af]
  simp only
  rw[AG,(hf (r - 2) (by omega)).1,Af]
  by_cases h2:s=2
  ·rw[h2]
   exact ⟨.z (r - 2),c',rfl,n2,rfl,⟨trivial,(hf (r - 2) (by omega)).2⟩,by simp[CF]⟩
  ·have h3:s=3:=by omega
   rw[h3]
   exact ⟨.q ((r - 2:Int):Rat),c',rfl,n2,rfl,⟨trivial,(hf (r - 2) (by omega)).2⟩,by simp[CF]⟩
def B2 (VS:List Vr) (c:List Int×Int) (s:Int) (N d:Nat) (r:Option (((List Aa)×Unit)×(Ac×Unit))):Prop:=∃ t c',r=some ((t,()),(c',()))/\CI c'/\AT VS [s] N d t
theorem T7 {VS:List Vr} {c:List Int×Int} (hc:CI c) {s:Int} (hs:1<=s/\s<=4):B2 VS c s 5 3 ((E6 c s).bind fun r2=>(E7 r2.1.1).bind fun r3=>some ((r3.1.1,()),r2.2.1,())):=by
 obtain ⟨v,c',h1,h2,h3,h4,h5⟩:=ACe hc hs
 obtain ⟨t,t1,t2⟩:=AD2 h4
 rw[h1,Af,t1,Af]
 rw[h3] at t2
 exact ⟨t,c',rfl,h2,(t2.mono (by omega) (by omega)).sub⟩
theorem ABQ {c:List Int×Int} {VS:List Vr} {s:Int} (hl:VS.length<=1000):∀ (m i:Nat) (l:List Vr),i+m=VS.length->l.length<=i->
 Ak G8 (c,s,VS,l,(i:Int),())=some (.exit 0,(c,s,VS,l++(VS.drop i).filter (fun v=>decide (v.2=s)),(VS.length:Int),())):=by
 intro m
 induction m with
 |zero=>
  intro i l hi _
  have e:VS.drop i=[]:=qY7 (by omega)
  rw[e]
  refine A_ ?_ (by simp)
  unfold G8
  simp only
  have:i=VS.length:=by omega
  rw[AH,this]
  simp
 |succ m ih=>
  intro i l hi hb
  have hil:i < VS.length:=by omega
  have hd:=qY6 hil
  have hg:VS.getD i BL=VS[i]:=by simp[qZ4,hil]
  rw[hd]
  generalize VS[i]=v at hg hd
  by_cases h:v.2=s
  ·rw[A6 (y:=(c,s,VS,l++[v],((i+1:Nat):Int),())) (by
    unfold G8
    simp only
    rw[Aw,Ay,Ag,Ag,qZ0,hg,AI h,Ay,Ag,Ag,Ag (by simp[Ap];omega),AG]
    rfl)]
   rw[ih (i+1) _ (by omega) (by simp;omega),List.filter_cons,if_pos (qZ10 h)]
   simp
  ·rw[A6 (y:=(c,s,VS,l,((i+1:Nat):Int),())) (by
    unfold G8
    simp only
    rw[Aw,Ay,Ag,Ag,qZ0,hg,An h,AG]
    rfl)]
   rw[ih (i+1) _ (by omega) (by omega),List.filter_cons,if_neg (fun e=>h (of_decide_eq_true e))]
theorem Jd {VS:List Vr} (hV:VSok VS) (hl:VS.length<=1000) {c:List Int×Int} (hc:CI c) {s:Int} (hs:1<=s/\s<=4):B2 VS c s 5 3 (C5 c s VS):=by
 unfold C5
 have key:=ABQ (c:=c) (s:=s) hl VS.length 0 [] (by omega) (by simp)
 rw[show ((0:Nat):Int)=0 from rfl] at key
 rw[key]
 simp only[Af,By,AK,qY15,List.drop_zero]
 have hmem:∀ v∈VS.filter (fun v=>decide (v.2=s)),v∈VS/\v.2=s:=fun v hv=>by simpa using hv
 have hfl:(VS.filter (fun v=>decide (v.2=s))).length<=VS.length:=List.length_filter_le _ _
 generalize VS.filter (fun v=>decide (v.2=s))=L at hmem hfl
 by_cases h0:L.length=0
 ·rw[AI (by omega)]
  exact T7 hc hs
 ·rw[An]
  obtain ⟨r,c',n1,n2,n3,n4⟩:=Bu hc (n:=(L.length:Int)) (by omega)
  obtain ⟨k,rfl⟩:∃ k:Nat,r=k:=⟨r.toNat,by omega⟩
  have hk:k < L.length:=by omega
  have hg:L.getD k BL=L[k]:=by simp[qZ4,hk]
  rw[n1,Af,Ay,Ag,Ag]
  simp only[qZ0]
  rw[Ag hk,hg]
  obtain ⟨m1,m2⟩:=hmem _ (List.getElem_mem hk)
  have hm:(L[k].1,s)∈VS:=by rw[<-m2];exact m1
  exact ⟨_,c',rfl,n2,(VG hV hm).mono (by omega) (by omega)⟩
abbrev Fj:=Ac->Int->Int->List Vr->Option (((List Aa)×Unit)×(Ac×Unit))
abbrev HK:=Ac->Int->List Vr->Option (((List Aa)×Unit)×(Ac×Unit))
def TOk (VS:List Vr) (T:Fj) (d N D:Nat):Prop:=∀ c s,CI c->1<=s/\s<=4->B2 VS c s N D (T c s (d:Int) VS)
def LC (VS:List Vr) (T:Fj) (d N D:Nat):Prop:=∀ c s,CI c->s=2\/s=3->B2 VS c s N D (T c s (d:Int) VS)
def Da (VS:List Vr) (F:HK) (d N D:Nat):Prop:=∀ c,CI c->B2 VS c 1 N D (F c (d:Int) VS)
theorem B2.mono {VS:List Vr} {c:List Int×Int} {s:Int} {N d M e:Nat} {r:Option (((List Aa)×Unit)×(Ac×Unit))} (h:B2 VS c s N d r) (hN:N<=M) (hd:d<=e):B2 VS c s M e r:=by
 obtain ⟨t,c',h1,h2,h3⟩:=h
 exact ⟨t,c',h1,h2,h3.mono hN hd⟩
theorem B2.eta {VS:List Vr} {c:List Int×Int} {s:Int} {N d:Nat} {r:Option (((List Aa)×Unit)×(Ac×Unit))} (h:B2 VS c s N d r):B2 VS c s N d (r.bind fun r2=>some ((r2.1.1,()),r2.2.1,())):=by
 obtain ⟨t,c',h1,h2,h3⟩:=h
 rw[h1]
 exact ⟨t,c',rfl,h2,h3⟩
section
variable {VS:List Vr} (T:Fj) (F:HK) (I:Fj) (Ar:Fj) (At:HK)
theorem Bx (a:List Aa):[a].flatten=a:=by simp
theorem BJ (a b:List Aa):[a,b].flatten=a++b:=by simp
theorem Ua (a b c:List Aa):[a,b,c].flatten=a++b++c:=by simp
theorem S8 {c:List Int×Int} (hc:CI c) {s:Int} (hs:1<=s/\s<=4) (hV:VSok VS) (hl:VS.length<=1000):B2 VS c s 5 3 ((AW c 3).bind fun r1=>
 cond (r1.1.1==(0:Int))
  ((E6 r1.2.1 s).bind fun r2=>
  (E7 r2.1.1).bind fun r3=>
  some ((r3.1.1,()),r2.2.1,()))
  ((C5 r1.2.1 s VS).bind fun r4=>
  some ((r4.1.1,()),r4.2.1,()))):=by
 obtain ⟨r,c',n1,n2,n3,n4⟩:=Bu hc (n:=3) (by omega)
 rw[n1,Af]
 by_cases h:r=0
 ·rw[AI h];exact T7 n2 hs
 ·rw[An h];exact (Jd hV hl n2 hs).eta
theorem T0 (hV:VSok VS) (hl:VS.length<=1000):TOk VS (Hb T F I Ar At) 0 5 3:=by
 intro c s hc hs
 unfold Hb
 rw[Aw]
 exact S8 hc hs hV hl
theorem PT (hV:VSok VS) (hl:VS.length<=1000) {d N D:Nat} (hN:N<=10000) (hT:TOk VS T d N D):Da VS (I9 T F I Ar At) d (max 5 (1+2 * N)) (max 3 (D+1)):=by
 intro c hc
 unfold I9
 obtain ⟨r,c1,n1,n2,n3,n4⟩:=Bu hc (n:=5) (by omega)
 rw[n1,Af,Ay,Ag (by simpa using n3),Ag (by simp;omega)]
 have hr:r=0\/r=1\/r=2\/r=3\/r=4:=by omega
 have hg:∃ s:Int,([2,2,3,4,1]:List Int).getD r.toNat 0=s/\1<=s/\s<=4:=by
  rcases hr with rfl | rfl | rfl | rfl | rfl
  ·exact ⟨2,rfl,by omega,by omega⟩
  ·exact ⟨2,rfl,by omega,by omega⟩
  ·exact ⟨3,rfl,by omega,by omega⟩
  ·exact ⟨4,rfl,by omega,by omega⟩
  ·exact ⟨1,rfl,by omega,by omega⟩
 obtain ⟨s,hgs,hs⟩:=hg
 simp only
 rw[hgs]
 by_cases h1:s=1
 ·rw[AI h1]
  obtain ⟨r2,c2,m1,m2,m3,m4⟩:=Bu n2 (n:=3) (by omega)
  rw[m1,Af]
  by_cases h0:r2=0
  ·rw[AI h0]
   obtain ⟨r3,c3,k1,k2,k3,k4⟩:=Bu m2 (n:=2) (by omega)
   simp only
   rw[k1,Af]
   simp only
   unfold Kt
   cases (r3==1)
   ·exact ⟨_,c3,rfl,k2,Qn.mono (by omega) (by omega)⟩
   ·exact ⟨_,c3,rfl,k2,Ph.mono (by omega) (by omega)⟩
  ·rw[An h0,h1]
   exact ((Jd hV hl m2 (by omega)).eta).mono (by omega) (by omega)
 rw[An h1]
 by_cases h4:s=4
 ·rw[BP h4]
  obtain ⟨t1,c2,a1,a2,a3⟩:=hT _ s n2 hs
  obtain ⟨t2,c3,b1,b2,b3⟩:=hT _ s a2 hs
  rw[a1,Af,b1,Af]
  obtain ⟨t,o1,o2⟩:=DG (o:=11) (s:=1) (kids:=[t1,t2]) (by rw[BJ];exact a3.app b3) rfl (by simp) (by omega) (by omega) (by omega) rfl (by simp[AZ,Aj]) (by omega)
  rw[o1,Af]
  exact ⟨t,c3,rfl,b2,o2.mono (by omega) (by omega)⟩
 ·rw[B_ h4]
  obtain ⟨r2,c2,m1,m2,m3,m4⟩:=Bu n2 (n:=3) (by omega)
  obtain ⟨t1,c3,a1,a2,a3⟩:=hT _ s m2 hs
  obtain ⟨t2,c4,b1,b2,b3⟩:=hT _ s a2 hs
  rw[m1,Af,a1,Af,b1,Af]
  simp only
  rw[AG]
  have hs':s=2\/s=3:=by omega
  have hsm:AZ (((11:Int)+r2,0,[],[],(([s]++[s]:List Int).length:Int)):Aa) ((t1++t2).getD 0 Am).1 ([s]++[s])=1:=by
   have:r2=0\/r2=1\/r2=2:=by omega
   rcases this with rfl | rfl | rfl
   ·simp[AZ,Aj]
   ·simp[AZ,Aj,hs']
   ·simp[AZ,Aj,hs']
  have hcc:Be ((11:Int)+r2) ([s]++[s]:List Int).length=true:=by
   have:r2=0\/r2=1\/r2=2:=by omega
   rcases this with rfl | rfl | rfl<;>rfl
  obtain ⟨t,o1,o2⟩:=DG (o:=(11:Int)+r2) (s:=1) (kids:=[t1,t2]) (ss:=[s]++[s]) (by rw[BJ];exact a3.app b3) rfl (by simp) (by omega) (by omega) (by omega) hcc (by rw[BJ];exact hsm) (by omega)
  rw[o1,Af]
  exact ⟨t,c4,rfl,b2,o2.mono (by omega) (by omega)⟩
theorem AEg {d N D:Nat} (hd:d<=1000) (hN:N<=10000) (hT:TOk VS T d N D) (hF:Da VS F d N D):TOk VS (J8 T F I Ar At) (d+1) (1+3 * N) (D+1):=by
 intro c s hc hs
 unfold J8
 have hw:qI (((d+1:Nat):Int) - 1)=(d:Int):=by rw[AG];omega
 obtain ⟨t1,c1,a1,a2,a3⟩:=hF _ hc
 obtain ⟨t2,c2,b1,b2,b3⟩:=hT _ s a2 hs
 obtain ⟨t3,c3,e1,e2,e3⟩:=hT _ s b2 hs
 rw[hw,a1,Af,b1,Af,e1,Af]
 obtain ⟨t,o1,o2⟩:=DG (o:=10) (s:=s) (kids:=[t1,t2,t3]) (ss:=[1]++[s]++[s]) (by rw[Ua];exact (a3.app b3).app e3) rfl (by simp) (by omega) (by omega) (by omega) rfl (by simp[AZ,Aj]) (by omega)
 rw[o1,Af]
 exact ⟨t,c3,rfl,e2,o2.mono (by omega) (by omega)⟩
theorem Pq (n:Nat) (s:Int):List.replicate n s++[s]=List.replicate (n+1) s:=by rw[List.replicate_succ']
theorem Wm {d N D:Nat} (hd:d<=1000) (hN:N<=10000) (hT:TOk VS T d N D) {s:Int} (hs:1<=s/\s<=4):∀ (m k:Nat) (c:List Int×Int) (l:List (List Aa)),CI c->k+m<=5->l.length=k->AT VS (List.replicate k s) (k * N) D l.flatten->
 ∃ c' l',Ak (Ib T F I Ar At) (c,s,((d+1:Nat):Int),VS,l,(m:Int),())=some (.exit 1,(c',s,((d+1:Nat):Int),VS,l',0,()))/\CI c'/\l'.length=k+m/\AT VS (List.replicate (k+m) s) ((k+m) * N) D l'.flatten:=by
 have hw:qI (((d+1:Nat):Int) - 1)=(d:Int):=by rw[AG];omega
 intro m
 induction m with
 |zero=>
  intro k c l hc _ hlk hg
  exact ⟨c,l,A_ (by unfold Ib;simp only;rw[AH];rfl) (by simp),hc,hlk,hg⟩
 |succ m ih=>
  intro k c l hc hb hlk hg
  obtain ⟨t1,c1,a1,a2,a3⟩:=hT _ s hc hs
  have hg':AT VS (List.replicate (k+1) s) ((k+1) * N) D (l++[t1]).flatten:=by
   have:=hg.app a3
   rw[Pq] at this
   rw[List.flatten_append,Bx,Nat.add_mul,Nat.one_mul]
   exact this
  obtain ⟨c',l',e1,e2,e3,e4⟩:=ih (k+1) c1 (l++[t1]) a2 (by omega) (by simp[hlk]) hg'
  refine ⟨c',l',?_,e2,by omega,?_⟩
  ·rw[A6 (y:=(c1,s,((d+1:Nat):Int),VS,l++[t1],(m:Int),())) (by
    unfold Ib
    simp only
    rw[Aw,hw,a1,Af,Ag (by simp[Ap];omega),AG]
    have e:((m+1:Nat):Int) - 1=(m:Int):=by omega
    rw[e])]
   exact e1
  ·have e:k+(m+1)=k+1+m:=by omega
   rw[e];exact e4
theorem AC9 {d N D:Nat} (hd:d<=1000) (hN:N<=10000) (hF:Da VS F d N D):∀ (m k:Nat) (c:List Int×Int) (l:List (List Aa)),CI c->k+m<=5->l.length=k->AT VS (List.replicate k 1) (k * N) D l.flatten->
 ∃ c' l',Ak (Eb T F I Ar At) (c,((d+1:Nat):Int),VS,l,(m:Int),())=some (.exit 1,(c',((d+1:Nat):Int),VS,l',0,()))/\CI c'/\l'.length=k+m/\AT VS (List.replicate (k+m) 1) ((k+m) * N) D l'.flatten:=by
 have hw:qI (((d+1:Nat):Int) - 1)=(d:Int):=by rw[AG];omega
 intro m
 induction m with
 |zero=>
  intro k c l hc _ hlk hg
  exact ⟨c,l,A_ (by unfold Eb;simp only;rw[AH];rfl) (by simp),hc,hlk,hg⟩
 |succ m ih=>
  intro k c l hc hb hlk hg
  obtain ⟨t1,c1,a1,a2,a3⟩:=hF _ hc
  have hg':AT VS (List.replicate (k+1) 1) ((k+1) * N) D (l++[t1]).flatten:=by
   have:=hg.app a3
   rw[Pq] at this
   rw[List.flatten_append,Bx,Nat.add_mul,Nat.one_mul]
   exact this
  obtain ⟨c',l',e1,e2,e3,e4⟩:=ih (k+1) c1 (l++[t1]) a2 (by omega) (by simp[hlk]) hg'
  refine ⟨c',l',?_,e2,by omega,?_⟩
  ·rw[A6 (y:=(c1,((d+1:Nat):Int),VS,l++[t1],(m:Int),())) (by
    unfold Eb
    simp only
    rw[Aw,hw,a1,Af,Ag (by simp[Ap];omega),AG]
    have e:((m+1:Nat):Int) - 1=(m:Int):=by omega
    rw[e])]
   exact e1
  ·have e:k+(m+1)=k+1+m:=by omega
   rw[e];exact e4
theorem AAR {c:List Int×Int} (hc:CI c) {s:Int} (hs:s=2\/s=3):∃ a c',D4 c s=some ((a,()),(c',()))/\CI c'/\CB s a=some (([((3:Int),s,([]:qBs),a,(0:Int))],()),())/\AT VS [s] 1 1 [((3:Int),s,([]:qBs),a,(0:Int))]:=by
 unfold D4
 rcases hs with rfl | rfl
 ·obtain ⟨z,c',h1,h2,h3⟩:=W7 hc
  rw[AI rfl,h1,Af]
  exact ⟨ti z,c',rfl,h2,rfl,Il (by omega)⟩
 ·obtain ⟨q,c',h1,h2,h3⟩:=UX hc
  have:=DM q
  rw[An,h1,Af]
  exact ⟨Az q,c',rfl,h2,rfl,Pl (by omega)⟩
end
section
variable {VS:List Vr} (T:Fj) (F:HK) (I:Fj) (Ar:Fj) (At:HK)
theorem AAi {VS:List Vr} {N D:Nat} {t:List Aa} (h:AT VS [2] N D t) {o r:Int} (ho:o=16\/o=17) (hr:0 < r/\r < 1000):AT VS [2] (N+1) (D+1) ((o,0,[],ti r,1)::t):=by
 have hsg:F' (ti r)=1:=by
  unfold F' ti
  rw[Dq]
  simp only[Rat.num_intCast]
  exact Int.sign_eq_one_of_pos hr.1
 have hl:(ti r).length<=73:=by
  have:=DM (r:Rat)
  have:=Fy (n:=r) (by omega)
  unfold ti;omega
 refine h.node (n:=(o,0,[],ti r,1)) ?_ ?_ rfl ?_ (by omega) hl (fun e=>?_) ?_
 ·unfold BK
  simp only[Aj,A5,BW,Ba]
  rw[if_neg (by omega),if_neg (by omega),if_pos ho,ER,hsg]
  rfl
 ·rcases ho with rfl | rfl<;>rfl
 ·rcases ho with rfl | rfl<;>simp[AZ,Aj]
 ·simp only[Aj] at e;omega
 ·simp only[Aj];omega
theorem WQ (hV:VSok VS) (hl:VS.length<=1000) {d N D:Nat} (hd:d<=1000) (hN:5<=N/\N<=10000) (hD:3<=D) (hT:TOk VS T d N D) (hI:TOk VS I (d+1) (1+3 * N) (D+1)):LC VS (Kw T F I Ar At) (d+1) (1+3 * N) (D+1):=by
 intro c s hc hs
 have hs':1<=s/\s<=4:=by omega
 have hw:qI (((d+1:Nat):Int) - 1)=(d:Int):=by rw[AG];omega
 have hvar:∀ c,CI c->B2 VS c s (1+3 * N) (D+1) ((C5 c s VS).bind fun r=>some ((r.1.1,()),r.2.1,())):=fun c hc=>((Jd hV hl hc hs').eta).mono (by omega) (by omega)
 have hnum:∀ c,CI c->B2 VS c s (1+3 * N) (D+1) ((D4 c s).bind fun r=>(CB s r.1.1).bind fun r'=>some ((r'.1.1,()),r.2.1,())):=fun c hc=>by
  obtain ⟨a,c',h1,h2,h3,h4⟩:=AAR hc hs (VS:=VS)
  rw[h1,Af,h3,Af]
  exact ⟨_,c',rfl,h2,h4.mono (by omega) (by omega)⟩
 unfold Kw
 obtain ⟨r,c1,n1,n2,n3,n4⟩:=Bu hc (n:=10) (by omega)
 rw[n1,Af]
 simp only[hw]
 by_cases h3:r < 3
 ·rw[Aw h3]
  obtain ⟨t1,c2,a1,a2,a3⟩:=hT _ s n2 hs'
  obtain ⟨r2,c3,m1,m2,m3,m4⟩:=Bu a2 (n:=3) (by omega)
  obtain ⟨m,rfl⟩:∃ m:Nat,r2=m:=⟨r2.toNat,by omega⟩
  obtain ⟨c4,l',e1,e2,e3,e4⟩:=Wm T F I Ar At hd hN.2 hT hs' m 1 c3 [t1] m2 (by omega) rfl (by rw[Bx,Nat.one_mul];exact a3)
  rw[a1,Af,m1,Af]
  simp only
  rw[e1]
  simp only[Af,By,AK]
  have hb:(1+m) * N<=3 * N:=Nat.mul_le_mul_right N (by omega)
  obtain ⟨t,o1,o2⟩:=DG (o:=14) (s:=s) (kids:=l') e4 (by rw[e3,List.length_replicate]) (by omega) (by omega) (by omega) (by omega) (by rw[List.length_replicate];exact qZ10 (show (1:Int)<=((1+m:Nat):Int) by omega)) (by
   have e:(List.replicate (1+m) s).getD 0 0=s:=by rw[Nat.add_comm];simp[List.replicate_succ]
   have hal:∀ x∈List.replicate (1+m) s,x=s:=fun x hx=>(List.mem_replicate.1 hx).2
   unfold AZ
   simp only[Aj]
   rw[if_neg (by omega),if_neg (by omega),if_neg (by omega),if_neg (by omega),if_neg (by omega),if_pos trivial,e,if_pos ⟨hs,hal⟩]) (by omega)
  rw[o1,Af]
  exact ⟨t,c4,rfl,e2,o2.mono (by omega) (by omega)⟩
 rw[AH h3]
 by_cases h5:r < 5
 ·rw[Aw h5]
  obtain ⟨a,c2,k1,k2,k3,k4⟩:=AAR n2 hs (VS:=VS)
  obtain ⟨t1,c3,a1,a2,a3⟩:=hT _ s k2 hs'
  rw[k1,Af,k3,Af,a1,Af]
  obtain ⟨t,o1,o2⟩:=DG (o:=15) (s:=s) (kids:=[[((3:Int),s,([]:qBs),a,(0:Int))],t1]) (ss:=[s]++[s]) (by rw[BJ];exact (k4.mono (Nat.le_refl _) (show 1<=D by omega)).app a3) rfl (by simp) (by omega) (by omega) (by omega) rfl (by simp[AZ,Aj,hs]) (by omega)
  rw[o1,Af]
  exact ⟨t,c3,rfl,a2,o2.mono (by omega) (by omega)⟩
 rw[AH h5]
 by_cases h5':r=5
 ·rw[AI h5']
  exact (hI _ s n2 hs').eta
 rw[An h5']
 by_cases h6:r=6
 ·rw[AI h6]
  by_cases h2:s=2
  ·rw[AI h2]
   obtain ⟨r2,c2,m1,m2,m3,m4⟩:=Bu n2 (n:=2) (by omega)
   obtain ⟨r3,c3,k1,k2,k3,k4⟩:=Bu m2 (n:=5) (by omega)
   obtain ⟨t1,c4,a1,a2,a3⟩:=hT _ s k2 hs'
   rw[m1,Af]
   simp only
   rw[k1,Af]
   simp only
   rw[AG (x:=1+r3) (by omega),AG (x:=16+r2) (by omega),FP (show C8 (1+r3) from ⟨by omega,by omega⟩),Af,a1,Af]
   have hj:=AAD (n:=((16:Int)+r2,(0:Int),([]:qBs),Az ((1+r3:Int):Rat),(0:Int))) (kids:=[t1]) (by simp) (by rw[Bx];have:=a3.len;omega)
   rw[Bx] at hj
   simp only
   rw[hj,Af]
   rw[h2] at a3 ⊢
   exact ⟨_,c4,rfl,a2,(AAi a3 (o:=16+r2) (r:=1+r3) (by omega) (by omega)).mono (by omega) (by omega)⟩
  ·rw[An h2,An,An]
   exact hvar _ n2
 rw[An h6]
 by_cases h7:r=7
 ·rw[AI h7]
  by_cases h2:s=2
  ·rw[AI h2]
   obtain ⟨t1,c2,a1,a2,a3⟩:=hT _ 4 n2 (by omega)
   obtain ⟨t2,c3,b1,b2,b3⟩:=hT _ s a2 hs'
   rw[a1,Af,b1,Af]
   rw[h2] at b3 ⊢
   obtain ⟨t,o1,o2⟩:=DG (o:=18) (s:=2) (kids:=[t1,t2]) (ss:=[4]++[2]) (by rw[BJ];exact a3.app b3) rfl (by simp) (by omega) (by omega) (by omega) rfl (by simp[AZ,Aj]) (by omega)
   rw[o1,Af]
   exact ⟨t,c3,rfl,b2,o2.mono (by omega) (by omega)⟩
  ·rw[An h2,An]
   exact hvar _ n2
 rw[An h7]
 by_cases h8:r=8
 ·rw[AI h8]
  exact hnum _ n2
 ·rw[An h8]
  exact hvar _ n2
theorem P2 (c:List Int×Int):Kx c=some ((decide (c.2 < (c.1.length:Int)),()),(c,())):=rfl
theorem Yq {d N D:Nat} (hd:d<=1000) (hN:5<=N/\N<=10000) (hD:3<=D) (hF:Da VS F d N D) (hI:TOk VS I (d+1) (1+3 * N) (D+1)) (hA0:Da VS At 0 11 4) (hA:Da VS At d (1+3 * N) (D+1)):Da VS (G4 T F I Ar At) (d+1) (1+3 * N) (D+1):=by
 intro c hc
 have hw:qI (((d+1:Nat):Int) - 1)=(d:Int):=by rw[AG];omega
 unfold G4
 rw[AH,P2,Af]
 by_cases hlf:¬ c.2 < (c.1.length:Int)
 ·rw[qZ9 hlf]
  simp only[qY1,AK]
  exact ((hA0 _ hc).eta).mono (by omega) (by omega)
 rw[qZ10 (Decidable.not_not.1 hlf)]
 simp only[qY2,AX]
 obtain ⟨r,c1,n1,n2,n3,n4⟩:=Bu hc (n:=12) (by omega)
 rw[n1,Af]
 simp only[hw]
 have hnot:B2 VS c 1 (1+3 * N) (D+1) ((F c1 (d:Int) VS).bind fun r5=>(BC 6 ([r5.1.1]:List (List Aa))).bind fun r6=>some ((r6.1.1,()),r5.2.1,())):=by
  obtain ⟨t1,c2,a1,a2,a3⟩:=hF _ n2
  rw[a1,Af]
  obtain ⟨t,o1,o2⟩:=DG (o:=6) (s:=1) (kids:=[t1]) (ss:=[1]) (by rw[Bx];exact a3) rfl (by simp) (by omega) (by omega) (by omega) rfl (by simp[AZ,Aj]) (by omega)
  rw[o1,Af]
  exact ⟨t,c2,rfl,a2,o2.mono (by omega) (by omega)⟩
 have htwo:∀ o:Int,o=9\/o=11->B2 VS c 1 (1+3 * N) (D+1) ((F c1 (d:Int) VS).bind fun r5=>(F r5.2.1 (d:Int) VS).bind fun r6=>(BC o ([r5.1.1,r6.1.1]:List (List Aa))).bind fun r7=>some ((r7.1.1,()),r6.2.1,())):=by
  intro o ho
  obtain ⟨t1,c2,a1,a2,a3⟩:=hF _ n2
  obtain ⟨t2,c3,b1,b2,b3⟩:=hF _ a2
  rw[a1,Af,b1,Af]
  obtain ⟨t,o1,o2⟩:=DG (o:=o) (s:=1) (kids:=[t1,t2]) (ss:=[1]++[1]) (by rw[BJ];exact a3.app b3) rfl (by simp) (by omega) (by omega) (by omega) (by rcases ho with rfl | rfl<;>rfl) (by rcases ho with rfl | rfl<;>simp[AZ,Aj]) (by omega)
  rw[o1,Af]
  exact ⟨t,c3,rfl,b2,o2.mono (by omega) (by omega)⟩
 have hand:B2 VS c 1 (1+3 * N) (D+1) ((AW c1 4).bind fun r9=>(Ak (Eb T F I Ar At) (r9.2.1,((d+1:Nat):Int),VS,([]:List (List Aa)),r9.1.1,())).bind fun y10=>
  cond (Ex.same y10.1 (Ex.exit 1)) ((AW y10.2.1 2).bind fun r11=>(BC (qI ((7:Int)+r11.1.1)) y10.2.2.2.2.1).bind fun r12=>some ((r12.1.1,()),r11.2.1,())) none):=by
  obtain ⟨r2,c2,m1,m2,m3,m4⟩:=Bu n2 (n:=4) (by omega)
  obtain ⟨m,rfl⟩:∃ m:Nat,r2=m:=⟨r2.toNat,by omega⟩
  obtain ⟨c3,l',e1,e2,e3,e4⟩:=AC9 T F I Ar At hd hN.2 hF m 0 c2 [] m2 (by omega) rfl (by rw[Nat.zero_mul];exact (AT.nil VS).mono (Nat.le_refl _) (Nat.zero_le _))
  obtain ⟨r3,c4,k1,k2,k3,k4⟩:=Bu e2 (n:=2) (by omega)
  rw[m1,Af]
  simp only
  rw[e1]
  simp only[Af,By,AK]
  rw[k1,Af]
  simp only
  rw[AG]
  have hb:(0+m) * N<=3 * N:=Nat.mul_le_mul_right N (by omega)
  have hal:∀ x∈List.replicate (0+m) (1:Int),x=1:=fun x hx=>(List.mem_replicate.1 hx).2
  obtain ⟨t,o1,o2⟩:=DG (o:=7+r3) (s:=1) (kids:=l') e4 (by rw[e3,List.length_replicate]) (by omega) (by omega) (by omega) (by omega) (by
   have:r3=0\/r3=1:=by omega
   rw[List.length_replicate]
   rcases this with rfl | rfl
   ·exact qZ10 (show (0:Int)<=((0+m:Nat):Int) by omega)
   ·exact qZ10 (show (0:Int)<=((0+m:Nat):Int) by omega)) (by
   unfold AZ
   simp only[Aj]
   rw[if_neg (by omega),if_pos (by omega),if_pos hal]) (by omega)
  rw[o1,Af]
  exact ⟨t,c4,rfl,k2,o2.mono (by omega) (by omega)⟩
 by_cases h0:r=0;· rw[AI h0];exact hnot
 rw[An h0]
 by_cases h1:r=1;· rw[AI h1];exact hnot
 rw[An h1]
 by_cases h2:r=2;· rw[AI h2];exact hand
 rw[An h2]
 by_cases h3:r=3;· rw[AI h3];exact hand
 rw[An h3]
 by_cases h4:r=4;· rw[AI h4];exact hand
 rw[An h4]
 by_cases h5:r=5;· rw[AI h5];exact hand
 rw[An h5]
 by_cases h6:r=6;· rw[AI h6];exact htwo 9 (.inl rfl)
 rw[An h6]
 by_cases h7:r=7;· rw[AI h7];exact (hI _ 1 n2 (by omega)).eta
 rw[An h7]
 by_cases h8:r=8;· rw[AI h8];exact htwo 11 (.inr rfl)
 rw[An h8]
 exact (hA _ n2).eta
theorem VV (hV:VSok VS) (hl:VS.length<=1000) {d N D:Nat} (hd:d<=1000) (hN:5<=N/\N<=10000) (hD:3<=D) (hT:TOk VS T d N D) (hF:Da VS F (d+1) (1+3 * N) (D+1)) (hI:TOk VS I (d+1) (1+3 * N) (D+1)) (hA:LC VS Ar (d+1) (1+3 * N) (D+1)):TOk VS (Hb T F I Ar At) (d+1) (1+3 * N) (D+1):=by
 intro c s hc hs
 have hw:qI (((d+1:Nat):Int) - 1)=(d:Int):=by rw[AG];omega
 unfold Hb
 rw[AH,P2,Af]
 by_cases hlf:¬ c.2 < (c.1.length:Int)
 ·rw[qZ9 hlf]
  simp only[qY1,AK]
  exact (S8 hc hs hV hl).mono (by omega) (by omega)
 rw[qZ10 (Decidable.not_not.1 hlf)]
 simp only[qY2,AX]
 by_cases h1:s=1
 ·rw[AI h1,h1];exact (hF _ hc).eta
 rw[An h1]
 by_cases h4:s=4
 ·rw[AI h4]
  obtain ⟨r,c1,n1,n2,n3,n4⟩:=Bu hc (n:=5) (by omega)
  rw[n1,Af]
  simp only[hw]
  have hst:B2 VS c s (1+3 * N) (D+1) ((T c1 4 (d:Int) VS).bind fun r14=>(T r14.2.1 2 (d:Int) VS).bind fun r15=>(T r15.2.1 2 (d:Int) VS).bind fun r16=>(BC 19 ([r14.1.1,r15.1.1,r16.1.1]:List (List Aa))).bind fun r17=>some ((r17.1.1,()),r16.2.1,())):=by
   obtain ⟨t1,c2,a1,a2,a3⟩:=hT _ 4 n2 (by omega)
   obtain ⟨t2,c3,b1,b2,b3⟩:=hT _ 2 a2 (by omega)
   obtain ⟨t3,c4,e1,e2,e3⟩:=hT _ 2 b2 (by omega)
   rw[a1,Af,b1,Af,e1,Af,h4]
   obtain ⟨t,o1,o2⟩:=DG (o:=19) (s:=4) (kids:=[t1,t2,t3]) (ss:=[4]++[2]++[2]) (by rw[Ua];exact (a3.app b3).app e3) rfl (by simp) (by omega) (by omega) (by omega) rfl (by simp[AZ,Aj]) (by omega)
   rw[o1,Af]
   exact ⟨t,c4,rfl,e2,o2.mono (by omega) (by omega)⟩
  by_cases k0:r=0
  ·rw[AI k0]
   obtain ⟨t1,c2,a1,a2,a3⟩:=hT _ 2 n2 (by omega)
   rw[a1,Af,h4]
   obtain ⟨t,o1,o2⟩:=DG (o:=20) (s:=4) (kids:=[t1]) (ss:=[2]) (by rw[Bx];exact a3) rfl (by simp) (by omega) (by omega) (by omega) rfl (by simp[AZ,Aj]) (by omega)
   rw[o1,Af]
   exact ⟨t,c2,rfl,a2,o2.mono (by omega) (by omega)⟩
  rw[An k0]
  by_cases k1:r=1;· rw[AI k1];exact hst
  rw[An k1]
  by_cases k2:r=2;· rw[AI k2];exact hst
  rw[An k2]
  by_cases k3:r=3;· rw[AI k3];exact (hI _ s n2 hs).eta
  rw[An k3]
  exact ((Jd hV hl n2 hs).eta).mono (by omega) (by omega)
 rw[An h4]
 exact (hA _ s hc (by omega)).eta
end
def gB:Nat->Nat
 |0=>11
 |d+1=>1+3 * gB d
theorem Xl (d:Nat):11<=gB d:=by
 induction d with
 |zero=>exact Nat.le_refl _
 |succ d ih=>simp only[gB];omega
theorem U':∀ {d:Nat},d<=6->gB d<=10000:=by
 intro d h
 have:d=0\/d=1\/d=2\/d=3\/d=4\/d=5\/d=6:=by omega
 rcases this with rfl | rfl | rfl | rfl | rfl | rfl | rfl<;>decide
theorem Y5 {VS:List Vr} (hV:VSok VS) (hl:VS.length<=1000):∀ d,d<=5->∀ n,3 * d+3<=n->TOk VS (BT n) d (gB d) (d+4)/\Da VS (Cc n) d (gB d) (d+4):=by
 have hT0:∀ n,1<=n->TOk VS (BT n) 0 5 3:=by
  intro n hn
  obtain ⟨m,rfl⟩:∃ m,n=m+1:=⟨n - 1,by omega⟩
  exact T0 (BT m) (Cc m) (Cr m) (Cq m) (Ch m) hV hl
 have hA0:∀ n,2<=n->Da VS (Ch n) 0 11 4:=by
  intro n hn
  obtain ⟨m,rfl⟩:∃ m,n=m+1:=⟨n - 1,by omega⟩
  exact PT (BT m) (Cc m) (Cr m) (Cq m) (Ch m) hV hl (by omega) (hT0 m (by omega))
 intro d
 induction d with
 |zero=>
  intro _ n hn
  refine ⟨fun c s hc hs=>(hT0 n (by omega) c s hc hs).mono (by decide) (by omega),?_⟩
  obtain ⟨m,rfl⟩:∃ m,n=m+1:=⟨n - 1,by omega⟩
  intro c hc
  have e:Cc (m+1)=G4 (BT m) (Cc m) (Cr m) (Cq m) (Ch m):=rfl
  rw[e]
  unfold G4
  rw[Aw]
  exact (hA0 m (by omega) c hc).eta
 |succ d ih=>
  intro hd n hn
  have ih:=ih (by omega)
  have hN:=Xl d
  have hN':=U' (d:=d) (by omega)
  have hI:∀ m,3 * d+4<=m->TOk VS (Cr m) (d+1) (1+3 * gB d) (d+4+1):=by
   intro m hm
   obtain ⟨k,rfl⟩:∃ k,m=k+1:=⟨m - 1,by omega⟩
   obtain ⟨i1,i2⟩:=ih k (by omega)
   exact AEg (BT k) (Cc k) (Cr k) (Cq k) (Ch k) (by omega) (by omega) i1 i2
  have hAt:∀ m,3 * d+4<=m->Da VS (Ch m) d (1+3 * gB d) (d+4+1):=by
   intro m hm
   obtain ⟨k,rfl⟩:∃ k,m=k+1:=⟨m - 1,by omega⟩
   obtain ⟨i1,i2⟩:=ih k (by omega)
   intro c hc
   exact (PT (BT k) (Cc k) (Cr k) (Cq k) (Ch k) hV hl (by omega) i1 c hc).mono (by omega) (by omega)
  have hAr:∀ m,3 * d+5<=m->LC VS (Cq m) (d+1) (1+3 * gB d) (d+4+1):=by
   intro m hm
   obtain ⟨k,rfl⟩:∃ k,m=k+1:=⟨m - 1,by omega⟩
   obtain ⟨i1,i2⟩:=ih k (by omega)
   exact WQ (BT k) (Cc k) (Cr k) (Cq k) (Ch k) hV hl (by omega) (by omega) (by omega) i1 (hI k (by omega))
  have hFo:∀ m,3 * d+5<=m->Da VS (Cc m) (d+1) (1+3 * gB d) (d+4+1):=by
   intro m hm
   obtain ⟨k,rfl⟩:∃ k,m=k+1:=⟨m - 1,by omega⟩
   obtain ⟨i1,i2⟩:=ih k (by omega)
   exact Yq (BT k) (Cc k) (Cr k) (Cq k) (Ch k) (by omega) (by omega) (by omega) i2 (hI k (by omega)) (hA0 k (by omega)) (hAt k (by omega))
  have hTe:∀ m,3 * d+6<=m->TOk VS (BT m) (d+1) (1+3 * gB d) (d+4+1):=by
   intro m hm
   obtain ⟨k,rfl⟩:∃ k,m=k+1:=⟨m - 1,by omega⟩
   obtain ⟨i1,i2⟩:=ih k (by omega)
   exact VV (BT k) (Cc k) (Cr k) (Cq k) (Ch k) hV hl (by omega) (by omega) (by omega) i1 (hFo k (by omega)) (hI k (by omega)) (hAr k (by omega))
  have e:d+4+1=d+1+4:=by omega
  rw[e] at hTe hFo
  exact ⟨hTe n (by omega),hFo n (by omega)⟩
def VSg:List Vr:=[([120],2),([121],2),([122],3),([119],3),([112],1),([98],1),([97],4),([99],4)]
theorem AC0:LV=some ((VSg,()),()):=rfl
theorem AAK:VSok VSg:=by
 refine ⟨?_,?_⟩
 ·decide
 ·decide
theorem Vf:VSg.length<=1000:=by decide
theorem ACT {c:List Int×Int} (hc:CI c) {s:Int} (hs:1<=s/\s<=4) {d:Nat} (hd:d<=5):B2 VSg c s (gB d) (d+4) (BT Bg c s (d:Int) VSg):=by
 obtain ⟨f,hf1,hf2⟩:=Lj
 rw[hf1]
 exact (Y5 AAK Vf d hd f (by omega)).1 c s hc hs
theorem AT.short {VS:List Vr} {ss:List Int} {N d:Nat} {l:List Aa} (h:AT VS ss N d l):Lm l:=by
 obtain ⟨K,hK⟩:=h
 exact hK.sh
end Go.AM.Num
end
section
namespace Go.AM.Num
open Tf
noncomputable def RI (s:Int) (q:Rat):qBs:=
 if s=2 then Az q else if q.den=1 then Az q++[46,48] else [40,47,32]++Az ((q.num:Int):Rat)++[46,48,32]++dd q.den++[46,48,41]
noncomputable def AEo (s:Int) (q:Rat):qBs:=if q.num < 0 then [40,45,32]++RI s (-q)++[41] else RI s q
def Si (o:Int):qBs:=([[],[116,114,117,101],[102,97,108,115,101],[],[],[],[110,111,116],[97,110,100],[111,114],[61,62],[105,116,101],[61],[60,61],[60],[43],[42],[100,105,118],[109,111,100],[115,101,108,101,99,116],[115,116,111,114,101],[99,111,110,115,116]]:List qBs).getD o.toNat []
def WL (n:Aa):qBs:=if Aj n=5 then BW n else Si (Aj n)
noncomputable def ABB (n:Aa) (ks:qBs):qBs:=
 if Aj n=1\/Aj n=2 then Si (Aj n) else if Aj n=3 then un (AEo (A5 n)) (Ba n) else if Aj n=4 then BW n
 else [40]++WL n++ks++(if Ba n=[] then [] else 32::Ba n)++[41]
noncomputable def sep:Tf->qBs
 |nil=>[]
 |cons n k r=>32::ABB n (sep k)++sep r
end Go.AM.Num
end
section
namespace Go.AM.Num
def cI (a b:Int):Int:=if a < b then -1 else if a > b then 1 else 0
def cS (a b:qBs):Int:=if Bk a b then -1 else if !(Bk a b||a==b) then 1 else 0
theorem Rj (a b:Int):F4 a b=some ((cI a b,()),()):=by
 unfold F4 cI
 by_cases h:a < b
 ·rw[Aw h,if_pos h]
 ·rw[AH h,if_neg h]
  by_cases h2:a > b
  ·rw[Aw h2,if_pos h2]
  ·rw[AH h2,if_neg h2]
theorem AB1 (a b:qBs):IK a b=some ((cS a b,()),()):=by
 unfold IK cS
 cases Bk a b<;>cases a==b<;>rfl
def f5 (c:Int×Int×Int×Int×Int):Int:=if c.1≠0 then c.1 else if c.2.1≠0 then c.2.1 else if c.2.2.1≠0 then c.2.2.1 else if c.2.2.2.1≠0 then c.2.2.2.1 else c.2.2.2.2
def c5 (x y:Aa):Int×Int×Int×Int×Int:=(cI x.1 y.1,cI x.2.1 y.2.1,cS x.2.2.1 y.2.2.1,cS x.2.2.2.1 y.2.2.2.1,cI x.2.2.2.2 y.2.2.2.2)
def cT:List Aa->List Aa->Int
 |[],[]=>0
 |[],_::_=>-1
 |_::_,[]=>1
 |x::a,y::b=>if f5 (c5 x y)=0 then cT a b else f5 (c5 x y)
theorem Vj (a b:List Aa) (t i:Int) (c:Int×Int×Int×Int×Int):(f5 c=0/\Ak Dk (a,b,t,i,some c,((0:Nat):Int),())=some (.exit 2,(a,b,t,i,some c,5,())))\/
 (f5 c≠0/\∃ k,Ak Dk (a,b,t,i,some c,((0:Nat):Int),())=some (.ret,(a,b,f5 c,i,some c,k,()))):=by
 obtain ⟨c1,c2,c3,c4,c5⟩:=c
 have go:∀ (k:Nat) (x:Int),k < 5->([c1,c2,c3,c4,c5]:List Int).getD k 0=x->x=0->Dk (a,b,t,i,some (c1,c2,c3,c4,c5),(k:Int),())=some (.normal,(a,b,t,i,some (c1,c2,c3,c4,c5),((k+1:Nat):Int),())):=fun k x hk hx h0=>by
  unfold Dk
  simp only[Option.isSome_some,Option.getD_some]
  rw[Aw,It,Ay,Ag,Ag,qZ0,hx,BP h0,AG]
  rfl
 have stop:∀ (k:Nat) (x:Int),k < 5->([c1,c2,c3,c4,c5]:List Int).getD k 0=x->x≠0->Dk (a,b,t,i,some (c1,c2,c3,c4,c5),(k:Int),())=some (.ret,(a,b,x,i,some (c1,c2,c3,c4,c5),(k:Int),())):=fun k x hk hx h0=>by
  unfold Dk
  simp only[Option.isSome_some,Option.getD_some]
  rw[Aw,It,Ay,Ag,Ag,qZ0,hx,B_ h0,It,Ay,Ag,Ag]
 unfold f5
 simp only
 by_cases h1:c1=0
 ·rw[if_neg (by simp[h1]),A6 (go 0 c1 (by omega) rfl h1)]
  by_cases h2:c2=0
  ·rw[if_neg (by simp[h2]),A6 (go 1 c2 (by omega) rfl h2)]
   by_cases h3:c3=0
   ·rw[if_neg (by simp[h3]),A6 (go 2 c3 (by omega) rfl h3)]
    by_cases h4:c4=0
    ·rw[if_neg (by simp[h4]),A6 (go 3 c4 (by omega) rfl h4)]
     by_cases h5:c5=0
     ·rw[A6 (go 4 c5 (by omega) rfl h5)]
      refine .inl ⟨h5,A_ ?_ (by simp)⟩
      unfold Dk
      simp only
      rw[AH]
      rfl
     ·exact .inr ⟨h5,_,A_ (stop 4 c5 (by omega) rfl h5) (by simp)⟩
    ·rw[if_pos h4]
     exact .inr ⟨h4,_,A_ (stop 3 c4 (by omega) rfl h4) (by simp)⟩
   ·rw[if_pos h3]
    exact .inr ⟨h3,_,A_ (stop 2 c3 (by omega) rfl h3) (by simp)⟩
  ·rw[if_pos h2]
   exact .inr ⟨h2,_,A_ (stop 1 c2 (by omega) rfl h2) (by simp)⟩
 ·rw[if_pos h1]
  exact .inr ⟨h1,_,A_ (stop 0 c1 (by omega) rfl h1) (by simp)⟩
theorem Yb (a b:List Aa) (t i:Int) (c:Int×Int×Int×Int×Int):(f5 c=0/\Ak Dk (a,b,t,i,some c,0,())=some (.exit 2,(a,b,t,i,some c,5,())))\/
 (f5 c≠0/\∃ k,Ak Dk (a,b,t,i,some c,0,())=some (.ret,(a,b,f5 c,i,some c,k,()))):=Vj a b t i c
theorem V0 (a b:List Aa) (hl:a.length<=1000000000):∀ (m i:Nat),i+m=a.length->i<=b.length->∃ r,Ak Fz (a,b,0,(i:Int),())=some r/\
 ((r.1=.exit 0/\r.2.1=a/\r.2.2.1=b/\cT (a.drop i) (b.drop i)=cI a.length b.length)\/(r.1=.ret/\r.2.2.2.1=cT (a.drop i) (b.drop i))):=by
 intro m
 induction m with
 |zero=>
  intro i hi hb
  refine ⟨_,A_ (e:=.exit 0) (y:=(a,b,0,(i:Int),())) ?_ (by simp),.inl ⟨rfl,rfl,rfl,?_⟩⟩
  ·unfold Fz
   simp only
   rw[AH]
  ·rw[qY7 (by omega)]
   unfold cI
   cases hd:b.drop i with
   |nil=>
    have:=congrArg List.length hd
    simp at this
    rw[if_neg (by omega),if_neg (by omega)];rfl
   |cons y l=>
    have:=congrArg List.length hd
    simp at this
    rw[if_pos (by omega)];rfl
 |succ m ih=>
  intro i hi hb
  have hil:i < a.length:=by omega
  by_cases hbl:i < b.length
  ·have ha:=qY6 hil
   have hb':=qY6 hbl
   have ga:a.getD i Am=a[i]:=by simp[qZ4,hil]
   have gb:b.getD i Am=b[i]:=by simp[qZ4,hbl]
   rw[ha,hb']
   simp only[cT]
   have hs:∀ r,Ak Dk (a,b,(0:Int),(i:Int),some (c5 a[i] b[i]),0,())=some r->Fz (a,b,0,(i:Int),())=cond (Ex.same r.1 (Ex.exit 2)) (some (Ex.normal,(r.2.1,r.2.2.1,r.2.2.2.1,qI (r.2.2.2.2.1+(1:Int)),())))
    (cond (Ex.same r.1 Ex.ret) (some (Ex.ret,(r.2.1,r.2.2.1,r.2.2.2.1,r.2.2.2.2.1,()))) none):=fun r hr=>by
    unfold Fz K'
    simp only
    rw[Aw,Aw,Ay,Ag,Ag,Ay,Ag,Ag,Af,qZ0,ga,gb]
    simp only[Rj,AB1,Af]
    unfold c5 at hr
    rw[hr,Af]
   rcases Yb a b 0 i (c5 a[i] b[i]) with ⟨h1,h2⟩ | ⟨h1,k,h2⟩
   ·rw[if_pos h1]
    have:=hs _ h2
    simp only[By,AK] at this
    rw[AG] at this
    rw[A6 this]
    exact ih (i+1) (by omega) (by omega)
   ·rw[if_neg h1]
    have:=hs _ h2
    simp only[Ce,Ci,AK,AX] at this
    exact ⟨_,A_ this (by simp),.inr ⟨rfl,rfl⟩⟩
  ·refine ⟨_,A_ (e:=.exit 0) (y:=(a,b,0,(i:Int),())) ?_ (by simp),.inl ⟨rfl,rfl,rfl,?_⟩⟩
   ·unfold Fz
    simp only
    rw[Aw,AH]
   ·rw[qY7 (show b.length<=i by omega),qY6 hil]
    unfold cI
    rw[if_neg (by omega),if_pos (by omega)];rfl
theorem AA2 {a b:List Aa} (hl:a.length<=1000000000):Ha a b=some ((cT a b,()),()):=by
 unfold Ha
 obtain ⟨r,hr,h⟩:=V0 a b hl a.length 0 (by omega) (by omega)
 rw[show ((0:Nat):Int)=0 from rfl] at hr
 rw[hr,Af]
 simp only[List.drop_zero] at h
 rcases h with ⟨h1,h2,h3,h4⟩ | ⟨h1,h2⟩
 ·rw[h1,h2,h3,h4]
  simp only[By,AK,Rj,Af]
 ·rw[h1,h2]
  simp only[Ce,Ci,AK,AX]
theorem FO {a b:Int}:cI a b=0 ↔ a=b:=by
 unfold cI
 split
 ·constructor
  ·intro h;cases h
  ·intro h;omega
 ·split
  ·constructor
   ·intro h;cases h
   ·intro h;omega
  ·constructor
   ·intro _;omega
   ·intro _;rfl
theorem HQ:∀ (s:qBs),Bk s s=false
 |[]=>rfl
 |c::s=>by
  have ih:=HQ s
  unfold Bk at ih ⊢
  simp only[Op.bytesLess,ih]
  simp
theorem Is {a b:qBs}:cS a b=0 ↔ a=b:=by
 unfold cS
 constructor
 ·intro h
  cases h1:Bk a b with
  |true=>rw[h1] at h;cases h
  |false=>
   rw[h1] at h
   cases h2:a==b with
   |true=>exact eq_of_beq h2
   |false=>rw[h2] at h;cases h
 ·rintro rfl
  rw[HQ]
  simp
theorem ADp {c:Int×Int×Int×Int×Int}:f5 c=0 ↔ c.1=0/\c.2.1=0/\c.2.2.1=0/\c.2.2.2.1=0/\c.2.2.2.2=0:=by
 unfold f5
 constructor
 ·intro h
  split at h
  ·omega
  ·split at h
   ·omega
   ·split at h
    ·omega
    ·split at h
     ·omega
     ·omega
 ·rintro ⟨h1,h2,h3,h4,h5⟩
  simp[h1,h2,h3,h4,h5]
theorem c5_zero {x y:Aa}:f5 (c5 x y)=0 ↔ x=y:=by
 rw[ADp]
 unfold c5
 simp only[FO,Is]
 constructor
 ·rintro ⟨h1,h2,h3,h4,h5⟩
  exact Prod.ext h1 (Prod.ext h2 (Prod.ext h3 (Prod.ext h4 h5)))
 ·rintro rfl;exact ⟨rfl,rfl,rfl,rfl,rfl⟩
theorem AAG:∀ {a b:List Aa},cT a b=0 ↔ a=b
 |[],[]=>by simp[cT]
 |[],_::_=>by simp[cT]
 |_::_,[]=>by simp[cT]
 |x::a,y::b=>by
  simp only[cT]
  split
  ·rename_i h
   rw[AAG,c5_zero.1 h]
   simp
  ·rename_i h
   constructor
   ·intro h';exact absurd h' h
   ·intro h';cases h';exact absurd (c5_zero.2 rfl) h
theorem ACl {a b:List Aa} (hl:a.length<=1000000000):FT a b=some ((decide (a=b),()),()):=by
 unfold FT
 rw[AA2 hl,Af]
 by_cases h:a=b
 ·rw[qZ10 h,beq_iff_eq.2 (AAG.2 h)]
 ·rw[qZ9 h]
  have:(cT a b==0)=false:=by simpa using fun e=>h (AAG.1 e)
  rw[this]
end Go.AM.Num
end
section
namespace Go.AM.Num
theorem Nw (a b:Int):cI b a=- cI a b:=by
 unfold cI
 rcases Int.lt_trichotomy a b with h | h | h
 ·rw[if_neg (by omega),if_pos (by omega),if_pos (by omega)];rfl
 ·rw[if_neg (by omega),if_neg (by omega),if_neg (by omega),if_neg (by omega)];rfl
 ·rw[if_pos (by omega),if_neg (by omega),if_pos (by omega)]
theorem LZ {a b c:Int} (h1:cI a b<=0) (h2:cI b c<=0):cI a c<=0/\(cI a c=0->cI a b=0/\cI b c=0):=by
 have e:∀ {x y:Int},cI x y<=0->x<=y:=fun {x y} h=>by
  unfold cI at h
  split at h
  ·omega
  ·split at h<;>omega
 have h1:=e h1
 have h2:=e h2
 constructor
 ·unfold cI
  split
  ·omega
  ·rw[if_neg (by omega)];omega
 ·intro h
  have:=FO.1 h
  exact ⟨FO.2 (by omega),FO.2 (by omega)⟩
theorem KX (a b:UInt8) (x y:qBs):Bk (a::x) (b::y)=(decide (a < b)||(a==b&&Bk x y)):=rfl
theorem U6 (a b:UInt8):a < b\/a=b\/b < a:=by
 rcases Nat.lt_trichotomy a.toNat b.toNat with h | h | h
 ·exact .inl (UInt8.lt_iff_toNat_lt.2 h)
 ·exact .inr (.inl (UInt8.toNat_inj.1 h))
 ·exact .inr (.inr (UInt8.lt_iff_toNat_lt.2 h))
theorem AFp (a:UInt8):¬ a < a:=fun h=>by have:=UInt8.lt_iff_toNat_lt.1 h;omega
theorem AEb {a b:UInt8} (h:a < b):¬ b < a:=fun h'=>by have:=UInt8.lt_iff_toNat_lt.1 h;have:=UInt8.lt_iff_toNat_lt.1 h';omega
theorem V' {a b c:UInt8} (h:a < b) (h':b < c):a < c:=UInt8.lt_iff_toNat_lt.2 (by have:=UInt8.lt_iff_toNat_lt.1 h;have:=UInt8.lt_iff_toNat_lt.1 h';omega)
theorem Ri:∀ (x y:qBs),Bk x y=true\/x=y\/Bk y x=true
 |[],[]=>.inr (.inl rfl)
 |[],_::_=>.inl rfl
 |_::_,[]=>.inr (.inr rfl)
 |a::x,b::y=>by
  rw[KX,KX]
  rcases U6 a b with h | h | h
  ·left;simp[h]
  ·subst h
   rcases Ri x y with h | h | h
   ·left;simp[h]
   ·right;left;rw[h]
   ·right;right;simp[h]
  ·right;right;simp[h]
theorem Kk:∀ (x y:qBs),Bk x y=true->Bk y x=false
 |[],[],h=>by cases h
 |[],_::_,_=>rfl
 |_::_,[],h=>by cases h
 |a::x,b::y,h=>by
  rw[KX] at h ⊢
  simp only[Bool.or_eq_true,decide_eq_true_eq,qY0,beq_iff_eq] at h
  rcases h with h | ⟨rfl,h⟩
  ·have h1:=AEb h
   have h2:b≠a:=fun e=>by subst e;exact AFp _ h
   simp[h1,h2]
  ·have:=Kk x y h
   simp[this]
theorem RJ:∀ (x y z:qBs),Bk x y=true->Bk y z=true->Bk x z=true
 |x,[],_,h,_=>by
  have:Bk x []=false:=by cases x<;>rfl
  rw[this] at h;cases h
 |_,_::_,[],_,h=>by cases h
 |[],_::_,_::_,_,_=>rfl
 |a::x,b::y,c::z,h,h'=>by
  rw[KX] at h h' ⊢
  simp only[Bool.or_eq_true,decide_eq_true_eq,qY0,beq_iff_eq] at h h' ⊢
  rcases h with h | ⟨rfl,h⟩
  ·rcases h' with h' | ⟨rfl,h'⟩
   ·exact .inl (V' h h')
   ·exact .inl h
  ·rcases h' with h' | ⟨rfl,h'⟩
   ·exact .inl h'
   ·exact .inr ⟨rfl,RJ x y z h h'⟩
theorem H5 (a b:qBs):(cS a b=-1/\Bk a b=true)\/(cS a b=0/\a=b)\/(cS a b=1/\Bk b a=true):=by
 rcases Ri a b with h | h | h
 ·left;unfold cS;rw[h];exact ⟨rfl,rfl⟩
 ·exact .inr (.inl ⟨Is.2 h,h⟩)
 ·right;right
  have h1:=Kk _ _ h
  have h2:(a==b)=false:=by
   cases e:a==b with
   |false=>rfl
   |true=>rw[eq_of_beq e,HQ] at h;cases h
  unfold cS
  rw[h1,h2]
  exact ⟨rfl,h⟩
theorem QV (a b:qBs):cS b a=- cS a b:=by
 rcases H5 a b with ⟨h1,h2⟩ | ⟨h1,h2⟩ | ⟨h1,h2⟩
 ·rcases H5 b a with ⟨k1,k2⟩ | ⟨k1,k2⟩ | ⟨k1,k2⟩
  ·rw[Kk _ _ h2] at k2;cases k2
  ·rw[k2,HQ] at h2;cases h2
  ·rw[h1,k1];rfl
 ·subst h2;rw[h1];rfl
 ·rcases H5 b a with ⟨k1,k2⟩ | ⟨k1,k2⟩ | ⟨k1,k2⟩
  ·rw[h1,k1]
  ·rw[k2,HQ] at h2;cases h2
  ·rw[Kk _ _ h2] at k2;cases k2
theorem QC {a b c:qBs} (h1:cS a b<=0) (h2:cS b c<=0):cS a c<=0/\(cS a c=0->cS a b=0/\cS b c=0):=by
 rcases H5 a b with ⟨k1,k2⟩ | ⟨k1,k2⟩ | ⟨k1,k2⟩
 ·rcases H5 b c with ⟨l1,l2⟩ | ⟨l1,l2⟩ | ⟨l1,l2⟩
  ·have:=RJ _ _ _ k2 l2
   have e:cS a c=-1:=by unfold cS;rw[this];rfl
   exact ⟨by omega,fun h=>by omega⟩
  ·subst l2
   exact ⟨by omega,fun h=>by omega⟩
  ·omega
 ·subst k2
  exact ⟨h2,fun h=>⟨k1,h⟩⟩
 ·omega
theorem Z9 (c:Int×Int×Int×Int×Int):f5 (-c.1,-c.2.1,-c.2.2.1,-c.2.2.2.1,-c.2.2.2.2)=- f5 c:=by
 unfold f5
 simp only[ne_eq,Int.neg_eq_zero]
 repeat' split
 all_goals first | rfl | (simp_all)
theorem U_ (x y:Aa):f5 (c5 y x)=- f5 (c5 x y):=by
 rw[<-Z9]
 unfold c5
 simp only[Nw y.1,Nw y.2.1,Nw y.2.2.2.2,QV y.2.2.1,QV y.2.2.2.1,Int.neg_neg]
theorem AA9:∀ (a b:List Aa),cT b a=- cT a b
 |[],[]=>rfl
 |[],_::_=>rfl
 |_::_,[]=>rfl
 |x::a,y::b=>by
  have h:=U_ x y
  simp only[cT]
  by_cases e:f5 (c5 x y)=0
  ·rw[if_pos e,if_pos (by omega),AA9 a b]
  ·rw[if_neg e,if_neg (by omega),h]
theorem Iw {p q r P Q R:Int} (h:p<=0->q<=0->r<=0/\(r=0->p=0/\q=0)) (h0:p=0->q=0->r=0) (H:P<=0->Q<=0->R<=0/\(R=0->P=0/\Q=0)) :
 (if p≠0 then p else P)<=0->(if q≠0 then q else Q)<=0->(if r≠0 then r else R)<=0/\((if r≠0 then r else R)=0->(if p≠0 then p else P)=0/\(if q≠0 then q else Q)=0):=by
 intro h1 h2
 by_cases e1:p=0
 ·by_cases e2:q=0
  ·have e3:=h0 e1 e2
   rw[if_neg (fun h=>h e1)] at h1
   rw[if_neg (fun h=>h e2)] at h2
   rw[if_neg (fun h=>h e3),if_neg (fun h=>h e1),if_neg (fun h=>h e2)]
   exact H h1 h2
  ·rw[if_pos e2] at h2
   obtain ⟨k1,k2⟩:=h (by omega) h2
   by_cases e3:r=0
   ·exact absurd (k2 e3).2 e2
   ·rw[if_pos e3];exact ⟨k1,fun e=>absurd e e3⟩
 ·rw[if_pos e1] at h1
  have hq:q<=0:=by
   by_cases e2:q=0
   ·omega
   ·rw[if_pos e2] at h2;exact h2
  obtain ⟨k1,k2⟩:=h h1 hq
  by_cases e3:r=0
  ·exact absurd (k2 e3).1 e1
  ·rw[if_pos e3];exact ⟨k1,fun e=>absurd e e3⟩
theorem WN (x y z:Aa):f5 (c5 x y)<=0->f5 (c5 y z)<=0->f5 (c5 x z)<=0/\(f5 (c5 x z)=0->f5 (c5 x y)=0/\f5 (c5 y z)=0):=by
 have i0:∀ {a b c:Int},cI a b=0->cI b c=0->cI a c=0:=fun h h'=>FO.2 ((FO.1 h).trans (FO.1 h'))
 have s0:∀ {a b c:qBs},cS a b=0->cS b c=0->cS a c=0:=fun h h'=>Is.2 ((Is.1 h).trans (Is.1 h'))
 unfold f5 c5
 exact Iw LZ i0 (Iw LZ i0 (Iw QC s0 (Iw QC s0 LZ)))
theorem ABd:∀ (a b c:List Aa),cT a b<=0->cT b c<=0->cT a c<=0/\(cT a c=0->cT a b=0/\cT b c=0)
 |[],[],[],_,_=>by simp[cT]
 |[],[],_::_,_,_=>by simp[cT]
 |[],_::_,[],_,h=>by simp[cT] at h
 |[],_::_,_::_,_,_=>by simp[cT]
 |_::_,[],_,h,_=>by simp[cT] at h
 |_::_,_::_,[],_,h=>by simp[cT] at h
 |x::a,y::b,z::c,h1,h2=>by
  have H:=Iw (P:=cT a b) (Q:=cT b c) (R:=cT a c) (WN x y z) (fun h h'=>c5_zero.2 ((c5_zero.1 h).trans (c5_zero.1 h'))) (ABd a b c)
  have e:∀ {u v:Aa} {l m:List Aa},cT (u::l) (v::m)=if f5 (c5 u v)≠0 then f5 (c5 u v) else cT l m:=fun {u v l m}=>by
   simp only[cT]
   by_cases e:f5 (c5 u v)=0
   ·rw[if_pos e,if_neg (fun h=>h e)]
   ·rw[if_neg e,if_pos e]
  rw[e] at h1 h2
  rw[e,e,e]
  exact H h1 h2
end Go.AM.Num
end
section
namespace Go.AM.Num
open Tf
instance (priority:=low) decVal:DecidableEq Bh:=fun _ _=>inferInstance
end Go.AM.Num
end
section
namespace Go.AM.Num
abbrev Tbl:=List (List Bh)
structure SmT (A:Tbl) (R:List Bh) (N:Nat):Prop where
 a:∀ l∈A,(∀ v∈l,SmallV v)/\l.length<=1000
 r:∀ v∈R,SmallV v
 la:A.length<=N
 lr:R.length<=N
end Go.AM.Num
end
section
namespace Go.AM.Num
theorem Vm (a b:Int):Hy a b=some ((cI a b,()),()):=by
 unfold Hy Jc cI
 have e:∀ x:Int,(x !=x)=false:=fun x=>by simp
 simp only[e,Af,AX]
 by_cases h:a < b
 ·rw[Aw h,if_pos h]
 ·rw[AH h,if_neg h]
  by_cases h2:a > b
  ·rw[Aw h2,if_pos h2]
  ·rw[AH h2,if_neg h2]
theorem AEQ (a b:qBs):HX a b=some ((cS a b,()),()):=by
 unfold HX Kd cS
 have e:∀ x:qBs,(!(x==x))=false:=fun x=>by simp
 simp only[e,Af,AX]
 cases Bk a b with
 |true=>rfl
 |false=>cases h:a==b<;>rfl
def Ga:List Int->Int
 |[]=>0
 |x::l=>if x≠0 then x else Ga l
theorem AEr (L:List Int) (hL:L.length<=1000):∀ (m i:Nat),i+m=L.length->∃ r,Ak Gs (0,0,L,(L.length:Int),(i:Int),())=some r/\
 ((r.1=.exit 0/\r.2.2.1=0/\Ga (L.drop i)=0)\/(r.1=.ret/\r.2.1=Ga (L.drop i))):=by
 intro m
 induction m with
 |zero=>
  intro i hi
  refine ⟨_,A_ (e:=.exit 0) (y:=(0,0,L,(L.length:Int),(i:Int),())) ?_ (by simp),.inl ⟨rfl,rfl,by rw[qY7 (by omega)];rfl⟩⟩
  unfold Gs
  simp only
  rw[AH]
 |succ m ih=>
  intro i hi
  have hlt:i < L.length:=by omega
  have ha:=qY6 hlt
  have ga:L.getD i 0=L[i]:=by simp[qZ4,hlt]
  rw[ha]
  simp only[Ga]
  by_cases h:L[i]=0
  ·have e:Gs (0,0,L,(L.length:Int),(i:Int),())=some (.normal,(0,0,L,(L.length:Int),((i+1:Nat):Int),())):=by
    unfold Gs
    simp only
    rw[Aw,Ay,Ag,Ag,qZ0,ga,BP h,AG]
    rfl
   rw[A6 e,if_neg (by omega)]
   exact ih (i+1) (by omega)
  ·refine ⟨_,A_ (e:=.ret) (y:=(L[i],0,L,(L.length:Int),(i:Int),())) ?_ (by simp),.inr ⟨rfl,by rw[if_pos h]⟩⟩
   unfold Gs
   simp only
   rw[Aw,Ay,Ag,Ag,qZ0,ga,B_ h]
theorem UF {L:List Int} (hL:L.length<=1000):Jf L=some ((Ga L,()),()):=by
 unfold Jf
 obtain ⟨r,h1,h2⟩:=AEr L hL L.length 0 (by omega)
 rw[show ((0:Nat):Int)=0 from rfl] at h1
 rw[h1,Af]
 rw[List.drop_zero] at h2
 rcases h2 with ⟨a1,a2,a3⟩ | ⟨a1,a2⟩
 ·rw[a1,By,AK,a2,a3]
 ·rw[a1,Ce,AX,Ci,AK,a2]
theorem QG (x y:Aa):J9 x y=some ((f5 (c5 x y),()),()):=by
 unfold J9
 simp only[Vm,AEQ,Af]
 rw[UF (by simp),Af]
 have e:∀ a b c d e:Int,Ga [a,b,c,d,e]=f5 (a,b,c,d,e):=fun a b c d e=>by
  unfold f5
  simp only[Ga]
  by_cases h:e=0
  ·rw[if_neg (show ¬ e≠0 by omega)];subst h;rfl
  ·rw[if_pos h]
 rw[e]
 rfl
theorem WG (a b:List Aa) (hl:a.length<=1000000000):∀ (m i:Nat),i+m=a.length->i<=b.length->∃ r,Ak Fe (a,b,(),0,a,(a.length:Int),(i:Int),())=some r/\
 ((r.1=.exit 0/\r.2.1=a/\r.2.2.1=b/\a.length<=b.length/\cT (a.drop i) (b.drop i)=if a.length < b.length then -1 else 0)\/(r.1=.ret/\r.2.2.2.2.1=cT (a.drop i) (b.drop i))):=by
 intro m
 induction m with
 |zero=>
  intro i hi hb
  refine ⟨_,A_ (e:=.exit 0) (y:=(a,b,(),0,a,(a.length:Int),(i:Int),())) ?_ (by simp),.inl ⟨rfl,rfl,rfl,by omega,?_⟩⟩
  ·unfold Fe
   simp only
   rw[AH]
  ·rw[qY7 (by omega)]
   cases hd:b.drop i with
   |nil=>
    have:=congrArg List.length hd
    simp at this
    rw[if_neg (by omega)];rfl
   |cons y l=>
    have:=congrArg List.length hd
    simp at this
    rw[if_pos (by omega)];rfl
 |succ m ih=>
  intro i hi hb
  have hil:i < a.length:=by omega
  have ha:=qY6 hil
  have ga:a.getD i Am=a[i]:=by simp[qZ4,hil]
  by_cases hbl:i < b.length
  ·have hb':=qY6 hbl
   have gb:b.getD i Am=b[i]:=by simp[qZ4,hbl]
   rw[ha,hb']
   simp only[cT]
   by_cases h:f5 (c5 a[i] b[i])=0
   ·have e:Fe (a,b,(),0,a,(a.length:Int),(i:Int),())=some (.normal,(a,b,(),0,a,(a.length:Int),((i+1:Nat):Int),())):=by
     unfold Fe
     simp only
     rw[Aw,Ay,Ag,Ag,AH,Ay,Ag,Ag,qZ0,ga,gb,QG,Af,BP h,AG]
     rfl
    rw[A6 e,if_pos h]
    exact ih (i+1) (by omega) (by omega)
   ·refine ⟨_,A_ (e:=.ret) (y:=(a,b,(),f5 (c5 a[i] b[i]),a,(a.length:Int),(i:Int),())) ?_ (by simp),.inr ⟨rfl,by rw[if_neg h]⟩⟩
    unfold Fe
    simp only
    rw[Aw,Ay,Ag,Ag,AH,Ay,Ag,Ag,qZ0,ga,gb,QG,Af,B_ h]
  ·have hb':b.drop i=[]:=qY7 (by omega)
   rw[ha,hb']
   refine ⟨_,A_ (e:=.ret) (y:=(a,b,(),1,a,(a.length:Int),(i:Int),())) ?_ (by simp),.inr ⟨rfl,rfl⟩⟩
   unfold Fe
   simp only
   rw[Aw,Ay,Ag,Ag,Aw]
theorem G' {a b:List Aa} (hl:a.length<=1000000000):D_ a b=some ((cT a b,()),()):=by
 unfold D_ MI
 obtain ⟨r,h1,h2⟩:=WG a b hl a.length 0 (by omega) (by omega)
 rw[show ((0:Nat):Int)=0 from rfl] at h1
 rw[h1,Af]
 simp only[List.drop_zero] at h2
 rcases h2 with ⟨a1,a2,a3,a4,a5⟩ | ⟨a1,a2⟩
 ·rw[a1,By,AK,a2,a3,a5]
  by_cases h:a.length < b.length
  ·rw[Aw,if_pos h,Af]
  ·rw[AH,if_neg h,Af]
 ·rw[a1,Ce,AX,Ci,AK,a2,Af]
end Go.AM.Num
end
section
namespace Go.AM.Num
theorem AB7:Ge=some ((true,()),()):=by kernel_rfl
end Go.AM.Num
end
section
namespace Go.AM.Num
open Tf
structure WithOk (t:List Aa) (F:Tf):Prop where
 vt:VT t F
 len:t.length<=400
 sh:Lm t
 dep:F.dep<=20
theorem AEa {VS:List Vr} {ss:List Int} {N d:Nat} {t:List Aa} {F:Tf} (h:GenF VS ss N d t F):∀ a∈C1 F,a.2.1=false/\a.2.2.1=[]/\(a.1,a.2.2.2)∈VS:=by
 intro a ha
 obtain ⟨⟨n,k⟩,h1,h2⟩:=List.mem_filterMap.1 ha
 have hm:n∈t:=by rw[<-h.flat];exact S6 h1
 unfold CK at h2
 split at h2
 ·rename_i h4
  simp only[Option.some.injEq] at h2
  subst h2
  exact ⟨rfl,rfl,h.vars n hm h4⟩
 ·split at h2
  ·rename_i h5
   exact absurd h5 (h.noap n hm)
  ·cases h2
theorem MN {ss:List Int} {N d:Nat} {l:List Aa} (h:AT VSg ss N d l) {nm:qBs} {s:Int} (hnm:Gg nm=true) (hs:1<=s/\s<=4) (hk:1<=ss.length/\ss.length<=40) (hn:∀ v∈VSg,v.1≠nm) (hN:N<=350) (hd:d<=19) :
 ∃ F,WithOk (((5:Int),s,nm,([]:qBs),(ss.length:Int))::l) F:=by
 obtain ⟨K,hK⟩:=h
 have hl:K.len=ss.length:=by rw[<-EC,hK.srt]
 have hu:=AEa hK
 have hsz:=hK.size
 refine ⟨cons ((5:Int),s,nm,([]:qBs),(ss.length:Int)) K Tf.nil,⟨by simp[Tf.flat,hK.flat],CZ.2 ⟨Hn.2 ⟨?_,?_⟩,by rw[hl],hK.wf,rfl⟩,?_,by simp[Tf.len],by simp only[Tf.size];omega,?_,?_⟩,?_,?_,?_⟩
 ·simp[BK,Aj,A5,BW,Ba,hnm,hs]
 ·simp[Be,Aj,Bf];omega
 ·rw[Gy]
  refine ⟨by rw[hK.srt];exact hK.nz,?_,by simp[Tf.srt]⟩
  simp[AZ,Aj,A5];omega
 ·simp only[Tf.dep];have:=hK.dep;omega
 ·have e:C1 (cons ((5:Int),s,nm,([]:qBs),(ss.length:Int)) K Tf.nil)=(nm,true,K.srt,s)::C1 K:=by
   simp[C1,subs,CK,Aj,BW,A5]
  rw[e]
  intro a ha b hb hab
  rcases List.mem_cons.1 ha with rfl | ha
  ·rcases List.mem_cons.1 hb with rfl | hb
   ·rfl
   ·obtain ⟨_,_,h3⟩:=hu b hb
    exact absurd hab.symm (hn _ h3)
  ·rcases List.mem_cons.1 hb with rfl | hb
   ·obtain ⟨_,_,h3⟩:=hu a ha
    exact absurd hab (hn _ h3)
   ·obtain ⟨a1,a2,a3,a4⟩:=a
    obtain ⟨b1,b2,b3,b4⟩:=b
    obtain ⟨p1,p2,p3⟩:=hu _ ha
    obtain ⟨q1,q2,q3⟩:=hu _ hb
    simp only at p1 p2 p3 q1 q2 q3 hab
    have:=AAK.once _ p3 _ q3 hab
    simp only[Prod.mk.injEq] at this
    rw[p1,p2,q1,q2,this.1,this.2]
 ·have:l.length=K.size:=by rw[<-hK.flat,CV]
  simp only[qY11];omega
 ·intro n hn
  rcases List.mem_cons.1 hn with rfl | hn
  ·exact Nat.zero_le 73
  ·exact hK.sh n hn
 ·simp only[Tf.dep];have:=hK.dep;omega
theorem AC7 {s:Int} {N d:Nat} {t:List Aa} (h:AT VSg [s] N d t) (hN:N<=350) (hd:d<=20):∃ F,WithOk t F:=by
 obtain ⟨F,hF⟩:=h
 have hsz:=hF.size
 have:=hF.dep
 exact ⟨F,M6 AAK hF (by omega) (by omega),by rw[<-hF.flat,CV];omega,hF.sh,by omega⟩
theorem SB {n:Aa} {a:List Aa} (h:a.length<=90000):Dd n [a]=some (((n.1,n.2.1,n.2.2.1,n.2.2.2.1,1)::a,()),()):=by
 rw[AAD (by simp) (by simpa using h)];simp
theorem VR {n:Aa} {a b:List Aa} (h:a.length+b.length<=90000):Dd n [a,b]=some (((n.1,n.2.1,n.2.2.1,n.2.2.2.1,2)::(a++b),()),()):=by
 rw[AAD (by simp) (by simpa using h)];simp
theorem K0 (l:List Int):∃ t F,GC l=some ((t,()),())/\WithOk t F:=by
 unfold GC
 obtain ⟨c0,n0,hc0⟩:=VE l
 obtain ⟨r,c1,a1,a2,a3,a4⟩:=Bu hc0 (n:=4) (by omega)
 obtain ⟨x,c2,b1,b2,b3⟩:=ACT a2 (s:=1+r) (by omega) (d:=3) (by omega)
 obtain ⟨k,c3,d1,d2,d3,d4⟩:=Bu b2 (n:=4) (by omega)
 have hN:gB 3<=310:=by decide
 rw[n0]
 simp only[Af]
 rw[a1]
 simp only[Af,AC0]
 have b1:BT Bg c1 (1+r) 3 VSg=some ((x,()),(c2,())):=b1
 rw[AG,b1]
 simp only[Af]
 rw[d1]
 simp only[Af]
 obtain ⟨F0,hF0⟩:=AC7 b3 (by omega) (by omega)
 have hlx:=b3.len
 have hG:=b3
 obtain ⟨F1,hF1⟩:=b3
 have hsrt:Ey x=some ((1+r,()),()):=by
  rcases AA4 (t:=x) (fun n hn=>by have:=hF0.sh n hn;omega) with ⟨F,h1,h2,_⟩ | ⟨h1,_⟩
  ·rw[h2]
   have hvt:=M6 AAK hF1 (by omega) (by omega)
   rw[h1.uniq hvt,hF1.srt];rfl
  ·exact absurd ⟨F0,hF0.vt⟩ h1
 rw[hsrt]
 simp only[Af]
 have done:∀ {o:Option ((List Aa×Unit)×Unit)},o=some ((x,()),())->∃ t F,o=some ((t,()),())/\WithOk t F:=fun h=>⟨x,F0,h,hF0⟩
 by_cases e0:k=0
 ·rw[AI e0]
  by_cases q:1+r=2
  ·rw[AI q,SB (by omega)]
   rw[q] at hG
   obtain ⟨F,hF⟩:=MN hG (nm:=[102]) (s:=2) (by decide) (by omega) (by simp) (by decide) (by omega) (by omega)
   exact ⟨_,F,rfl,hF⟩
  ·rw[An q];exact done rfl
 rw[An e0]
 by_cases e1:k=1
 ·rw[AI e1]
  by_cases q:1+r=1
  ·obtain ⟨a,c4,f1,f2,f3,f4⟩:=AAR d2 (s:=3) (by omega)
   have f1':FJ c3=some ((a,()),(c4,())):=by
    have:=f1
    unfold D4 at this
    rw[An] at this
    cases hh:FJ c3 with
    |none=>rw[hh] at this;simp at this
    |some y=>
     rw[hh] at this
     obtain ⟨⟨y1,u1⟩,y2,u2⟩:=y
     simpa using this
   rw[AI q,f1']
   simp only[Af]
   rw[f3]
   simp only[Af]
   rw[VR (by simp;omega)]
   rw[q] at hG
   obtain ⟨F,hF⟩:=MN (hG.app (f4.mono (Nat.le_refl 1) (show 1<=3+4 by omega))) (nm:=[103]) (s:=1) (by decide) (by omega) (by simp) (by decide) (by omega) (by omega)
   exact ⟨_,F,rfl,hF⟩
  ·rw[An q];exact done rfl
 rw[An e1]
 by_cases e2:k=2
 ·rw[AI e2]
  by_cases q:1+r=4
  ·rw[AI q,SB (by omega)]
   rw[q] at hG
   obtain ⟨F,hF⟩:=MN hG (nm:=[104]) (s:=4) (by decide) (by omega) (by simp) (by decide) (by omega) (by omega)
   exact ⟨_,F,rfl,hF⟩
  ·rw[An q];exact done rfl
 rw[An e2]
 exact done rfl
end Go.AM.Num
end
section
namespace Go.AM.Num
theorem Sn (a:List Aa):cT a a=0:=AAG.2 rfl
theorem RY:∀ (a b:List Aa),-1<=cT a b/\cT a b<=1
 |[],[]=>by simp[cT]
 |[],_::_=>by simp[cT]
 |_::_,[]=>by simp[cT]
 |x::a,y::b=>by
  simp only[cT]
  split
  ·exact RY a b
  ·have hI:∀ p q:Int,-1<=cI p q/\cI p q<=1:=fun p q=>by unfold cI;split;omega;split<;>omega
   have hS:∀ p q:qBs,-1<=cS p q/\cS p q<=1:=fun p q=>by unfold cS;split;omega;split<;>omega
   unfold f5 c5
   simp only
   split
   ·exact hI _ _
   split
   ·exact hI _ _
   split
   ·exact hS _ _
   split
   ·exact hS _ _
   exact hI _ _
theorem AFb (a b:List Aa) (k l m:List Int):JG a b k l m=some ((true,()),()):=by
 unfold JG
 simp only[AB7,Af]
 by_cases ha:a.length > 20
 ·rw[Aw]
 rw[AH]
 by_cases hb:b.length > 20
 ·rw[Aw]
 rw[AH]
 obtain ⟨x,F,e1,hx⟩:=K0 k
 obtain ⟨y,G,e2,hy⟩:=K0 l
 obtain ⟨z,H,e3,hz⟩:=K0 m
 have lx:=hx.len
 have ly:=hy.len
 have lz:=hz.len
 rw[e1]
 simp only[Af]
 rw[e2]
 simp only[Af]
 rw[e3]
 simp only[Af]
 simp only[G' (a:=x) (b:=y) (by omega),G' (a:=a) (b:=b) (by omega),AA2 (a:=a) (b:=b) (by omega),AA2 (a:=x) (b:=y) (by omega),G' (a:=y) (b:=x) (by omega),G' (a:=x) (b:=x) (by omega),G' (a:=y) (b:=z) (by omega),G' (a:=x) (b:=z) (by omega),Af]
 have hr:=RY y x
 rw[BP rfl,BP rfl,AG,BP (by rw[AA9 x y];omega),BP (Sn x)]
 have hq:(FT x y).bind (fun r12=>cond ((cT x y !=(0:Int))==!r12.1.1) (some ((true,()),())) (some ((false,()),())))=some ((true,()),()):=by
  rw[ACl (by omega)]
  simp only[Af]
  by_cases h:x=y
  ·rw[qZ10 h,h,Sn];rfl
  ·have:cT x y≠0:=fun h'=>h (AAG.1 h')
   rw[qZ9 h,show (cT x y !=(0:Int))=true by simpa using this]
   rfl
 by_cases h1:cT x y > 0
 ·rw[Aw h1];exact hq
 rw[AH h1]
 by_cases h2:cT y z > 0
 ·rw[Aw h2];exact hq
 rw[AH h2,Aw (ABd x y z (by omega) (by omega)).1]
 exact hq
end Go.AM.Num
end
section
namespace Go.AM.Num
open Go.Proofs Go.Proofs.YtppjkoefhkcjfaaGreatDoor
theorem Nl : Tryz.prog.globalNamed "internal/strconv.uint64pow10" = some 5 := by kernel_rfl
theorem ADY:(Tryz.prog.globals[5]?).map (·.type)=some 292:=by kernel_rfl
theorem Vh {W:World} (h:W.ShapedOpen Tryz.prog):∃ m,W.cell? ⟨0,0,none⟩=some (.int .i64 m):=
 cell_of_shapedOpen_int (t:=3) (zero:=#[.int .i64 0]) h (of_decide_eq_true (by kernel_rfl)) (by kernel_rfl) rfl (by kernel_rfl) (by kernel_rfl) Tryz.underlying3
theorem U2 {W:World} (hL:laidMetH Tryz.prog Rows.termCompareRow.laid W) (hsh:W.ShapedOpen Tryz.prog):GN W:=by
 rw[MakeChecks.laidMetH_plain _ _ _ (by kernel_rfl)] at hL
 obtain ⟨ps,⟨g0,t0,cs0,f0,p0,q0,hg0,ht0,hv0,hd0,⟨g1,t1,cs1,f1,p1,q1,hg1,ht1,hv1,hd1,⟨g2,t2,cs2,f2,p2,q2,hg2,ht2,hv2,hd2,_⟩,_⟩,_⟩,_⟩:=hL
 obtain rfl:=Option.some.inj (Nl.symm.trans hg2)
 obtain rfl:=Option.some.inj (ADY.symm.trans ht2)
 refine ⟨Vh hsh,?_⟩
 have e:(Rows.laid_internal_strconv_uint64pow10:DataW Unit)=Lib.tabData .u64 Lib.pow10Tab:=by kernel_rfl
 rw[e] at hd2
 unfold Lib.TabIs
 rw[hv2,<-Lib.cells_of_tab Tryz.underlying292 Tryz.underlying242 (by kernel_rfl) (by kernel_rfl) hd2]
theorem WP {w w':World} (h:GN w) (hb:∀ B,B < 6->w'.heap[B]?=w.heap[B]?):GN w':=by
 have hc:∀ B o,B < 6->w'.cell? ⟨B,o,none⟩=w.cell? ⟨B,o,none⟩:=fun B o hB=>by simp[World.cell?,hb B hB]
 refine ⟨?_,?_⟩
 ·rw[hc _ 0 (by decide)];exact h.maxLen
 ·have:=h.pow10
  unfold Lib.TabIs World.var? at this ⊢
  rw[Nl] at this ⊢
  simp only[Option.bind_some] at this ⊢
  rw[hb _ (by decide)]
  exact this
theorem Uw {w:World} (h:GN w):6<=w.heap.size:=by
 obtain ⟨m,hm⟩:=h.maxLen
 have h1:0 < w.heap.size:=World.block_lt_of_cell? w ⟨0,0,none⟩ hm
 have h2:5 < w.heap.size:=by
  have:=h.pow10
  unfold Lib.TabIs World.var? at this
  rw[Nl] at this
  simp only[Option.bind_some] at this
  cases hh:w.heap[5]? with
  |none=>rw[hh] at this;simp at this
  |some _=>exact (Array.getElem?_eq_some_iff.1 hh).1
 omega
end Go.AM.Num
end
section
namespace Go.AM.Num
open Go.Proofs
noncomputable def VN:Env where
 P:=Tryz.prog
 gb:=6
 G:=GN
 keep:=fun w w' h _ hb=>WP h hb
 mixed:=by kernel_rfl
theorem f0:Fs Tryz.prog VN l0:=(((((((((((⟨rfl,XY⟩:Fs Tryz.prog VN []).cons (Xm rfl (fun _ h=>h))).cons (ABl rfl (fun _ h=>h))).cons (W8 rfl)).cons (V4 rfl)).cons (Wr rfl (fun _ h=>h))).cons (XQ rfl (fun _ h=>h))).cons (Wq rfl (fun _ h=>h))).cons (Ww rfl)).cons (Zy rfl)).cons (AAq rfl))
end Go.AM.Num
end
section
namespace Go.AM.Num
open Go.Proofs Go.Proofs.YtppjkoefhkcjfaaGreatDoor Go.RowKit Go.ChangeShapes Go.WideShapes Go.ChangeAt
theorem AE9 {k:FuncId} {ps:List PK} {g:Ao ps->Option (Ao [.val .bool]×BM ps)} (hG:Good VN k ⟨ps,[.val .bool],g⟩) (x:Ao ps) (hin:AQ ps x=[]) (hk:cntK ps=0) (o:BM ps) (hx:g x=some ((true,()),o))
 (W:World) (hW:GN W) (vs:Array Value) (ha:RelL (Ad W) (fun B=>B < W.heap.size) (fun _=>none) (AS ps x 0 0) vs.toList) :
 Calls Tryz.prog k vs W fun e w'=>e=.returned (.bool true)/\Below W.heap.size W w':=by
 refine Calls.mono (hG.spec x _ o hx W (fun B=>B < W.heap.size) (fun _=>none) vs hW (Uw hW) ?_ ?_) ?_
 ·rw[hin];exact VU fun _ h=>h
 ·rw[hk];exact ha
 ·rintro e w' ⟨us,I',β',rfl,hf,_,hr⟩
  obtain rfl:us=[.bool true]:=by
   have:D8 ps [.val .bool] (true,())=[.bool true]:=rfl
   rw[this] at hr
   simp only[RelL,RelV] at hr
   obtain ⟨u,us',rfl,rfl,rfl⟩:=hr
   rfl
  refine ⟨rfl,hf.os,hf.tape,hf.output,hf.size,fun B hB=>hf.block B hB ?_⟩
  rw[hin]
  exact Gr B
def IL (l:List Int):Prop:=l.length<=9223372036854775807/\∀ x∈l,C8 x
def SL (s:qBs):Prop:=s.length<=9223372036854775807
theorem ZF {n:Int} (h:(Lit.int .i64 n).wf=true):C8 n:=by
 simp only[Lit.wf,qY0,decide_eq_true_eq] at h
 exact h
theorem L5 {l:List Int} (h:l.length<=maxLen) (hw:∀ x∈l,(Lit.int .i64 x).wf=true):IL l:=⟨by unfold maxLen at h;omega,fun x hx=>ZF (hw x hx)⟩
theorem Wh {s:ByteArray} (h:s.size<=maxLen):SL s.data.toList:=by unfold SL;unfold maxLen at h;have:=Lib.size_eq s;omega
section
variable {H:Type} {enc:TypeId×Value->H} {W:World} {I:Nat->Prop} {rd:Nat->Nat->Option Value} {β:Nat->Option Place}
theorem ABq:RelL rd I β (AS [] () 0 0) []:=by simp only[AS,RelL]
theorem H6 {t:GT} {ps:List PK} {x:t.ty} {y:Ao ps} {v:Value} {vs:List Value} (h:RelV rd I β (Go.AM.enc t x) v) (r:RelL rd I β (AS ps y 0 0) vs):RelL rd I β (AS (.val t::ps) (x,y) 0 0) (v::vs):=by
 simp only[AS,RelL]
 exact ⟨v,vs,rfl,h,r⟩
theorem LH (a:Addr) (i:Nat) (h:a.spot=none):a.add i=⟨a.block,a.off+i,none⟩:=by
 obtain ⟨b,o,s⟩:=a
 simp only at h;subst h
 simp[Addr.add]
theorem Nc {t e:TypeId} {k:IntKind} {a:Option Addr} {len cap:Nat} {d:DataW H} {p:List MemPlace} (ht:Tryz.prog.underlying t=some (.slice e)) (he:Tryz.prog.underlying e=some (.int k)) (hc:Tryz.prog.cellsOf e=1) (h:DataW.Trod enc Tryz.prog W 0 (fun _=>true) true t (.slice a len cap) d p) :
 ∃ l:List Int,l.length=len/\len<=maxLen/\(∀ x∈l,(Lit.int k x).wf=true)/\TV (Ad W) (fun B=>B < W.heap.size) (.sl (.int k)) l (.slice a len cap):=by
 obtain ⟨fuel,hf⟩:=h
 rcases open_ints ht he hc hf with ⟨hcs,_⟩ | ⟨x,l,c,zs,hcs,_,hl,hm,hz,_,hcell,hwz⟩
 ·simp[Value.cells] at hcs
  obtain ⟨rfl,rfl,rfl⟩:=hcs
  refine ⟨[],rfl,Nat.zero_le _,by simp,?_⟩
  simp only[TV,GT.isAgg,RelC]
  exact ⟨none,0,rfl,Nat.le_refl _,fun h=>absurd rfl h⟩
 ·simp[Value.cells] at hcs
  obtain ⟨rfl,rfl,rfl⟩:=hcs
  simp only[if_true] at hz
  have hzl:zs.length=cap:=by simpa using hz
  refine ⟨zs.take len,by simp;omega,by omega,fun y hy=>hwz y (List.mem_of_mem_take hy),?_⟩
  have hg:∀ i,i < zs.length->W.cell? (x.add i)=some (.int k (zs.getD i 0)):=hcell
  simp only[TV,GT.isAgg,RelC]
  refine ⟨some x,cap,by simp;omega,by simp;omega,fun hne=>?_⟩
  have hpos:0 < zs.length:=by
   have:zs.take len≠[]:=hne
   rcases zs with _ | ⟨z,zs⟩
   ·simp at this
   ·simp
  have hspot:x.spot=none:=by simpa [Addr.add] using World.cell?_spot (hg 0 hpos)
  have hat:∀ i,i < zs.length->W.cell? ⟨x.block,x.off+i,none⟩=some (.int k (zs.getD i 0)):=fun i hi=>by
   rw[<-LH x i hspot];exact hg i hi
  refine ⟨x.block,x.off,by obtain ⟨b,o,s⟩:=x;simp only at hspot;subst hspot;rfl,World.block_lt_of_cell? W ⟨x.block,x.off+0,none⟩ (hat 0 hpos),fun i z hi=>?_⟩
  have hi1:i < zs.length:=by
   have:=(List.getElem?_eq_some_iff.1 hi).1
   simp at this;omega
  have hzi:zs.getD i 0=z:=by
   rw[List.getElem?_take] at hi
   split at hi
   ·rw[qZ4,hi];rfl
   ·cases hi
  refine ⟨[.int k z],rfl,fun j hj=>?_,rfl⟩
  have:j=0:=by simp[GT.cells] at hj;omega
  subst this
  have:=hat i hi1
  rw[hzi] at this
  have h2:=LT this rfl
  simpa [GT.cells] using h2
end
noncomputable def HU (os:Os):World:=
 { World.doorLaid Tryz.prog 400 os with heap:=(World.doorLaid Tryz.prog 400 os).heap.modify 3 fun
  |.cells _ t frozen=>.cells (Go.Pinned.utf8FirstZ.map fun n=>Value.int .u8 (n:Nat)).toArray t frozen
  |o=>o }
set_option maxRecDepth 100000 in
theorem AEJ (os:Os) (args:Array Value):laidMet Tryz.prog Rows.termCompareRow.laid ((HU os).forCall (fun _ _=>0) ⟨#[],args,[]⟩).memory:=
 laidMet_of_run' 8 (by kernel_rfl) (by kernel_rfl)
theorem ABv (os:Os) (args:Array Value):(((HU os).forCall (fun _ _=>0) ⟨#[],args,[]⟩).variablesRefB Tryz.prog)=true:=by kernel_rfl
theorem W0 (os:Os) (args:Array Value):((((HU os).forCall (fun _ _=>0) ⟨#[],args,[]⟩).heap.toList.drop Tryz.prog.globals.size).take ((begin Tryz.prog (fun _ _=>0) default).world.heap.size - Tryz.prog.globals.size) =
 (begin Tryz.prog (fun _ _=>0) default).world.heap.toList.drop Tryz.prog.globals.size):=by kernel_rfl
theorem own:ownKnob Tryz.prog.godebug=none:=by kernel_rfl
theorem IQ:laidOutB Tryz.prog=true:=by kernel_rfl
end Go.AM.Num
end
section
set_option maxRecDepth 10000
namespace Go.AM.Num
open Go.Proofs Go.Proofs.YtppjkoefhkcjfaaGreatDoor Go.RowKit Go.ChangeShapes Go.WideShapes Go.ChangeAt
def EF:(T:GT)->T.ty->Prop
 |.int k,n=>(Lit.int k n).wf=true
 |.str,s=>List.length s<=9223372036854775807
 |.sl e,l=>List.length l<=9223372036854775807/\∀ x∈(l:List e.ty),EF e x
 |.pair a b,x=>EF a x.1/\EF b x.2
 |_,_=>True
def Dz (T:GT) (t:TypeId):Prop:=∀ (H:Type) (enc:TypeId×Value->H) (W:World) (fuel:Nat) (cs:List Value) (x:DataW H×List MemPlace),DataW.trod enc Tryz.prog W 0 (fun _=>true) true fuel t cs=some x->
 ∃ v:T.ty,RelC (Ad W) (fun B=>B < W.heap.size) T v cs/\EF T v
theorem AAP {k:IntKind} {t:TypeId} (ht:Tryz.prog.underlying t=some (.int k)):Dz (.int k) t:=fun H enc W fuel cs x h=>by
 obtain ⟨n,rfl,_,hw⟩:=DataW.trod_int ht h
 exact ⟨n,by simp only[RelC],hw⟩
theorem Qs {t:TypeId} (ht:Tryz.prog.underlying t=some .string):Dz .str t:=fun H enc W fuel cs x h=>by
 obtain ⟨s,rfl,_,hs⟩:=DataW.trod_string ht h
 refine ⟨s.data.toList,by simp only[RelC];exact ⟨s,rfl,rfl⟩,?_⟩
 have:=Wh hs
 exact this
theorem AEC {α:Type} {P:Nat->α->Prop}:∀ n,(∀ i,i < n->∃ v,P i v)->∃ l:List α,l.length=n/\∀ i x,l[i]?=some x->P i x:=by
 intro n
 induction n with
 |zero=>exact fun _=>⟨[],rfl,fun i x h=>by simp at h⟩
 |succ n ih=>
  intro h
  obtain ⟨l,hl,hP⟩:=ih fun i hi=>h i (by omega)
  obtain ⟨v,hv⟩:=h n (by omega)
  refine ⟨l++[v],by simp[hl],fun i x hx=>?_⟩
  rcases Nat.lt_or_ge i l.length with h1 | h1
  ·rw[qY8 h1] at hx;exact hP i x hx
  ·rw[qY9 h1] at hx
   obtain ⟨h2,h3⟩:=List.getElem?_eq_some_iff.1 hx
   simp at h2 h3
   obtain rfl:i=n:=by omega
   rw[<-h3];exact hv
theorem ACi {E:GT} {t e:TypeId} (ht:Tryz.prog.underlying t=some (.slice e)) (hc:Tryz.prog.cellsOf e=E.cells) (hp:0 < E.cells) (hE:Dz E e):Dz (.sl E) t:=fun H enc W fuel cs x h=>by
 rcases DataW.trod_slice ht h with ⟨rfl,_⟩ | ⟨a,len,cap,elems,rest,n,_,rfl,_,_,hl,hm,hlen,hel,_,_⟩
 ·refine ⟨[],?_,?_⟩
  ·simp only[RelC];exact ⟨none,0,rfl,Nat.le_refl _,fun h=>absurd rfl h⟩
  ·exact ⟨Nat.zero_le _,fun x hx=>absurd hx qY16⟩
 ·have each:∀ i,i < len->∃ v:E.ty,(∃ us:List Value,us.length=E.cells/\(∀ j,j < E.cells->W.cell? ((a.add (i * E.cells)).add j)=us[j]?)/\RelC (Ad W) (fun B=>B < W.heap.size) E v us)/\EF E v:=by
   intro i hi
   have hb:=hel i hi
   rw[qZ5 (by omega),Option.bind_eq_some_iff] at hb
   obtain ⟨us,h1,h2⟩:=hb
   obtain ⟨v,hv,hi'⟩:=hE H enc W n us _ h2
   obtain ⟨_,q1,q2⟩:=World.cells?_some h1
   rw[hc] at q1 q2
   exact ⟨v,⟨us,q1,q2,hv⟩,hi'⟩
  obtain ⟨l,hll,hP⟩:=AEC len each
  refine ⟨l,?_,⟨by unfold maxLen at hm;omega,fun x hx=>?_⟩⟩
  ·simp only[RelC]
   refine ⟨some a,cap,by rw[hll],by omega,fun hne=>?_⟩
   have h0:0 < l.length:=List.length_pos_iff.2 hne
   obtain ⟨⟨us,u1,u2,u3⟩,_⟩:=hP 0 l[0] (qZ5 h0)
   have hu:=u2 0 hp
   rw[qZ5 (by omega)] at hu
   have hspot:a.spot=none:=by simpa [Addr.add] using World.cell?_spot hu
   have hblk:a.block < W.heap.size:=by simpa [Addr.add] using World.block_lt_of_cell? W _ hu
   refine ⟨a.block,a.off,by obtain ⟨b,o,s⟩:=a;simp only at hspot;subst hspot;rfl,hblk,fun i x hx=>?_⟩
   obtain ⟨⟨us,u1,u2,u3⟩,_⟩:=hP i x hx
   refine ⟨us,u1,fun j hj=>?_,u3⟩
   have hj':=u2 j hj
   have e:(a.add (i * E.cells)).add j=⟨a.block,a.off+i * E.cells+j,none⟩:=by rw[LH _ _ hspot,LH _ _ rfl]
   rw[e,qZ5 (by omega)] at hj'
   rw[qZ5 (by omega)]
   exact LT hj' (CJ E x us u3 _ (List.getElem_mem _))
  ·obtain ⟨i,hi⟩:=List.getElem?_of_mem hx
   exact (hP i x hi).2
inductive RdFs:GT->List Field->Nat->Prop
 |one {T:GT} {f:Field} {o:Nat} (ho:f.offset=o) (hc:Tryz.prog.cellsOf f.type=T.cells) (h:Dz T f.type):RdFs T [f] o
 |cons {a b:GT} {f:Field} {fs:List Field} {o:Nat} (ho:f.offset=o) (hc:Tryz.prog.cellsOf f.type=a.cells) (h:Dz a f.type) (r:RdFs b fs (o+a.cells)):RdFs (.pair a b) (f::fs) o
theorem Ve {T:GT} {fs:List Field} {o:Nat} (h:RdFs T fs o):∀ {H:Type} {enc:TypeId×Value->H} {W:World} {n:Nat} {cs:List Value} {xs:List (DataW H×List MemPlace)},cs.length=o+T.cells->xs.length=fs.length->
 (∀ (i:Nat) (f:Field),fs[i]?=some f->DataW.trod enc Tryz.prog W 0 (fun _=>true) true n f.type ((cs.drop f.offset).take (Tryz.prog.cellsOf f.type))=xs[i]?)->
 ∃ v:T.ty,RelC (Ad W) (fun B=>B < W.heap.size) T v (cs.drop o)/\EF T v:=by
 induction h with
 |one ho hc h=>
  intro H enc W n cs xs hl hx ht
  have h0:=ht 0 _ rfl
  rw[ho,hc,List.take_of_length_le (by simp;omega),qZ5 (by simp at hx;omega)] at h0
  exact h H enc W n _ _ h0
 |cons ho hc h r ih=>
  intro H enc W n cs xs hl hx ht
  simp only[GT.cells] at hl
  have h0:=ht 0 _ rfl
  rw[ho,hc,qZ5 (by simp at hx;omega)] at h0
  obtain ⟨v1,r1,i1⟩:=h H enc W n _ _ h0
  cases xs with
  |nil=>simp at hx
  |cons y ys=>
   obtain ⟨v2,r2,i2⟩:=ih (cs:=cs) (xs:=ys) (by omega) (by simpa using hx) fun i f hf=>by
    have:=ht (i+1) f (by simpa using hf)
    simpa using this
   refine ⟨(v1,v2),?_,i1,i2⟩
   simp only[RelC]
   refine ⟨_,_,?_,r1,r2⟩
   rw[<-List.drop_drop,List.take_append_drop]
theorem U7 {T:GT} {t:TypeId} {fs:Array Field} (ht:Tryz.prog.underlying t=some (.struct fs)) (hc:Tryz.prog.cellsOf t=T.cells) (h:RdFs T fs.toList 0):Dz T t:=fun H enc W fuel cs x hx=>by
 obtain ⟨xs,n,_,_,h1,h2,h3⟩:=DataW.trod_struct ht hx
 have:=Ve h (enc:=enc) (W:=W) (n:=n) (cs:=cs) (xs:=xs) (by omega) (by simpa using h2) fun i f hf=>h3 i f (by simpa using hf)
 simpa using this
theorem Sr {T:GT} {t:TypeId} (h:Dz T t) {H:Type} {enc:TypeId×Value->H} {W:World} {v:Value} {d:DataW H} {p:List MemPlace} (hd:DataW.Trod enc Tryz.prog W 0 (fun _=>true) true t v d p)
 (hT:T.isAgg=false) (hv:v.cells.toList=[v]):∃ x:T.ty,EF T x/\TV (Ad W) (fun B=>B < W.heap.size) T x v:=by
 obtain ⟨fuel,hf⟩:=hd
 obtain ⟨x,hx,hi⟩:=h H enc W fuel _ _ hf
 refine ⟨x,hi,?_⟩
 unfold TV
 rw[if_neg (by rw[hT];decide)]
 rw[hv] at hx;exact hx
end Go.AM.Num
end
section
namespace Go.AM.Num
open Go.Proofs Go.Proofs.YtppjkoefhkcjfaaGreatDoor Go.RowKit Go.ChangeShapes Go.WideShapes Go.ChangeAt
theorem Lr:Dz (.int .i64) 3:=AAP Tryz.underlying3
theorem AAY:Dz Al 28:=U7 Tryz.underlying28 (by kernel_rfl) (.cons rfl (by kernel_rfl) Lr (.cons rfl (by kernel_rfl) Lr (.cons rfl (by kernel_rfl) (Qs Tryz.underlying9) (.cons rfl (by kernel_rfl) (Qs Tryz.underlying9) (.one rfl (by kernel_rfl) Lr)))))
theorem Tm:Dz (.sl Al) 30:=ACi Tryz.underlying30 (by kernel_rfl) (by decide) AAY
end Go.AM.Num
end
section
namespace Go.AM.Num
theorem ACs (a:List Aa) (ha:EF (.sl Al) a) (b:List Aa) (hb:EF (.sl Al) b) (k:List Int) (hk:IL k) (l:List Int) (hl:IL l) (m:List Int) (hm:IL m):JG a b k l m=some ((true,()),()):=AFb a b k l m
end Go.AM.Num
end
