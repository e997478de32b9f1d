/- Law ValueFunctions: a part of its proof. No conditions. -/
import Derived.Test.YtcpdjngcofhljaaGreatDoorValueFunctions7
import Derived.Test.YtcpdjngcofhljaaGreatDoorValueFunctions3
import Derived.Test.YtcpdjngcofhljaaGreatDoorValueFunctions5
import Derived.Test.YtcpdjngcofhljaaGreatDoorRows
import Derived.Shelf.Vars
import Derived.Lib.LaidTab
import Derived.ProofKit
import Derived.MakeChecks
import Derived.OpenShut
import Derived.Lib.Strings
import Derived.SliceStrings
import Derived.SizedLaws
import Derived.Test.YtcpdjngcofhljaaGreatDoorCards
import Derived.Test.YtcpdjngcofhljaaGreatDoorTie
import Derived.ShutString
import Derived.ChangeOld
import Derived.Below
import Derived.LaidMore
import Derived.Deep.DeepHandedRow
import Derived.Deep.DeepWitnessRowRef
import GoSem.PinnedTables
set_option linter.unusedSimpArgs false
set_option linter.unusedVariables false
section
namespace Go.AM.Num
open Tf
section
variable {VS:List Vr} (T:GS) (F:Lo) (I:GS) (Ar:GS) (At:Lo)
theorem ALx {VS:List Vr} {N D:Nat} {t:List Ac} (h:Ba VS [2] N D t) {o r:Int} (ho:o=16\/o=17) (hr:0 < r/\r < 1000):Ba VS [2] (N+1) (D+1) ((o,0,[],ti r,1)::t):=by
 have hsg:CH (ti r)=1:=by
  unfold CH ti
  rw[Ct]
  simp only[Rat.num_intCast]
  exact Int.sign_eq_one_of_pos hr.1
 have hl:(ti r).length<=73:=by
  have:=BH (r:Rat)
  have:=Ho (n:=r) (by omega)
  unfold ti;omega
 refine h.node (n:=(o,0,[],ti r,1)) ?_ ?_ rfl ?_ (by omega) hl (fun e=>?_) ?_
 ·unfold Bq
  simp only[nOp,A3,Bo,Bg]
  rw[if_neg (by omega),if_neg (by omega),if_pos ho,FT,hsg]
  rfl
 ·rcases ho with rfl | rfl<;>rfl
 ·rcases ho with rfl | rfl<;>simp[AQ,nOp]
 ·simp only[nOp] at e;omega
 ·simp only[nOp];omega
theorem AMb (hV:VSok VS) (hl:VS.length<=1000) {d N D:Nat} (hd:d<=1000) (hN:5<=N/\N<=10000) (hD:3<=D) (hT:TOk VS T d N D) (hI:TOk VS I (d+1) (1+3 * N) (D+1)):Rd VS (Ox T F I Ar At) (d+1) (1+3 * N) (D+1):=by
 intro c s hc hs
 have hs':1<=s/\s<=4:=by omega
 have hw:qI (((d+1:Nat):Int) - 1)=(d:Int):=by rw[Aw];omega
 have hvar:∀ c,CI c->CJ VS c s (1+3 * N) (D+1) ((DS c s VS).bind fun r=>some ((r.1.1,()),r.2.1,())):=fun c hc=>((MJ hV hl hc hs').eta).mono (by omega) (by omega)
 have hnum:∀ c,CI c->CJ VS c s (1+3 * N) (D+1) ((EB c s).bind fun r=>(CD s r.1.1).bind fun r'=>some ((r'.1.1,()),r.2.1,())):=fun c hc=>by
  obtain ⟨a,c',h1,h2,h3,h4⟩:=Yp hc hs (VS:=VS)
  rw[h1,Ad,h3,Ad]
  exact ⟨_,c',rfl,h2,h4.mono (by omega) (by omega)⟩
 unfold Ox
 obtain ⟨r,c1,n1,n2,n3,n4⟩:=Bw hc (n:=10) (by omega)
 rw[n1,Ad]
 simp only[hw]
 by_cases h3:r < 3
 ·rw[As h3]
  obtain ⟨t1,c2,a1,a2,a3⟩:=hT _ s n2 hs'
  obtain ⟨r2,c3,m1,m2,m3,m4⟩:=Bw a2 (n:=3) (by omega)
  obtain ⟨m,rfl⟩:∃ m:Nat,r2=m:=⟨r2.toNat,by omega⟩
  obtain ⟨c4,l',e1,e2,e3,e4⟩:=ACR T F I Ar At hd hN.2 hT hs' m 1 c3 [t1] m2 (by omega) rfl (by rw[BV,Nat.one_mul];exact a3)
  rw[a1,Ad,m1,Ad]
  simp only
  rw[e1]
  simp only[Ad,AX,Ap]
  have hb:(1+m) * N<=3 * N:=Nat.mul_le_mul_right N (by omega)
  obtain ⟨t,o1,o2⟩:=EQ (o:=14) (s:=s) (kids:=l') e4 (by rw[e3,List.length_replicate]) (by omega) (by omega) (by omega) (by omega) (by rw[List.length_replicate];exact qZ10 (show (1:Int)<=((1+m:Nat):Int) by omega)) (by
   have e:(List.replicate (1+m) s).getD 0 0=s:=by rw[Nat.add_comm];simp[List.replicate_succ]
   have hal:∀ x∈List.replicate (1+m) s,x=s:=fun x hx=>(List.mem_replicate.1 hx).2
   unfold AQ
   simp only[nOp]
   rw[if_neg (by omega),if_neg (by omega),if_neg (by omega),if_neg (by omega),if_neg (by omega),if_pos trivial,e,if_pos ⟨hs,hal⟩]) (by omega)
  rw[o1,Ad]
  exact ⟨t,c4,rfl,e2,o2.mono (by omega) (by omega)⟩
 rw[Ax h3]
 by_cases h5:r < 5
 ·rw[As h5]
  obtain ⟨a,c2,k1,k2,k3,k4⟩:=Yp n2 hs (VS:=VS)
  obtain ⟨t1,c3,a1,a2,a3⟩:=hT _ s k2 hs'
  rw[k1,Ad,k3,Ad,a1,Ad]
  obtain ⟨t,o1,o2⟩:=EQ (o:=15) (s:=s) (kids:=[[((3:Int),s,([]:qBs),a,(0:Int))],t1]) (ss:=[s]++[s]) (by rw[Ce];exact (k4.mono (Nat.le_refl _) (show 1<=D by omega)).app a3) rfl (by simp) (by omega) (by omega) (by omega) rfl (by simp[AQ,nOp,hs]) (by omega)
  rw[o1,Ad]
  exact ⟨t,c3,rfl,a2,o2.mono (by omega) (by omega)⟩
 rw[Ax h5]
 by_cases h5':r=5
 ·rw[Aq h5']
  exact (hI _ s n2 hs').eta
 rw[Ag h5']
 by_cases h6:r=6
 ·rw[Aq h6]
  by_cases h2:s=2
  ·rw[Aq h2]
   obtain ⟨r2,c2,m1,m2,m3,m4⟩:=Bw n2 (n:=2) (by omega)
   obtain ⟨r3,c3,k1,k2,k3,k4⟩:=Bw m2 (n:=5) (by omega)
   obtain ⟨t1,c4,a1,a2,a3⟩:=hT _ s k2 hs'
   rw[m1,Ad]
   simp only
   rw[k1,Ad]
   simp only
   rw[Aw (x:=1+r3) (by omega),Aw (x:=16+r2) (by omega),H8 (show D6 (1+r3) from ⟨by omega,by omega⟩),Ad,a1,Ad]
   have hj:=Ia (n:=((16:Int)+r2,(0:Int),([]:qBs),An ((1+r3:Int):Rat),(0:Int))) (kids:=[t1]) (by simp) (by rw[BV];have:=a3.len;omega)
   rw[BV] at hj
   simp only
   rw[hj,Ad]
   rw[h2] at a3 ⊢
   exact ⟨_,c4,rfl,a2,(ALx a3 (o:=16+r2) (r:=1+r3) (by omega) (by omega)).mono (by omega) (by omega)⟩
  ·rw[Ag h2,Ag,Ag]
   exact hvar _ n2
 rw[Ag h6]
 by_cases h7:r=7
 ·rw[Aq h7]
  by_cases h2:s=2
  ·rw[Aq h2]
   obtain ⟨t1,c2,a1,a2,a3⟩:=hT _ 4 n2 (by omega)
   obtain ⟨t2,c3,b1,b2,b3⟩:=hT _ s a2 hs'
   rw[a1,Ad,b1,Ad]
   rw[h2] at b3 ⊢
   obtain ⟨t,o1,o2⟩:=EQ (o:=18) (s:=2) (kids:=[t1,t2]) (ss:=[4]++[2]) (by rw[Ce];exact a3.app b3) rfl (by simp) (by omega) (by omega) (by omega) rfl (by simp[AQ,nOp]) (by omega)
   rw[o1,Ad]
   exact ⟨t,c3,rfl,b2,o2.mono (by omega) (by omega)⟩
  ·rw[Ag h2,Ag]
   exact hvar _ n2
 rw[Ag h7]
 by_cases h8:r=8
 ·rw[Aq h8]
  exact hnum _ n2
 ·rw[Ag h8]
  exact hvar _ n2
theorem Xs (c:List Int×Int):M7 c=some ((decide (c.2 < (c.1.length:Int)),()),(c,())):=rfl
theorem ALk {d N D:Nat} (hd:d<=1000) (hN:5<=N/\N<=10000) (hD:3<=D) (hF:Ep VS F d N D) (hI:TOk VS I (d+1) (1+3 * N) (D+1)) (hA0:Ep VS At 0 11 4) (hA:Ep VS At d (1+3 * N) (D+1)):Ep VS (Jv T F I Ar At) (d+1) (1+3 * N) (D+1):=by
 intro c hc
 have hw:qI (((d+1:Nat):Int) - 1)=(d:Int):=by rw[Aw];omega
 unfold Jv
 rw[Ax,Xs,Ad]
 by_cases hlf:¬ c.2 < (c.1.length:Int)
 ·rw[qZ9 hlf]
  simp only[qY1,Ap]
  exact ((hA0 _ hc).eta).mono (by omega) (by omega)
 rw[qZ10 (Decidable.not_not.1 hlf)]
 simp only[qY2,AA]
 obtain ⟨r,c1,n1,n2,n3,n4⟩:=Bw hc (n:=12) (by omega)
 rw[n1,Ad]
 simp only[hw]
 have hnot:CJ VS c 1 (1+3 * N) (D+1) ((F c1 (d:Int) VS).bind fun r5=>(B4 6 ([r5.1.1]:List (List Ac))).bind fun r6=>some ((r6.1.1,()),r5.2.1,())):=by
  obtain ⟨t1,c2,a1,a2,a3⟩:=hF _ n2
  rw[a1,Ad]
  obtain ⟨t,o1,o2⟩:=EQ (o:=6) (s:=1) (kids:=[t1]) (ss:=[1]) (by rw[BV];exact a3) rfl (by simp) (by omega) (by omega) (by omega) rfl (by simp[AQ,nOp]) (by omega)
  rw[o1,Ad]
  exact ⟨t,c2,rfl,a2,o2.mono (by omega) (by omega)⟩
 have htwo:∀ o:Int,o=9\/o=11->CJ VS c 1 (1+3 * N) (D+1) ((F c1 (d:Int) VS).bind fun r5=>(F r5.2.1 (d:Int) VS).bind fun r6=>(B4 o ([r5.1.1,r6.1.1]:List (List Ac))).bind fun r7=>some ((r7.1.1,()),r6.2.1,())):=by
  intro o ho
  obtain ⟨t1,c2,a1,a2,a3⟩:=hF _ n2
  obtain ⟨t2,c3,b1,b2,b3⟩:=hF _ a2
  rw[a1,Ad,b1,Ad]
  obtain ⟨t,o1,o2⟩:=EQ (o:=o) (s:=1) (kids:=[t1,t2]) (ss:=[1]++[1]) (by rw[Ce];exact a3.app b3) rfl (by simp) (by omega) (by omega) (by omega) (by rcases ho with rfl | rfl<;>rfl) (by rcases ho with rfl | rfl<;>simp[AQ,nOp]) (by omega)
  rw[o1,Ad]
  exact ⟨t,c3,rfl,b2,o2.mono (by omega) (by omega)⟩
 have hand:CJ VS c 1 (1+3 * N) (D+1) ((AW c1 4).bind fun r9=>(Am (F6 T F I Ar At) (r9.2.1,((d+1:Nat):Int),VS,([]:List (List Ac)),r9.1.1,())).bind fun y10=>
  cond (Ex.same y10.1 (Ex.exit 1)) ((AW y10.2.1 2).bind fun r11=>(B4 (qI ((7:Int)+r11.1.1)) y10.2.2.2.2.1).bind fun r12=>some ((r12.1.1,()),r11.2.1,())) none):=by
  obtain ⟨r2,c2,m1,m2,m3,m4⟩:=Bw n2 (n:=4) (by omega)
  obtain ⟨m,rfl⟩:∃ m:Nat,r2=m:=⟨r2.toNat,by omega⟩
  obtain ⟨c3,l',e1,e2,e3,e4⟩:=AIW T F I Ar At hd hN.2 hF m 0 c2 [] m2 (by omega) rfl (by rw[Nat.zero_mul];exact (Ba.nil VS).mono (Nat.le_refl _) (Nat.zero_le _))
  obtain ⟨r3,c4,k1,k2,k3,k4⟩:=Bw e2 (n:=2) (by omega)
  rw[m1,Ad]
  simp only
  rw[e1]
  simp only[Ad,AX,Ap]
  rw[k1,Ad]
  simp only
  rw[Aw]
  have hb:(0+m) * N<=3 * N:=Nat.mul_le_mul_right N (by omega)
  have hal:∀ x∈List.replicate (0+m) (1:Int),x=1:=fun x hx=>(List.mem_replicate.1 hx).2
  obtain ⟨t,o1,o2⟩:=EQ (o:=7+r3) (s:=1) (kids:=l') e4 (by rw[e3,List.length_replicate]) (by omega) (by omega) (by omega) (by omega) (by
   have:r3=0\/r3=1:=by omega
   rw[List.length_replicate]
   rcases this with rfl | rfl
   ·exact qZ10 (show (0:Int)<=((0+m:Nat):Int) by omega)
   ·exact qZ10 (show (0:Int)<=((0+m:Nat):Int) by omega)) (by
   unfold AQ
   simp only[nOp]
   rw[if_neg (by omega),if_pos (by omega),if_pos hal]) (by omega)
  rw[o1,Ad]
  exact ⟨t,c4,rfl,k2,o2.mono (by omega) (by omega)⟩
 by_cases h0:r=0;· rw[Aq h0];exact hnot
 rw[Ag h0]
 by_cases h1:r=1;· rw[Aq h1];exact hnot
 rw[Ag h1]
 by_cases h2:r=2;· rw[Aq h2];exact hand
 rw[Ag h2]
 by_cases h3:r=3;· rw[Aq h3];exact hand
 rw[Ag h3]
 by_cases h4:r=4;· rw[Aq h4];exact hand
 rw[Ag h4]
 by_cases h5:r=5;· rw[Aq h5];exact hand
 rw[Ag h5]
 by_cases h6:r=6;· rw[Aq h6];exact htwo 9 (.inl rfl)
 rw[Ag h6]
 by_cases h7:r=7;· rw[Aq h7];exact (hI _ 1 n2 (by omega)).eta
 rw[Ag h7]
 by_cases h8:r=8;· rw[Aq h8];exact htwo 11 (.inr rfl)
 rw[Ag h8]
 exact (hA _ n2).eta
theorem ACx (hV:VSok VS) (hl:VS.length<=1000) {d N D:Nat} (hd:d<=1000) (hN:5<=N/\N<=10000) (hD:3<=D) (hT:TOk VS T d N D) (hF:Ep VS F (d+1) (1+3 * N) (D+1)) (hI:TOk VS I (d+1) (1+3 * N) (D+1)) (hA:Rd VS Ar (d+1) (1+3 * N) (D+1)):TOk VS (Iw T F I Ar At) (d+1) (1+3 * N) (D+1):=by
 intro c s hc hs
 have hw:qI (((d+1:Nat):Int) - 1)=(d:Int):=by rw[Aw];omega
 unfold Iw
 rw[Ax,Xs,Ad]
 by_cases hlf:¬ c.2 < (c.1.length:Int)
 ·rw[qZ9 hlf]
  simp only[qY1,Ap]
  exact (UU hc hs hV hl).mono (by omega) (by omega)
 rw[qZ10 (Decidable.not_not.1 hlf)]
 simp only[qY2,AA]
 by_cases h1:s=1
 ·rw[Aq h1,h1];exact (hF _ hc).eta
 rw[Ag h1]
 by_cases h4:s=4
 ·rw[Aq h4]
  obtain ⟨r,c1,n1,n2,n3,n4⟩:=Bw hc (n:=5) (by omega)
  rw[n1,Ad]
  simp only[hw]
  have hst:CJ VS c s (1+3 * N) (D+1) ((T c1 4 (d:Int) VS).bind fun r14=>(T r14.2.1 2 (d:Int) VS).bind fun r15=>(T r15.2.1 2 (d:Int) VS).bind fun r16=>(B4 19 ([r14.1.1,r15.1.1,r16.1.1]:List (List Ac))).bind fun r17=>some ((r17.1.1,()),r16.2.1,())):=by
   obtain ⟨t1,c2,a1,a2,a3⟩:=hT _ 4 n2 (by omega)
   obtain ⟨t2,c3,b1,b2,b3⟩:=hT _ 2 a2 (by omega)
   obtain ⟨t3,c4,e1,e2,e3⟩:=hT _ 2 b2 (by omega)
   rw[a1,Ad,b1,Ad,e1,Ad,h4]
   obtain ⟨t,o1,o2⟩:=EQ (o:=19) (s:=4) (kids:=[t1,t2,t3]) (ss:=[4]++[2]++[2]) (by rw[VB];exact (a3.app b3).app e3) rfl (by simp) (by omega) (by omega) (by omega) rfl (by simp[AQ,nOp]) (by omega)
   rw[o1,Ad]
   exact ⟨t,c4,rfl,e2,o2.mono (by omega) (by omega)⟩
  by_cases k0:r=0
  ·rw[Aq k0]
   obtain ⟨t1,c2,a1,a2,a3⟩:=hT _ 2 n2 (by omega)
   rw[a1,Ad,h4]
   obtain ⟨t,o1,o2⟩:=EQ (o:=20) (s:=4) (kids:=[t1]) (ss:=[2]) (by rw[BV];exact a3) rfl (by simp) (by omega) (by omega) (by omega) rfl (by simp[AQ,nOp]) (by omega)
   rw[o1,Ad]
   exact ⟨t,c2,rfl,a2,o2.mono (by omega) (by omega)⟩
  rw[Ag k0]
  by_cases k1:r=1;· rw[Aq k1];exact hst
  rw[Ag k1]
  by_cases k2:r=2;· rw[Aq k2];exact hst
  rw[Ag k2]
  by_cases k3:r=3;· rw[Aq k3];exact (hI _ s n2 hs).eta
  rw[Ag k3]
  exact ((MJ hV hl n2 hs).eta).mono (by omega) (by omega)
 rw[Ag h4]
 exact (hA _ s hc (by omega)).eta
end
def gB:Nat->Nat
 |0=>11
 |d+1=>1+3 * gB d
theorem ABY (d:Nat):11<=gB d:=by
 induction d with
 |zero=>exact Nat.le_refl _
 |succ d ih=>simp only[gB];omega
theorem ACW:∀ {d:Nat},d<=6->gB d<=10000:=by
 intro d h
 have:d=0\/d=1\/d=2\/d=3\/d=4\/d=5\/d=6:=by omega
 rcases this with rfl | rfl | rfl | rfl | rfl | rfl | rfl<;>decide
theorem AIv {VS:List Vr} (hV:VSok VS) (hl:VS.length<=1000):∀ d,d<=5->∀ n,3 * d+3<=n->TOk VS (Cu n) d (gB d) (d+4)/\Ep VS (CY n) d (gB d) (d+4):=by
 have hT0:∀ n,1<=n->TOk VS (Cu n) 0 5 3:=by
  intro n hn
  obtain ⟨m,rfl⟩:∃ m,n=m+1:=⟨n - 1,by omega⟩
  exact T0 (Cu m) (CY m) (Df m) (C_ m) (C9 m) hV hl
 have hA0:∀ n,2<=n->Ep VS (C9 n) 0 11 4:=by
  intro n hn
  obtain ⟨m,rfl⟩:∃ m,n=m+1:=⟨n - 1,by omega⟩
  exact TS (Cu m) (CY m) (Df m) (C_ m) (C9 m) hV hl (by omega) (hT0 m (by omega))
 intro d
 induction d with
 |zero=>
  intro _ n hn
  refine ⟨fun c s hc hs=>(hT0 n (by omega) c s hc hs).mono (by decide) (by omega),?_⟩
  obtain ⟨m,rfl⟩:∃ m,n=m+1:=⟨n - 1,by omega⟩
  intro c hc
  have e:CY (m+1)=Jv (Cu m) (CY m) (Df m) (C_ m) (C9 m):=rfl
  rw[e]
  unfold Jv
  rw[As]
  exact (hA0 m (by omega) c hc).eta
 |succ d ih=>
  intro hd n hn
  have ih:=ih (by omega)
  have hN:=ABY d
  have hN':=ACW (d:=d) (by omega)
  have hI:∀ m,3 * d+4<=m->TOk VS (Df m) (d+1) (1+3 * gB d) (d+4+1):=by
   intro m hm
   obtain ⟨k,rfl⟩:∃ k,m=k+1:=⟨m - 1,by omega⟩
   obtain ⟨i1,i2⟩:=ih k (by omega)
   exact ZZ (Cu k) (CY k) (Df k) (C_ k) (C9 k) (by omega) (by omega) i1 i2
  have hAt:∀ m,3 * d+4<=m->Ep VS (C9 m) d (1+3 * gB d) (d+4+1):=by
   intro m hm
   obtain ⟨k,rfl⟩:∃ k,m=k+1:=⟨m - 1,by omega⟩
   obtain ⟨i1,i2⟩:=ih k (by omega)
   intro c hc
   exact (TS (Cu k) (CY k) (Df k) (C_ k) (C9 k) hV hl (by omega) i1 c hc).mono (by omega) (by omega)
  have hAr:∀ m,3 * d+5<=m->Rd VS (C_ m) (d+1) (1+3 * gB d) (d+4+1):=by
   intro m hm
   obtain ⟨k,rfl⟩:∃ k,m=k+1:=⟨m - 1,by omega⟩
   obtain ⟨i1,i2⟩:=ih k (by omega)
   exact AMb (Cu k) (CY k) (Df k) (C_ k) (C9 k) hV hl (by omega) (by omega) (by omega) i1 (hI k (by omega))
  have hFo:∀ m,3 * d+5<=m->Ep VS (CY m) (d+1) (1+3 * gB d) (d+4+1):=by
   intro m hm
   obtain ⟨k,rfl⟩:∃ k,m=k+1:=⟨m - 1,by omega⟩
   obtain ⟨i1,i2⟩:=ih k (by omega)
   exact ALk (Cu k) (CY k) (Df k) (C_ k) (C9 k) (by omega) (by omega) (by omega) i2 (hI k (by omega)) (hA0 k (by omega)) (hAt k (by omega))
  have hTe:∀ m,3 * d+6<=m->TOk VS (Cu m) (d+1) (1+3 * gB d) (d+4+1):=by
   intro m hm
   obtain ⟨k,rfl⟩:∃ k,m=k+1:=⟨m - 1,by omega⟩
   obtain ⟨i1,i2⟩:=ih k (by omega)
   exact ACx (Cu k) (CY k) (Df k) (C_ k) (C9 k) hV hl (by omega) (by omega) (by omega) i1 (hFo k (by omega)) (hI k (by omega)) (hAr k (by omega))
  have e:d+4+1=d+1+4:=by omega
  rw[e] at hTe hFo
  exact ⟨hTe n (by omega),hFo n (by omega)⟩
theorem Nf {v:SV} (h:match v with
 |.b _=>True
 |.z n=>(ti n).length<=73
 |.q r=>(An r).length<=73
 |.a d P=>Sm 73 d P/\P.length<=75):SmallV (encS v):=by
 cases v with
 |b x=>exact ⟨⟨by simp[encS],fun s hs=>by simp[encS] at hs,fun s hs=>by simp[encS] at hs,by simp[encS]⟩,by simp[encS]⟩
 |z n=>exact ⟨⟨h,fun s hs=>by simp[encS] at hs,fun s hs=>by simp[encS] at hs,by simp[encS]⟩,by simp[encS]⟩
 |q r=>exact ⟨⟨h,fun s hs=>by simp[encS] at hs,fun s hs=>by simp[encS] at hs,by simp[encS]⟩,by simp[encS]⟩
 |a d P=>exact ⟨h.1.short,by simp only[encS];rw[Bj];exact h.2⟩
theorem AHR {c:List Int×Int} (hc:CI c) {s:Int} (hs:1<=s/\s<=4):∃ v c',I9 c s=some ((encS v,()),(c',()))/\CI c'/\Ay v=s/\Cw v/\SmallV (encS v):=by
 by_cases h4:s=4
 ·obtain ⟨d,P,c',h1,h2,h3,h5,h6⟩:=ACk hc
  rw[h4]
  exact ⟨.a d P,c',h1,h2,rfl,h3,Nf (v:=.a d P) ⟨⟨by have:=h5.num;omega,fun p hp=>⟨by have:=(h5.els p hp).1;omega,by have:=(h5.els p hp).2;omega⟩,h5.few⟩,by omega⟩⟩
 unfold I9
 by_cases h1:s=1
 ·obtain ⟨r,c',n1,n2,n3,n4⟩:=Bw hc (n:=2) (by omega)
  rw[Aq h1,n1,Ad,h1]
  exact ⟨.b (r==1),c',rfl,n2,rfl,trivial,Nf (v:=.b (r==1)) trivial⟩
 rw[Ag h1,Ag h4]
 unfold EB
 by_cases h2:s=2
 ·obtain ⟨z,c',e1,e2,e3⟩:=It hc
  rw[Aq h2,e1,Ad,Ad,h2]
  exact ⟨.z z,c',rfl,e2,rfl,trivial,Nf (v:=.z z) (show (ti z).length<=73 by omega)⟩
 ·obtain ⟨q,c',e1,e2,e3⟩:=T1 hc
  have h3:s=3:=by omega
  have hl:(An q).length<=73:=by have:=BH q;omega
  rw[Ag h2,e1,Ad,Ad,h3]
  exact ⟨.q q,c',rfl,e2,rfl,trivial,Nf (v:=.q q) hl⟩
theorem AAH {VS:List Vr} (hV:VSok VS) (hl:VS.length<=1000):∀ (m i:Nat) (c:List Int×Int) (out:List Ae),i+m=VS.length->CI c->out.length=i->(∀ j (hj:j < VS.length),j < i->∃ v,out[j]?=some (encS v)/\Ay v=VS[j].2/\Cw v/\SmallV (encS v))->
 ∃ c' out',Am Kj (c,VS,out,(i:Int),())=some (.exit 0,(c',VS,out',(VS.length:Int),()))/\CI c'/\out'.length=VS.length/\(∀ j (hj:j < VS.length),∃ v,out'[j]?=some (encS v)/\Ay v=VS[j].2/\Cw v/\SmallV (encS v)):=by
 intro m
 induction m with
 |zero=>
  intro i c out hi hc ho hP
  have:i=VS.length:=by omega
  refine ⟨c,out,AY (by unfold Kj;simp only;rw[Ax,this]) (by simp),hc,by omega,fun j hj=>hP j hj (by omega)⟩
 |succ m ih=>
  intro i c out hi hc ho hP
  have hil:i < VS.length:=by omega
  have hg:VS.getD i Cb=VS[i]:=by simp[qZ4,hil]
  have hs:=(hV.name _ (List.getElem_mem hil)).2
  obtain ⟨v,c1,h1,h2,h3,h4,h5⟩:=AHR hc hs
  obtain ⟨c',out',e1,e2,e3,e4⟩:=ih (i+1) c1 (out++[encS v]) (by omega) h2 (by simp[ho]) (fun j hj hji=>by
   by_cases e:j=i
   ·subst e
    exact ⟨v,by rw[qY9 (by omega),ho];simp,h3,h4,h5⟩
   ·obtain ⟨w,w1,w2⟩:=hP j hj (by omega)
    exact ⟨w,by rw[qY8 (by omega)];exact w1,w2⟩)
  refine ⟨c',out',?_,e2,e3,e4⟩
  rw[AZ (y:=(c1,VS,out++[encS v],((i+1:Nat):Int),())) (by
   unfold Kj
   simp only
   rw[As,Ak,Ab,Ab,qZ0,hg,h1,Ad,Ab (by simp[Av];omega),Aw]
   rfl)]
  exact e1
theorem ABj {VS:List Vr} {vals:List Ae} (hl:VS.length<=1000) (hv:vals.length=VS.length):∀ (m i:Nat) (out:List AN),i+m=VS.length->out.length=i->(∀ j (hj:j < VS.length) (hj':j < vals.length),j < i->out[j]?=some (VS[j].1,vals[j]))->
 ∃ out',Am KA (VS,vals,out,(i:Int),())=some (.exit 0,(VS,vals,out',(VS.length:Int),()))/\out'.length=VS.length/\(∀ j (hj:j < VS.length) (hj':j < vals.length),out'[j]?=some (VS[j].1,vals[j])):=by
 intro m
 induction m with
 |zero=>
  intro i out hi ho hP
  have:i=VS.length:=by omega
  exact ⟨out,AY (by unfold KA;simp only;rw[Ax,this]) (by simp),by omega,fun j hj hj'=>hP j hj hj' (by omega)⟩
 |succ m ih=>
  intro i out hi ho hP
  have hil:i < VS.length:=by omega
  have hil':i < vals.length:=by omega
  have hg:VS.getD i Cb=VS[i]:=by simp[qZ4,hil]
  have hg':vals.getD i zVal=vals[i]:=by simp[qZ4,hil']
  obtain ⟨out',e1,e2,e3⟩:=ih (i+1) (out++[(VS[i].1,vals[i])]) (by omega) (by simp[ho]) (fun j hj hj' hji=>by
   by_cases e:j=i
   ·subst e
    rw[qY9 (by omega),ho];simp
   ·rw[qY8 (by omega)];exact hP j hj hj' (by omega))
  refine ⟨out',?_,e2,e3⟩
  rw[AZ (y:=(VS,vals,out++[(VS[i].1,vals[i])],((i+1:Nat):Int),())) (by
   unfold KA
   simp only
   rw[As,Ak,Ab,Ab,Ak,Ab,Ab,qZ0,hg,hg',Ab (by simp[Av];omega),Aw]
   rfl)]
  exact e1
structure EnvOk (VS:List Vr) (env:List AN):Prop where
 len:env.length=VS.length
 val:∀ b∈env,AL b.2=true/\SmallV b.2
 all:∀ v∈VS,∃ x,CX env v.1=some x/\Ay x=v.2
theorem AEp {VS:List Vr} (hV:VSok VS) (hl:VS.length<=1000) {c:List Int×Int} (hc:CI c):∃ env c',OJ c VS=some ((env,()),(c',()))/\CI c'/\EnvOk VS env:=by
 obtain ⟨c',vals,e1,e2,e3,e4⟩:=AAH hV hl VS.length 0 c [] (by omega) hc rfl (fun j hj h=>by omega)
 obtain ⟨env,f1,f2,f3⟩:=ABj (vals:=vals) hl e3 VS.length 0 [] (by omega) rfl (fun j hj hj' h=>by omega)
 rw[show ((0:Nat):Int)=0 from rfl] at e1 f1
 refine ⟨env,c',?_,e2,f2,?_,?_⟩
 ·unfold OJ Q0 Qi
  rw[e1]
  simp only[Ad,AX,Ap]
  rw[f1]
  simp only[Ad,AX,Ap]
 ·intro b hb
  obtain ⟨j,hj⟩:=List.getElem?_of_mem hb
  have hjl:j < env.length:=(List.getElem?_eq_some_iff.1 hj).1
  have h1:=f3 j (by omega) (by omega)
  rw[hj] at h1
  obtain ⟨v,v1,v2,v3,v4⟩:=e4 j (by omega)
  rw[qZ5 (by omega)] at v1
  simp only[Option.some.injEq] at h1 v1
  rw[h1,v1]
  exact ⟨Ru v3,v4⟩
 ·intro v hv
  obtain ⟨i,hi⟩:=List.getElem?_of_mem hv
  obtain ⟨hil,hie⟩:=List.getElem?_eq_some_iff.1 hi
  have h1:=f3 i hil (by omega)
  unfold CX
  cases hf:env.find? (fun b=>decide (b.1=v.1)) with
  |none=>
   have:=List.find?_eq_none.1 hf _ (qY14 h1)
   simp only[decide_eq_true_eq] at this
   exact absurd (by rw[hie]) this
  |some b=>
   have hb:b.1=v.1:=by simpa using List.find?_some hf
   obtain ⟨j,hj⟩:=List.getElem?_of_mem (List.mem_of_find?_eq_some hf)
   have hjl:j < env.length:=(List.getElem?_eq_some_iff.1 hj).1
   have h2:=f3 j (by omega) (by omega)
   rw[hj] at h2
   obtain ⟨x,x1,x2,x3,x4⟩:=e4 j (by omega)
   rw[qZ5 (by omega)] at x1
   simp only[Option.some.injEq] at h2 x1
   have hn:VS[j].1=v.1:=by rw[h2] at hb;exact hb
   have:=hV.once _ (List.getElem_mem (show j < VS.length by omega)) v hv hn
   refine ⟨x,?_,by rw[x2,this]⟩
   rw[Option.bind_some,h2]
   simp only
   rw[x1,AMo x3]
def I6:List Vr:=[([120],2),([121],2),([122],3),([119],3),([112],1),([98],1),([97],4),([99],4)]
theorem We:Nr=some ((I6,()),()):=rfl
theorem Wa:VSok I6:=by
 refine ⟨?_,?_⟩
 ·decide
 ·decide
theorem Pd:I6.length<=1000:=by decide
theorem AC2 {c:List Int×Int} (hc:CI c) {s:Int} (hs:1<=s/\s<=4) {d:Nat} (hd:d<=5):CJ I6 c s (gB d) (d+4) (Cu BB c s (d:Int) I6):=by
 obtain ⟨f,hf1,hf2⟩:=O1
 rw[hf1]
 exact (AIv Wa Pd d hd f (by omega)).1 c s hc hs
theorem Ba.short {VS:List Vr} {ss:List Int} {N d:Nat} {l:List Ac} (h:Ba VS ss N d l):EY l:=by
 obtain ⟨K,hK⟩:=h
 exact hK.sh
theorem AFW {A:qBs->Option SV} {G:Ac->List SV->Int ⊕ SV}:∀ {f g:Tf} {vs ws:List SV},evF A G f=.inr vs->evF A G g=.inr ws->evF A G (f.app g)=.inr (vs++ws):=by
 intro f
 induction f with
 |nil=>intro g vs ws h1 h2;simp only[evF,Sum.inr.injEq] at h1;subst h1;exact h2
 |cons n k r _ ir=>
  intro g vs ws h1 h2
  rw[Qb] at h1
  have e:(cons n k r).app g=cons n k (r.app g):=rfl
  rw[e,Qb]
  cases he:evF A G (cons n k Tf.nil) with
  |inl e=>rw[he] at h1;cases h1
  |inr us=>
   rw[he] at h1
   cases hr:evF A G r with
   |inl e=>rw[hr] at h1;cases h1
   |inr rs=>
    rw[hr] at h1
    simp only[Sum.inr.injEq] at h1
    rw[ir hr h2]
    simp only
    rw[<-h1,qZ1]
def Dr (env:List AN) (ss:List Int) (N d:Nat) (l:List Ac) (vs:List SV):Prop:=∃ K,GenF I6 ss N d l K/\evF (CX env) G0 K=.inr vs
theorem Dr.mono {env:List AN} {ss:List Int} {N d M e:Nat} {l:List Ac} {vs:List SV} (h:Dr env ss N d l vs) (hN:N<=M) (hd:d<=e):Dr env ss M e l vs:=by
 obtain ⟨K,hK,hv⟩:=h
 exact ⟨K,⟨hK.flat,hK.wf,hK.srt,hK.nz,hK.sh,by have:=hK.size;omega,by have:=hK.dep;omega,hK.vars,hK.noap⟩,hv⟩
theorem Dr.nil (env:List AN):Dr env [] 0 0 [] []:=⟨Tf.nil,⟨rfl,rfl,rfl,by simp,fun _ h=>absurd h qY16,Nat.le_refl _,Nat.le_refl _,fun _ h=>absurd h qY16,fun _ h=>absurd h qY16⟩,rfl⟩
theorem Dr.app {env:List AN} {ss uu:List Int} {N M d:Nat} {l m:List Ac} {vs ws:List SV} (h:Dr env ss N d l vs) (g:Dr env uu M d m ws):Dr env (ss++uu) (N+M) d (l++m) (vs++ws):=by
 obtain ⟨K,hK,hv⟩:=h
 obtain ⟨L,hL,hw⟩:=g
 refine ⟨K.app L,⟨by rw[JK,hK.flat,hL.flat],by rw[KE,hK.wf,hL.wf];rfl,by rw[Ji,hK.srt,hL.srt],?_,?_,?_,?_,?_,?_⟩,AFW hv hw⟩
 ·rw[qZ7];exact fun h=>h.elim hK.nz hL.nz
 ·exact fun x hx=>(List.mem_append.1 hx).elim (hK.sh x) (hL.sh x)
 ·rw[MI];have:=hK.size;have:=hL.size;omega
 ·rw[Qm];have:=hK.dep;have:=hL.dep;omega
 ·exact fun x hx=>(List.mem_append.1 hx).elim (hK.vars x) (hL.vars x)
 ·exact fun x hx=>(List.mem_append.1 hx).elim (hK.noap x) (hL.noap x)
theorem Dr.node {env:List AN} {ss:List Int} {N d:Nat} {l:List Ac} {vs:List SV} (h:Dr env ss N d l vs) {n:Ac} {s:Int} (hf:Bq n=true) (hc:AH (nOp n) ss.length=true) (hk:A7 n=(ss.length:Int)) (hs:AQ n (l.getD 0 Az).1 ss=s) (hz:s≠0)
 (hnum:(Bg n).length<=73) (hv:nOp n≠4) (ha:nOp n≠5):Dr env [s] (N+1) (d+1) (n::l) [Br n vs]:=by
 obtain ⟨K,hK,hev⟩:=h
 have hl:K.len=ss.length:=by rw[<-DN,hK.srt]
 refine ⟨cons n K Tf.nil,⟨by simp[Tf.flat,hK.flat],CF.2 ⟨Gu.2 ⟨hf,by rw[hk];exact hc⟩,by rw[hl];exact hk,hK.wf,rfl⟩,?_,?_,?_,?_,?_,?_,?_⟩,?_⟩
 ·simp only[Tf.srt,hK.srt]
  rw[if_neg hK.nz,U4 hK.flat,hs]
 ·simp[Ne.symm hz]
 ·intro x hx
  rcases List.mem_cons.1 hx with rfl | hx
  ·exact hnum
  ·exact hK.sh x hx
 ·simp only[Tf.size];have:=hK.size;omega
 ·simp only[Tf.dep];have:=hK.dep;omega
 ·intro x hx
  rcases List.mem_cons.1 hx with rfl | hx
  ·exact fun h=>absurd h hv
  ·exact hK.vars x hx
 ·intro x hx
  rcases List.mem_cons.1 hx with rfl | hx
  ·exact ha
  ·exact hK.noap x hx
 ·simp only[evF,hev,E3]
  rw[if_neg hv,if_neg ha]
end Go.AM.Num
end
section
namespace Go.AM.Num
open Tf
noncomputable def Vq (s:Int) (q:Rat):qBs:=
 if s=2 then An q else if q.den=1 then An q++[46,48] else [40,47,32]++An ((q.num:Int):Rat)++[46,48,32]++dd q.den++[46,48,41]
noncomputable def AHl (s:Int) (q:Rat):qBs:=if q.num < 0 then [40,45,32]++Vq s (-q)++[41] else Vq s q
def VU (o:Int):qBs:=([[],[116,114,117,101],[102,97,108,115,101],[],[],[],[110,111,116],[97,110,100],[111,114],[61,62],[105,116,101],[61],[60,61],[60],[43],[42],[100,105,118],[109,111,100],[115,101,108,101,99,116],[115,116,111,114,101],[99,111,110,115,116]]:List qBs).getD o.toNat []
def ZA (n:Ac):qBs:=if nOp n=5 then Bo n else VU (nOp n)
noncomputable def AII (n:Ac) (ks:qBs):qBs:=
 if nOp n=1\/nOp n=2 then VU (nOp n) else if nOp n=3 then un (AHl (A3 n)) (Bg n) else if nOp n=4 then Bo n
 else [40]++ZA n++ks++(if Bg n=[] then [] else 32::Bg n)++[41]
noncomputable def sep:Tf->qBs
 |nil=>[]
 |cons n k r=>32::AII n (sep k)++sep r
end Go.AM.Num
end
section
namespace Go.AM.Num
def cI (a b:Int):Int:=if a < b then -1 else if a > b then 1 else 0
def cS (a b:qBs):Int:=if Gc a b then -1 else if !(Gc a b||a==b) then 1 else 0
def f5 (c:Int×Int×Int×Int×Int):Int:=if c.1≠0 then c.1 else if c.2.1≠0 then c.2.1 else if c.2.2.1≠0 then c.2.2.1 else if c.2.2.2.1≠0 then c.2.2.2.1 else c.2.2.2.2
def c5 (x y:Ac):Int×Int×Int×Int×Int:=(cI x.1 y.1,cI x.2.1 y.2.1,cS x.2.2.1 y.2.2.1,cS x.2.2.2.1 y.2.2.2.1,cI x.2.2.2.2 y.2.2.2.2)
end Go.AM.Num
end
section
namespace Go.AM.Num
open Tf
theorem Dr.op {env:List AN} {ss:List Int} {N d:Nat} {ts:List (List Ac)} {vs:List SV} {o s:Int} (h:Dr env ss N d ts.flatten vs) (hl:ts.length=ss.length) (h1:1<=o/\o<=20) (h':o≠3/\o≠4/\o≠5/\o≠16/\o≠17)
 (hc:AH o ss.length=true) (hs:AQ ((o,0,[],[],(ss.length:Int)):Ac) (ts.flatten.getD 0 Az).1 ss=s) (hz:s≠0):Dr env [s] (N+1) (d+1) ((o,0,[],[],(ts.length:Int))::ts.flatten) [Br (o,0,[],[],(ts.length:Int)) vs]:=by
 have e:((ts.length:Nat):Int)=(ss.length:Int):=by rw[hl]
 rw[e]
 exact h.node (Np h1 h') hc rfl hs hz (by simp[Bg]) h'.2.1 h'.2.2.1
structure SmI (f:Interp):Prop where
 args:∀ l∈f.2.1,(∀ v∈l,SmallV v)/\l.length<=1000
 res:∀ v∈f.2.2.1,SmallV v
 oth:SmallV f.2.2.2
 la:f.2.1.length<=1000
 lr:f.2.2.1.length<=1000
noncomputable def BR (f:Interp):Bool:=decide (f.2.1.length=f.2.2.1.length)&&(f.2.2.1.all AL&&(AL f.2.2.2&&f.2.1.all fun l=>l.all AL))
theorem DC {α:Type} {l:List α} {k:Nat} {d:α} (h:k < l.length):l.getD k d∈l:=by
 rw[qZ4,qZ5 h];exact List.getElem_mem h
theorem Tv {α β:Type} {d:α} {f:β} {st:(List α)×β×Int×Int×Int×Unit->Option (Ex×((List α)×β×Int×Int×Int×Unit))} {l:List α} {p:α->Bool}
 (hg:∀ k,k < l.length->st (l,f,0,(l.length:Int),(k:Int),())=some (if p (l.getD k d) then (.ret,(l,f,(k:Int),(l.length:Int),(k:Int),())) else (.normal,(l,f,0,(l.length:Int),((k+1:Nat):Int),()))))
 (he:st (l,f,0,(l.length:Int),(l.length:Int),())=some (.exit 0,(l,f,0,(l.length:Int),(l.length:Int),()))):∀ (m k:Nat),k+m=l.length->(∀ j,j < k->p (l.getD j d)=false)->
 ((∀ j,j < l.length->p (l.getD j d)=false)/\Am st (l,f,0,(l.length:Int),(k:Int),())=some (.exit 0,(l,f,0,(l.length:Int),(l.length:Int),())))\/
 ∃ i:Nat,i < l.length/\p (l.getD i d)=true/\(∀ j,j < i->p (l.getD j d)=false)/\Am st (l,f,0,(l.length:Int),(k:Int),())=some (.ret,(l,f,(i:Int),(l.length:Int),(i:Int),())):=by
 intro m
 induction m with
 |zero=>
  intro k hk hj
  obtain rfl:k=l.length:=by omega
  exact .inl ⟨hj,AY he (by simp)⟩
 |succ m ih=>
  intro k hk hj
  have h:=hg k (by omega)
  cases hp:p (l.getD k d) with
  |true=>
   rw[hp] at h
   exact .inr ⟨k,by omega,hp,hj,AY h (by simp)⟩
  |false=>
   rw[hp] at h
   have h:st (l,f,0,(l.length:Int),(k:Int),())=some (.normal,(l,f,0,(l.length:Int),((k+1:Nat):Int),())):=h
   rw[AZ h]
   exact ih (k+1) (by omega) fun j hj'=>by
    by_cases e:j=k
    ·rw[e];exact hp
    ·exact hj j (by omega)
theorem V0 {l:List Ae} (hs:∀ v∈l,SmallV v) (hl:l.length<=1000):Kp l=some ((l.all AL,()),()):=by
 have key:=Qe (st:=KP) (l:=l) (p:=fun v=>!AL v) (by omega) (fun k hk=>by
  have hm:l.getD k zVal∈l:=DC hk
  unfold KP P8
  simp only
  rw[As,Ak,Ab,Ab,qZ0,Pj (N:=73) (by omega) (hs _ hm).sh,Aw]
  simp only[Ad]
  cases AL (l.getD k zVal)<;>rfl) (by
  unfold KP
  simp only
  rw[Ax])
 have e:=Rv (fun v=>!AL v) l
 simp only[Bool.not_not] at e
 have e:l.all AL=!l.any fun v=>!AL v:=e
 rw[e]
 unfold Kp Qw O'
 rcases key with ⟨k1,k2⟩ | ⟨k1,k,k2⟩
 ·rw[k2,k1];rfl
 ·rw[k2,k1]
  simp only[Ad,Bk,Bl,Ap,AA]
  rw[qZ10 (by omega)]
theorem AEy {f:Interp} (h:SmI f):OH f.2.1 ()=some ((!f.2.1.all fun l=>l.all AL,()),()):=by
 have key:=Tv (st:=J0) (l:=f.2.1) (f:=()) (d:=([]:List Ae)) (p:=fun l=>!l.all AL) (fun k hk=>by
  have hm:f.2.1.getD k ([]:List Ae)∈f.2.1:=DC hk
  have hla:=h.la
  unfold J0 Qj
  simp only
  rw[As,Ak,Ab,Ab,qZ0,V0 (h.args _ hm).1 (h.args _ hm).2,Aw]
  simp only[Ad]
  cases (f.2.1.getD k ([]:List Ae)).all AL<;>rfl) (by
  unfold J0
  simp only
  rw[Ax]) f.2.1.length 0 (by omega) (fun j hj=>by omega)
 rw[show ((0:Nat):Int)=0 from rfl] at key
 unfold OH P0
 rcases key with ⟨k1,k2⟩ | ⟨k,k1,k2,_,k3⟩
 ·have e:(f.2.1.all fun l=>l.all AL)=true:=by
   rw[qY3]
   intro l hl
   obtain ⟨i,hi,rfl⟩:=List.mem_iff_getElem.1 hl
   have:=k1 i hi
   rw[qZ4,qZ5 hi] at this
   simpa using this
  rw[k2,e];rfl
 ·have e:(f.2.1.all fun l=>l.all AL)=false:=by
   cases hh:f.2.1.all fun l=>l.all AL with
   |false=>rfl
   |true=>
    have:=List.all_eq_true.1 hh _ (DC (d:=([]:List Ae)) k1)
    rw[this] at k2;cases k2
  rw[k3,e]
  simp only[Ad,Bk,Bl,Ap,AA]
  rw[qZ10 (by omega)]
  rfl
abbrev FN:=List (qBs×Interp)
theorem ADA {fns:List Interp} (hs:∀ f∈fns,SmI f) (hl:fns.length<=1000000000):∀ (m p:Nat) (out:FN),p+m=fns.length->(∀ f∈fns.take p,BR f=true)->(∀ nm,AK nm out=(fns.take p).find? fun f=>decide (f.1=nm))->
 ((¬ ∀ f∈fns,BR f=true)/\∃ x,Am Gb (([]:FN),false,out,fns,(fns.length:Int),(p:Int),())=some (.ret,(([]:FN),false,x)))\/
 ((∀ f∈fns,BR f=true)/\∃ out' x,(∀ nm,AK nm out'=fns.find? fun f=>decide (f.1=nm))/\Am Gb (([]:FN),false,out,fns,(fns.length:Int),(p:Int),())=some (.exit 0,(([]:FN),false,out',x))):=by
 intro m
 induction m with
 |zero=>
  intro p out hp hv ho
  have e:fns.take p=fns:=List.take_of_length_le (by omega)
  rw[e] at hv ho
  exact .inr ⟨hv,out,_,ho,AY (by unfold Gb;simp only;rw[Ax]) (by simp)⟩
 |succ m ih=>
  intro p out hp hv ho
  have hlt:p < fns.length:=by omega
  have hg:fns.getD p Cd=fns[p]:=by simp[qZ4,hlt]
  have hmem:fns[p]∈fns:=List.getElem_mem hlt
  have htk:fns.take (p+1)=fns.take p++[fns[p]]:=by rw[List.take_add_one,qZ5 hlt];rfl
  generalize fns[p]=b at hg hmem htk
  have hb:=hs b hmem
  have a1:=V0 hb.res hb.lr
  have a2:=Pj (N:=73) (by omega) hb.oth.sh
  have a3:=AEy hb
  have hbl:=hb.la
  have hbr:=hb.lr
  have bad:BR b=false->Gb (([]:FN),false,out,fns,(fns.length:Int),(p:Int),())=some (.ret,(([]:FN),false,out,fns,(fns.length:Int),(p:Int),())):=by
   intro hbv
   unfold Gb
   simp only
   rw[As,Ak,Ab,Ab,qZ0,hg]
   unfold BR at hbv
   by_cases e1:b.2.1.length=b.2.2.1.length
   ·rw[Bm,a1,Ad]
    rw[qZ10 e1,Bool.true_and] at hbv
    cases e2:b.2.2.1.all AL with
    |false=>rfl
    |true=>
     rw[e2,Bool.true_and] at hbv
     simp only[qY2,AA]
     rw[a2,Ad]
     cases e3:AL b.2.2.2 with
     |false=>rfl
     |true=>
      rw[e3,Bool.true_and] at hbv
      simp only[qY2,AA]
      rw[a3,Ad,hbv]
      rfl
   ·rw[Bu]
  by_cases hbv:BR b=false
  ·exact .inl ⟨fun h=>(by rw[h b hmem] at hbv;cases hbv),_,AY (bad hbv) (by simp)⟩
  rw[Bool.not_eq_false] at hbv
  have hv':∀ c∈fns.take (p+1),BR c=true:=by
   intro c hc
   rw[htk,qZ7,qZ8] at hc
   rcases hc with hc | rfl
   ·exact hv c hc
   ·exact hbv
  have hstep:∃ out',(∀ nm,AK nm out'=(fns.take (p+1)).find? fun f=>decide (f.1=nm))/\Gb (([]:FN),false,out,fns,(fns.length:Int),(p:Int),())=some (.normal,(([]:FN),false,out',fns,(fns.length:Int),((p+1:Nat):Int),())):=by
   unfold Gb
   simp only
   rw[As,Ak,Ab,Ab,qZ0,hg]
   unfold BR at hbv
   simp only[qY0,decide_eq_true_eq] at hbv
   obtain ⟨e1,e2,e3,e4⟩:=hbv
   rw[Bm,a1,Ad,e2,a2,Ad,e3,a3,Ad,e4,Aw]
   simp only[qY2,AA]
   have hob:=ho b.1
   cases hlk:AK b.1 out with
   |none=>
    simp only[Option.isSome_none,qY1,Ap]
    refine ⟨_,fun nm=>?_,rfl⟩
    rw[htk,List.find?_append]
    rw[hlk] at hob
    by_cases e:nm=b.1
    ·subst e
     rw[HP,<-hob]
     simp
    ·rw[HM e,ho nm]
     have:[b].find? (fun c=>decide (c.1=nm))=none:=by
      rw[List.find?_eq_none]
      intro c hc
      rw[qZ8] at hc
      subst hc
      simpa using fun h=>e h.symm
     rw[this]
     cases (fns.take p).find? (fun c=>decide (c.1=nm))<;>rfl
   |some v=>
    simp only[Option.isSome_some,qY2,AA]
    refine ⟨_,fun nm=>?_,rfl⟩
    rw[htk,List.find?_append,ho nm]
    cases hf:(fns.take p).find? (fun c=>decide (c.1=nm)) with
    |some c=>rfl
    |none=>
     have:[b].find? (fun c=>decide (c.1=nm))=none:=by
      rw[List.find?_eq_none]
      intro c hc
      rw[qZ8] at hc
      subst hc
      simp only[decide_eq_true_eq]
      intro h
      rw[hlk,h,hf] at hob
      cases hob
     rw[this]
     rfl
  obtain ⟨out',h1,h2⟩:=hstep
  rw[AZ h2]
  exact ih (p+1) out' (by omega) hv' h1
theorem TW {fns:List Interp} (hs:∀ f∈fns,SmI f) (hl:fns.length<=1000000000) :
 ((¬ ∀ f∈fns,BR f=true)/\LR fns=some (([],false,()),()))\/((∀ f∈fns,BR f=true)/\∃ out,(∀ nm,AK nm out=fns.find? fun f=>decide (f.1=nm))/\LR fns=some ((out,true,()),())):=by
 unfold LR
 rcases ADA hs hl fns.length 0 [] (by omega) (fun b hb=>by simp at hb) (fun nm=>by simp[AK]) with ⟨h1,x,h2⟩ | ⟨h1,out,x,h2,h3⟩
 ·rw[show ((0:Nat):Int)=0 from rfl] at h2
  rw[h2]
  simp only[Ad,Bk,Bl,Ap,AA]
  exact .inl ⟨h1,by first | rfl | trivial⟩
 ·rw[show ((0:Nat):Int)=0 from rfl] at h3
  rw[h3]
  simp only[Ad,AX,Ap]
  exact .inr ⟨h1,out,h2,rfl⟩
instance (priority:=low) decVal:DecidableEq Ae:=fun _ _=>inferInstance
theorem Sk {α:Type} {a b:List α} {d:α} {p:Nat->Bool} (h:a.length=b.length) (hp:∀ k,p k=true ↔ a.getD k d=b.getD k d) {i:Decidable (a=b)}:(List.range a.length).all p=@decide (a=b) i:=by
 rw[Bool.eq_iff_iff,qY3,decide_eq_true_iff]
 constructor
 ·intro hh
  refine List.ext_getElem h fun i h1 h2=>?_
  have:=(hp i).1 (hh i (List.mem_range.2 h1))
  simpa [qZ4,h1,h2] using this
 ·rintro rfl k _;exact (hp k).2 rfl
theorem YS {v:Ae} (h:SmallV v):v.2.2.2.1.length<=2000000000/\v.2.2.2.2.length<=2000000000:=⟨by have:=h.few;omega,by have:=h.sh.few;omega⟩
theorem AJB {a b:List Ae} (ha:∀ v∈a,SmallV v) (hl:a.length<=1000):Nx a b ()=some ((decide (a=b),()),()):=by
 unfold Nx
 by_cases h:a.length=b.length
 ·rw[Bm]
  have key:=CN (step:=Lm) (fun k=>(b,(),false,a,(a.length:Int),(k:Int),())) (fun k=>(b,(),false,a,(a.length:Int),(k:Int),())) a.length (E:=.exit 0) (B:=.ret) (by simp) (by simp) (fun k=>decide (a.getD k zVal=b.getD k zVal)) (fun k hk=>by
   unfold Lm
   simp only
   have hm:=YS (ha _ (DC (d:=zVal) hk))
   rw[As,Ak,Ab,Ab,Ak,Ab,Ab,qZ0,Lw hm.1 hm.2,Ad,Aw]
   cases decide (a.getD k zVal=b.getD k zVal)<;>rfl) (by
   unfold Lm
   simp only
   rw[Ax])
  rw[Sk (d:=zVal) h (fun k=>decide_eq_true_iff),show ((0:Nat):Int)=0 from rfl] at key
  rcases key with ⟨k1,k2⟩ | ⟨k1,k,k2⟩
  ·rw[k2,k1];rfl
  ·rw[k2,k1];rfl
 ·rw[Bu,qZ9 fun e=>h (by rw[e])]
theorem AEx {a b:List Ae} (ha:∀ v∈a,SmallV v) (hl:a.length<=1000):N0 a b=some ((decide (a=b),()),()):=by
 unfold N0
 by_cases h:a.length=b.length
 ·rw[Bm]
  have key:=CN (step:=KH) (fun k=>(a,b,false,(k:Int),())) (fun k=>(a,b,false,(k:Int),())) a.length (E:=.exit 0) (B:=.ret) (by simp) (by simp) (fun k=>decide (a.getD k zVal=b.getD k zVal)) (fun k hk=>by
   unfold KH
   simp only
   have hm:=YS (ha _ (DC (d:=zVal) hk))
   rw[As,Ak,Ab,Ab,Ak,Ab,Ab,qZ0,II hm.1 hm.2,Ad,Aw]
   cases decide (a.getD k zVal=b.getD k zVal)<;>rfl) (by
   unfold KH
   simp only
   rw[Ax])
  rw[Sk (d:=zVal) h (fun k=>decide_eq_true_iff),show ((0:Nat):Int)=0 from rfl] at key
  rcases key with ⟨k1,k2⟩ | ⟨k1,k,k2⟩
  ·rw[k2,k1];rfl
  ·rw[k2,k1];rfl
 ·rw[Bu,qZ9 fun e=>h (by rw[e])]
def atF (f:Interp) (w:List Ae):Ae:=match (f.2.1.zip f.2.2.1).find? fun p=>decide (p.1=w) with
 |some p=>p.2
 |none=>f.2.2.2
noncomputable def Eg (fns:List Interp) (n:Ac) (vs:List SV):Int ⊕ SV:=
 match fns.find? fun f=>decide (f.1=Bo n) with
 |none=>.inl 4
 |some f=>if (atF f (vs.map encS)).1=A3 n then (match Gw (atF f (vs.map encS)) with | some s=>.inr s | none=>.inl 1) else .inl 3
theorem PL {f:Interp} (hf:SmI f) (hv:BR f=true) (w:List Ae):SmallV (atF f w)/\AL (atF f w)=true:=by
 unfold BR at hv
 simp only[qY0,decide_eq_true_eq,qY3] at hv
 unfold atF
 split
 ·rename_i p hp
  have:=List.of_mem_zip (List.mem_of_find?_eq_some hp:(p.1,p.2)∈_)
  exact ⟨hf.res _ this.2,hv.2.1 _ this.2⟩
 ·exact ⟨hf.oth,hv.2.2.1⟩
theorem RA {env:List AN} {fns:List Interp} (hs:∀ b∈env,SmallV b.2) (hf:∀ f∈fns,SmI f) (hv:∀ f∈fns,BR f=true):EA (CX env) (Eg fns):=by
 have h0:=AGL hs
 refine ⟨h0.ok,fun n vs v h=>?_,fun n vs e h=>?_⟩
 ·unfold Eg at h
  split at h
  ·cases h
  ·rename_i f hff
   have hm:=List.mem_of_find?_eq_some hff
   obtain ⟨a1,a2⟩:=PL (hf f hm) (hv f hm) (vs.map encS)
   split at h
   ·rename_i e
    split at h
    ·rename_i s hd
     cases h
     obtain ⟨b1,b2⟩:=VC hd
     refine ⟨b1,Sy (by rw[<-b2];exact a1),?_⟩
     rw[<-e,b2];exact (FC _).symm
    ·cases h
   ·cases h
 ·unfold Eg at h
  split at h
  ·cases h;decide
  ·split at h
   ·split at h
    ·cases h
    ·cases h;decide
   ·cases h;decide
theorem AJy {f:Interp} (hl:f.2.1.length=f.2.2.1.length) {w:List Ae} {i:Nat} (hi:i < f.2.1.length) (he:f.2.1.getD i []=w) (hn:∀ j,j < i->f.2.1.getD j []≠w):atF f w=f.2.2.1.getD i zVal:=by
 have hi2:i < f.2.2.1.length:=by omega
 have hz:i < (f.2.1.zip f.2.2.1).length:=by rw[List.length_zip];omega
 have key:(f.2.1.zip f.2.2.1).find? (fun p=>decide (p.1=w))=some (f.2.1.zip f.2.2.1)[i]:=by
  rw[List.find?_eq_some_iff_getElem]
  refine ⟨?_,i,hz,rfl,fun j hj=>?_⟩
  ·rw[decide_eq_true_eq,List.getElem_zip]
   simpa [qZ4,hi] using he
  ·rw[List.getElem_zip]
   have:=hn j hj
   have hj':j < f.2.1.length:=by omega
   simpa [qZ4,hj'] using this
 unfold atF
 rw[key]
 simp[List.getElem_zip,qZ4,hi2]
theorem ADq {f:Interp} {w:List Ae} (hn:∀ j,j < f.2.1.length->f.2.1.getD j []≠w):atF f w=f.2.2.2:=by
 have key:(f.2.1.zip f.2.2.1).find? (fun p=>decide (p.1=w))=none:=by
  rw[List.find?_eq_none]
  intro p hp
  have hm:=(List.of_mem_zip (show (p.1,p.2)∈_ from hp)).1
  obtain ⟨j,hj,e⟩:=List.mem_iff_getElem.1 hm
  have:=hn j hj
  rw[<-e]
  simpa [qZ4,hj] using this
 unfold atF
 rw[key]
theorem ABq {env:List AN} {fns:List Interp} {out:Em} {fm:Fm} (hout:∀ nm,AK nm out=(CX env nm).map encS) (hfm:∀ nm,AK nm fm=fns.find? fun f=>decide (f.1=nm)) (hf:∀ f∈fns,SmI f) (hv:∀ f∈fns,BR f=true):EM (CX env) (Eg fns) out fm:=by
 refine ⟨hout,fun t p n vs B hB hB9=>?_⟩
 have hz:((0:Int),false,([]:qBs),([]:List qBs),([]:List qBs))=zVal:=rfl
 unfold MW Eg
 simp only[hfm,hz]
 cases hff:fns.find? fun f=>decide (f.1=Bo n) with
 |none=>
  rfl
 |some f=>
  have hm:=List.mem_of_find?_eq_some hff
  have hs:=hf f hm
  have hvf:=hv f hm
  obtain ⟨a1,a2⟩:=PL hs hvf (vs.map encS)
  obtain ⟨s,d1,d2,d3⟩:=LJ a2
  have hla:=hs.la
  have hlr:=hs.lr
  have hlen:f.2.1.length=f.2.2.1.length:=by unfold BR at hvf;simp only[qY0,decide_eq_true_eq] at hvf;exact hvf.1
  simp only[Option.isSome_some,qY2,AA,Option.getD_some]
  have key:=Tv (st:=J7) (l:=f.2.1) (f:=some (vs.map encS)) (d:=([]:List Ae)) (p:=fun l=>decide (l=vs.map encS)) (fun k hk=>by
   have hmk:f.2.1.getD k ([]:List Ae)∈f.2.1:=DC hk
   unfold J7 Q4
   simp only[Option.isSome_some,Option.getD_some]
   rw[As,Ak,Ab,Ab,DZ,qZ0,AJB (hs.args _ hmk).1 (hs.args _ hmk).2,Aw]
   simp only[Ad]
   cases decide (f.2.1.getD k ([]:List Ae)=vs.map encS)<;>rfl) (by
   unfold J7
   simp only
   rw[Ax]) f.2.1.length 0 (by omega) (fun j hj=>by omega)
  rw[show ((0:Nat):Int)=0 from rfl] at key
  have fin:∀ {v:Ae},atF f (vs.map encS)=v->cond (v.1 !=n.2.1) (some ((zVal,(3:Int),()),((t,p,out,fm),()))) (some ((v,(0:Int),()),((t,p,out,fm),()))) =
   some ((match (if (atF f (vs.map encS)).1=A3 n then (match Gw (atF f (vs.map encS)) with | some s=>Sum.inr s | none=>Sum.inl (1:Int)) else Sum.inl 3) with
    |.inl e=>(zVal,e,())
    |.inr v=>(encS v,0,())),((t,p,out,fm),())):=by
   rintro v rfl
   by_cases q:(atF f (vs.map encS)).1=A3 n
   ·rw[if_pos q,Bm (show _=n.2.1 from q),d1]
    simp only
    rw[<-d3]
   ·rw[if_neg q,Bu (show _≠n.2.1 from q)]
  unfold Q9
  rcases key with ⟨k1,k2⟩ | ⟨k,k1,k2,k3,k4⟩
  ·rw[k2]
   simp only[Ad,AX,Ap]
   rw[Ax]
   exact fin (ADq fun j hj=>by have:=k1 j hj;simpa using this)
  ·rw[k4]
   simp only[Ad,Bk,Bl,Ap,AA]
   rw[As,Ak,Ab,Ab,qZ0]
   exact fin (AJy hlen k1 (by simpa using k2) fun j hj=>by have:=k3 j hj;simpa using this)
theorem AH0 {f:Interp} (h:SmI f) (t2:Bool) (i:Nat) (hi:i < f.2.1.length):∃ y,Am Jl (f,t2,(i:Int),0,())=some y/\
 (((f.2.1.getD i ([]:List Ae)).all AL=true/\y.1=.exit 2/\y.2.1=f/\y.2.2.1=t2/\y.2.2.2.1=(i:Int))\/((f.2.1.getD i ([]:List Ae)).all AL=false/\y.1=.ret/\y.2.2.1=false)):=by
 have hm:f.2.1.getD i ([]:List Ae)∈f.2.1:=DC hi
 obtain ⟨ha,hl⟩:=h.args _ hm
 have key:=CN (step:=Jl) (fun k=>(f,t2,(i:Int),(k:Int),())) (fun k=>(f,false,(i:Int),(k:Int),())) (f.2.1.getD i ([]:List Ae)).length (E:=.exit 2) (B:=.ret) (by simp) (by simp) (fun k=>AL ((f.2.1.getD i ([]:List Ae)).getD k zVal)) (fun k hk=>by
  unfold Jl
  simp only
  have hla:=h.la
  rw[Ak,Ab,Ab,qZ0,As,Ak,Ab,Ab,Ak,Ab,Ab,qZ0,Hg (N:=73) (by omega) (ha _ (DC hk)).sh,Ad,Aw]
  cases AL ((f.2.1.getD i ([]:List Ae)).getD k zVal)<;>rfl) (by
  unfold Jl
  simp only
  rw[Ak,Ab,Ab,qZ0,Ax])
 rw[Fd _ zVal AL,show ((0:Nat):Int)=0 from rfl] at key
 rcases key with ⟨k1,k2⟩ | ⟨k1,k,k2⟩
 ·exact ⟨_,k2,.inl ⟨k1,rfl,rfl,rfl,rfl⟩⟩
 ·exact ⟨_,k2,.inr ⟨k1,rfl,rfl⟩⟩
theorem ALl {f:Interp} (h:SmI f):Nd f=some ((BR f,()),()):=by
 unfold Nd BR
 have hla:=h.la
 have hlr:=h.lr
 by_cases e1:f.2.1.length=f.2.2.1.length
 ·rw[Bm,qZ10 e1,Bool.true_and,Hg (N:=73) (by omega) h.oth.sh,Ad]
  cases e3:AL f.2.2.2 with
  |false=>simp
  |true=>
   simp only[qY2,AA,Bool.true_and]
   have key:∀ (m i:Nat),i+m=f.2.1.length->(∀ j,j < i->AL (f.2.2.1.getD j zVal)=true/\(f.2.1.getD j ([]:List Ae)).all AL=true)->∃ y,Am G4 (f,false,(i:Int),())=some y/\
    (((∀ j,j < f.2.1.length->AL (f.2.2.1.getD j zVal)=true/\(f.2.1.getD j ([]:List Ae)).all AL=true)/\y.1=.exit 0)\/((∃ j,j < f.2.1.length/\(AL (f.2.2.1.getD j zVal)=false\/(f.2.1.getD j ([]:List Ae)).all AL=false))/\y.1=.ret/\y.2.2.1=false)):=by
    intro m
    induction m with
    |zero=>
     intro i hi hj
     obtain rfl:i=f.2.1.length:=by omega
     exact ⟨_,AY (y:=(f,false,(f.2.1.length:Int),())) (e:=.exit 0) (by unfold G4;simp only;rw[Ax]) (by simp),.inl ⟨hj,rfl⟩⟩
    |succ m ih=>
     intro i hi hj
     have hlt:i < f.2.1.length:=by omega
     have hv:=Hg (N:=73) (by omega) (h.res _ (DC (d:=zVal) (show i < f.2.2.1.length by omega))).sh
     cases hb:AL (f.2.2.1.getD i zVal) with
     |false=>
      exact ⟨_,AY (y:=(f,false,(i:Int),())) (e:=.ret) (by unfold G4;simp only;rw[As,Ak,Ab,Ab,qZ0,hv,Ad,hb];rfl) (by simp),.inr ⟨⟨i,hlt,.inl hb⟩,rfl,rfl⟩⟩
     |true=>
      obtain ⟨y,h1,h2⟩:=AH0 h false i hlt
      rcases h2 with ⟨a1,a2,a3,a4,a5⟩ | ⟨a1,a2,a3⟩
      ·have hgo:G4 (f,false,(i:Int),())=some (.normal,(f,false,((i+1:Nat):Int),())):=by
        unfold G4
        simp only
        rw[As,Ak,Ab,Ab,qZ0,hv,Ad,hb]
        simp only[qY2,AA]
        rw[h1,Ad,a2,AX,Ap,a3,a4,a5,Aw]
        rfl
       rw[AZ hgo]
       exact ih (i+1) (by omega) fun j hj'=>by
        by_cases e:j=i
        ·rw[e];exact ⟨hb,a1⟩
        ·exact hj j (by omega)
      ·refine ⟨_,AY (y:=(y.2.1,false,y.2.2.2.1,())) (e:=.ret) ?_ (by simp),.inr ⟨⟨i,hlt,.inr a1⟩,rfl,rfl⟩⟩
       unfold G4
       simp only
       rw[As,Ak,Ab,Ab,qZ0,hv,Ad,hb]
       simp only[qY2,AA]
       rw[h1,Ad,a2,Bk,AA,Bl,Ap,a3]
   obtain ⟨y,h1,h2⟩:=key f.2.1.length 0 (by omega) (fun j hj=>by omega)
   rw[show ((0:Nat):Int)=0 from rfl] at h1
   rw[h1,Ad]
   rcases h2 with ⟨a1,a2⟩ | ⟨⟨j,hj,a1⟩,a2,a3⟩
   ·have b1:f.2.2.1.all AL=true:=by
     rw[qY3]
     intro v hv
     obtain ⟨i,hi,rfl⟩:=List.mem_iff_getElem.1 hv
     have:=(a1 i (by omega)).1
     rwa [qZ4,qZ5 hi] at this
    have b2:(f.2.1.all fun l=>l.all AL)=true:=by
     rw[qY3]
     intro v hv
     obtain ⟨i,hi,rfl⟩:=List.mem_iff_getElem.1 hv
     have:=(a1 i (by omega)).2
     rwa [qZ4,qZ5 hi] at this
    rw[a2,AX,Ap,b1,b2]
    rfl
   ·have b:(f.2.2.1.all AL&&f.2.1.all fun l=>l.all AL)=false:=by
     rw[Bool.and_eq_false_iff]
     rcases a1 with a1 | a1
     ·left
      cases hh:f.2.2.1.all AL with
      |false=>rfl
      |true=>rw[List.all_eq_true.1 hh _ (DC (d:=zVal) (by omega))] at a1;cases a1
     ·right
      cases hh:f.2.1.all fun l=>l.all AL with
      |false=>rfl
      |true=>have:=List.all_eq_true.1 hh _ (DC (d:=([]:List Ae)) hj);rw[this] at a1;cases a1
    rw[a2,Bk,AA,Bl,Ap,a3,b]
 ·rw[Bu,qZ9 e1,Bool.false_and]
theorem AEB {f:Interp} {w:List Ae} {k:Nat} (hk:k < f.2.1.length) (hk2:k < f.2.2.1.length):((f.2.1.zip f.2.2.1).drop k).find? (fun p=>decide (p.1=w))=if f.2.1.getD k []=w then some (f.2.1.getD k [],f.2.2.1.getD k zVal) else ((f.2.1.zip f.2.2.1).drop (k+1)).find? fun p=>decide (p.1=w):=by
 have hz:k < (f.2.1.zip f.2.2.1).length:=by rw[List.length_zip];omega
 rw[qY6 hz,List.find?_cons,List.getElem_zip]
 have e1:f.2.1.getD k []=f.2.1[k]:=by simp[qZ4,hk]
 have e2:f.2.2.1.getD k zVal=f.2.2.1[k]:=by simp[qZ4,hk2]
 rw[e1,e2]
 by_cases h:f.2.1[k]=w
 ·rw[if_pos h,qZ10 h]
 ·rw[if_neg h,qZ9 h]
theorem AE7 {f:Interp} (h:SmI f) (hl:f.2.1.length=f.2.2.1.length) (x0:Xe) (w:List Ae) (n:Ac) (t6:Ae) (i8:Int):∀ (k:Nat),k<=f.2.1.length->∀ v,v=((((f.2.1.zip f.2.2.1).drop k).find? fun p=>decide (p.1=w)).map (·.2)).getD f.2.2.2->
 Am ID (x0,w,n,t6,i8,f,v,(k:Int) - 1,())=some (.exit 2,(x0,w,n,t6,i8,f,atF f w,-1,())):=by
 intro k
 induction k with
 |zero=>
  intro _ v hv
  have e:v=atF f w:=by
   rw[hv,List.drop_zero];unfold atF
   cases (f.2.1.zip f.2.2.1).find? fun p=>decide (p.1=w)<;>rfl
  subst e
  exact AY (by unfold ID;simp only;rw[Ax];rfl) (by simp)
 |succ k ih=>
  intro hk v hv
  have hla:=h.la
  have hm:=DC (d:=([]:List Ae)) (show k < f.2.1.length by omega)
  have hq:=AEx (b:=w) (h.args _ hm).1 (h.args _ hm).2
  have hd:=AEB (f:=f) (w:=w) (k:=k) (by omega) (by omega)
  have e1:(((k+1:Nat):Int) - 1)=(k:Int):=by omega
  rw[e1]
  by_cases e:f.2.1.getD k []=w
  ·rw[AZ (y:=(x0,w,n,t6,i8,f,f.2.2.1.getD k zVal,(k:Int) - 1,())) (by
    unfold ID
    simp only
    rw[As,Ak,Ab,Ab,qZ0,hq,Ad,qZ10 e,Ap,Ak,Ab,Ab,Aw])]
   exact ih (by omega) _ (by rw[hd,if_pos e];rfl)
  ·rw[AZ (y:=(x0,w,n,t6,i8,f,v,(k:Int) - 1,())) (by
    unfold ID
    simp only
    rw[As,Ak,Ab,Ab,qZ0,hq,Ad,qZ9 e,AA,Aw])]
   exact ih (by omega) _ (by rw[hd,if_neg e];exact hv)
theorem AMn {env:List AN} {fns:List Interp} (hv:∀ b∈env,AL b.2=true) (he:env.length<=1000000000) (hf:∀ f∈fns,SmI f) (hvf:∀ f∈fns,BR f=true) (hfl:fns.length<=1000000000):RM (CX env) (Eg fns) env fns:=by
 have h0:=AI3 (t:=[]) hv he
 refine ⟨h0.var,he,fun t n vs B hB hB9=>?_⟩
 have hz:((0:Int),false,([]:qBs),([]:List qBs),([]:List qBs))=zVal:=rfl
 have key:∀ (m i:Nat),i+m=fns.length->(∀ f∈fns.take i,f.1≠Bo n)->∃ y,Am Gn (((t,env,fns):Xe),vs.map encS,n,zVal,(0:Int),(i:Int),())=some y/\y.2.1=(t,env,fns)/\
  ((fns.find? (fun f=>decide (f.1=Bo n))=none/\y.1=.exit 0)\/∃ f,fns.find? (fun f=>decide (f.1=Bo n))=some f/\y.1=.ret/\y.2.2.2.2.1=(if (atF f (vs.map encS)).1=A3 n then atF f (vs.map encS) else zVal)/\y.2.2.2.2.2.1=(if (atF f (vs.map encS)).1=A3 n then 0 else 3)):=by
  intro m
  induction m with
  |zero=>
   intro i hi hn
   obtain rfl:i=fns.length:=by omega
   refine ⟨_,AY (y:=(((t,env,fns):Xe),vs.map encS,n,zVal,(0:Int),(fns.length:Int),())) (e:=.exit 0) (by unfold Gn;simp only;rw[Ax]) (by simp),rfl,.inl ⟨?_,rfl⟩⟩
   rw[List.find?_eq_none]
   intro f hfm
   rw[List.take_length] at hn
   simpa using hn f hfm
  |succ m ih=>
   intro i hi hn
   have hlt:i < fns.length:=by omega
   have hg:fns.getD i Cd=fns[i]:=by simp[qZ4,hlt]
   have htk:fns.take (i+1)=fns.take i++[fns[i]]:=by rw[List.take_add_one,qZ5 hlt];rfl
   have hmem:fns[i]∈fns:=List.getElem_mem hlt
   by_cases e:fns[i].1=Bo n
   ·have hfind:fns.find? (fun f=>decide (f.1=Bo n))=some fns[i]:=by
     rw[List.find?_eq_some_iff_getElem]
     refine ⟨by simpa using e,i,hlt,rfl,fun j hj=>?_⟩
     have:=hn fns[j] (List.mem_take_iff_getElem.2 ⟨j,by omega,rfl⟩)
     simpa using this
    generalize fns[i]=f at hg hmem e hfind
    have hs:=hf f hmem
    have hvv:=hvf f hmem
    have hla:=hs.la
    have hlen:f.2.1.length=f.2.2.1.length:=by unfold BR at hvv;simp only[qY0,decide_eq_true_eq] at hvv;exact hvv.1
    have hal:=AE7 hs hlen ((t,env,fns):Xe) (vs.map encS) n zVal (i:Int) f.2.1.length (Nat.le_refl _) f.2.2.2 (by rw[qY7 (by rw[List.length_zip];omega)];rfl)
    have hb:(f.1==n.2.2.1)=true:=by rw[beq_iff_eq];exact e
    by_cases q:(atF f (vs.map encS)).1=A3 n
    ·refine ⟨_,AY (y:=(((t,env,fns):Xe),vs.map encS,n,atF f (vs.map encS),(0:Int),(i:Int),())) (e:=.ret) ?_ (by simp),rfl,.inr ⟨f,hfind,rfl,by rw[if_pos q],by rw[if_pos q]⟩⟩
     unfold Gn
     simp only
     rw[As,Ak,Ab,Ab,qZ0,hg,hb]
     simp only[qY2,AA]
     rw[Aw,hal,Ad,AX,Ap]
     simp only
     rw[Bm (show _=n.2.1 from q)]
    ·refine ⟨_,AY (y:=(((t,env,fns):Xe),vs.map encS,n,zVal,(3:Int),(i:Int),())) (e:=.ret) ?_ (by simp),rfl,.inr ⟨f,hfind,rfl,by rw[if_neg q],by rw[if_neg q]⟩⟩
     unfold Gn
     simp only
     rw[As,Ak,Ab,Ab,qZ0,hg,hb]
     simp only[qY2,AA]
     rw[Aw,hal,Ad,AX,Ap]
     simp only
     rw[Bu (show _≠n.2.1 from q)]
   ·have hb:(fns[i].1==n.2.2.1)=false:=by rw[beq_eq_false_iff_ne];exact e
    rw[AZ (y:=(((t,env,fns):Xe),vs.map encS,n,zVal,(0:Int),((i+1:Nat):Int),())) (by
     unfold Gn
     simp only
     rw[As,Ak,Ab,Ab,qZ0,hg,hb,Aw]
     rfl)]
    exact ih (i+1) (by omega) fun f hfm=>by
     rw[htk,qZ7,qZ8] at hfm
     rcases hfm with hfm | rfl
     ·exact hn f hfm
     ·exact e
 obtain ⟨y,h1,h2,h3⟩:=key fns.length 0 (by omega) (by simp)
 rw[show ((0:Nat):Int)=0 from rfl] at h1
 unfold Mb Eg
 rw[hz,h1,Ad]
 rcases h3 with ⟨a1,a2⟩ | ⟨f,a1,a2,a3,a4⟩
 ·rw[a2,AX,Ap,a1,h2]
 ·rw[a2,Bk,AA,Bl,Ap,a1,h2,a3,a4]
  have hm:=List.mem_of_find?_eq_some a1
  obtain ⟨b1,b2⟩:=PL (hf f hm) (hvf f hm) (vs.map encS)
  obtain ⟨s,d1,d2,d3⟩:=LJ b2
  by_cases q:(atF f (vs.map encS)).1=A3 n
  ·simp only
   rw[if_pos q,if_pos q,if_pos q,d1]
   simp only
   rw[<-d3]
  ·simp only
   rw[if_neg q,if_neg q,if_neg q]
open Classical in
noncomputable def DJ (t:List Ac) (env:List AN) (fns:List Interp):Ae×Int:=
 if h:((∀ b∈env,AL b.2=true)/\∀ f∈fns,BR f=true)/\∃ F,VT t F then
  (match evF (CX env) (Eg fns) h.2.choose with
  |.inl e=>(zVal,e)
  |.inr [v]=>(encS v,0)
  |.inr _=>(zVal,1))
 else (zVal,1)
theorem Q_ {t:List Ac} {env:List AN} {fns:List Interp} {F:Tf} (hv:∀ b∈env,AL b.2=true) (hf:∀ f∈fns,BR f=true) (hF:VT t F):DJ t env fns=match evF (CX env) (Eg fns) F with
 |.inl e=>(zVal,e)
 |.inr [v]=>(encS v,0)
 |.inr _=>(zVal,1):=by
 have h:((∀ b∈env,AL b.2=true)/\∀ f∈fns,BR f=true)/\∃ F,VT t F:=⟨⟨hv,hf⟩,F,hF⟩
 unfold DJ
 rw[dif_pos h,h.2.choose_spec.uniq hF]
theorem Gg {t:List Ac} {env:List AN} {fns:List Interp} (h:¬ (((∀ b∈env,AL b.2=true)/\∀ f∈fns,BR f=true)/\∃ F,VT t F)):DJ t env fns=(zVal,1):=by unfold DJ;rw[dif_neg h]
section
variable {t:List Ac} {env:List AN} {fns:List Interp} (ht:EY t) (hs:∀ b∈env,SmallV b.2) (he:env.length<=1000000000) (hf:∀ f∈fns,SmI f) (hfl:fns.length<=1000000000)
include ht hs he hf hfl
theorem AFG (hl:t.length<=1100):IV t env fns=some (((DJ t env fns).1,(DJ t env fns).2,()),()):=by
 unfold IV
 rcases ALv hs he with ⟨h1,h2⟩ | ⟨h1,out,h2,h3⟩
 ·rcases TW hf hfl with ⟨g1,g2⟩ | ⟨g1,fm,g2,g3⟩
  ·rw[h2,g2,Gg fun h=>h1 h.1.1];rfl
  ·rw[h2,g3,Gg fun h=>h1 h.1.1];rfl
 rcases TW hf hfl with ⟨g1,g2⟩ | ⟨g1,fm,g2,g3⟩
 ·rw[h3,g2,Gg fun h=>g1 h.1.2];rfl
 rw[h3,g3]
 simp only[Ad,qY2,AA]
 obtain ⟨b,b1,b2⟩:=AKE (t:=t) fun n hn=>by have:=ht n hn;omega
 rw[b1,Ad]
 cases b with
 |false=>rw[Gg fun h=>by have:=b2.2 h.2;cases this];rfl
 |true=>
  simp only[qY2,AA]
  obtain ⟨F,hF⟩:=b2.1 rfl
  rw[Q_ h1 g1 hF]
  obtain ⟨n,k,rfl⟩:=hF.one
  have hE:=RA hs hf g1
  have hM:=ABq h2 g2 hf g1
  have hfl:=hF.flat
  obtain ⟨d,hd1,hd2⟩:∃ d,BB=d/\258<=d:=⟨BB,rfl,by decide⟩
  have hdep:=hF.dep
  simp only[dep] at hdep
  have hsF:D_ (cons n k nil):=fun m hm=>ht m (by rw[<-hfl];exact hm)
  have hnx:=AJN hE hM hl d n k 0 [] (by rw[<-hfl];simp[flat]) hF.wf hF.srt hsF (by omega)
  rw[hd1]
  rw[show ((0:Nat):Int)=0 from rfl] at hnx
  rcases Pe (A:=CX env) (G:=Eg fns) (n:=n) (k:=k) with ⟨e,hev⟩ | ⟨v,hev⟩
  ·rw[hev] at hnx ⊢
   obtain ⟨y,hy⟩:=hnx
   rw[hy,Ad,Bu (Rm hE _ _ hev)]
  ·rw[hev] at hnx ⊢
   simp only at hnx ⊢
   rw[hnx,Ad,Bm rfl]
   obtain ⟨_,_,q3⟩:=AC hE _ hF.wf hF.srt hsF _ hev
   have hz:(cons n k nil).size<=1100:=by rw[<-BN,hfl];exact hl
   rw[ZK (q3.mem v (by simp)) (by omega),Ad]
theorem ABr (hl:t.length<=360):Mq t env fns=some (((DJ t env fns).1,(DJ t env fns).2,()),()):=by
 unfold Mq
 obtain ⟨b,b1,b2⟩:=Y6 (t:=t) fun n hn=>by have:=ht n hn;omega
 rw[b1,Ad]
 cases b with
 |false=>rw[Gg fun h=>by have:=b2.2 h.2;cases this];rfl
 |true=>
  simp only[qY2,AA]
  obtain ⟨F,hF⟩:=b2.1 rfl
  have hz:((0:Int),false,([]:qBs),([]:List qBs),([]:List qBs))=zVal:=rfl
  have key:=CN (step:=J1) (fun k=>(t,env,fns,zVal,(0:Int),(k:Int),())) (fun k=>(t,env,fns,zVal,(1:Int),(k:Int),())) env.length (E:=.exit 0) (B:=.ret) (by simp) (by simp) (fun k=>AL (env.getD k DO).2) (fun k hk=>by
   unfold J1
   simp only
   rw[As,Ak,Ab,Ab,qZ0,Hg (N:=73) (by omega) (hs _ (DC hk)).sh,Ad,Aw]
   cases AL (env.getD k DO).2<;>rfl) (by
   unfold J1
   simp only
   rw[Ax])
  have key2:=CN (step:=Ku) (fun k=>(t,env,fns,zVal,(0:Int),(k:Int),())) (fun k=>(t,env,fns,zVal,(1:Int),(k:Int),())) fns.length (E:=.exit 2) (B:=.ret) (by simp) (by simp) (fun k=>BR (fns.getD k Cd)) (fun k hk=>by
   unfold Ku
   simp only
   rw[As,Ak,Ab,Ab,qZ0,ALl (hf _ (DC hk)),Ad,Aw]
   cases BR (fns.getD k Cd)<;>rfl) (by
   unfold Ku
   simp only
   rw[Ax])
  rw[Fd env DO (fun b=>AL b.2),show ((0:Nat):Int)=0 from rfl] at key
  rw[Fd fns Cd BR,show ((0:Nat):Int)=0 from rfl] at key2
  rw[hz]
  rcases key with ⟨k1,k2⟩ | ⟨k1,k,k2⟩
  ·have hv:∀ b∈env,AL b.2=true:=fun b hb=>List.all_eq_true.1 k1 b hb
   rw[k2]
   simp only[Ad,AX,Ap]
   rcases key2 with ⟨j1,j2⟩ | ⟨j1,k,j2⟩
   ·have hg:∀ f∈fns,BR f=true:=fun b hb=>List.all_eq_true.1 j1 b hb
    rw[j2]
    simp only[Ad,AX,Ap]
    rw[Q_ hv hg hF]
    obtain ⟨n,k,rfl⟩:=hF.one
    have hE:=RA hs hf hg
    have hM:=AMn hv he hf hg hfl
    have hfl:=hF.flat
    obtain ⟨d,hd1,hd2⟩:=O1
    have hdep:=hF.dep
    simp only[dep] at hdep
    have hsF:D_ (cons n k nil):=fun m hm=>ht m (by rw[<-hfl];exact hm)
    have hev:=ABP hE (x0:=(t,env,fns)) hM hl d n k 0 [] (by rw[<-hfl];simp[flat]) hF.wf hF.srt hsF (by omega)
    rw[hd1]
    rw[show ((0:Nat):Int)=0 from rfl] at hev
    rcases Pe (A:=CX env) (G:=Eg fns) (n:=n) (k:=k) with ⟨e,hv⟩ | ⟨v,hv⟩
    ·rw[hv] at hev ⊢
     obtain ⟨v,j,hy⟩:=hev
     rw[hy,Ad,Bu (Rm hE _ _ hv)]
    ·rw[hv] at hev ⊢
     simp only at hev ⊢
     rw[hev,Ad,Bm rfl]
     obtain ⟨_,_,q3⟩:=AC hE _ hF.wf hF.srt hsF _ hv
     have hz:(cons n k nil).size<=360:=by rw[<-BN,hfl];exact hl
     have hB:=q3.mem v (by simp)
     unfold Rr
     have h1:(encS v).2.2.2.1.length<=Av/\(encS v).2.2.2.2.length<=Av:=by
      cases v with
      |a d P=>have:=hB.2.2;simp only[encS,Bj,B_,Av];omega
      |b x=>simp[encS]
      |z x=>simp[encS]
      |q x=>simp[encS]
     rw[Ab h1.1,Ab h1.2,Ad]
   ·rw[j2]
    simp only[Ad,Bk,Bl,Ap,AA]
    rw[Gg fun h=>by rw[List.all_eq_true.2 h.1.2] at j1;cases j1]
  ·rw[k2]
   simp only[Ad,Bk,Bl,Ap,AA]
   rw[Gg fun h=>by rw[List.all_eq_true.2 h.1.1] at k1;cases k1]
omit he hfl in
theorem ADx (hl:t.length<=1100):(DJ t env fns).1.2.2.2.1.length<=2000000000/\(DJ t env fns).1.2.2.2.2.length<=2000000000:=by
 by_cases h:((∀ b∈env,AL b.2=true)/\∀ f∈fns,BR f=true)/\∃ F,VT t F
 ·obtain ⟨⟨hv,hg⟩,F,hF⟩:=h
  rw[Q_ hv hg hF]
  have hE:=RA hs hf hg
  have hfl:=hF.flat
  obtain ⟨n,k,rfl⟩:=hF.one
  rcases Pe (A:=CX env) (G:=Eg fns) (n:=n) (k:=k) with ⟨e,hv⟩ | ⟨v,hv⟩
  ·rw[hv];simp[zVal]
  ·rw[hv]
   simp only
   have hsF:D_ (cons n k nil):=fun m hm=>ht m (by rw[<-hfl];exact hm)
   obtain ⟨_,_,q3⟩:=AC hE _ hF.wf hF.srt hsF _ hv
   have hz:(cons n k nil).size<=1100:=by rw[<-BN,hfl];exact hl
   have hB:=q3.mem v (by simp)
   cases v with
   |a d P=>have:=hB.2.2;simp only[encS,Bj,B_];omega
   |b x=>simp[encS]
   |z x=>simp[encS]
   |q x=>simp[encS]
 ·rw[Gg h];simp[zVal]
theorem AKV (hl:t.length<=360):Nv t env fns=some ((true,()),()):=by
 have h1:=AFG ht hs he hf hfl (by omega)
 have h2:=ABr ht hs he hf hfl hl
 have h3:=ADx (t:=t) ht hs hf (by omega)
 have h4:=II (a:=(DJ t env fns).1) (b:=(DJ t env fns).1) h3.1 h3.2
 unfold Nv PB PI
 rw[h1,h2]
 simp only[Ad]
 rw[Aq rfl,h4,qZ10 rfl]
 simp only[Ad,Ap]
 by_cases e:(DJ t env fns).2=0
 ·rw[Aq e]
  by_cases e1:(DJ t env fns).1.1=1
  ·rw[Aq e1,Ad,Ad]
   simp
  ·rw[Ag e1];rfl
 ·rw[Ag e];rfl
end
end Go.AM.Num
end
section
namespace Go.AM.Num
theorem JN {c:List Int×Int} (hc:CI c) {s:Int} (hs:1<=s/\s<=4):∃ v c',CS c s=some ((v,()),(c',()))/\CI c'/\SmallV v:=by
 obtain ⟨v,c',h1,h2,h3,h4,h5⟩:=Xk hc hs
 refine ⟨_,c',h1,h2,Xb h4,?_⟩
 cases v with
 |a d P=>simp only[De] at h5;simp only[encS,Bj];omega
 |b x=>simp[encS]
 |z x=>simp[encS]
 |q x=>simp[encS]
abbrev Mu:=List (List Ae)
structure SmT (A:Mu) (R:List Ae) (N:Nat):Prop where
 a:∀ l∈A,(∀ v∈l,SmallV v)/\l.length<=1000
 r:∀ v∈R,SmallV v
 la:A.length<=N
 lr:R.length<=N
theorem ALX (odd:Bool) (t:List Ac) (fns:List Interp) (n:Int) (nm:qBs) (oth:Ae):∀ (m:Nat) (c:List Int×Int) (A:Mu) (R:List Ae),CI c->m<=10->SmT A R (20 - m)->
 ∃ c' A' R',Am LI (odd,t,c,fns,n,(nm,A,R,oth),(m:Int),())=some (.exit 2,(odd,t,c',fns,n,(nm,A',R',oth),0,()))/\CI c'/\SmT A' R' 20:=by
 intro m
 induction m with
 |zero=>
  intro c A R hc _ h
  exact ⟨c,A,R,AY (by unfold LI;simp only;rw[Ax];rfl) (by simp),hc,h⟩
 |succ m ih=>
  intro c A R hc hm h
  obtain ⟨v1,c1,a1,a2,a3⟩:=JN hc (s:=2) (by omega)
  obtain ⟨v2,c2,b1,b2,b3⟩:=JN a2 (s:=2) (by omega)
  obtain ⟨v3,c3,d1,d2,d3⟩:=JN b2 (s:=2) (by omega)
  have hla:=h.la
  have hlr:=h.lr
  rw[AZ (y:=(odd,t,c3,fns,n,(nm,A++[[v1,v2]],R++[v3],oth),(m:Int),())) (by
   unfold LI
   simp only
   rw[As,a1]
   simp only[Ad]
   rw[b1]
   simp only[Ad]
   rw[Ab (by simp[Av];omega),d1]
   simp only[Ad]
   rw[Ab (by simp[Av];omega),Aw]
   have e:((m+1:Nat):Int) - 1=(m:Int):=by omega
   rw[e])]
  refine ih c3 _ _ d2 (by omega) ⟨fun l hl=>?_,fun v hv=>?_,by simp;omega,by simp;omega⟩
  ·rw[qZ7,qZ8] at hl
   rcases hl with hl | rfl
   ·exact h.a l hl
   ·refine ⟨fun v hv=>?_,by simp⟩
    simp only[qY12,qY16,or_false] at hv
    rcases hv with rfl | rfl
    ·exact a3
    ·exact b3
  ·rw[qZ7,qZ8] at hv
   rcases hv with hv | rfl
   ·exact h.r v hv
   ·exact d3
theorem Pp {nm:qBs} {A:Mu} {R:List Ae} {oth:Ae} {N:Nat} (h:SmT A R N) (hN:N<=1000) (ho:SmallV oth):SmI (nm,A,R,oth):=⟨h.a,h.r,ho,by have:=h.la;simp only;omega,by have:=h.lr;simp only;omega⟩
theorem AAe {A:Mu} {R:List Ae} {v:Ae} {N:Nat} (h:SmT A R N) (hv:SmallV v):SmT A (R++[v]) (N+1):=⟨h.a,fun x hx=>by
 rw[qZ7,qZ8] at hx
 rcases hx with hx | rfl
 ·exact h.r x hx
 ·exact hv,by have:=h.la;omega,by have:=h.lr;simp;omega⟩
theorem AA9 {odd:Bool} {t:List Ac} {c:List Int×Int} (hc:CI c) {fns:List Interp} {n:Int} (hn:0<=n/\n<=1000) (hl:fns.length<=1000) :
 ∃ c' f,CI c'/\SmI f/\Ir (odd,t,c,fns,n,())=some (.normal,(odd,t,c',fns++[f],n - 1,())):=by
 obtain ⟨r1,c1,a1,a2,a3,a4⟩:=Bw hc (n:=2) (by omega)
 obtain ⟨oth,c2,b1,b2,b3⟩:=JN a2 (s:=2) (by omega)
 obtain ⟨r2,c3,d1,d2,d3,d4⟩:=Bw b2 (n:=4) (by omega)
 obtain ⟨m,rfl⟩:∃ m:Nat,r2=(m:Int):=⟨r2.toNat,by omega⟩
 have hr1:r1 < (([([102]:qBs),([103]:qBs)]:List qBs).length:Int):=by simp;omega
 obtain ⟨nm,hnm⟩:∃ nm,(([([102]:qBs),([103]:qBs)]:List qBs).getD r1.toNat ([]:qBs))=nm:=⟨_,rfl⟩
 obtain ⟨c4,A,R,e1,e2,e3⟩:=ALX odd t fns n nm oth m c3 [] [] d2 (by omega) ⟨by simp,by simp,by simp,by simp⟩
 have hrl:=e3.lr
 have hgl:∀ f:Interp,decide (fns.length+([f]:List Interp).length<=Av)=true:=fun f=>qZ10 (by simp[Av];omega)
 have hrr:∀ v:Ae,decide (R.length+([v]:List Ae).length<=Av)=true:=fun v=>qZ10 (by simp[Av];omega)
 have hw:qI (n - 1)=n - 1:=Aw
 unfold Ir RJ
 simp only
 rw[As,a1]
 simp only[Ad]
 rw[Ak,Ab,Ab hr1,b1,hnm]
 simp only[Ad]
 rw[d1]
 simp only[Ad]
 rw[e1]
 simp only[Ad,AX,Ap]
 simp only[hgl,hrr,hw,DZ]
 cases odd with
 |false=>
  simp only[AA]
  exact ⟨c4,_,e2,Pp e3 (by omega) b3,rfl⟩
 |true=>
  simp only[Ap]
  obtain ⟨r4,c5,f1,f2,f3,f4⟩:=Bw e2 (n:=3) (by omega)
  rw[f1]
  simp only[Ad]
  have tail:∀ {c5:List Int×Int} (R':List Ae),CI c5->SmT A R' 21->∃ c' f,CI c'/\SmI f/\(AW c5 3).bind (fun r7=>
   cond (r7.1.1==(0:Int))
    ((AW r7.2.1 4).bind fun r8=>
    (CS r8.2.1 (qI ((1:Int)+r8.1.1))).bind fun r9=>
    some (Ex.normal,(true,t,r9.2.1,fns++([(nm,A,R',r9.1.1)]:List Interp),n - 1,())))
    (some (Ex.normal,(true,t,r7.2.1,fns++([(nm,A,R',oth)]:List Interp),n - 1,()))))=some (.normal,(true,t,c',fns++[f],n - 1,())):=by
   intro c5 R' hc5 hR
   obtain ⟨r7,c7,g1,g2,g3,g4⟩:=Bw hc5 (n:=3) (by omega)
   rw[g1]
   simp only[Ad]
   by_cases q:r7=0
   ·obtain ⟨r8,c8,h1,h2,h3,h4⟩:=Bw g2 (n:=4) (by omega)
    obtain ⟨v9,c9,i1,i2,i3⟩:=JN h2 (s:=1+r8) (by omega)
    rw[Aq q,h1]
    simp only[Ad]
    rw[Aw,i1]
    exact ⟨c9,_,i2,Pp hR (by omega) i3,rfl⟩
   ·rw[Ag q]
    exact ⟨c7,_,g2,Pp hR (by omega) b3,rfl⟩
  by_cases q:r4=0
  ·obtain ⟨r5,c6,g1,g2,g3,g4⟩:=Bw f2 (n:=4) (by omega)
   obtain ⟨v6,c7,h1,h2,h3⟩:=JN g2 (s:=1+r5) (by omega)
   rw[Aq q,g1]
   simp only[Ad]
   rw[Aw,h1]
   simp only[Ad]
   exact tail (R++[v6]) h2 (AAe e3 h3)
  ·rw[Ag q]
   exact tail R f2 ⟨e3.a,e3.r,by have:=e3.la;omega,by have:=e3.lr;omega⟩
theorem AAQ {odd:Bool} {t:List Ac}:∀ (m:Nat) (c:List Int×Int) (fns:List Interp),CI c->m<=100->fns.length<=200 - m->(∀ f∈fns,SmI f)->
 ∃ c' fns',Am Ir (odd,t,c,fns,(m:Int) - 1,())=some (.exit 0,(odd,t,c',fns',-1,()))/\CI c'/\fns'.length<=200/\∀ f∈fns',SmI f:=by
 intro m
 induction m with
 |zero=>
  intro c fns hc _ hl hf
  exact ⟨c,fns,AY (by unfold Ir;simp only;rw[Ax];rfl) (by simp),hc,by omega,hf⟩
 |succ m ih=>
  intro c fns hc hm hl hf
  obtain ⟨c',f,h1,h2,h3⟩:=AA9 (odd:=odd) (t:=t) hc (fns:=fns) (n:=(m:Int)) (by omega) (by omega)
  have e:((m+1:Nat):Int) - 1=(m:Int):=by omega
  rw[e,AZ h3]
  refine ih c' _ h1 (by omega) (by simp;omega) fun g hg=>?_
  rw[qZ7,qZ8] at hg
  rcases hg with hg | rfl
  ·exact hf g hg
  ·exact h2
theorem Pz {a b:List Ac} (ha:EY a) (hb:EY b):EY (a++b):=fun n hn=>(List.mem_append.1 hn).elim (ha n) (hb n)
theorem IE {n:Ac} {b:List Ac} (hn:(Bg n).length<=73) (hb:EY b):EY (n::b):=fun m hm=>by
 rcases List.mem_cons.1 hm with rfl | hm
 ·exact hn
 ·exact hb m hm
theorem ALy (l m:List Int) (odd:Bool):Nm l m odd=some ((true,()),()):=by
 unfold Nm
 obtain ⟨c0,n0,hc0⟩:=TN l
 obtain ⟨x,c1,a1,a2,a3⟩:=AC2 hc0 (s:=2) (by omega) (d:=2) (by omega)
 obtain ⟨z,c2,b1,b2,b3⟩:=It a2
 have hx:=a3.short
 have hxl:=a3.len
 have hN:gB 2<=150:=by decide
 rw[n0]
 simp only[Ad,We]
 rw[show (2:Int)=((2:Nat):Int) from rfl] at a1 ⊢
 rw[a1]
 simp only[Ad]
 rw[b1]
 simp only[Ad]
 have hnum:∀ s a,CD s a=some (([((3:Int),s,([]:qBs),a,(0:Int))],()),()):=fun s a=>rfl
 rw[hnum]
 simp only[Ad]
 rw[Ia (by simp) (by simp;omega)]
 simp only[Ad]
 rw[hnum]
 simp only[Ad]
 rw[Ia (by simp) (by simp;omega)]
 simp only[Ad]
 rw[Ia (by simp) (by simp;omega)]
 simp only[Ad]
 generalize ht:((12:Int),(0:Int),([]:qBs),([]:qBs),_)::_=t
 have ht1:EY t:=by
  rw[<-ht]
  refine IE (Nat.zero_le 73) ?_
  simp only[List.flatten_cons,List.flatten_nil,qY4]
  have hf:EY (x++[((3:Int),(2:Int),([]:qBs),ti z,(0:Int))]):=Pz hx (IE (by simp only[Bg];omega) fun n hn=>absurd hn qY16)
  refine Pz (IE (Nat.zero_le 73) hf) (IE (Nat.zero_le 73) (Pz (IE (show ([49]:qBs).length<=73 by decide) fun n hn=>absurd hn qY16) (IE (Nat.zero_le 73) hf)))
 have ht2:t.length<=360:=by
  rw[<-ht]
  simp
  omega
 clear ht
 obtain ⟨d0,e0,hd0⟩:=TN m
 obtain ⟨r,d1,e1,e2,e3,e4⟩:=Bw hd0 (n:=3) (by omega)
 rw[e0]
 simp only[Ad]
 rw[e1]
 simp only[Ad]
 obtain ⟨k,rfl⟩:∃ k:Nat,r=(k:Int) - 1:=⟨r.toNat+1,by omega⟩
 obtain ⟨d2,fns,f1,f2,f3,f4⟩:=AAQ (odd:=odd) (t:=t) k d1 [] e2 (by omega) (by simp) (by simp)
 rw[f1]
 simp only[Ad,AX,Ap,We]
 obtain ⟨env,d3,g1,g2,g3⟩:=AEp Wa Pd f2
 rw[g1]
 simp only[Ad]
 rw[AKV ht1 (fun b hb=>(g3.val b hb).2) (by rw[g3.len];have:=Pd;omega) f4 (by omega) ht2]
 simp only[Ad,Ap,AMG]
end Go.AM.Num
end
section
namespace Go.AM.Num
open Go.Proofs Go.Proofs.YtcpdjngcofhljaaGreatDoor
theorem Rz : Tryz.prog.globalNamed "internal/strconv.uint64pow10" = some 3 := by kernel_rfl
theorem AIR:(Tryz.prog.globals[3]?).map (·.type)=some 356:=by kernel_rfl
theorem AJM {W:World} (h:W.ShapedOpen Tryz.prog):∃ m,W.cell? ⟨0,0,none⟩=some (.int .i64 m):=
 cell_of_shapedOpen_int (t:=3) (zero:=#[.int .i64 0]) h (of_decide_eq_true (by kernel_rfl)) (by kernel_rfl) rfl (by kernel_rfl) (by kernel_rfl) Tryz.underlying3
theorem Zz {W:World} (hL:laidMetH Tryz.prog Rows.valueFunctionsRow.laid W) (hsh:W.ShapedOpen Tryz.prog):GN W:=by
 rw[MakeChecks.laidMetH_plain _ _ _ (by kernel_rfl)] at hL
 obtain ⟨ps,⟨g0,t0,cs0,f0,p0,q0,hg0,ht0,hv0,hd0,⟨g1,t1,cs1,f1,p1,q1,hg1,ht1,hv1,hd1,⟨g2,t2,cs2,f2,p2,q2,hg2,ht2,hv2,hd2,_⟩,_⟩,_⟩,_⟩:=hL
 obtain rfl:=Option.some.inj (Rz.symm.trans hg2)
 obtain rfl:=Option.some.inj (AIR.symm.trans ht2)
 refine ⟨AJM hsh,?_⟩
 have e:(Rows.laid_internal_strconv_uint64pow10:DataW Unit)=Lib.tabData .u64 Lib.pow10Tab:=by kernel_rfl
 rw[e] at hd2
 unfold Lib.TabIs
 rw[hv2,<-Lib.cells_of_tab Tryz.underlying356 Tryz.underlying269 (by kernel_rfl) (by kernel_rfl) hd2]
theorem AFf {w w':World} (h:GN w) (hb:∀ B,B < 4->w'.heap[B]?=w.heap[B]?):GN w':=by
 have hc:∀ B o,B < 4->w'.cell? ⟨B,o,none⟩=w.cell? ⟨B,o,none⟩:=fun B o hB=>by simp[World.cell?,hb B hB]
 refine ⟨?_,?_⟩
 ·rw[hc _ 0 (by decide)];exact h.maxLen
 ·have:=h.pow10
  unfold Lib.TabIs World.var? at this ⊢
  rw[Rz] at this ⊢
  simp only[Option.bind_some] at this ⊢
  rw[hb _ (by decide)]
  exact this
theorem AIo {w:World} (h:GN w):4<=w.heap.size:=by
 obtain ⟨m,hm⟩:=h.maxLen
 have h1:0 < w.heap.size:=World.block_lt_of_cell? w ⟨0,0,none⟩ hm
 have h2:3 < w.heap.size:=by
  have:=h.pow10
  unfold Lib.TabIs World.var? at this
  rw[Rz] at this
  simp only[Option.bind_some] at this
  cases hh:w.heap[3]? with
  |none=>rw[hh] at this;simp at this
  |some _=>exact (Array.getElem?_eq_some_iff.1 hh).1
 omega
end Go.AM.Num
end
section
namespace Go.AM.Num
open Go.Proofs
noncomputable def VN:Env where
 P:=Tryz.prog
 gb:=4
 G:=GN
 keep:=fun w w' h _ hb=>AFf h hb
 mixed:=by kernel_rfl
theorem f0:Fs Tryz.prog VN l0:=(((((((((((⟨rfl,ADF⟩:Fs Tryz.prog VN []).cons (ZG rfl (fun _ h=>h))).cons (ADL rfl (fun _ h=>h))).cons (AB6 rfl)).cons (AAo rfl)).cons (AFH rfl (fun _ h=>h))).cons (AGT rfl)).cons (AFV rfl)).cons (ADE rfl)).cons (AHM rfl)).cons (AL5 rfl))
end Go.AM.Num
end
section
namespace Go.AM.Num
open Go.Proofs Go.Proofs.YtcpdjngcofhljaaGreatDoor Go.RowKit Go.ChangeShapes Go.WideShapes Go.ChangeAt
theorem AF7 {k:FuncId} {ps:List PK} {g:AB ps->Option (AB [.val .bool]×Ch ps)} (hG:Good VN k ⟨ps,[.val .bool],g⟩) (x:AB ps) (hin:AT ps x=[]) (hk:cntK ps=0) (o:Ch ps) (hx:g x=some ((true,()),o))
 (W:World) (hW:GN W) (vs:Array Value) (ha:RelL (Ah W) (fun B=>B < W.heap.size) (fun _=>none) (A9 ps x 0 0) vs.toList) :
 Calls Tryz.prog k vs W fun e w'=>e=.returned (.bool true)/\Below W.heap.size W w':=by
 refine Calls.mono (hG.spec x _ o hx W (fun B=>B < W.heap.size) (fun _=>none) vs hW (AIo hW) ?_ ?_) ?_
 ·rw[hin];exact ACV fun _ h=>h
 ·rw[hk];exact ha
 ·rintro e w' ⟨us,I',β',rfl,hf,_,hr⟩
  obtain rfl:us=[.bool true]:=by
   have:FF ps [.val .bool] (true,())=[.bool true]:=rfl
   rw[this] at hr
   simp only[RelL,RelV] at hr
   obtain ⟨u,us',rfl,rfl,rfl⟩:=hr
   rfl
  refine ⟨rfl,hf.os,hf.tape,hf.output,hf.size,fun B hB=>hf.block B hB ?_⟩
  rw[hin]
  exact H4 B
def IL (l:List Int):Prop:=l.length<=9223372036854775807/\∀ x∈l,D6 x
theorem AFN {n:Int} (h:(Lit.int .i64 n).wf=true):D6 n:=by
 simp only[Lit.wf,qY0,decide_eq_true_eq] at h
 exact h
theorem Tw {l:List Int} (h:l.length<=maxLen) (hw:∀ x∈l,(Lit.int .i64 x).wf=true):IL l:=⟨by unfold maxLen at h;omega,fun x hx=>AFN (hw x hx)⟩
section
variable {H:Type} {enc:TypeId×Value->H} {W:World} {I:Nat->Prop} {rd:Nat->Nat->Option Value} {β:Nat->Option Place}
theorem Zq (b:Bool):RelV rd I β (Go.AM.enc .bool b) (.bool b):=by
 have e:Go.AM.enc .bool b=.bool b:=rfl
 rw[e];simp only[RelV]
theorem ADo:RelL rd I β (A9 [] () 0 0) []:=by simp only[A9,RelL]
theorem RD {t:GT} {ps:List PK} {x:t.ty} {y:AB ps} {v:Value} {vs:List Value} (h:RelV rd I β (Go.AM.enc t x) v) (r:RelL rd I β (A9 ps y 0 0) vs):RelL rd I β (A9 (.val t::ps) (x,y) 0 0) (v::vs):=by
 simp only[A9,RelL]
 exact ⟨v,vs,rfl,h,r⟩
theorem AEf (a:Addr) (i:Nat) (h:a.spot=none):a.add i=⟨a.block,a.off+i,none⟩:=by
 obtain ⟨b,o,s⟩:=a
 simp only at h;subst h
 simp[Addr.add]
theorem VD {t e:TypeId} {k:IntKind} {a:Option Addr} {len cap:Nat} {d:DataW H} {p:List MemPlace} (ht:Tryz.prog.underlying t=some (.slice e)) (he:Tryz.prog.underlying e=some (.int k)) (hc:Tryz.prog.cellsOf e=1) (h:DataW.Trod enc Tryz.prog W 0 (fun _=>true) true t (.slice a len cap) d p) :
 ∃ l:List Int,l.length=len/\len<=maxLen/\(∀ x∈l,(Lit.int k x).wf=true)/\TV (Ah W) (fun B=>B < W.heap.size) (.sl (.int k)) l (.slice a len cap):=by
 obtain ⟨fuel,hf⟩:=h
 rcases open_ints ht he hc hf with ⟨hcs,_⟩ | ⟨x,l,c,zs,hcs,_,hl,hm,hz,_,hcell,hwz⟩
 ·simp[Value.cells] at hcs
  obtain ⟨rfl,rfl,rfl⟩:=hcs
  refine ⟨[],rfl,Nat.zero_le _,by simp,?_⟩
  simp only[TV,GT.isAgg,RelC]
  exact ⟨none,0,rfl,Nat.le_refl _,fun h=>absurd rfl h⟩
 ·simp[Value.cells] at hcs
  obtain ⟨rfl,rfl,rfl⟩:=hcs
  simp only[if_true] at hz
  have hzl:zs.length=cap:=by simpa using hz
  refine ⟨zs.take len,by simp;omega,by omega,fun y hy=>hwz y (List.mem_of_mem_take hy),?_⟩
  have hg:∀ i,i < zs.length->W.cell? (x.add i)=some (.int k (zs.getD i 0)):=hcell
  simp only[TV,GT.isAgg,RelC]
  refine ⟨some x,cap,by simp;omega,by simp;omega,fun hne=>?_⟩
  have hpos:0 < zs.length:=by
   have:zs.take len≠[]:=hne
   rcases zs with _ | ⟨z,zs⟩
   ·simp at this
   ·simp
  have hspot:x.spot=none:=by simpa [Addr.add] using World.cell?_spot (hg 0 hpos)
  have hat:∀ i,i < zs.length->W.cell? ⟨x.block,x.off+i,none⟩=some (.int k (zs.getD i 0)):=fun i hi=>by
   rw[<-AEf x i hspot];exact hg i hi
  refine ⟨x.block,x.off,by obtain ⟨b,o,s⟩:=x;simp only at hspot;subst hspot;rfl,World.block_lt_of_cell? W ⟨x.block,x.off+0,none⟩ (hat 0 hpos),fun i z hi=>?_⟩
  have hi1:i < zs.length:=by
   have:=(List.getElem?_eq_some_iff.1 hi).1
   simp at this;omega
  have hzi:zs.getD i 0=z:=by
   rw[List.getElem?_take] at hi
   split at hi
   ·rw[qZ4,hi];rfl
   ·cases hi
  refine ⟨[.int k z],rfl,fun j hj=>?_,rfl⟩
  have:j=0:=by simp[GT.cells] at hj;omega
  subst this
  have:=hat i hi1
  rw[hzi] at this
  have h2:=W5 this rfl
  simpa [GT.cells] using h2
end
noncomputable def Ll (os:Os):World:=
 { World.doorLaid Tryz.prog 400 os with heap:=(World.doorLaid Tryz.prog 400 os).heap.modify 4 fun
  |.cells _ t frozen=>.cells (Go.Pinned.utf8FirstZ.map fun n=>Value.int .u8 (n:Nat)).toArray t frozen
  |o=>o }
set_option maxRecDepth 100000 in
theorem ACE (os:Os) (args:Array Value):laidMet Tryz.prog Rows.valueFunctionsRow.laid ((Ll os).forCall (fun _ _=>0) ⟨#[],args,[]⟩).memory:=
 laidMet_of_run' 8 (by kernel_rfl) (by kernel_rfl)
theorem Zc (os:Os) (args:Array Value):(((Ll os).forCall (fun _ _=>0) ⟨#[],args,[]⟩).variablesRefB Tryz.prog)=true:=by kernel_rfl
theorem AB4 (os:Os) (args:Array Value):((((Ll os).forCall (fun _ _=>0) ⟨#[],args,[]⟩).heap.toList.drop Tryz.prog.globals.size).take ((begin Tryz.prog (fun _ _=>0) default).world.heap.size - Tryz.prog.globals.size) =
 (begin Tryz.prog (fun _ _=>0) default).world.heap.toList.drop Tryz.prog.globals.size):=by kernel_rfl
theorem own:ownKnob Tryz.prog.godebug=none:=by kernel_rfl
theorem XC:laidOutB Tryz.prog=true:=by kernel_rfl
end Go.AM.Num
end
section
namespace Go.AM.Num
theorem AFA (l:List Int) (hl:IL l) (m:List Int) (hm:IL m) (odd:Bool):Nm l m odd=some ((true,()),()):=ALy l m odd
end Go.AM.Num
end
