/- Law ValueShape of the values: a machine of plain values, what the program's functions compute in it, and what that is. No condition beyond what the statement says. -/
import Derived.Test.YtcpdjngcofhljaaGreatDoorValueShape6
import Derived.Test.YtcpdjngcofhljaaGreatDoorValueShape3
import Derived.Test.YtcpdjngcofhljaaGreatDoorValueShape5
import Derived.Test.YtcpdjngcofhljaaGreatDoorRows
import Derived.Shelf.Vars
import Derived.Lib.LaidTab
import Derived.ProofKit
import Derived.MakeChecks
import Derived.OpenShut
import Derived.Lib.Strings
import Derived.SliceStrings
import Derived.SizedLaws
import Derived.Test.YtcpdjngcofhljaaGreatDoorCards
import Derived.Test.YtcpdjngcofhljaaGreatDoorTie
import Derived.ShutString
import Derived.ChangeOld
import Derived.Below
import Derived.LaidMore
import Derived.Deep.DeepHandedRow
import Derived.Deep.DeepWitnessRowRef
import GoSem.PinnedTables
import Derived.ChangeArms
set_option linter.unusedSimpArgs false
set_option linter.unusedVariables false
section
namespace Go.AM.Num
inductive SV where
 |b (x:Bool)
 |z (n:Int)
 |q (r:Rat)
 |a (d:Int) (P:KV)
def encS:SV->Val
 |.b x=>(1,x,[],[],[])
 |.z n=>(2,false,ti n,[],[])
 |.q r=>(3,false,txt r,[],[])
 |.a d P=>qMH d P
def qPk:SV->Int
 |.b _=>1
 |.z _=>2
 |.q _=>3
 |.a _ _=>4
def okS:SV->Prop
 |.a d P=>Canon d P
 |_=>True
def isT:SV->Bool
 |.b x=>x
 |_=>false
def qDx:SV->Rat
 |.z n=>(n:Rat)
 |.q r=>r
 |_=>0
def intV (v:SV):Int:=(qDx v).num
def numS (s:Int) (r:Rat):SV:=if s=2 then .z r.num else .q r
def atS:SV->Int->Int
 |.a d P,i=>atP d P i
 |_,_=>0
def stS:SV->Int->Int->SV
 |.a d P,i,n=>.a d (stP d P i n)
 |v,_,_=>v
def sumQ (vs:List SV):Rat:=vs.foldl (fun s v=>s+qDx v) 0
noncomputable def qPt (n:Nod):Rat:=(rd (qMK n)).getD 0
open Classical in
noncomputable def opV (n:Nod) (vs:List SV):SV:=
 if nOp n=1\/nOp n=7 then .b (vs.all isT)
 else if nOp n=2\/nOp n=8 then .b (vs.any isT)
 else if nOp n=6 then .b (!isT (vs.getD 0 (.b false)))
 else if nOp n=9 then .b (!isT (vs.getD 0 (.b false))||isT (vs.getD 1 (.b false)))
 else if nOp n=10 then (if isT (vs.getD 0 (.b false))=true then vs.getD 1 (.b false) else vs.getD 2 (.b false))
 else if nOp n=11 then .b (decide (vs.getD 0 (.b false)=vs.getD 1 (.b false)))
 else if nOp n=12 then .b (decide (qDx (vs.getD 0 (.b false))<=qDx (vs.getD 1 (.b false))))
 else if nOp n=13 then .b (decide (qDx (vs.getD 0 (.b false)) < qDx (vs.getD 1 (.b false))))
 else if nOp n=3 then numS (qTF n) (qPt n)
 else if nOp n=14 then numS (qPk (vs.getD 0 (.b false))) (sumQ vs)
 else if nOp n=15 then numS (qPk (vs.getD 0 (.b false))) (qDx (vs.getD 0 (.b false)) * qDx (vs.getD 1 (.b false)))
 else if nOp n=16 then .z (intV (vs.getD 0 (.b false)) / (qPt n).num)
 else if nOp n=17 then .z (intV (vs.getD 0 (.b false)) % (qPt n).num)
 else if nOp n=18 then .z (atS (vs.getD 0 (.b false)) (intV (vs.getD 1 (.b false))))
 else if nOp n=19 then stS (vs.getD 0 (.b false)) (intV (vs.getD 1 (.b false))) (intV (vs.getD 2 (.b false)))
 else .a (intV (vs.getD 0 (.b false))) []
theorem qQZ {v:Val}:qOO v=true ↔ v.2.2.2.1=[]/\v.2.2.2.2=[]:=by
 unfold qOO
 simp only[qY0,decide_eq_true_eq,List.length_eq_zero_iff]
theorem qCu {v:Val}:qDL v=true ↔ ∃ s,okS s/\v=encS s:=by
 constructor
 ·intro h
  by_cases h4:v.1=4
  ·obtain ⟨d,P,e,c⟩:=qBab h h4
   exact ⟨.a d P,c,e⟩
  obtain ⟨s,b,num,k,w⟩:=v
  simp only at h4
  unfold qDL at h
  simp only at h
  split at h
  ·rename_i h1
   subst h1
   simp only[qY0,qQZ,beq_iff_eq] at h
   obtain ⟨rfl,rfl,rfl⟩:=h
   exact ⟨.b b,trivial,rfl⟩
  ·split at h
   ·rename_i h1
    subst h1
    simp only[qY0,qQZ,Bool.not_eq_true'] at h
    obtain ⟨⟨rfl,h2⟩,rfl,rfl⟩:=h
    obtain ⟨z,rfl⟩:=qVad h2
    exact ⟨.z z,trivial,rfl⟩
   ·split at h
    ·rename_i h1
     subst h1
     simp only[qY0,qQZ,Bool.not_eq_true',Option.isSome_iff_exists] at h
     obtain ⟨⟨rfl,q,h2⟩,rfl,rfl⟩:=h
     have:=qMJ h2
     subst this
     exact ⟨.q q,trivial,rfl⟩
    ·first | cases h | (rw[if_neg h4] at h;cases h)
 ·rintro ⟨s,h,rfl⟩
  cases s with
  |b x=>simp[encS,qDL,qOO]
  |z n=>simp[encS,qDL,qOO,qGe]
  |q r=>simp[encS,qDL,qOO,qIK]
  |a d P=>exact qFm h
theorem qUd {s:SV} (h:okS s):qDL (encS s)=true:=qCu.2 ⟨s,h,rfl⟩
theorem qHj {s:Int} (h:s=2\/s=3) (r:Rat):qPk (numS s r)=s:=by
 unfold numS
 split
 ·rename_i e;rw[e];rfl
 ·rcases h with h | h
  ·contradiction
  ·rw[h];rfl
theorem qDs (s:Int) (r:Rat):okS (numS s r):=by unfold numS;split<;>trivial
theorem qFam {n:Nod} {vs:List SV} {f:Int} (hn:qKB n=true) (h4:nOp n≠4) (h5:nOp n≠5) (hc:qMB (nOp n) vs.length=true) (hs:qWF n f (vs.map qPk)≠0) (hok:∀ v∈vs,okS v) :
 qPk (opV n vs)=qWF n f (vs.map qPk)/\okS (opV n vs):=by
 obtain ⟨o,s,nm,num,kd⟩:=n
 simp only[nOp] at h4 h5 hc
 have hall:∀ ws:List SV,(if ∀ s∈ws.map qPk,s=1 then (1:Int) else 0)≠0->(1:Int)=if ∀ s∈ws.map qPk,s=1 then (1:Int) else 0:=fun ws h=>by
  split at h<;>rename_i hh
  ·rw[if_pos hh]
  ·exact absurd rfl h
 unfold opV qWF at *
 simp only[nOp,qTF] at *
 by_cases e3:o=3
 ·subst e3
  simp at hs ⊢
  refine ⟨qHj ?_ _,qDs _ _⟩
  simp[qKB] at hn
  rcases hn.2 with h | h
  ·exact .inl h.1
  ·exact .inr h.1
 rw[if_neg (show ¬ (o=3\/o=4\/o=5) by omega)] at hs ⊢
 by_cases e1:o=1\/o=7
 ·rw[if_pos e1,if_pos (by omega)]
  rw[if_pos (by omega)] at hs
  exact ⟨hall vs hs,trivial⟩
 rw[if_neg e1]
 by_cases e2:o=2\/o=8
 ·rw[if_pos e2,if_pos (by omega)]
  rw[if_pos (by omega)] at hs
  exact ⟨hall vs hs,trivial⟩
 rw[if_neg e2]
 by_cases e6:o=6
 ·rw[if_pos e6,if_pos (by omega)]
  rw[if_pos (by omega)] at hs
  exact ⟨hall vs hs,trivial⟩
 rw[if_neg e6]
 by_cases e9:o=9
 ·rw[if_pos e9,if_pos (by omega)]
  rw[if_pos (by omega)] at hs
  exact ⟨hall vs hs,trivial⟩
 rw[if_neg e9]
 rw[if_neg (show ¬ (o=1\/o=2\/o=6\/o=7\/o=8\/o=9) by omega)] at hs ⊢
 by_cases e10:o=10
 ·subst e10
  rcases vs with _ | ⟨a,_ | ⟨b,_ | ⟨c,_ | ⟨d,l⟩⟩⟩⟩<;>simp[qMB] at hc
  ·simp at hs hok ⊢
   by_cases q:isT a=true
   ·rw[if_pos q,if_pos ⟨hs.1,hs.2.1⟩];exact ⟨rfl,hok.2.1⟩
   ·rw[if_neg q,if_pos ⟨hs.1,hs.2.1⟩];exact ⟨hs.2.1.symm,hok.2.2⟩
  ·omega
 rw[if_neg e10] at hs ⊢
 rw[if_neg e10]
 by_cases e11:o=11
 ·subst e11
  simp at hs ⊢
  rw[if_pos hs];exact ⟨rfl,trivial⟩
 rw[if_neg e11] at hs ⊢
 rw[if_neg e11]
 by_cases e12:o=12
 ·subst e12
  simp only[true_or,if_true] at hs ⊢
  split at hs<;>rename_i hh
  ·rw[if_pos hh];exact ⟨rfl,trivial⟩
  ·exact absurd rfl hs
 rw[if_neg e12]
 by_cases e13:o=13
 ·subst e13
  simp only[or_true,if_true] at hs ⊢
  split at hs<;>rename_i hh
  ·rw[if_pos hh];exact ⟨rfl,trivial⟩
  ·exact absurd rfl hs
 rw[if_neg e13,if_neg e3]
 rw[if_neg (show ¬ (o=12\/o=13) by omega)] at hs ⊢
 by_cases e14:o=14
 ·subst e14
  rcases vs with _ | ⟨a,l⟩<;>simp[qMB] at hc
  simp only[if_true,List.map_cons,qZ3] at hs ⊢
  split at hs<;>rename_i hh
  ·rw[if_pos hh];exact ⟨qHj hh.1 _,qDs _ _⟩
  ·exact absurd rfl hs
 rw[if_neg e14] at hs ⊢
 rw[if_neg e14]
 by_cases e15:o=15
 ·subst e15
  rcases vs with _ | ⟨a,l⟩<;>simp[qMB] at hc
  simp only[if_true,List.map_cons,qZ3] at hs ⊢
  split at hs<;>rename_i hh
  ·rw[if_pos hh];exact ⟨qHj hh.2.1 _,qDs _ _⟩
  ·exact absurd rfl hs
 rw[if_neg e15] at hs ⊢
 rw[if_neg e15]
 by_cases e16:o=16
 ·rw[if_pos e16,if_pos (.inl e16)]
  rw[if_pos (.inl e16)] at hs
  split at hs<;>rename_i hh
  ·rw[if_pos hh];exact ⟨rfl,trivial⟩
  ·exact absurd rfl hs
 rw[if_neg e16]
 by_cases e17:o=17
 ·rw[if_pos e17,if_pos (.inr e17)]
  rw[if_pos (.inr e17)] at hs
  split at hs<;>rename_i hh
  ·rw[if_pos hh];exact ⟨rfl,trivial⟩
  ·exact absurd rfl hs
 rw[if_neg e17]
 rw[if_neg (show ¬ (o=16\/o=17) by omega)] at hs ⊢
 by_cases e18:o=18
 ·rw[if_pos e18] at hs ⊢
  rw[if_pos e18]
  split at hs<;>rename_i hh
  ·rw[if_pos hh];exact ⟨rfl,trivial⟩
  ·exact absurd rfl hs
 rw[if_neg e18] at hs ⊢
 rw[if_neg e18]
 by_cases e19:o=19
 ·subst e19
  rcases vs with _ | ⟨a,_ | ⟨b,_ | ⟨c,_ | ⟨d,l⟩⟩⟩⟩<;>simp[qMB] at hc
  ·simp at hs hok ⊢
   rw[if_pos hs]
   cases a with
   |a d P=>exact ⟨rfl,qHn hok.1 _ _⟩
   |b x=>simp[qPk] at hs
   |z x=>simp[qPk] at hs
   |q x=>simp[qPk] at hs
  ·omega
 rw[if_neg e19] at hs ⊢
 rw[if_neg e19]
 split at hs<;>rename_i hh
 ·rw[if_pos hh]
  split at hs<;>rename_i h2
  ·rw[if_pos h2];exact ⟨rfl,qQn _⟩
  ·exact absurd rfl hs
 ·exact absurd rfl hs
structure Ht (m:Nat) (r:Rat):Prop where
 num:(dd r.num.natAbs).length<=m
 den:(dd r.den).length<=m
theorem Ht.mono {m k:Nat} {r:Rat} (h:Ht m r) (hk:m<=k):Ht k r:=⟨by have:=h.num;omega,by have:=h.den;omega⟩
theorem Ht.D {m:Nat} {r:Rat} (h:Ht m r):D r<=2 * m:=by have:=h.num;have:=h.den;unfold Num.D;omega
theorem qJan {m:Nat} {r:Rat} (h:D r<=m):Ht m r:=by unfold Num.D at h;exact ⟨by omega,by omega⟩
theorem qNaq {n:Int} {d m:Nat} (hd:d≠0) (h1:(dd n.natAbs).length<=m) (h2:(dd d).length<=m):Ht m (mkRat n d):=by
 have e1:(n / (d.gcd n.natAbs:Nat)).natAbs<=n.natAbs:=by
  obtain ⟨k,hk⟩:((d.gcd n.natAbs:Nat):Int) ∣ n:=by
   have:=Nat.gcd_dvd_right d n.natAbs
   exact Int.ofNat_dvd_left.2 this
  have hg:((d.gcd n.natAbs:Nat):Int)≠0:=fun e=>hd (Nat.gcd_eq_zero_iff.1 (by exact_mod_cast e)).1
  have e1:n / (d.gcd n.natAbs:Nat)=k:=by
   conv=>lhs;lhs;rw[hk]
   exact Int.mul_ediv_cancel_left _ hg
  rw[e1]
  conv=>rhs;rw[hk,Int.natAbs_mul]
  exact Nat.le_mul_of_pos_left _ (by omega)
 have e2:=Nat.div_le_self d (d.gcd n.natAbs)
 have:=qBB e1
 have:=qBB e2
 refine ⟨?_,?_⟩
 ·rw[Rat.num_mkRat,if_neg hd];omega
 ·rw[Rat.den_mkRat,if_neg hd];omega
theorem qEap {m k:Nat} {p q:Rat} (hp:Ht m p) (hq:Ht k q):Ht (m+k+1) (p+q):=by
 rw[Rat.add_def']
 have h1:=qBB (qTX (p.num * q.den) (q.num * p.den))
 have h2:=qGU (p.num * q.den).natAbs (q.num * p.den).natAbs
 rw[Int.natAbs_mul,Int.natAbs_mul,Int.natAbs_natCast,Int.natAbs_natCast] at h1 h2
 have h3:=qSB p.num.natAbs q.den
 have h4:=qSB q.num.natAbs p.den
 have h5:=qSB p.den q.den
 have:=hp.num;have:=hp.den;have:=hq.num;have:=hq.den
 exact qNaq (Nat.mul_ne_zero p.den_nz q.den_nz) (by omega) (by omega)
theorem qMap {m k:Nat} {p q:Rat} (hp:Ht m p) (hq:Ht k q):Ht (m+k) (p * q):=by
 rw[Rat.mul_def']
 have h1:=qSB p.num.natAbs q.num.natAbs
 have h5:=qSB p.den q.den
 have:=hp.num;have:=hp.den;have:=hq.num;have:=hq.den
 exact qNaq (Nat.mul_ne_zero p.den_nz q.den_nz) (by rw[Int.natAbs_mul];omega) (by omega)
theorem qEV {m:Nat} {n:Int} (h:(dd n.natAbs).length<=m):Ht m (n:Rat):=by
 refine ⟨by rw[Rat.num_intCast];exact h,?_⟩
 rw[Rat.den_intCast,qFP]
 have:=qRN n.natAbs
 simp;omega
theorem qSae {m:Nat} {r:Rat} (h:Ht m r):Ht m ((r.num:Int):Rat):=qEV h.num
theorem qDak {m:Nat} {x y:Int} (h:Ht m (x:Rat)) (hy:y.natAbs<=x.natAbs):Ht m (y:Rat):=by
 have:=h.num
 rw[Rat.num_intCast] at this
 exact qEV (by have:=qBB hy;omega)
def Bdd (B:Nat):SV->Prop
 |.b _=>True
 |.z n=>Ht B (n:Rat)
 |.q r=>Ht B r
 |.a d P=>Ht B (d:Rat)/\(∀ p∈P,Ht B (p.1:Rat)/\Ht B (p.2:Rat))/\P.length<=B
theorem Bdd.mono {B C:Nat} {v:SV} (h:Bdd B v) (hc:B<=C):Bdd C v:=by
 cases v with
 |b _=>trivial
 |z n=>exact Ht.mono h hc
 |q r=>exact Ht.mono h hc
 |a d P=>
  obtain ⟨h1,h2,h3⟩:=h
  exact ⟨h1.mono hc,fun p hp=>⟨(h2 p hp).1.mono hc,(h2 p hp).2.mono hc⟩,by omega⟩
theorem qEo {B:Nat} {v:SV} (h:Bdd B v) (hB:1<=B):Ht B (qDx v):=by
 have h0:Ht B ((0:Int):Rat):=qEV (by simp[qWC];exact hB)
 cases v with
 |b _=>exact h0
 |z n=>exact h
 |q r=>exact h
 |a d P=>exact h0
theorem qIaq {B:Nat} {v:SV} (h:Bdd B v) (hB:1<=B):Ht B ((intV v:Int):Rat):=qSae (qEo h hB)
def Hs:List SV->Nat->Prop
 |[],_=>True
 |v::vs,B=>∃ b c,1<=b/\Bdd b v/\Hs vs c/\b+1+c<=B
theorem Hs.mono {vs:List SV} {B C:Nat} (h:Hs vs B) (hc:B<=C):Hs vs C:=by
 cases vs with
 |nil=>trivial
 |cons v vs=>obtain ⟨b,c,h1,h2,h3,h4⟩:=h;exact ⟨b,c,h1,h2,h3,by omega⟩
theorem Hs.mem:∀ {vs:List SV} {B:Nat},Hs vs B->∀ v∈vs,Bdd B v:=by
 intro vs
 induction vs with
 |nil=>intro B _ v hv;cases hv
 |cons w vs ih=>
  intro B h v hv
  obtain ⟨b,c,h1,h2,h3,h4⟩:=h
  rcases List.mem_cons.1 hv with rfl | hv
  ·exact h2.mono (by omega)
  ·exact (ih h3 v hv).mono (by omega)
theorem Hs.sum:∀ {vs:List SV} {a B:Nat} {r:Rat},Ht a r->Hs vs B->Ht (a+B) (vs.foldl (fun s v=>s+qDx v) r):=by
 intro vs
 induction vs with
 |nil=>intro a B r h _;exact h.mono (by omega)
 |cons w vs ih=>
  intro a B r h hs
  obtain ⟨b,c,h1,h2,h3,h4⟩:=hs
  exact (ih (qEap h (qEo h2 h1)) h3).mono (by omega)
theorem Hs.get {vs:List SV} {B:Nat} (h:Hs vs B) (i:Nat):Bdd B (vs.getD i (.b false)):=by
 rw[qZ4]
 cases hi:vs[i]? with
 |none=>trivial
 |some v=>exact h.mem v (qY14 hi)
theorem qIai (i:Int):∀ P:KV,(lo i P).length+(hi i P).length<=P.length:=by
 intro P
 induction P with
 |nil=>simp[lo,hi]
 |cons p P ih=>
  simp only[lo,hi] at ih
  simp only[lo,hi,List.filter_cons]
  by_cases h1:p.1 < i
  ·rw[if_pos (qZ10 h1),if_neg (by simp;omega)];simp;omega
  ·rw[if_neg (by simp;omega)]
   split<;>simp<;>omega
theorem qRq {B:Nat} {r:Rat} (s:Int) (h:Ht B r):Bdd B (numS s r):=by unfold numS;split;exact qSae h;exact h
theorem qAar {n:Nod} {vs:List SV} {B:Nat} (hB:Hs vs B) (hn:Ht 75 (qPt n)):Bdd (B+79) (opV n vs):=by
 have g:=hB.get
 have gi:∀ i,Ht (B+1) ((intV (vs.getD i (.b false)):Int):Rat):=fun i=>qIaq ((g i).mono (by omega)) (by omega)
 have gv:∀ i,Ht (B+1) (qDx (vs.getD i (.b false))):=fun i=>qEo ((g i).mono (by omega)) (by omega)
 unfold opV
 by_cases c0:nOp n=1\/nOp n=7
 ·rw[if_pos c0];trivial
 rw[if_neg c0]
 by_cases c1:nOp n=2\/nOp n=8
 ·rw[if_pos c1];trivial
 rw[if_neg c1]
 by_cases c2:nOp n=6
 ·rw[if_pos c2];trivial
 rw[if_neg c2]
 by_cases c3:nOp n=9
 ·rw[if_pos c3];trivial
 rw[if_neg c3]
 by_cases c4:nOp n=10
 ·rw[if_pos c4]
  split<;>exact (g _).mono (by omega)
 rw[if_neg c4]
 by_cases c5:nOp n=11
 ·rw[if_pos c5];trivial
 rw[if_neg c5]
 by_cases c6:nOp n=12
 ·rw[if_pos c6];trivial
 rw[if_neg c6]
 by_cases c7:nOp n=13
 ·rw[if_pos c7];trivial
 rw[if_neg c7]
 by_cases c8:nOp n=3
 ·rw[if_pos c8];exact qRq _ (hn.mono (by omega))
 rw[if_neg c8]
 by_cases c9:nOp n=14
 ·rw[if_pos c9]
  have h0:Ht 1 (0:Rat):=qEV (n:=0) (by simp[qWC])
  exact qRq _ ((hB.sum h0).mono (by omega))
 rw[if_neg c9]
 by_cases c10:nOp n=15
 ·rw[if_pos c10]
  refine qRq _ ?_
  rcases vs with _ | ⟨a,_ | ⟨b,l⟩⟩
  ·simp only[List.getD_nil,qDx]
   rw[Rat.zero_mul]
   exact qEV (n:=0) (by simp[qWC])
  ·simp only[qZ2,List.getD_nil,qDx]
   rw[Rat.mul_zero]
   exact qEV (n:=0) (by simp[qWC])
  ·obtain ⟨x,c,h1,h2,⟨y,c2,h5,h6,h7,h8⟩,h4⟩:=hB
   simp only[qZ2,qZ3]
   exact (qMap (qEo h2 h1) (qEo h6 h5)).mono (by omega)
 rw[if_neg c10]
 by_cases c11:nOp n=16
 ·rw[if_pos c11]
  have:(intV (vs.getD 0 (.b false)) / (qPt n).num).natAbs<=(intV (vs.getD 0 (.b false))).natAbs:=by
   have h:=Int.natAbs_ediv_le_natAbs (intV (vs.getD 0 (.b false))) (qPt n).num
   exact h
  exact (qDak (gi 0) this).mono (by omega)
 rw[if_neg c11]
 by_cases c12:nOp n=17
 ·rw[if_pos c12]
  by_cases hz:(qPt n).num=0
  ·rw[hz,Int.emod_zero];exact (gi 0).mono (by omega)
  ·have:(intV (vs.getD 0 (.b false)) % (qPt n).num).natAbs<=(qPt n).num.natAbs:=by
    have h1:=Int.emod_nonneg (intV (vs.getD 0 (.b false))) hz
    have h2:=Int.emod_lt (intV (vs.getD 0 (.b false))) hz
    omega
   exact (qDak (qSae hn) this).mono (by omega)
 rw[if_neg c12]
 by_cases c13:nOp n=18
 ·rw[if_pos c13]
  have ga:=g 0
  generalize vs.getD 0 (.b false)=v at ga
  cases v with
  |a d P=>
   obtain ⟨h1,h2,h3⟩:=ga
   have:atP d P (intV (vs.getD 1 (.b false)))=d\/∃ p∈P,atP d P (intV (vs.getD 1 (.b false)))=p.2:=by
    unfold atP
    cases hf:P.find? fun p=>decide (p.1=intV (vs.getD 1 (.b false))) with
    |none=>exact .inl rfl
    |some p=>exact .inr ⟨p,List.mem_of_find?_eq_some hf,rfl⟩
   simp only[atS]
   rcases this with e | ⟨p,hp,e⟩
   ·rw[e];exact h1.mono (by omega)
   ·rw[e];exact (h2 p hp).2.mono (by omega)
  |b _=>exact qEV (n:=0) (by simp[qWC])
  |z _=>exact qEV (n:=0) (by simp[qWC])
  |q _=>exact qEV (n:=0) (by simp[qWC])
 rw[if_neg c13]
 by_cases c14:nOp n=19
 ·rw[if_pos c14]
  have ga:=g 0
  generalize vs.getD 0 (.b false)=v at ga
  cases v with
  |a d P=>
   obtain ⟨h1,h2,h3⟩:=ga
   simp only[stS]
   refine ⟨h1.mono (by omega),fun p hp=>?_,?_⟩
   ·unfold stP at hp
    rcases List.mem_append.1 hp with hp | hp
    ·rcases List.mem_append.1 hp with hp | hp
     ·have:=h2 p (qQh.1 hp).1;exact ⟨this.1.mono (by omega),this.2.mono (by omega)⟩
     ·split at hp
      ·cases hp
      ·rw[List.mem_singleton.1 hp];exact ⟨(gi 1).mono (by omega),(gi 2).mono (by omega)⟩
    ·have:=h2 p (qFn.1 hp).1;exact ⟨this.1.mono (by omega),this.2.mono (by omega)⟩
   ·have e:=qIai (intV (vs.getD 1 (.b false))) P
    unfold stP
    simp only[qZ6]
    split<;>simp only[List.length_nil,qY11]<;>omega
  |b _=>trivial
  |z _=>exact Ht.mono ga (by omega)
  |q _=>exact Ht.mono ga (by omega)
 rw[if_neg c14]
 ·exact ⟨(gi 0).mono (by omega),fun p hp=>absurd hp qY16,Nat.zero_le _⟩
end Go.AM.Num
end
section
namespace Go.AM.Num
open Tf
noncomputable def evN (A:qBs->Option SV) (G:Nod->List SV->Int ⊕ SV) (n:Nod) (vs:List SV):Int ⊕ SV:=
 if nOp n=4 then (match A (qAL n) with | none=>.inl 7 | some v=>if qPk v=qTF n then .inr v else .inl 3)
 else if nOp n=5 then G n vs
 else .inr (opV n vs)
noncomputable def evF (A:qBs->Option SV) (G:Nod->List SV->Int ⊕ SV):Tf->Int ⊕ List SV
 |.nil=>.inr []
 |.cons n k r=>match evF A G k with
  |.inl e=>.inl e
  |.inr vs=>match evN A G n vs with
   |.inl e=>.inl e
   |.inr v=>match evF A G r with
    |.inl e=>.inl e
    |.inr ws=>.inr (v::ws)
structure EA (A:qBs->Option SV) (G:Nod->List SV->Int ⊕ SV):Prop where
 ok:∀ nm v,A nm=some v->okS v/\Bdd 75 v
 fn:∀ n vs v,G n vs=.inr v->okS v/\Bdd 75 v/\qPk v=qTF n
 er:∀ n vs e,G n vs=.inl e->e≠0
def qEaf (f:Tf):Prop:=∀ n∈f.flat,(qMK n).length<=73
theorem qTal {n:Nod} (h:(qMK n).length<=73):Ht 75 (qPt n):=by
 unfold qPt
 cases hr:rd (qMK n) with
 |none=>exact qEV (n:=0) (by simp[qWC])
 |some q=>
  have e:=qMJ hr
  have:=D_le q
  rw[<-e] at this
  exact qJan (r:=q) (by omega)
theorem qEa {n:Nod}:okN n=true ↔ qKB n=true/\qMB (nOp n) (qID n)=true:=by unfold okN;rw[qY0]
theorem qGB {A:qBs->Option SV} {G:Nod->List SV->Int ⊕ SV} (hE:EA A G):∀ (F:Tf),F.wf=true->(0:Int)∉F.srt->qEaf F->∀ vs,evF A G F=.inr vs->vs.map qPk=F.srt/\(∀ v∈vs,okS v)/\Hs vs (80 * F.size):=by
 intro F
 induction F with
 |nil=>
  intro _ _ _ vs h
  simp only[evF,Sum.inr.injEq] at h
  subst h
  exact ⟨rfl,fun v hv=>(by cases hv),trivial⟩
 |cons n k r ik ir=>
  intro hw hs hn vs h
  obtain ⟨w1,w2,w3,w4⟩:=qBH.1 hw
  obtain ⟨s1,s2,s3⟩:=qQS.1 hs
  have hnk:qEaf k:=fun m hm=>hn m (by simp only[flat,qY12,qZ7];exact .inr (.inl hm))
  have hnr:qEaf r:=fun m hm=>hn m (by simp only[flat,qY12,qZ7];exact .inr (.inr hm))
  have hnn:=qTal (hn n (by simp[flat]))
  simp only[evF] at h
  split at h
  ·cases h
  rename_i ks hk
  obtain ⟨k1,k2,k3⟩:=ik w3 s1 hnk _ hk
  split at h
  ·cases h
  rename_i v hv
  split at h
  ·cases h
  rename_i ws hr
  obtain ⟨r1,r2,r3⟩:=ir w4 s3 hnr _ hr
  simp only[Sum.inr.injEq] at h
  subst h
  have key:qPk v=qWF n (op1 k) k.srt/\okS v/\Bdd (80 * k.size+79) v:=by
   unfold evN at hv
   split at hv
   ·rename_i h4
    split at hv
    ·cases hv
    rename_i u hu
    split at hv
    ·rename_i e
     simp only[Sum.inr.injEq] at hv
     subst hv
     obtain ⟨a1,a2⟩:=hE.ok _ _ hu
     exact ⟨by rw[e];unfold qWF;rw[if_pos (by omega)],a1,a2.mono (by omega)⟩
    ·cases hv
   ·rename_i h4
    split at hv
    ·rename_i h5
     obtain ⟨a1,a2,a3⟩:=hE.fn _ _ _ hv
     exact ⟨by rw[a3];unfold qWF;rw[if_pos (by omega)],a1,a2.mono (by omega)⟩
    ·rename_i h5
     simp only[Sum.inr.injEq] at hv
     subst hv
     obtain ⟨f1,f2⟩:=qEa.1 w1
     have hl:(ks.length:Int)=qID n:=by
      have:=congrArg List.length k1
      rw[List.length_map,qQM] at this
      omega
     obtain ⟨a1,a2⟩:=qFam (f:=op1 k) f1 h4 h5 (by rw[hl];exact f2) (by rw[k1];exact s2) k2
     rw[k1] at a1
     exact ⟨a1,a2,qAar k3 hnn⟩
  obtain ⟨q1,q2,q3⟩:=key
  refine ⟨?_,?_,?_⟩
  ·simp only[List.map_cons,srt,r1,q1]
   rw[if_neg s1]
  ·intro u hu
   rcases List.mem_cons.1 hu with rfl | hu
   ·exact q2
   ·exact r2 u hu
  ·exact ⟨80 * k.size+79,80 * r.size,by omega,q3,r3,by simp only[size];omega⟩
theorem qWal {n:Nod} (hf:qKB n=true) (ho:nOp n=3):(qTF n=2\/qTF n=3)/\qMK n=txt (qPt n)/\(qTF n=2->(qPt n).den=1):=by
 unfold qKB at hf
 rw[if_pos ho] at hf
 simp only[qY0,Bool.or_eq_true,decide_eq_true_eq] at hf
 unfold qPt
 rcases hf.2 with ⟨h1,h2⟩ | ⟨h1,h2⟩
 ·obtain ⟨m,h3,h4⟩:=qUT h2
  rw[h4]
  exact ⟨.inl h1,h3,fun _=>Rat.den_intCast m⟩
 ·obtain ⟨q,h3⟩:=Option.isSome_iff_exists.1 h2
  rw[h3]
  exact ⟨.inr h1,qMJ h3,fun e=>by omega⟩
theorem i0:(0:Int).toNat=0:=rfl
theorem i1:(1:Int).toNat=1:=rfl
theorem i2:(2:Int).toNat=2:=rfl
abbrev Em:=List (qBs×Val)
abbrev Fm:=List (qBs×Interp)
structure EM (A:qBs->Option SV) (G:Nod->List SV->Int ⊕ SV) (env:Em) (fns:Fm):Prop where
 var:∀ nm,qFD nm env=(A nm).map encS
 call:∀ t p n vs B,Hs vs B->B<=90000->qTM (t,p,env,fns) n (vs.map encS)=some ((match G n vs with | .inl e=>(qVO,e,()) | .inr v=>(encS v,0,())),((t,p,env,fns),()))
open Classical in
noncomputable def decS (v:Val):Option SV:=if h:∃ s,okS s/\v=encS s then some h.choose else none
theorem qIw {v:Val} (h:qDL v=true):∃ s,decS v=some s/\okS s/\v=encS s:=by
 have h':=qCu.1 h
 refine ⟨h'.choose,?_,h'.choose_spec.1,h'.choose_spec.2⟩
 unfold decS
 rw[dif_pos h']
structure SmallV (v:Val):Prop where
 sh:Short 73 v
 few:v.2.2.2.1.length<=75
noncomputable def envA (env:List qXu) (nm:qBs):Option SV:=(env.find? fun b=>decide (b.1=nm)).bind fun b=>decS b.2
def G0:Nod->List SV->Int ⊕ SV:=fun _ _=>.inl 4
def qBak (t:List Nod):Prop:=∀ n∈t,(qMK n).length<=73
end Go.AM.Num
end
section
namespace Go.AM.Num
open Tf
structure VSok (VS:List Vr):Prop where
 name:∀ v∈VS,qHb v.1=true/\1<=v.2/\v.2<=4
 once:∀ v∈VS,∀ w∈VS,v.1=w.1->v=w
structure GenF (VS:List Vr) (ss:List Int) (N d:Nat) (l:List Nod) (K:Tf):Prop where
 flat:K.flat=l
 wf:K.wf=true
 srt:K.srt=ss
 nz:(0:Int)∉ss
 sh:qBak l
 size:K.size<=N
 dep:K.dep<=d
 vars:∀ x∈l,nOp x=4->(qAL x,qTF x)∈VS
 noap:∀ x∈l,nOp x≠5
def qKV (VS:List Vr) (ss:List Int) (N d:Nat) (l:List Nod):Prop:=∃ K,GenF VS ss N d l K
theorem qKV.nil (VS:List Vr):qKV VS [] 0 0 []:=⟨Tf.nil,rfl,rfl,rfl,by simp,fun _ h=>absurd h qY16,Nat.le_refl _,Nat.le_refl _,fun _ h=>absurd h qY16,fun _ h=>absurd h qY16⟩
theorem qKV.mono {VS:List Vr} {ss:List Int} {N M d e:Nat} {l:List Nod} (h:qKV VS ss N d l) (hN:N<=M) (hd:d<=e):qKV VS ss M e l:=by
 obtain ⟨K,hK⟩:=h
 exact ⟨K,hK.flat,hK.wf,hK.srt,hK.nz,hK.sh,by have:=hK.size;omega,by have:=hK.dep;omega,hK.vars,hK.noap⟩
theorem qKV.app {VS:List Vr} {ss uu:List Int} {N M d:Nat} {l m:List Nod} (h:qKV VS ss N d l) (g:qKV VS uu M d m):qKV VS (ss++uu) (N+M) d (l++m):=by
 obtain ⟨K,hK⟩:=h
 obtain ⟨L,hL⟩:=g
 refine ⟨K.app L,by rw[qQT,hK.flat,hL.flat],by rw[qNl,hK.wf,hL.wf];rfl,by rw[qJa,hK.srt,hL.srt],?_,?_,?_,?_,?_,?_⟩
 ·rw[qZ7];exact fun h=>h.elim hK.nz hL.nz
 ·exact fun x hx=>(List.mem_append.1 hx).elim (hK.sh x) (hL.sh x)
 ·rw[qJc];have:=hK.size;have:=hL.size;omega
 ·rw[qDq];have:=hK.dep;have:=hL.dep;omega
 ·exact fun x hx=>(List.mem_append.1 hx).elim (hK.vars x) (hL.vars x)
 ·exact fun x hx=>(List.mem_append.1 hx).elim (hK.noap x) (hL.noap x)
theorem qBu {K:Tf} {l:List Nod} (h:K.flat=l):op1 K=(l.getD 0 qPC).1:=by
 subst h
 cases K<;>rfl
theorem qKV.node {VS:List Vr} {ss:List Int} {N d:Nat} {l:List Nod} (h:qKV VS ss N d l) {n:Nod} {s:Int} (hf:qKB n=true) (hc:qMB (nOp n) ss.length=true) (hk:qID n=(ss.length:Int)) (hs:qWF n (l.getD 0 qPC).1 ss=s) (hz:s≠0)
 (hnum:(qMK n).length<=73) (hv:nOp n=4->(qAL n,qTF n)∈VS) (ha:nOp n≠5):qKV VS [s] (N+1) (d+1) (n::l):=by
 obtain ⟨K,hK⟩:=h
 have hl:K.len=ss.length:=by rw[<-qQM,hK.srt]
 refine ⟨cons n K Tf.nil,by simp[Tf.flat,hK.flat],qBH.2 ⟨qEa.2 ⟨hf,by rw[hk];exact hc⟩,by rw[hl];exact hk,hK.wf,rfl⟩,?_,?_,?_,?_,?_,?_,?_⟩
 ·simp only[Tf.srt,hK.srt]
  rw[if_neg hK.nz,qBu hK.flat,hs]
 ·simp[Ne.symm hz]
 ·intro x hx
  rcases List.mem_cons.1 hx with rfl | hx
  ·exact hnum
  ·exact hK.sh x hx
 ·simp only[Tf.size];have:=hK.size;omega
 ·simp only[Tf.dep];have:=hK.dep;omega
 ·intro x hx
  rcases List.mem_cons.1 hx with rfl | hx
  ·exact hv
  ·exact hK.vars x hx
 ·intro x hx
  rcases List.mem_cons.1 hx with rfl | hx
  ·exact ha
  ·exact hK.noap x hx
theorem qQah {n:Nod} {k:Tf}:∀ {f:Tf},(n,k)∈f.subs->n∈f.flat:=by
 intro f
 induction f with
 |nil=>intro h;simp[subs] at h
 |cons m a b ia ib=>
  intro h
  simp only[subs,qY12,qZ7,Prod.mk.injEq] at h
  simp only[Tf.flat,qY12,qZ7]
  rcases h with ⟨rfl,_⟩ | h | h
  ·exact .inl rfl
  ·exact .inr (.inl (ia h))
  ·exact .inr (.inr (ib h))
theorem qNak {VS:List Vr} (hV:VSok VS) {s:Int} {N d:Nat} {t:List Nod} {F:Tf} (h:GenF VS [s] N d t F) (hN:N<=20000) (hd:d<=257):VT t F:=by
 refine ⟨h.flat,h.wf,by rw[h.srt];exact h.nz,by rw[<-qQM,h.srt];rfl,by have:=h.size;omega,by have:=h.dep;omega,?_⟩
 have key:∀ a∈qTo F,a.2.1=false/\a.2.2.1=[]/\(a.1,a.2.2.2)∈VS:=by
  intro a ha
  obtain ⟨⟨n,k⟩,h1,h2⟩:=List.mem_filterMap.1 ha
  have hm:n∈t:=by rw[<-h.flat];exact qQah h1
  unfold qIR at h2
  split at h2
  ·rename_i h4
   simp only[Option.some.injEq] at h2
   subst h2
   exact ⟨rfl,rfl,h.vars n hm h4⟩
  ·split at h2
   ·rename_i h5
    exact absurd h5 (h.noap n hm)
   ·cases h2
 rintro ⟨a,b,c,e⟩ ha ⟨a',b',c',e'⟩ ha' hn
 obtain ⟨p1,p2,p3⟩:=key _ ha
 obtain ⟨q1,q2,q3⟩:=key _ ha'
 simp only at p1 p2 p3 q1 q2 q3 hn
 have:=hV.once _ p3 _ q3 hn
 simp only[Prod.mk.injEq] at this
 rw[p1,p2,q1,q2,this.1,this.2]
theorem qUk {VS:List Vr} {z:Int} (h:(ti z).length<=73):qKV VS [2] 1 1 [((3:Int),(2:Int),([]:qBs),ti z,(0:Int))]:=
 (qKV.nil VS).node (by simp[nOp,qTF,qAL,qMK,qKB,qGe]) rfl rfl (by simp[nOp,qTF,qWF]) (by omega) h (fun h=>by simp[nOp] at h) (by simp[nOp])
theorem qGao {VS:List Vr} {q:Rat} (h:(txt q).length<=73):qKV VS [3] 1 1 [((3:Int),(3:Int),([]:qBs),txt q,(0:Int))]:=
 (qKV.nil VS).node (by simp[nOp,qTF,qAL,qMK,qKB,qIK]) rfl rfl (by simp[nOp,qTF,qWF]) (by omega) h (fun h=>by simp[nOp] at h) (by simp[nOp])
theorem qZaf {VS:List Vr}:qKV VS [1] 1 1 [((1:Int),(0:Int),([]:qBs),([]:qBs),(0:Int))]:=
 (qKV.nil VS).node (by simp[nOp,qTF,qAL,qMK,qKB]) rfl rfl (by simp[nOp,qTF,qWF]) (by omega) (by simp[qMK]) (fun h=>by simp[nOp] at h) (by simp[nOp])
theorem qQaa {VS:List Vr}:qKV VS [1] 1 1 [((2:Int),(0:Int),([]:qBs),([]:qBs),(0:Int))]:=
 (qKV.nil VS).node (by simp[nOp,qTF,qAL,qMK,qKB]) rfl rfl (by simp[nOp,qTF,qWF]) (by omega) (by simp[qMK]) (fun h=>by simp[nOp] at h) (by simp[nOp])
def alphaB (c:UInt8):Bool:=(decide (97<=c)&&decide (c<=122))||(decide (65<=c)&&decide (c<=90))
theorem qLq (c:UInt8):qLc (c.toNat:Int)=some ((alphaB c,()),()):=by
 refine qET (P:=fun c=>qLc (c.toNat:Int)=some ((alphaB c,()),())) ?_ c
 decide +kernel
theorem qTa (c:UInt8):letterB c=(alphaB c||c==95||c==36||c==33):=rfl
theorem qYar (c:UInt8):decide ((c.toNat:Int) < 48)=!decide (48<=c):=by
 refine qET (P:=fun c=>decide ((c.toNat:Int) < 48)=!decide (48<=c)) ?_ c
 decide +kernel
theorem qAas (c:UInt8):decide ((c.toNat:Int) > 57)=!decide (c<=57):=by
 refine qET (P:=fun c=>decide ((c.toNat:Int) > 57)=!decide (c<=57)) ?_ c
 decide +kernel
theorem qBas (c:UInt8):((c.toNat:Int)==95)=(c==95):=by
 refine qET (P:=fun c=>((c.toNat:Int)==95)=(c==95)) ?_ c
 decide +kernel
theorem qEas (c:UInt8):((c.toNat:Int)==36)=(c==36):=by
 refine qET (P:=fun c=>((c.toNat:Int)==36)=(c==36)) ?_ c
 decide +kernel
theorem qJas (c:UInt8):((c.toNat:Int)==33)=(c==33):=by
 refine qET (P:=fun c=>((c.toNat:Int)==33)=(c==33)) ?_ c
 decide +kernel
theorem qSam {l:List qBs} {s:qBs} (hl:l.length<=1000000000):r_in l s=some ((decide (s∈l),()),()):=by
 have key:=qHI (step:=qNf) (fun k=>(l,s,false,(k:Int),())) (fun k=>(l,s,true,(k:Int),())) l.length (E:=.exit 0) (B:=.ret) (by simp) (by simp) (fun k=>!(l.getD k []==s)) (fun k hk=>by
  unfold qNf
  simp only
  rw[qEA (by omega),qDA,qBA (by omega),qBA (by omega),qZ0,w64 (x:=(k:Int)+1) (by omega)]
  cases (l.getD k []==s)<;>rfl) (by
  unfold qNf
  simp only
  rw[qIA (by omega)])
 rw[qMT l [] (fun x=>!(x==s))] at key
 rw[show ((0:Nat):Int)=0 from rfl] at key
 unfold r_in
 rcases key with ⟨k1,k2⟩ | ⟨k1,j,k2⟩
 ·rw[k2]
  simp only[qAA,qJB,qMA]
  rw[qZ9]
  intro h
  have:=List.all_eq_true.1 k1 s h
  simp at this
 ·rw[k2]
  simp only[qAA,qXD,qWD,qMA,qPA]
  rw[qZ10]
  by_cases h:s∈l
  ·exact h
  ·rw[List.all_eq_true.2 (fun x hx=>by simp;exact fun e=>h (e ▸ hx))] at k1;cases k1
theorem qTj:qTZ=some ((qUh,()),()):=rfl
theorem qPx {s:qBs} (h:s≠[]):(List.range s.length).all (fun k=>if k=0 then letterB (s.getD 0 0) else qKk (s.getD k 0))=(letterB (s.getD 0 0)&&s.all qKk):=by
 have hpos:0 < s.length:=List.length_pos_iff.2 h
 rw[<-qMT s 0 qKk,Bool.eq_iff_iff,qY0,qY3,qY3]
 constructor
 ·intro hh
  have h0:=hh 0 (List.mem_range.2 hpos)
  simp only[if_true] at h0
  refine ⟨h0,fun k hk=>?_⟩
  have hk':=hh k hk
  by_cases e:k=0
  ·subst e
   unfold qKk
   rw[h0];rfl
  ·rw[if_neg e] at hk';exact hk'
 ·rintro ⟨h0,hh⟩ k hk
  split
  ·exact h0
  ·exact hh k hk
theorem qPaa (s:qBs):qMl s=some ((qHb s,()),()):=by
 unfold qMl
 by_cases h0:s=[]
 ·subst h0;decide
 ·rw[show (s==([]:qBs))=false by simpa using h0,qPA]
  have hpos:0 < s.length:=List.length_pos_iff.2 h0
  unfold qHb
  by_cases h1:s.length<=40
  ·rw[qIA (by omega),qZ10 h1,qTj,qAA]
   simp only
   rw[qSam (by decide),qAA,Bool.true_and]
   cases hw:decide (s∈qUh) with
   |true=>cases letterB (s.getD 0 0)<;>rfl
   |false=>
    simp only[qPA]
    have key:=qHI (step:=qSS) (fun k=>(s,false,(k:Int),())) (fun k=>(s,false,(k:Int),())) s.length (E:=.exit 0) (B:=.ret) (by simp) (by simp) (fun k=>if k=0 then letterB (s.getD 0 0) else qKk (s.getD k 0)) (fun k hk=>by
     unfold qSS
     simp only
     rw[qEA (by omega),qDA,qBA (by omega),qBA (by omega),qZ0,qLq,qAA,qYar,qAas,qXao,qZao,qBas,qEas,qJas,w64 (x:=(k:Int)+1) (by omega)]
     by_cases hk0:k=0
     ·subst hk0
      rw[if_pos rfl,qTa]
      generalize alphaB (s.getD 0 0)=a
      generalize (s.getD 0 0==95)=b
      generalize (s.getD 0 0==36)=c
      generalize (s.getD 0 0==33)=d
      cases a<;>cases b<;>cases c<;>cases d<;>rfl
     ·rw[if_neg hk0]
      unfold qKk
      rw[qTa,qCA (show (k:Int)≠0 by omega)]
      generalize alphaB (s.getD k 0)=a
      generalize (s.getD k 0==95)=b
      generalize (s.getD k 0==36)=c
      generalize (s.getD k 0==33)=d
      generalize decide (48<=s.getD k 0)=e
      generalize decide (s.getD k 0<=57)=f
      generalize (s.getD k 0==46)=g
      generalize (s.getD k 0==64)=h
      cases a<;>cases b<;>cases c<;>cases d<;>cases e<;>cases f<;>cases g<;>cases h<;>rfl) (by
     unfold qSS
     simp only
     rw[qIA (by omega)])
    rw[qPx h0] at key
    rcases key with ⟨k1,k2⟩ | ⟨k1,j,k2⟩
    ·rw[show ((0:Nat):Int)=0 from rfl] at k2
     rw[k2]
     simp only[qAA,qJB,qMA,qY1,Bool.and_true]
     rw[k1]
    ·rw[show ((0:Nat):Int)=0 from rfl] at k2
     rw[k2]
     simp only[qAA,qXD,qWD,qMA,qPA,qY1,Bool.and_true]
     rw[k1]
  ·rw[qEA (by omega),qZ9 h1]
   rfl
theorem qHr (s:Int):qPc s=some ((decide (1<=s/\s<=4),()),()):=qPd s
theorem qUq {n:Nod} (h:(qMK n).length<=100000):qVb n=some ((qKB n,()),()):=by
 obtain ⟨o,s,nm,num,kd⟩:=n
 simp only[qMK] at h
 unfold qVb qKB
 simp only[nOp,qTF,qAL,qMK]
 rw[qHr,qPaa,qQN (by omega),qGY (by omega),qAU (by omega)]
 simp only[qAA,qBae]
 by_cases e3:o=3
 ·rw[qKA e3,if_pos e3]
  by_cases h2:s=2
  ·subst h2
   cases decide (nm=[])<;>cases isI num<;>rfl
  ·rw[qCA h2,qZ9 h2,Bool.false_and,Bool.false_or]
   by_cases h3:s=3
   ·subst h3;cases decide (nm=[])<;>rfl
   ·rw[qCA h3,qZ9 h3,Bool.false_and];cases decide (nm=[])<;>rfl
 ·rw[qCA e3,if_neg e3]
  by_cases e4:o=4
  ·rw[qKA e4,if_pos (.inl e4)];cases decide (1<=s/\s<=4)<;>cases qHb nm<;>cases decide (num=[])<;>rfl
  ·rw[qCA e4]
   by_cases e5:o=5
   ·rw[qKA e5,if_pos (.inr e5)];cases decide (1<=s/\s<=4)<;>cases qHb nm<;>cases decide (num=[])<;>rfl
   ·rw[qCA e5,if_neg (by omega)]
    by_cases e6:o=16
    ·rw[qKA e6,if_pos (.inl e6)]
     by_cases z:s=0
     ·rw[qKA z,qZ10 z];cases decide (nm=[])<;>cases isI num<;>rfl
     ·rw[qCA z,qZ9 z];rfl
    ·rw[qCA e6]
     by_cases e7:o=17
     ·rw[qKA e7,if_pos (.inr e7)]
      by_cases z:s=0
      ·rw[qKA z,qZ10 z];cases decide (nm=[])<;>cases isI num<;>rfl
      ·rw[qCA z,qZ9 z];rfl
     ·rw[qCA e7,if_neg (by omega)]
      by_cases g1:o>=1
      ·rw[qEA g1]
       by_cases g2:o<=20
       ·rw[qEA g2,qZ10 (show 1<=o/\o<=20 from ⟨g1,g2⟩)]
        by_cases z:s=0
        ·rw[qKA z,qZ10 z];cases decide (nm=[])<;>rfl
        ·rw[qCA z,qZ9 z];rfl
       ·rw[qIA g2,qZ9 (by omega)];rfl
      ·rw[qIA g1,qZ9 (by omega)];rfl
theorem qNw (o k:Int):qRc o k=some ((qMB o k,()),()):=by
 by_cases h1:o=1;· subst h1;rfl
 by_cases h2:o=2;· subst h2;rfl
 by_cases h3:o=3;· subst h3;rfl
 by_cases h4:o=4;· subst h4;rfl
 by_cases h5:o=5
 ·subst h5
  have e:qMB 5 k=decide (1<=k/\k<=40):=rfl
  rw[e]
  unfold qRc
  rw[qCA (by decide),qCA (by decide),qCA (by decide),qCA (by decide),qKA rfl]
  by_cases g:k>=1
  ·rw[qEA g]
   have:decide (k<=40)=decide (1<=k/\k<=40):=by rw[decide_eq_decide];omega
   rw[this]
  ·rw[qIA g,qZ9 (by omega)]
 by_cases h6:o=6;· subst h6;rfl
 by_cases h16:o=16;· subst h16;rfl
 by_cases h17:o=17;· subst h17;rfl
 by_cases h20:o=20;· subst h20;rfl
 by_cases h7:o=7;· subst h7;rfl
 by_cases h8:o=8;· subst h8;rfl
 by_cases h10:o=10;· subst h10;rfl
 by_cases h19:o=19;· subst h19;rfl
 by_cases h14:o=14;· subst h14;rfl
 unfold qRc qMB
 rw[qCA h1,qCA h2,qCA h3,qCA h4,qCA h5,qCA h6,qCA h16,qCA h17,qCA h20,qCA h7,qCA h8,qCA h10,qCA h19,qCA h14,
  if_neg (by omega),if_neg h5,if_neg (by omega),if_neg (by omega),if_neg h14,if_neg (by omega)]
 rfl
theorem qBad {ss:List Int} {s out:Int} (hl:ss.length<=1000000000):qTN ss s out=some ((if ∀ x∈ss,x=s then out else 0,()),()):=by
 have key:=qHI (step:=qCT) (fun k=>(ss,s,out,(0:Int),(k:Int),())) (fun k=>(ss,s,out,(0:Int),(k:Int),())) ss.length (E:=.exit 0) (B:=.ret) (by simp) (by simp) (fun k=>decide (ss.getD k 0=s)) (fun k hk=>by
  unfold qCT
  simp only
  rw[qEA (by omega),qDA,qBA (by omega),qBA (by omega),qZ0,w64 (x:=(k:Int)+1) (by omega)]
  by_cases h:ss.getD k 0=s
  ·rw[qPD h,if_pos (qZ10 h)];rfl
  ·rw[qAE h,if_neg (fun e=>h (of_decide_eq_true e))]) (by
  unfold qCT
  simp only
  rw[qIA (by omega)])
 rw[qMT ss 0 (fun x=>decide (x=s))] at key
 rw[show ((0:Nat):Int)=0 from rfl] at key
 unfold qTN
 rcases key with ⟨k1,k2⟩ | ⟨k1,j,k2⟩
 ·rw[k2]
  simp only[qAA,qJB,qMA]
  rw[if_pos (by simpa [qY3] using k1)]
 ·rw[k2]
  simp only[qAA,qXD,qWD,qMA,qPA]
  rw[if_neg (fun h=>by rw[List.all_eq_true.2 (fun x hx=>qZ10 (h x hx))] at k1;cases k1)]
theorem qTe {n:Nod} {f:Int} {ss:List Int} (ho:1<=nOp n/\nOp n<=20) (hl:ss.length<=1000000000) (hc:qMB (nOp n) ss.length=true) (h15:nOp n=15->f=3->ss.getD 0 0=2\/ss.getD 0 0=3):qOX n f ss=some ((qWF n f ss,()),()):=by
 obtain ⟨o,s,nm,num,kd⟩:=n
 simp only[nOp] at ho hc h15
 have hnum:∀ s,qKS s=some ((decide (s=2\/s=3),()),()):=qBb
 unfold qOX qWF
 simp only[nOp,qTF,qBad hl,hnum,qAA,show (0:Int).toNat=0 from rfl,show (1:Int).toNat=1 from rfl,show (2:Int).toNat=2 from rfl]
 by_cases h1:o=1
 ·subst h1
  rcases ss with _ | ⟨a,l⟩<;>simp[qMB] at hc
  ·simp
  ·omega
 rw[qCA h1]
 by_cases h2:o=2
 ·subst h2
  rcases ss with _ | ⟨a,l⟩<;>simp[qMB] at hc
  ·simp
  ·omega
 rw[qCA h2]
 by_cases h3:o=3;· rw[qKA h3,if_pos (.inl h3)]
 rw[qCA h3]
 by_cases h4:o=4;· rw[qKA h4,if_pos (.inr (.inl h4))]
 rw[qCA h4]
 by_cases h5:o=5;· rw[qKA h5,if_pos (.inr (.inr h5))]
 rw[qCA h5,if_neg (show ¬ (o=3\/o=4\/o=5) by omega)]
 by_cases h6:o=6;· rw[qKA h6,if_pos (show o=1\/o=2\/o=6\/o=7\/o=8\/o=9 by omega)]
 rw[qCA h6]
 by_cases h7:o=7;· rw[qKA h7,if_pos (show o=1\/o=2\/o=6\/o=7\/o=8\/o=9 by omega)]
 rw[qCA h7]
 by_cases h8:o=8;· rw[qKA h8,if_pos (show o=1\/o=2\/o=6\/o=7\/o=8\/o=9 by omega)]
 rw[qCA h8]
 by_cases h9:o=9;· rw[qKA h9,if_pos (show o=1\/o=2\/o=6\/o=7\/o=8\/o=9 by omega)]
 rw[qCA h9,if_neg (show ¬ (o=1\/o=2\/o=6\/o=7\/o=8\/o=9) by omega)]
 by_cases h10:o=10
 ·subst h10
  rcases ss with _ | ⟨a,_ | ⟨b,_ | ⟨c,_ | ⟨d,l⟩⟩⟩⟩<;>simp[qMB] at hc
  ·by_cases q:a=1
   ·by_cases q2:b=c
    ·simp[grd,q,q2]
    ·simp[grd,q,q2,show (b==c)=false by simpa using q2]
   ·simp[grd,q,show (a==1)=false by simpa using q]
  ·omega
 rw[qCA h10,if_neg h10]
 by_cases h11:o=11
 ·subst h11
  rcases ss with _ | ⟨a,_ | ⟨b,_ | ⟨c,l⟩⟩⟩<;>simp[qMB] at hc
  ·by_cases q:b=a
   ·simp[grd,q]
   ·simp[grd,q]
    exact fun e=>q e.symm
  ·omega
 rw[qCA h11,if_neg h11]
 by_cases h12:o=12
 ·subst h12
  rcases ss with _ | ⟨a,_ | ⟨b,_ | ⟨c,l⟩⟩⟩<;>simp[qMB] at hc
  ·by_cases q:a=2\/a=3<;>simp[grd,q]
  ·omega
 rw[qCA h12]
 by_cases h13:o=13
 ·subst h13
  rcases ss with _ | ⟨a,_ | ⟨b,_ | ⟨c,l⟩⟩⟩<;>simp[qMB] at hc
  ·by_cases q:a=2\/a=3<;>simp[grd,q]
  ·omega
 rw[qCA h13,if_neg (show ¬ (o=12\/o=13) by omega)]
 by_cases h14:o=14
 ·subst h14
  rcases ss with _ | ⟨a,l⟩<;>simp[qMB] at hc
  by_cases q:a=2\/a=3<;>simp[grd,q]
 rw[qCA h14,if_neg h14]
 by_cases h15':o=15
 ·subst h15'
  have h15:=h15 rfl
  rcases ss with _ | ⟨a,_ | ⟨b,_ | ⟨c,l⟩⟩⟩<;>simp[qMB] at hc
  ·by_cases q:f=3
   ·have:=h15 q
    simp at this
    simp[grd,q,this]
   ·simp[q,show (f==3)=false by simpa using q]
  ·omega
 rw[qCA h15',if_neg h15']
 by_cases h16:o=16
 ·subst h16
  rcases ss with _ | ⟨a,_ | ⟨b,l⟩⟩<;>simp[qMB] at hc
  ·simp
  ·omega
 rw[qCA h16]
 by_cases h17:o=17
 ·subst h17
  rcases ss with _ | ⟨a,_ | ⟨b,l⟩⟩<;>simp[qMB] at hc
  ·simp
  ·omega
 rw[qCA h17,if_neg (show ¬ (o=16\/o=17) by omega)]
 by_cases h20:o=20
 ·subst h20
  rcases ss with _ | ⟨a,_ | ⟨b,l⟩⟩<;>simp[qMB] at hc
  ·simp
  ·omega
 rw[qCA h20]
 by_cases h18:o=18
 ·subst h18
  rcases ss with _ | ⟨a,_ | ⟨b,_ | ⟨c,l⟩⟩⟩<;>simp[qMB] at hc
  ·by_cases q:a=4
   ·by_cases q2:b=2
    ·simp[grd,q,q2]
    ·simp[grd,q,q2,show (b==2)=false by simpa using q2]
   ·simp[grd,q,show (a==4)=false by simpa using q]
  ·omega
 rw[qCA h18,if_neg h18]
 obtain rfl:o=19:=by omega
 rcases ss with _ | ⟨a,_ | ⟨b,_ | ⟨c,_ | ⟨d,l⟩⟩⟩⟩<;>simp[qMB] at hc
 ·by_cases q:a=4
  ·by_cases q2:b=2
   ·by_cases q3:c=2
    ·simp[grd,q,q2,q3]
    ·simp[grd,q,q2,q3,show (c==2)=false by simpa using q3]
   ·simp[grd,q,q2,show (b==2)=false by simpa using q2]
  ·simp[grd,q,show (a==4)=false by simpa using q]
 ·omega
theorem qZad {n:Nod} (h:qKB n=true):1<=nOp n/\nOp n<=20:=by
 unfold qKB at h
 split at h
 ·omega
 ·split at h
  ·omega
  ·split at h
   ·omega
   ·simp only[qY0,decide_eq_true_eq] at h
    exact h.1.1.1
theorem qCq {n:Nod} (h:qKB n=true) (ho:nOp n=3\/nOp n=4\/nOp n=5):1<=qTF n/\qTF n<=4:=by
 unfold qKB at h
 split at h
 ·simp only[qY0,Bool.or_eq_true,decide_eq_true_eq] at h
  rcases h.2 with h | h<;>omega
 ·rw[if_pos (by omega)] at h
  simp only[qY0,decide_eq_true_eq] at h
  exact h.1.1
theorem qFw {ss:List Int} (h:∀ s∈ss,0<=s/\s<=4) (i:Nat):0<=ss.getD i 0/\ss.getD i 0<=4:=by
 rw[qZ4]
 cases hi:ss[i]? with
 |none=>simp
 |some s=>exact h s (qY14 hi)
theorem qMr {n:Nod} {f:Int} {ss:List Int} (hf:qKB n=true) (h:∀ s∈ss,0<=s/\s<=4):0<=qWF n f ss/\qWF n f ss<=4:=by
 have g:=qFw h
 have g0:=g 0
 have g1:=g 1
 unfold qWF
 by_cases c0:nOp n=3\/nOp n=4\/nOp n=5
 ·rw[if_pos c0];have:=qCq hf c0;omega
 rw[if_neg c0]
 by_cases c1:nOp n=1\/nOp n=2\/nOp n=6\/nOp n=7\/nOp n=8\/nOp n=9
 ·rw[if_pos c1];split<;>omega
 rw[if_neg c1]
 by_cases c2:nOp n=10
 ·rw[if_pos c2];split<;>omega
 rw[if_neg c2]
 by_cases c3:nOp n=11
 ·rw[if_pos c3];split<;>omega
 rw[if_neg c3]
 by_cases c4:nOp n=12\/nOp n=13
 ·rw[if_pos c4];split<;>omega
 rw[if_neg c4]
 by_cases c5:nOp n=14
 ·rw[if_pos c5];split<;>omega
 rw[if_neg c5]
 by_cases c6:nOp n=15
 ·rw[if_pos c6];split<;>omega
 rw[if_neg c6]
 by_cases c7:nOp n=16\/nOp n=17
 ·rw[if_pos c7];split<;>omega
 rw[if_neg c7]
 by_cases c8:nOp n=18
 ·rw[if_pos c8];split<;>omega
 rw[if_neg c8]
 by_cases c9:nOp n=19
 ·rw[if_pos c9];split<;>omega
 rw[if_neg c9]
 by_cases c10:nOp n=20
 ·rw[if_pos c10];split<;>omega
 rw[if_neg c10];omega
theorem qSn:∀ (f:Tf),f.wf=true->∀ s∈f.srt,0<=s/\s<=4:=by
 intro f
 induction f with
 |nil=>intro _ s hs;simp[srt] at hs
 |cons n k r ik ir=>
  intro hw s hs
  obtain ⟨w1,w2,w3,w4⟩:=qBH.1 hw
  simp only[srt,qY12] at hs
  rcases hs with rfl | hs
  ·split
   ·omega
   ·exact qMr (qEa.1 w1).1 (ik w3)
  ·exact ir w4 s hs
noncomputable def qJW (d L:Nat) (l:List Nod):Int×Int:=match one d l with
 |none=>(-1,0)
 |some (T,l')=>((L:Int) - (l'.length:Int),T.srt.getD 0 0)
abbrev TrF:=List Nod->Int->Int->Option ((Int×Int×Unit)×Unit)
def qKak (t:List Nod) (tr:TrF) (dp:Nat):Prop:=∀ i:Nat,tr t (i:Int) (dp:Int)=some (((qJW (257 - dp) t.length (t.drop i)).1,(qJW (257 - dp) t.length (t.drop i)).2,()),())
theorem qFz {d:Nat} {l l':List Nod} {T:Tf} (h:one d l=some (T,l')):T.size+l'.length=l.length/\T.srt.length=1:=by
 obtain ⟨h1,h2,h3,h4⟩:=qKX d h
 have:=congrArg List.length h1
 rw[qZ6,qKC] at this
 exact ⟨this.symm,by rw[qQM,h3]⟩
theorem qXs {d i:Nat} {t l':List Nod} {T:Tf} (h:one d (t.drop i)=some (T,l')) (hi:i<=t.length):t.drop (i+T.size)=l'/\i+T.size<=t.length/\(t.length:Int) - (l'.length:Int)=((i+T.size:Nat):Int):=by
 obtain ⟨h1,_,_,_⟩:=qKX d h
 have h2:=(qFz h).1
 rw[List.length_drop] at h2
 refine ⟨?_,by omega,by omega⟩
 rw[<-List.drop_drop,h1,List.drop_append_of_le_length (by rw[qKC];omega),qY7 (by rw[qKC];omega),qY15]
theorem qUad {t:List Nod} (ht:t.length<=20000) {tr:TrF} {dp:Nat} (hdp:dp<=256) (htr:qKak t tr (dp+1)) {i:Nat} (hi:i < t.length) {K:Int} (hK:(t.getD i qPC).2.2.2.2=K) :
 ∀ (c:Nat) (e k:Nat) (s:List Int) (good:Bool),e<=t.length->((k+c:Nat):Int)=K->s.length=k->k+c<=20000->
 match many (one (257 - (dp+1))) c (t.drop e) with
 |none=>∃ y,qLA (qDM tr) (t,(i:Int),(dp:Int),0,0,s,(e:Int),good,(k:Int),())=some (.ret,(t,(i:Int),(dp:Int),-1,0,y))
 |some (F,l')=>qLA (qDM tr) (t,(i:Int),(dp:Int),0,0,s,(e:Int),good,(k:Int),())=some (.exit 0,(t,(i:Int),(dp:Int),0,0,s++F.srt,(t.length:Int) - (l'.length:Int),good&&F.srt.all (fun x=>decide (x > 0)),K,())):=by
 intro c
 induction c with
 |zero=>
  intro e k s good he hk _ _
  simp only[many]
  refine qQA ?_ (by simp)
  unfold qDM
  simp only
  rw[qDA,qBA (by omega),qBA (by omega),qZ0,hK,qIA (by omega)]
  have e1:(t.length:Int) - ((t.drop e).length:Int)=(e:Int):=by rw[List.length_drop];omega
  have e2:K=(k:Int):=by omega
  rw[e1,e2]
  simp[srt]
 |succ c ih=>
  intro e k s good he hk hs hb
  have hcall:=htr e
  simp only[many]
  have hstep0:qDM tr (t,(i:Int),(dp:Int),0,0,s,(e:Int),good,(k:Int),())=(tr t (e:Int) (qI ((dp:Int)+1))).bind fun r1=>
   cond (decide (r1.1.1 < (0:Int))) (some (Ex.ret,(t,(i:Int),(dp:Int),-1,0,s,r1.1.1,good,(k:Int),())))
    (cond good (grd (decide (s.length+([r1.1.2.1]:List Int).length<=qSE)) (some (Ex.normal,(t,(i:Int),(dp:Int),0,0,s++([r1.1.2.1]:List Int),r1.1.1,decide (r1.1.2.1 > (0:Int)),qI ((k:Int)+(1:Int)),()))))
    (grd (decide (s.length+([r1.1.2.1]:List Int).length<=qSE)) (some (Ex.normal,(t,(i:Int),(dp:Int),0,0,s++([r1.1.2.1]:List Int),r1.1.1,false,qI ((k:Int)+(1:Int)),()))))):=by
   unfold qDM
   simp only
   rw[qDA,qBA (by omega),qBA (by omega),qZ0,hK,qEA (by omega)]
  have hwd:qI ((dp:Int)+1)=((dp+1:Nat):Int):=by rw[w64 (by omega)];rfl
  rw[hwd] at hstep0
  cases ho:one (257 - (dp+1)) (t.drop e) with
  |none=>
   have hcall':tr t (e:Int) ((dp+1:Nat):Int)=some ((-1,0,()),()):=by rw[hcall];unfold qJW;rw[ho]
   rw[hcall',qAA] at hstep0
   rw[qEA (show (-1:Int) < 0 by omega)] at hstep0
   simp only[Option.bind_none]
   exact ⟨_,qQA hstep0 (by simp)⟩
  |some x=>
   obtain ⟨T,l1⟩:=x
   obtain ⟨q1,q2⟩:=qFz ho
   obtain ⟨d1,d2,d3⟩:=qXs ho he
   obtain ⟨x,hx⟩:∃ x,T.srt=[x]:=by
    match h:T.srt,q2 with
    |[x],_=>exact ⟨x,rfl⟩
   have hcall':tr t (e:Int) ((dp+1:Nat):Int)=some ((((e+T.size:Nat):Int),x,()),()):=by
    rw[hcall];unfold qJW;rw[ho];simp only;rw[hx,d3];rfl
   rw[hcall',qAA] at hstep0
   rw[qIA (show ¬ ((e+T.size:Nat):Int) < 0 by omega)] at hstep0
   have hlen:s.length+1<=qSE:=by simp only[qSE];omega
   have hgo:qDM tr (t,(i:Int),(dp:Int),0,0,s,(e:Int),good,(k:Int),())=some (.normal,(t,(i:Int),(dp:Int),0,0,s++[x],((e+T.size:Nat):Int),good&&decide (x > 0),((k+1:Nat):Int),())):=by
    rw[hstep0,w64 (x:=(k:Int)+1) (by omega)]
    cases good
    ·simp only[qPA,Bool.false_and];rw[qBA (by simpa using hlen)];rfl
    ·simp only[qMA,Bool.true_and];rw[qBA (by simpa using hlen)];rfl
   have ih':=ih (e+T.size) (k+1) (s++[x]) (good&&decide (x > 0)) d2 (by omega) (by simp[hs]) (by omega)
   simp only[Option.bind_some]
   rw[d1] at ih'
   cases hm:many (one (257 - (dp+1))) c l1 with
   |none=>
    rw[hm] at ih'
    obtain ⟨y,hy⟩:=ih'
    simp only[Option.bind_none]
    exact ⟨y,by rw[qSA hgo,hy]⟩
   |some z=>
    obtain ⟨F,l'⟩:=z
    rw[hm] at ih'
    simp only[Option.bind_some] at ih' ⊢
    rw[qSA hgo,ih',qJa,hx]
    simp[Bool.and_assoc]
theorem qCah {f:Tf} (hw:f.wf=true):f.srt.all (fun x=>decide (x > 0))=!decide (0∈f.srt):=by
 have h:=qSn f hw
 generalize f.srt=l at h
 induction l with
 |nil=>rfl
 |cons a l ih=>
  have ha:=h a (by simp)
  rw[List.all_cons,ih fun s hs=>h s (by simp[hs])]
  by_cases h0:a=0
  ·subst h0;simp
  ·rw[qZ10 (show a > 0 by omega)]
   have:(0:Int)∈a::l ↔ 0∈l:=by simp;omega
   simp only[this,Bool.true_and]
theorem qVab {t:List Nod} (hs:qSN t) (ht:t.length<=20000):∀ (f dp:Nat),dp<=257->258<=f+dp->qKak t (qSY f) dp:=by
 intro f
 induction f with
 |zero=>intro dp h1 h2;omega
 |succ f ih=>
  intro dp h1 h2 i
  have hunf:qSY (f+1) t (i:Int) (dp:Int)=qDc (qSY f) t (i:Int) (dp:Int):=rfl
  rw[hunf]
  unfold qDc
  by_cases hi:i>=t.length
  ·rw[qEA (by omega)]
   unfold qJW
   have e:t.drop i=[]:=qY7 hi
   rw[e]
   cases h:257 - dp<;>rfl
  rw[qIA (by omega)]
  by_cases hd:dp=257
  ·rw[qEA (by omega)]
   unfold qJW
   have e:257 - dp=0:=by omega
   rw[e]
   rfl
  rw[qIA (by omega)]
  have hi':i < t.length:=by omega
  have hget:t.getD i qPC=t[i]:=by simp[qZ4,hi']
  have hdrop:=qY6 hi'
  have hnum:=hs _ (List.getElem_mem hi')
  have hd1:257 - dp=(257 - (dp+1))+1:=by omega
  have hone:one (257 - dp) (t.drop i)=if okN t[i]=true then (many (one (257 - (dp+1))) (qID t[i]).toNat (t.drop (i+1))).bind fun x=>some (cons t[i] x.1 nil,x.2) else none:=by rw[hd1,hdrop];rfl
  generalize t[i]=n at hget hnum hone
  have hg:∀ (k:Option ((Int×Int×Unit)×Unit)),grd (decide (0<=(i:Int))&&decide ((i:Int) < (t.length:Int))) k=k:=fun k=>by rw[qDA,qBA (by omega),qBA (by omega)]
  rw[hg,qZ0,hget,qUq (by omega),qAA]
  have hno:okN n=false->qJW (257 - dp) t.length (t.drop i)=(-1,0):=fun h=>by
   unfold qJW
   rw[hone,if_neg (by rw[h];decide)]
  by_cases q3:qKB n=false
  ·rw[q3,hno (by unfold okN;rw[q3];rfl)];rfl
  rw[Bool.not_eq_false] at q3
  rw[q3]
  simp only[qY2,qPA]
  rw[hg,hg,qNw,qAA]
  by_cases q4:qMB n.1 n.2.2.2.2=false
  ·rw[q4,hno (by unfold okN;rw[q4,Bool.and_false])];rfl
  rw[Bool.not_eq_false] at q4
  rw[q4]
  simp only[qY2,qPA]
  rw[hg]
  have hok:okN n=true:=qEa.2 ⟨q3,q4⟩
  rw[if_pos hok] at hone
  have hk0:=qEP q4
  have hK:n.2.2.2.2=qID n:=rfl
  rw[hK] at hk0 ⊢
  have hbound:∀ F l',many (one (257 - (dp+1))) (qID n).toNat (t.drop (i+1))=some (F,l')->F.len=(qID n).toNat/\F.wf=true/\t.drop (i+1)=F.flat++l'/\F.size+l'.length=t.length - (i+1):=by
   intro F l' hm
   obtain ⟨m1,m2,m3,m4⟩:=qCh (qKX _) _ hm
   have:=congrArg List.length m1
   rw[qZ6,qKC,List.length_drop] at this
   exact ⟨m3,m2,m1,this.symm⟩
  by_cases q5:qID n > (t.length:Int)
  ·rw[qEA q5]
   have hm:many (one (257 - (dp+1))) (qID n).toNat (t.drop (i+1))=none:=by
    cases hm:many (one (257 - (dp+1))) (qID n).toNat (t.drop (i+1)) with
    |none=>rfl
    |some x=>
     obtain ⟨F,l'⟩:=x
     obtain ⟨b1,b2,b3,b4⟩:=hbound F l' hm
     have:=qHH F
     omega
   unfold qJW
   rw[hone,hm]
   rfl
  rw[qIA q5]
  have hwi:qI ((i:Int)+1)=((i+1:Nat):Int):=by rw[w64 (by omega)];rfl
  have hl:=qUad ht (dp:=dp) (by omega) (ih (dp+1) (by omega) (by omega)) hi' (K:=qID n) (by rw[hget]) (qID n).toNat (i+1) 0 [] true (by omega) (by omega) rfl (by omega)
  rw[show ((0:Nat):Int)=0 from rfl] at hl
  rw[hwi]
  cases hm:many (one (257 - (dp+1))) (qID n).toNat (t.drop (i+1)) with
  |none=>
   rw[hm] at hl hone
   obtain ⟨y,hy⟩:=hl
   rw[hy]
   simp only[qAA,qXD,qWD,qMA,qPA]
   unfold qJW
   rw[hone]
   rfl
  |some x=>
   obtain ⟨F,l'⟩:=x
   obtain ⟨b1,b2,b3,b4⟩:=hbound F l' hm
   rw[hm] at hl hone
   simp only at hl
   rw[hl]
   simp only[qAA,qJB,qMA,qY15,Bool.true_and]
   rw[qCah b2]
   simp only[Option.bind_some] at hone
   have htree:qJW (257 - dp) t.length (t.drop i)=((t.length:Int) - (l'.length:Int),if 0∈F.srt then 0 else qWF n (op1 F) F.srt):=by
    unfold qJW
    rw[hone]
    rfl
   rw[htree]
   by_cases h0:(0:Int)∈F.srt
   ·rw[qZ10 h0,if_pos h0];rfl
   rw[qZ9 h0,if_neg h0]
   simp only[qY1,qY2,qPA]
   have hop:=qZad q3
   have hcl:qMB (nOp n) (F.srt.length:Int)=true:=by
    have e:(F.srt.length:Int)=qID n:=by rw[qQM,b1];omega
    rw[e];exact q4
   have hsl:F.srt.length<=1000000000:=by rw[qQM];have:=qHH F;omega
   cases F with
   |nil=>
    rw[qIA (by simp[srt]),hg,qZ0,hget,qTe (f:=0) hop hsl hcl (fun _ h=>by omega),qAA]
    rfl
   |cons n1 k1 r1=>
    have hb:t.drop (i+1)=n1::(k1.flat++r1.flat++l'):=by rw[b3];simp[flat]
    obtain ⟨g1,g2⟩:=qSF (d:=qPC) hb
    obtain ⟨w1,w2,w3,w4⟩:=qBH.1 b2
    obtain ⟨s1,s2,s3⟩:=qQS.1 h0
    rw[qEA (by simp[srt]),hwi,qDA,qBA (by omega),qBA (by omega),hg,qZ0,qZ0,hget,g1]
    rw[qTe (f:=n1.1) hop hsl hcl (fun _ h=>by
     have hsrt:(cons n1 k1 r1).srt.getD 0 0=qWF n1 (op1 k1) k1.srt:=by
      simp only[srt,qZ3]
      rw[if_neg s1]
     rw[hsrt]
     have h3:nOp n1=3:=h
     have:qWF n1 (op1 k1) k1.srt=qTF n1:=by unfold qWF;rw[if_pos (.inl h3)]
     rw[this]
     exact (qWal (qEa.1 w1).1 h3).1),qAA]
    rfl
theorem qMh:∃ f,big=f/\258<=f:=⟨big,rfl,by decide⟩
theorem qLag {t rest:List Nod} {at':Nat} {n:Nod} {k r:Tf} (hd:t.drop at'=(cons n k r).flat++rest) (hw:(cons n k r).wf=true) (hdep:(cons n k r).dep<=257):one 257 (t.drop at')=some (cons n k nil,r.flat++rest):=by
 obtain ⟨w1,w2,w3,w4⟩:=qBH.1 hw
 have e:(cons n k r).flat++rest=(cons n k nil).flat++(r.flat++rest):=by simp[flat]
 rw[hd,e]
 exact qUt _ (qBH.2 ⟨w1,w2,w3,rfl⟩) rfl (by simp only[dep] at hdep ⊢;omega)
theorem qCao {t:List Nod} (hs:qSN t) (ht:t.length<=20000) {p:Nat} (hp:p < t.length) {K:Int} (hK:(t.getD p qPC).2.2.2.2=K):∀ (r:Tf) (at':Nat) (rest:List Nod) (out:List Int) (idx:Nat),t.drop at'=r.flat++rest->r.wf=true->r.dep<=257->((idx+r.len:Nat):Int)=K->idx+r.len<=20000->out.length=idx->
 ∃ y,qLA qRF (t,(p:Int),out,(at':Int),(idx:Int),())=some (.exit 0,(t,(p:Int),out++r.srt,y)):=by
 intro r
 induction r with
 |nil=>
  intro at' rest out idx _ _ _ hk _ _
  simp only[len,Nat.add_zero] at hk
  refine ⟨_,qQA (y:=(t,(p:Int),out++[],(at':Int),(idx:Int),())) ?_ (by simp)⟩
  unfold qRF
  simp only
  rw[qDA,qBA (by omega),qBA (by omega),qZ0,hK,qIA (by omega),qY4]
 |cons n k r _ ir=>
  intro at' rest out idx hd hw hdep hk hb ho
  obtain ⟨w1,w2,w3,w4⟩:=qBH.1 hw
  have hone:=qLag hd hw hdep
  obtain ⟨f,hf1,hf2⟩:=qMh
  have htr:=qVab hs ht f 0 (by omega) (by omega) at'
  rw[show ((0:Nat):Int)=0 from rfl] at htr
  have hat:at'<=t.length:=by
   rcases Nat.lt_or_ge t.length at' with h | h
   ·rw[qY7 (by omega)] at hd
    simp[flat] at hd
   ·exact h
  obtain ⟨d1,d2,d3⟩:=qXs hone hat
  have hts:qJW (257 - 0) t.length (t.drop at')=(((at'+(cons n k nil).size:Nat):Int),(cons n k nil).srt.getD 0 0):=by
   unfold qJW
   rw[show 257 - 0=257 from rfl,hone]
   simp only
   rw[d3]
  rw[hts] at htr
  simp only[len] at hk hb
  have hgo:qRF (t,(p:Int),out,(at':Int),(idx:Int),())=some (.normal,(t,(p:Int),out++[(cons n k nil).srt.getD 0 0],((at'+(cons n k nil).size:Nat):Int),((idx+1:Nat):Int),())):=by
   unfold qRF
   simp only
   rw[qDA,qBA (by omega),qBA (by omega),qZ0,hK,qEA (by omega),hf1,htr,qAA,qBA (by simp[qSE];omega),w64 (by omega)]
   rfl
  obtain ⟨y,hy⟩:=ir (at'+(cons n k nil).size) rest (out++[(cons n k nil).srt.getD 0 0]) (idx+1) d1 w4 (by simp only[dep] at hdep;omega) (by omega) (by omega) (by simp[ho])
  refine ⟨y,?_⟩
  rw[qSA hgo,hy]
  simp[srt]
theorem qMan {t:List Nod} (hs:qSN t) (ht:t.length<=20000) {p:Nat} {n:Nod} {k:Tf} {rest:List Nod} (hd:t.drop p=n::(k.flat++rest)) (hn:qID n=(k.len:Int)) (hw:k.wf=true) (hdep:k.dep<=257) (hk:k.size<=20000):qOP t (p:Int)=some ((k.srt,()),()):=by
 obtain ⟨g1,g2⟩:=qSF (d:=qPC) hd
 have hkl:=qHH k
 have hd':t.drop (p+1)=k.flat++rest:=by
  have:=congrArg (List.drop 1) hd
  rw[List.drop_drop] at this
  simpa using this
 unfold qOP
 obtain ⟨y,hy⟩:=qCao hs ht g2 (K:=(k.len:Int)) (by rw[g1];exact hn) k (p+1) rest [] 0 hd' hw hdep (by omega) (by omega) rfl
 rw[show ((0:Nat):Int)=0 from rfl] at hy
 rw[w64 (by omega)]
 have e:(p:Int)+1=((p+1:Nat):Int):=rfl
 rw[e,hy]
 simp only[qAA,qJB,qMA,qY15]
theorem qTad {a b:List Int} (ha:a.length<=2000000000):qAR a b=some ((decide (a=b),()),()):=by
 unfold qAR
 by_cases hl:a.length=b.length
 ·rw[qPD (by omega)]
  have:=qHI (step:=qVI) (fun k=>(a,b,false,(k:Int),())) (fun k=>(a,b,false,(k:Int),())) a.length (E:=.exit 0) (B:=.ret) (by simp) (by simp) (fun k=>decide (a.getD k 0=b.getD k 0)) (fun k hk=>by
   unfold qVI
   simp only
   rw[qEA (by omega),qDA,qBA (by omega),qBA (by omega),qDA,qBA (by omega),qBA (by omega),qZ0,w64 (by omega)]
   by_cases h:a.getD k 0=b.getD k 0
   ·rw[qPD h,if_pos (qZ10 h)];rfl
   ·rw[qAE h,if_neg (fun e=>h (of_decide_eq_true e))]) (by
   unfold qVI
   simp only
   rw[qIA (by omega)])
  rw[show ((0:Nat):Int)=0 from rfl] at this
  have heq:(List.range a.length).all (fun k=>decide (a.getD k 0=b.getD k 0))=decide (a=b):=by
   rw[Bool.eq_iff_iff,qY3,decide_eq_true_eq]
   constructor
   ·intro h
    refine List.ext_getElem hl fun k h1 h2=>?_
    have:=h k (List.mem_range.2 h1)
    simpa [qZ4,h1,h2] using this
   ·rintro rfl k _;simp
  rcases this with ⟨h1,h2⟩ | ⟨h1,k,h2⟩
  ·rw[h2,<-heq,h1];simp only[qAA,qJB,qMA]
  ·rw[h2,<-heq,h1];simp only[qAA,qXD,qWD,qMA,qPA]
 ·rw[qAE (by omega),qZ9 (fun e=>hl (by rw[e]))]
abbrev Fv:=qBs×List Int×Int
structure UI (us:List Us) (vars:List Vr) (funcs:List Fv):Prop where
 w:∀ a∈us,(a.2.1=false/\a.2.2.1=[])\/a.2.1=true
 c:∀ a∈us,∀ b∈us,a.1=b.1->a.2.1=b.2.1->a=b
 v1:∀ x∈vars,(x.1,false,[],x.2)∈us
 v2:∀ nm s,(nm,false,[],s)∈us->(nm,s)∈vars
 f1:∀ x∈funcs,(x.1,true,x.2.1,x.2.2)∈us
 f2:∀ nm a s,(nm,true,a,s)∈us->(nm,a,s)∈funcs
theorem UI.nil:UI [] [] []:=⟨fun a h=>absurd h qY16,fun a h=>absurd h qY16,fun a h=>absurd h qY16,fun _ _ h=>absurd h qY16,fun a h=>absurd h qY16,fun _ _ _ h=>absurd h qY16⟩
theorem UI.again {us:List Us} {vars:List Vr} {funcs:List Fv} (h:UI us vars funcs) {u:Us} (hu:u∈us):UI (us++[u]) vars funcs:=by
 have hm:∀ a,a∈us++[u] ↔ a∈us:=fun a=>by
  rw[qZ7,qZ8]
  exact ⟨fun h=>h.elim id fun e=>e ▸ hu,.inl⟩
 exact ⟨fun a ha=>h.w a ((hm a).1 ha),fun a ha b hb=>h.c a ((hm a).1 ha) b ((hm b).1 hb),fun x hx=>(hm _).2 (h.v1 x hx),fun nm s hx=>h.v2 nm s ((hm _).1 hx),fun x hx=>(hm _).2 (h.f1 x hx),fun nm a s hx=>h.f2 nm a s ((hm _).1 hx)⟩
theorem UI.snoc_c {us:List Us} {vars:List Vr} {funcs:List Fv} (h:UI us vars funcs) {u:Us} (hu:∀ a∈us,a.1=u.1->a.2.1=u.2.1->a=u):∀ a∈us++[u],∀ b∈us++[u],a.1=b.1->a.2.1=b.2.1->a=b:=by
 intro a ha b hb e1 e2
 rcases List.mem_append.1 ha with ha1 | ha1
 ·rcases List.mem_append.1 hb with hb1 | hb1
  ·exact h.c a ha1 b hb1 e1 e2
  ·rw[qZ8] at hb1
   rw[hb1] at e1 e2 ⊢
   exact hu a ha1 e1 e2
 ·rw[qZ8] at ha1
  rw[ha1] at e1 e2 ⊢
  rcases List.mem_append.1 hb with hb1 | hb1
  ·exact (hu b hb1 e1.symm e2.symm).symm
  ·rw[qZ8] at hb1;exact hb1.symm
theorem UI.addV {us:List Us} {vars:List Vr} {funcs:List Fv} (h:UI us vars funcs) {nm:qBs} {s:Int} (hn:∀ x∈vars,x.1≠nm):UI (us++[(nm,false,[],s)]) (vars++[(nm,s)]) funcs:=by
 refine ⟨fun a ha=>?_,h.snoc_c fun a ha e1 e2=>?_,fun x hx=>?_,fun m x hx=>?_,fun x hx=>List.mem_append_left _ (h.f1 x hx),fun m a x hx=>?_⟩
 ·rcases List.mem_append.1 ha with ha | ha
  ·exact h.w a ha
  ·rw[qZ8] at ha;subst ha;exact .inl ⟨rfl,rfl⟩
 ·exfalso
  obtain ⟨m,b,l,z⟩:=a
  simp only at e1 e2
  subst e1;subst e2
  rcases h.w _ ha with ⟨_,q⟩ | q
  ·simp only at q;subst q
   exact hn _ (h.v2 _ _ ha) rfl
  ·cases q
 ·rcases List.mem_append.1 hx with hx | hx
  ·exact List.mem_append_left _ (h.v1 x hx)
  ·rw[qZ8] at hx;subst hx;simp
 ·rcases List.mem_append.1 hx with hx | hx
  ·exact List.mem_append_left _ (h.v2 m x hx)
  ·rw[qZ8] at hx;cases hx;simp
 ·rcases List.mem_append.1 hx with hx | hx
  ·exact h.f2 m a x hx
  ·rw[qZ8] at hx;cases hx
theorem UI.addF {us:List Us} {vars:List Vr} {funcs:List Fv} (h:UI us vars funcs) {nm:qBs} {l:List Int} {s:Int} (hn:∀ x∈funcs,x.1≠nm):UI (us++[(nm,true,l,s)]) vars (funcs++[(nm,l,s)]):=by
 refine ⟨fun a ha=>?_,h.snoc_c fun a ha e1 e2=>?_,fun x hx=>List.mem_append_left _ (h.v1 x hx),fun m x hx=>?_,fun x hx=>?_,fun m a x hx=>?_⟩
 ·rcases List.mem_append.1 ha with ha | ha
  ·exact h.w a ha
  ·rw[qZ8] at ha;subst ha;exact .inr rfl
 ·exfalso
  obtain ⟨m,b,l',z⟩:=a
  simp only at e1 e2
  subst e1;subst e2
  exact hn _ (h.f2 _ _ _ ha) rfl
 ·rcases List.mem_append.1 hx with hx | hx
  ·exact h.v2 m x hx
  ·rw[qZ8] at hx;cases hx
 ·rcases List.mem_append.1 hx with hx | hx
  ·exact List.mem_append_left _ (h.f1 x hx)
  ·rw[qZ8] at hx;subst hx;simp
 ·rcases List.mem_append.1 hx with hx | hx
  ·exact List.mem_append_left _ (h.f2 m a x hx)
  ·rw[qZ8] at hx;cases hx;simp
theorem qNad {t:List Nod} {vars:List Vr} {funcs:List Fv} {i:Nat} {n:Nod} (hi:i < t.length) (hn:t.getD i qPC=n) (hl:vars.length<=20000):∀ (m q:Nat) (known:Bool),q+m=vars.length->
 ((∃ x∈vars.drop q,x.1=n.2.2.1/\x.2≠n.2.1)/\∃ y,qLA qHG (t,false,vars,funcs,(i:Int),known,(q:Int),())=some (.ret,(t,false,vars,funcs,(i:Int),y)))\/
 ((∀ x∈vars.drop q,x.1=n.2.2.1->x.2=n.2.1)/\qLA qHG (t,false,vars,funcs,(i:Int),known,(q:Int),())=some (.exit 3,(t,false,vars,funcs,(i:Int),known||(vars.drop q).any (fun x=>decide (x.1=n.2.2.1)),(vars.length:Int),()))):=by
 intro m
 induction m with
 |zero=>
  intro q known hq
  have e:vars.drop q=[]:=qY7 (by omega)
  rw[e]
  refine .inr ⟨fun x hx=>absurd hx qY16,qQA ?_ (by simp)⟩
  unfold qHG
  simp only
  rw[qIA (by omega)]
  have:q=vars.length:=by omega
  rw[this]
  simp
 |succ m ih=>
  intro q known hq
  have hql:q < vars.length:=by omega
  have hd:=qY6 hql
  have hg:vars.getD q zVr=vars[q]:=by simp[qZ4,hql]
  rw[hd]
  generalize vars[q]=x at hg hd
  have hstep:qHG (t,false,vars,funcs,(i:Int),known,(q:Int),())=if x.1=n.2.2.1 then (if x.2=n.2.1 then some (.normal,(t,false,vars,funcs,(i:Int),true,((q+1:Nat):Int),())) else some (.ret,(t,false,vars,funcs,(i:Int),true,(q:Int),()))) else some (.normal,(t,false,vars,funcs,(i:Int),known,((q+1:Nat):Int),())):=by
   unfold qHG
   simp only
   rw[qEA (by omega),qDA,qBA (by omega),qBA (by omega),qZ0,qZ0,qBA hql,qDA,qBA (by omega),qBA (by omega),hg,hn,w64 (by omega)]
   by_cases h1:x.1=n.2.2.1
   ·rw[show (x.1==n.2.2.1)=true by simpa using h1,if_pos h1,qMA,qDA,qBA (by omega),qBA (by omega),qBA hql,qDA,qBA (by omega),qBA (by omega)]
    by_cases h2:x.2=n.2.1
    ·rw[qPD h2,if_pos h2];rfl
    ·rw[qAE h2,if_neg h2]
   ·rw[show (x.1==n.2.2.1)=false by simpa using h1,if_neg h1,qPA];rfl
  by_cases h1:x.1=n.2.2.1
  ·rw[if_pos h1] at hstep
   by_cases h2:x.2=n.2.1
   ·rw[if_pos h2] at hstep
    rcases ih (q+1) true (by omega) with ⟨⟨z,z1,z2⟩,y,hy⟩ | ⟨hz,hy⟩
    ·exact .inl ⟨⟨z,qY13 _ z1,z2⟩,y,by rw[qSA hstep,hy]⟩
    ·refine .inr ⟨fun z hz' e=>?_,?_⟩
     ·rcases List.mem_cons.1 hz' with rfl | hz'
      ·exact h2
      ·exact hz z hz' e
     ·rw[qSA hstep,hy,List.any_cons,qZ10 h1];simp
   ·rw[if_neg h2] at hstep
    exact .inl ⟨⟨x,by simp,h1,h2⟩,_,qQA hstep (by simp)⟩
  ·rw[if_neg h1] at hstep
   rcases ih (q+1) known (by omega) with ⟨⟨z,z1,z2⟩,y,hy⟩ | ⟨hz,hy⟩
   ·exact .inl ⟨⟨z,qY13 _ z1,z2⟩,y,by rw[qSA hstep,hy]⟩
   ·refine .inr ⟨fun z hz' e=>?_,?_⟩
    ·rcases List.mem_cons.1 hz' with rfl | hz'
     ·exact absurd e h1
     ·exact hz z hz' e
    ·rw[qSA hstep,hy,List.any_cons,qZ9 h1,Bool.false_or]
theorem qNx {t:List Nod} {vars:List Vr} {funcs:List Fv} {i:Nat} {g:Fv} (hl:funcs.length<=20000) (hfl:∀ x∈funcs,x.2.1.length<=20000):∀ (m q:Nat) (known:Bool),q+m=funcs.length->
 ((∃ x∈funcs.drop q,x.1=g.1/\x≠g)/\∃ y,qLA qIG (t,false,vars,funcs,(i:Int),g,known,(q:Int),())=some (.ret,(t,false,vars,funcs,(i:Int),y)))\/
 ((∀ x∈funcs.drop q,x.1=g.1->x=g)/\qLA qIG (t,false,vars,funcs,(i:Int),g,known,(q:Int),())=some (.exit 5,(t,false,vars,funcs,(i:Int),g,known||(funcs.drop q).any (fun x=>decide (x.1=g.1)),(funcs.length:Int),()))):=by
 intro m
 induction m with
 |zero=>
  intro q known hq
  have e:funcs.drop q=[]:=qY7 (by omega)
  rw[e]
  refine .inr ⟨fun x hx=>absurd hx qY16,qQA ?_ (by simp)⟩
  unfold qIG
  simp only
  rw[qIA (by omega)]
  have:q=funcs.length:=by omega
  rw[this]
  simp
 |succ m ih=>
  intro q known hq
  have hql:q < funcs.length:=by omega
  have hd:=qY6 hql
  have hg:funcs.getD q (([]:qBs),([]:List Int),(0:Int))=funcs[q]:=by simp[qZ4,hql]
  have hxl:=hfl _ (List.getElem_mem hql)
  rw[hd]
  generalize funcs[q]=x at hg hd hxl
  obtain ⟨xn,xa,xr⟩:=x
  obtain ⟨gn,ga,gr⟩:=g
  simp only at hxl
  have hstep:qIG (t,false,vars,funcs,(i:Int),(gn,ga,gr),known,(q:Int),())=if xn=gn then (if (xn,xa,xr)=(gn,ga,gr) then some (.normal,(t,false,vars,funcs,(i:Int),(gn,ga,gr),true,((q+1:Nat):Int),())) else some (.ret,(t,false,vars,funcs,(i:Int),(gn,ga,gr),true,(q:Int),()))) else some (.normal,(t,false,vars,funcs,(i:Int),(gn,ga,gr),known,((q+1:Nat):Int),())):=by
   unfold qIG
   simp only
   rw[qEA (by omega),qDA,qBA (by omega),qBA (by omega),qZ0,qBA hql,hg,w64 (by omega)]
   by_cases h1:xn=gn
   ·rw[show (xn==gn)=true by simpa using h1,if_pos h1,qMA,qDA,qBA (by omega),qBA (by omega),qBA hql]
    by_cases h2:xr=gr
    ·rw[qPD h2,qDA,qBA (by omega),qBA (by omega),qBA hql,qTad (show xa.length<=2000000000 by omega),qAA]
     by_cases h3:xa=ga
     ·rw[qZ10 h3,if_pos (by rw[h1,h2,h3])];rfl
     ·rw[qZ9 h3,if_neg (fun e=>h3 (by cases e;rfl))];rfl
    ·rw[qAE h2,if_neg (fun e=>h2 (by cases e;rfl))]
   ·rw[show (xn==gn)=false by simpa using h1,if_neg h1,qPA];rfl
  by_cases h1:xn=gn
  ·rw[if_pos h1] at hstep
   by_cases h2:(xn,xa,xr)=(gn,ga,gr)
   ·rw[if_pos h2] at hstep
    rcases ih (q+1) true (by omega) with ⟨⟨z,z1,z2⟩,y,hy⟩ | ⟨hz,hy⟩
    ·exact .inl ⟨⟨z,qY13 _ z1,z2⟩,y,by rw[qSA hstep,hy]⟩
    ·refine .inr ⟨fun z hz' e=>?_,?_⟩
     ·rcases List.mem_cons.1 hz' with rfl | hz'
      ·exact h2
      ·exact hz z hz' e
     ·rw[qSA hstep,hy,List.any_cons,qZ10 h1];simp
   ·rw[if_neg h2] at hstep
    exact .inl ⟨⟨_,by simp,h1,h2⟩,_,qQA hstep (by simp)⟩
  ·rw[if_neg h1] at hstep
   rcases ih (q+1) known (by omega) with ⟨⟨z,z1,z2⟩,y,hy⟩ | ⟨hz,hy⟩
   ·exact .inl ⟨⟨z,qY13 _ z1,z2⟩,y,by rw[qSA hstep,hy]⟩
   ·refine .inr ⟨fun z hz' e=>?_,?_⟩
    ·rcases List.mem_cons.1 hz' with rfl | hz'
     ·exact absurd e h1
     ·exact hz z hz' e
    ·rw[qSA hstep,hy,List.any_cons,qZ9 h1,Bool.false_or]
theorem qYah {F:Tf} {t:List Nod} (hs:qSN t) (hF:F.flat=t) (hw:F.wf=true) (h0:(0:Int)∉F.srt) (hz:F.size<=20000) (hdep:F.dep<=257) {p:Nat} (hp:p < F.size) {vars:List Vr} {funcs:List Fv}
 (hI:UI (qOS F p) vars funcs) (hl:vars.length<=p) (hm:funcs.length<=p) :
 (¬ Cns (qOS F (p+1))/\∃ x,qAG (t,false,vars,funcs,(p:Int),())=some (.ret,(t,false,x)))\/
 ∃ vars' funcs',UI (qOS F (p+1)) vars' funcs'/\vars'.length<=p+1/\funcs'.length<=p+1/\qAG (t,false,vars,funcs,(p:Int),())=some (.normal,(t,false,vars',funcs',((p+1:Nat):Int),())):=by
 obtain ⟨n,k,x,rest,rest2,h1,h2,h3⟩:=qZaj F 0 p hp
 obtain ⟨g1,g2⟩:=qSF (d:=qPC) h2
 have hmem:(n,k)∈F.subs:=qY14 h1
 obtain ⟨w1,w2,w3,w4⟩:=qWaj hw h0 hmem
 have hks:=qFc hmem
 have htl:t.length=F.size:=by rw[<-hF,qKC]
 rw[hF] at g1 h2
 have hwp:qI ((p:Int)+1)=((p+1:Nat):Int):=by rw[w64 (by omega)];rfl
 have hT:=qDi h1
 have hkd:k.dep<=257:=by
  have:∀ (f:Tf),(n,k)∈f.subs->k.dep<=f.dep:=by
   intro f
   induction f with
   |nil=>intro h;simp[subs] at h
   |cons a b c ib ic=>
    intro h
    simp only[subs,qY12,qZ7,Prod.mk.injEq] at h
    simp only[dep]
    rcases h with ⟨rfl,rfl⟩ | h | h
    ·omega
    ·have:=ib h;omega
    ·have:=ic h;omega
  have:=this F hmem
  omega
 unfold qAG
 simp only
 rw[qEA (by omega),qDA,qBA (by omega),qBA (by omega),qZ0,g1]
 by_cases e4:n.1=4
 ·have hu:qIR (n,k)=some (n.2.2.1,false,[],n.2.1):=by unfold qIR;rw[if_pos e4]
  rw[hu] at hT
  rw[qKA e4]
  rcases qNad (funcs:=funcs) (t:=t) (i:=p) (n:=n) (by omega) g1 (show vars.length<=20000 by omega) vars.length 0 false (by omega) with ⟨⟨y,y1,y2,y3⟩,z,hz'⟩ | ⟨hy,hz'⟩
  ·rw[show ((0:Nat):Int)=0 from rfl] at hz'
   rw[hz']
   simp only[qAA,qXD,qWD,qMA,qPA]
   refine .inl ⟨fun hc=>y3 ?_,_,rfl⟩
   rw[hT] at hc
   have hy1:=hI.v1 y (by simpa using y1)
   have:=hc _ (List.mem_append_left _ hy1) (n.2.2.1,false,[],n.2.1) (by simp) y2
   simp only[Prod.mk.injEq] at this
   exact this.2.2.2
  ·rw[show ((0:Nat):Int)=0 from rfl] at hz'
   rw[hz']
   simp only[qAA,qJB,qMA,Bool.false_or,List.drop_zero]
   by_cases hk:(vars.any fun x=>decide (x.1=n.2.2.1))=true
   ·rw[hk]
    simp only[qY2,qPA,hwp]
    obtain ⟨y,y1,y2⟩:=List.any_eq_true.1 hk
    have y2':y.1=n.2.2.1:=of_decide_eq_true y2
    have hy1:=hI.v1 y y1
    have e2:=hy y (by simpa using y1) y2'
    rw[y2',e2] at hy1
    exact .inr ⟨_,_,by rw[hT];exact hI.again hy1,by omega,by omega,rfl⟩
   ·rw[Bool.not_eq_true] at hk
    rw[hk]
    simp only[qY1,qMA]
    rw[qDA,qBA (by omega),qBA (by omega),qDA,qBA (by omega),qBA (by omega),qBA (by simp[qSE];omega),qZ0,g1,hwp]
    have hx:∀ y∈vars,y.1≠n.2.2.1:=fun y hy1 e=>List.any_eq_false.1 hk y hy1 (qZ10 e)
    exact .inr ⟨_,_,by rw[hT];exact hI.addV hx,by simp;omega,by omega,rfl⟩
 ·rw[qCA e4]
  by_cases e5:n.1=5
  ·have hu:qIR (n,k)=some (n.2.2.1,true,k.srt,n.2.1):=by unfold qIR;rw[if_neg e4,if_pos e5]
   rw[hu] at hT
   rw[qKA e5]
   have hfa:qWb t (p:Int)=some (((n.2.2.1,k.srt,n.2.1),()),()):=by
    unfold qWb
    rw[qDA,qBA (by omega),qBA (by omega),qMan hs (by omega) h2 w2 w3 hkd (by omega),qAA,qDA,qBA (by omega),qBA (by omega),qZ0,g1]
   rw[hfa,qAA]
   have hfl:∀ x∈funcs,x.2.1.length<=20000:=by
    intro y hy
    have hb2:=hI.f1 y hy
    obtain ⟨⟨n',k'⟩,m1,m2⟩:=List.mem_filterMap.1 (qNX _ hb2)
    unfold qIR at m2
    split at m2
    ·simp at m2
    ·split at m2
     ·simp only[Option.some.injEq,Prod.mk.injEq] at m2
      rw[<-m2.2.2.1,qQM]
      have:=qFc m1;have:=qHH k';omega
     ·cases m2
   rcases qNx (t:=t) (vars:=vars) (i:=p) (g:=(n.2.2.1,k.srt,n.2.1)) (show funcs.length<=20000 by omega) hfl funcs.length 0 false (by omega) with ⟨⟨y,y1,y2,y3⟩,z,hz'⟩ | ⟨hy,hz'⟩
   ·rw[show ((0:Nat):Int)=0 from rfl] at hz'
    simp only
    rw[hz']
    simp only[qAA,qXD,qWD,qMA,qPA]
    refine .inl ⟨fun hc=>y3 ?_,_,rfl⟩
    rw[hT] at hc
    have hy1:=hI.f1 y (by simpa using y1)
    have:=hc _ (List.mem_append_left _ hy1) (n.2.2.1,true,k.srt,n.2.1) (by simp) y2
    obtain ⟨ya,yb,yc⟩:=y
    simp only[Prod.mk.injEq,true_and] at this ⊢
    exact this
   ·rw[show ((0:Nat):Int)=0 from rfl] at hz'
    simp only
    rw[hz']
    simp only[qAA,qJB,qMA,Bool.false_or,List.drop_zero]
    by_cases hk:(funcs.any fun x=>decide (x.1=n.2.2.1))=true
    ·rw[hk]
     simp only[qY2,qPA,hwp]
     obtain ⟨y,y1,y2⟩:=List.any_eq_true.1 hk
     have y2':y.1=n.2.2.1:=of_decide_eq_true y2
     have hy1:=hI.f1 y y1
     have e2:=hy y (by simpa using y1) y2'
     rw[e2] at hy1
     exact .inr ⟨_,_,by rw[hT];exact hI.again hy1,by omega,by omega,rfl⟩
    ·rw[Bool.not_eq_true] at hk
     rw[hk]
     simp only[qY1,qMA]
     rw[qBA (by simp[qSE];omega),hwp]
     have hx:∀ y∈funcs,y.1≠n.2.2.1:=fun y hy1 e=>List.any_eq_false.1 hk y hy1 (qZ10 e)
     exact .inr ⟨_,_,by rw[hT];exact hI.addF hx,by omega,by simp;omega,rfl⟩
  ·have hu:qIR (n,k)=none:=by unfold qIR;rw[if_neg e4,if_neg e5]
   rw[hu] at hT
   rw[qCA e5,hwp]
   exact .inr ⟨_,_,by rw[hT];simpa using hI,by omega,by omega,rfl⟩
theorem qQai {F:Tf} {t:List Nod} (hs:qSN t) (hF:F.flat=t) (hw:F.wf=true) (h0:(0:Int)∉F.srt) (hz:F.size<=20000) (hdep:F.dep<=257):∀ (m p:Nat) (vars:List Vr) (funcs:List Fv),p+m=F.size->
 UI (qOS F p) vars funcs->vars.length<=p->funcs.length<=p->
 (¬ Cns (qTo F)/\∃ x,qLA qAG (t,false,vars,funcs,(p:Int),())=some (.ret,(t,false,x)))\/
 ∃ vars' funcs' y,UI (qTo F) vars' funcs'/\vars'.length<=20000/\funcs'.length<=20000/\qLA qAG (t,false,vars,funcs,(p:Int),())=some (.exit 0,(t,false,vars',funcs',y)):=by
 have htl:t.length=F.size:=by rw[<-hF,qKC]
 intro m
 induction m with
 |zero=>
  intro p vars funcs hp hI hl hm
  have e:qOS F p=qTo F:=by unfold qOS qTo;rw[List.take_of_length_le (by rw[qIP];omega)]
  rw[e] at hI
  exact .inr ⟨vars,funcs,_,hI,by omega,by omega,qQA (by unfold qAG;simp only;rw[qIA (by omega)]) (by simp)⟩
 |succ m ih=>
  intro p vars funcs hp hI hl hm
  rcases qYah hs hF hw h0 hz hdep (p:=p) (by omega) hI hl hm with ⟨h1,x,h2⟩ | ⟨vars',funcs',h1,h2,h3,h4⟩
  ·exact .inl ⟨fun hc=>h1 (hc.mono qNX),x,qQA h2 (by simp)⟩
  ·rw[qSA h4]
   exact ih (p+1) vars' funcs' (by omega) h1 h2 h3
theorem qHag {vars:List Vr} {funcs:List Fv} (hl:funcs.length<=20000) {i:Nat} (hi:i < vars.length):∀ (m q:Nat),q+m=funcs.length->
 ((∃ g∈funcs.drop q,(vars.getD i zVr).1=g.1)/\∃ y,qLA qDG (false,vars,funcs,(i:Int),(q:Int),())=some (.ret,(false,vars,funcs,(i:Int),y)))\/
 ((∀ g∈funcs.drop q,(vars.getD i zVr).1≠g.1)/\∃ y,qLA qDG (false,vars,funcs,(i:Int),(q:Int),())=some (.exit 9,(false,vars,funcs,(i:Int),y))):=by
 intro m
 induction m with
 |zero=>
  intro q hq
  have e:funcs.drop q=[]:=qY7 (by omega)
  rw[e]
  exact .inr ⟨fun x hx=>absurd hx qY16,_,qQA (by unfold qDG;simp only;rw[qIA (by omega)]) (by simp)⟩
 |succ m ih=>
  intro q hq
  have hql:q < funcs.length:=by omega
  have hd:=qY6 hql
  have hg:funcs.getD q (([]:qBs),([]:List Int),(0:Int))=funcs[q]:=by simp[qZ4,hql]
  rw[hd]
  generalize funcs[q]=x at hg hd
  have hstep:qDG (false,vars,funcs,(i:Int),(q:Int),())=if (vars.getD i zVr).1=x.1 then some (.ret,(false,vars,funcs,(i:Int),(q:Int),())) else some (.normal,(false,vars,funcs,(i:Int),((q+1:Nat):Int),())):=by
   unfold qDG
   simp only
   rw[qEA (by omega),qDA,qBA (by omega),qBA (by omega),qZ0,qZ0,qBA hi,qDA,qBA (by omega),qBA (by omega),qBA hql,hg,w64 (by omega)]
   by_cases h1:(vars.getD i zVr).1=x.1
   ·rw[show ((vars.getD i zVr).1==x.1)=true from beq_iff_eq.2 h1,if_pos h1,qMA]
   ·rw[show ((vars.getD i zVr).1==x.1)=false from beq_eq_false_iff_ne.2 h1,if_neg h1,qPA];rfl
  by_cases h1:(vars.getD i zVr).1=x.1
  ·rw[if_pos h1] at hstep
   exact .inl ⟨⟨x,by simp,h1⟩,_,qQA hstep (by simp)⟩
  ·rw[if_neg h1] at hstep
   rcases ih (q+1) (by omega) with ⟨⟨z,z1,z2⟩,y,hy⟩ | ⟨hz,y,hy⟩
   ·exact .inl ⟨⟨z,qY13 _ z1,z2⟩,y,by rw[qSA hstep,hy]⟩
   ·refine .inr ⟨fun z hz'=>?_,y,by rw[qSA hstep,hy]⟩
    rcases List.mem_cons.1 hz' with rfl | hz'
    ·exact h1
    ·exact hz z hz'
theorem qHad {vars:List Vr} {funcs:List Fv} (hv:vars.length<=20000) (hl:funcs.length<=20000):∀ (m i:Nat),i+m=vars.length->
 ((∃ v∈vars.drop i,∃ g∈funcs,v.1=g.1)/\∃ y,qLA qCF (false,vars,funcs,(i:Int),())=some (.ret,(false,y)))\/
 ((∀ v∈vars.drop i,∀ g∈funcs,v.1≠g.1)/\∃ y,qLA qCF (false,vars,funcs,(i:Int),())=some (.exit 7,y)):=by
 intro m
 induction m with
 |zero=>
  intro i hi
  have e:vars.drop i=[]:=qY7 (by omega)
  rw[e]
  exact .inr ⟨fun x hx=>absurd hx qY16,_,qQA (by unfold qCF;simp only;rw[qIA (by omega)]) (by simp)⟩
 |succ m ih=>
  intro i hi
  have hil:i < vars.length:=by omega
  have hd:=qY6 hil
  have hg:vars.getD i zVr=vars[i]:=by simp[qZ4,hil]
  have hin:=qHag (vars:=vars) hl hil funcs.length 0 (by omega)
  rw[hg] at hin
  rw[hd]
  generalize vars[i]=x at hg hd hin
  rw[List.drop_zero,show ((0:Nat):Int)=0 from rfl] at hin
  rcases hin with ⟨⟨g,g1,g2⟩,y,hy⟩ | ⟨hn,y,hy⟩
  ·refine .inl ⟨⟨x,by simp,g,g1,g2⟩,_,qQA (y:=(false,vars,funcs,(i:Int),())) ?_ (by simp)⟩
   unfold qCF
   simp only
   rw[qEA (by omega),hy]
   simp only[qAA,qXD,qWD,qMA,qPA]
  ·have hgo:qCF (false,vars,funcs,(i:Int),())=some (.normal,(false,vars,funcs,((i+1:Nat):Int),())):=by
    unfold qCF
    simp only
    rw[qEA (by omega),hy]
    simp only[qAA,qJB,qMA]
    rw[w64 (by omega)]
    rfl
   rcases ih (i+1) (by omega) with ⟨⟨v,v1,v2⟩,y,hy⟩ | ⟨hz,y,hy⟩
   ·exact .inl ⟨⟨v,qY13 _ v1,v2⟩,y,by rw[qSA hgo,hy]⟩
   ·refine .inr ⟨fun z hz'=>?_,y,by rw[qSA hgo,hy]⟩
    rcases List.mem_cons.1 hz' with rfl | hz'
    ·exact hn
    ·exact hz z hz'
theorem qSl {F:Tf} {t:List Nod} (hs:qSN t) (hF:F.flat=t) (hw:F.wf=true) (h0:(0:Int)∉F.srt) (hz:F.size<=20000) (hdep:F.dep<=257):∃ b,qGX t=some ((b,()),())/\(b=true ↔ Cns (qTo F)):=by
 unfold qGX
 rcases qQai hs hF hw h0 hz hdep F.size 0 [] [] (by omega) UI.nil (by simp) (by simp) with ⟨h1,x,h2⟩ | ⟨vars,funcs,y,h1,h2,h3,h4⟩
 ·rw[show ((0:Nat):Int)=0 from rfl] at h2
  rw[h2]
  simp only[qAA,qXD,qWD,qMA,qPA]
  exact ⟨false,rfl,fun h=>(by cases h),fun h=>absurd h h1⟩
 ·rw[show ((0:Nat):Int)=0 from rfl] at h4
  rw[h4]
  simp only[qAA,qJB,qMA]
  rcases qHad h2 h3 vars.length 0 (by omega) with ⟨⟨v,v1,g,g1,e⟩,y,hy⟩ | ⟨hn,y,hy⟩
  ·rw[show ((0:Nat):Int)=0 from rfl] at hy
   rw[hy]
   simp only[qAA,qXD,qWD,qMA,qPA]
   refine ⟨false,rfl,fun h=>(by cases h),fun hc=>?_⟩
   have:=hc _ (h1.v1 v (by simpa using v1)) _ (h1.f1 g g1) e
   simp at this
  ·rw[show ((0:Nat):Int)=0 from rfl] at hy
   rw[hy]
   simp only[qAA,qJB,qMA]
   refine ⟨true,rfl,fun _=>?_,fun _=>rfl⟩
   intro a ha b hb e
   obtain ⟨an,ab,al,azs'⟩:=a
   obtain ⟨bn,bb,bl,bs⟩:=b
   simp only at e
   subst e
   rcases h1.w _ ha with ⟨p1,p2⟩ | p1<;>rcases h1.w _ hb with ⟨q1,q2⟩ | q1<;>simp only at p1 q1
   ·exact h1.c _ ha _ hb rfl (by simp only;rw[p1,q1])
   ·simp only at p2
    subst p1;subst p2;subst q1
    exact absurd rfl (hn _ (by simpa using h1.v2 _ _ ha) _ (h1.f2 _ _ _ hb))
   ·simp only at q2
    subst p1;subst q2;subst q1
    exact absurd rfl (hn _ (by simpa using h1.v2 _ _ hb) _ (h1.f2 _ _ _ ha))
   ·exact h1.c _ ha _ hb rfl (by simp only;rw[p1,q1])
theorem qAp {t:List Nod} (hs:qSN t):(∃ F,VT t F/\qLX t=some ((F.srt.getD 0 0,()),())/\1<=F.srt.getD 0 0)\/((¬ ∃ F,VT t F)/\qLX t=some ((0,()),())):=by
 unfold qLX
 by_cases hl:t.length > 20000
 ·rw[qEA (by omega)]
  refine .inr ⟨fun ⟨F,hF⟩=>?_,rfl⟩
  have:=hF.size
  have h2:=qKC F
  rw[hF.flat] at h2
  omega
 rw[qIA (by omega)]
 obtain ⟨f,hf1,hf2⟩:=qMh
 have htr:=qVab hs (by omega) f 0 (by omega) (by omega) 0
 rw[show ((0:Nat):Int)=0 from rfl,List.drop_zero] at htr
 rw[hf1,htr,qAA]
 have hiff:∀ F,VT t F->one 257 t=some (F,[]):=by
  intro F hF
  have:=qUt (f:=F) (d:=257) [] hF.wf hF.len hF.dep
  rw[qY4,hF.flat] at this
  exact this
 unfold qJW
 rw[show 257 - 0=257 from rfl]
 cases ho:one 257 t with
 |none=>
  simp only
  rw[qAE (show (-1:Int)≠(t.length:Int) by omega)]
  exact .inr ⟨fun ⟨F,hF⟩=>(by rw[hiff F hF] at ho;cases ho),rfl⟩
 |some x=>
  obtain ⟨F,l'⟩:=x
  obtain ⟨o1,o2,o3,o4⟩:=qKX 257 ho
  simp only
  by_cases hl':l'=[]
  ·subst hl'
   rw[qY4] at o1
   rw[qPD (show (t.length:Int) - (([]:List Nod).length:Int)=(t.length:Int) by simp)]
   obtain ⟨x,hx⟩:∃ x,F.srt=[x]:=by
    have:=qQM F
    rw[o3] at this
    match h:F.srt,this with
    |[x],_=>exact ⟨x,rfl⟩
   have hg:F.srt.getD 0 0=x:=by rw[hx];rfl
   have hz:F.size<=20000:=by rw[<-qKC,<-o1];omega
   by_cases h0:F.srt.getD 0 0=0
   ·rw[qKA h0]
    refine .inr ⟨fun ⟨G,hG⟩=>?_,rfl⟩
    have:=hiff G hG
    rw[ho] at this
    cases this
    exact hG.srt (by rw[hx,<-hg,h0];simp)
   rw[qCA h0]
   have hn:(0:Int)∉F.srt:=by rw[hx];simp;rw[hg] at h0;exact fun e=>h0 e.symm
   obtain ⟨b,b1,b2⟩:=qSl hs o1.symm o2 hn hz o4
   rw[b1,qAA]
   cases b with
   |true=>
    refine .inl ⟨F,⟨o1.symm,o2,hn,o3,hz,o4,b2.1 rfl⟩,rfl,?_⟩
    have:=qSn F o2 x (by rw[hx];simp)
    omega
   |false=>
    refine .inr ⟨fun ⟨G,hG⟩=>?_,rfl⟩
    have:=hiff G hG
    rw[ho] at this
    cases this
    have:=b2.2 hG.cns
    cases this
  ·have hpos:0 < l'.length:=List.length_pos_iff.2 hl'
   rw[qAE (by omega)]
   refine .inr ⟨fun ⟨G,hG⟩=>?_,rfl⟩
   have:=hiff G hG
   rw[ho] at this
   cases this
   exact hl' rfl
theorem qJV {t:List Nod} (hs:qSN t):∃ b,qHL t=some ((b,()),())/\(b=true ↔ ∃ F,VT t F):=by
 unfold qHL
 rcases qAp hs with ⟨F,h1,h2,h3⟩ | ⟨h1,h2⟩
 ·rw[h2,qAA]
  exact ⟨_,rfl,fun _=>⟨F,h1⟩,fun _=>qZ10 (show F.srt.getD 0 0 > 0 by omega)⟩
 ·rw[h2,qAA]
  exact ⟨_,rfl,fun h=>(by cases h),fun h=>absurd h h1⟩
theorem qAaa {A:qBs->Option SV} {G:Nod->List SV->Int ⊕ SV} (n:Nod) (k r:Tf):evF A G (cons n k r)=match evF A G (cons n k nil) with
 |.inl e=>.inl e
 |.inr us=>match evF A G r with
  |.inl e=>.inl e
  |.inr ws=>.inr (us++ws):=by
 simp only[evF]
 cases evF A G k with
 |inl e=>rfl
 |inr vs=>
  simp only
  cases evN A G n vs with
  |inl e=>rfl
  |inr v=>
   simp only
   cases evF A G r<;>rfl
theorem qDac (kids:List (List Nod)) (hl:kids.length<=1000):∀ (m i:Nat) (t:List Nod),i+m=kids.length->t.length+(kids.drop i).flatten.length<=100000->
 qLA qTS (kids,t,(i:Int),())=some (.exit 0,(kids,t++(kids.drop i).flatten,(kids.length:Int),())):=by
 intro m
 induction m with
 |zero=>
  intro i t hi _
  have e:kids.drop i=[]:=qY7 (by omega)
  rw[e]
  refine qQA ?_ (by simp)
  unfold qTS
  simp only
  have:i=kids.length:=by omega
  rw[qIA (by omega),this]
  simp
 |succ m ih=>
  intro i t hi hb
  have hil:i < kids.length:=by omega
  have hd:=qY6 hil
  have hg:kids.getD i []=kids[i]:=by simp[qZ4,hil]
  rw[hd] at hb ⊢
  simp only[List.flatten_cons,qZ6] at hb
  rw[qSA (y:=(kids,t++kids[i],((i+1:Nat):Int),())) (by
   unfold qTS
   simp only
   rw[qEA (by omega),qDA,qBA (by omega),qBA (by omega),qZ0,hg,qBA (by simp only[qSE];omega),w64 (by omega)]
   rfl)]
  rw[ih (i+1) _ (by omega) (by simp only[qZ6];omega)]
  simp only[List.flatten_cons,qZ1]
theorem qAl {n:Nod} {kids:List (List Nod)} (hl:kids.length<=1000) (hb:kids.flatten.length<=90000):qWh n kids=some (((n.1,n.2.1,n.2.2.1,n.2.2.2.1,(kids.length:Int))::kids.flatten,()),()):=by
 unfold qWh
 have:=qDac kids hl kids.length 0 [(n.1,n.2.1,n.2.2.1,n.2.2.2.1,(kids.length:Int))] (by omega) (by simp only[List.drop_zero,qY11,List.length_nil];omega)
 rw[show ((0:Nat):Int)=0 from rfl] at this
 rw[this]
 simp only[qAA,qJB,qMA,List.drop_zero]
 rfl
theorem qKV.len {VS:List Vr} {ss:List Int} {N d:Nat} {l:List Nod} (h:qKV VS ss N d l):l.length<=N:=by
 obtain ⟨K,hK⟩:=h
 rw[<-hK.flat,qKC];exact hK.size
theorem qKV.sub {VS:List Vr} {ss:List Int} {N d:Nat} {l:List Nod} (h:qKV [] ss N d l):qKV VS ss N d l:=by
 obtain ⟨K,hK⟩:=h
 exact ⟨K,hK.flat,hK.wf,hK.srt,hK.nz,hK.sh,hK.size,hK.dep,fun x hx h4=>absurd (hK.vars x hx h4) qY16,hK.noap⟩
theorem qNe {o k:Int} (h:1<=o/\o<=20) (h':o≠3/\o≠4/\o≠5/\o≠16/\o≠17):qKB ((o,0,[],[],k):Nod)=true:=by
 unfold qKB
 simp only[nOp,qTF,qAL,qMK]
 rw[if_neg (by omega),if_neg (by omega),if_neg (by omega),qZ10 h]
 rfl
theorem qIao {d:Int} {P:KV} (hP:P.length<=100) (hs:∀ p∈P,(ti p.1).length<=73/\(ti p.2).length<=73):∀ (m i:Nat) (t:List Nod),i+m=P.length->qKV [] [4] (2+3 * i) (2+i) t->
 ∃ t',qLA qLC (qMH d P,([]:List Nod),0,t,(i:Int),())=some (.exit 1,(qMH d P,([]:List Nod),0,t',(P.length:Int),()))/\qKV [] [4] (2+3 * P.length) (2+P.length) t':=by
 intro m
 induction m with
 |zero=>
  intro i t hi hg
  have:i=P.length:=by omega
  refine ⟨t,qQA ?_ (by simp),by rw[<-this];exact hg⟩
  unfold qLC
  simp only
  rw[qIA (by rw[qRG];omega),this]
 |succ m ih=>
  intro i t hi hg
  have hil:i < P.length:=by omega
  have hp:=hs _ (List.getElem_mem hil)
  have hlen:=hg.len
  have hk:=((hg.app ((qUk hp.1).mono (Nat.le_refl _) (show 1<=2+i by omega))).app ((qUk hp.2).mono (Nat.le_refl _) (show 1<=2+i by omega)))
  have hfl:[t,[((3:Int),(2:Int),([]:qBs),ti P[i].1,(0:Int))],[((3:Int),(2:Int),([]:qBs),ti P[i].2,(0:Int))]].flatten=t++[((3:Int),(2:Int),([]:qBs),ti P[i].1,(0:Int))]++[((3:Int),(2:Int),([]:qBs),ti P[i].2,(0:Int))]:=by simp
  have hj:=qAl (n:=((19:Int),(0:Int),([]:qBs),([]:qBs),(0:Int))) (kids:=[t,[((3:Int),(2:Int),([]:qBs),ti P[i].1,(0:Int))],[((3:Int),(2:Int),([]:qBs),ti P[i].2,(0:Int))]]) (by simp) (by simp;omega)
  rw[hfl] at hj
  have hn:=hk.node (n:=((19:Int),(0:Int),([]:qBs),([]:qBs),(3:Int))) (s:=4) (qNe (by omega) (by omega)) rfl rfl (by simp[qWF,nOp]) (by omega) (by simp[qMK]) (fun e=>by simp[nOp] at e) (by simp[nOp])
  obtain ⟨t',h1,h2⟩:=ih (i+1) _ (by omega) (hn.mono (show 2+3 * i+1+1+1<=2+3 * (i+1) by omega) (show 2+i+1<=2+(i+1) by omega))
  refine ⟨t',?_,h2⟩
  rw[qSA (y:=(qMH d P,([]:List Nod),0,_,((i+1:Nat):Int),())) (by
   unfold qLC
   simp only
   rw[qEA (by rw[qRG];omega),qIA (by omega),qDA,qBA (by omega),qBA (by rw[qRG];omega),qZ0,qMS hil,qNY hil]
   unfold qGT
   rw[qAA,qDA,qBA (by omega),qBA (by rw[qJP];omega),qAA]
   simp only
   rw[hj,qAA,w64 (by omega)]
   rfl)]
  exact h1
def qKy (v:SV):Prop:=okS v/\match v with
 |.b _=>True
 |.z n=>(ti n).length<=73
 |.q r=>(txt r).length<=73
 |.a d P=>(ti d).length<=73/\(∀ p∈P,(ti p.1).length<=73/\(ti p.2).length<=73)/\P.length<=100
def qCX:SV->Nat
 |.a _ P=>P.length
 |_=>0
theorem qFd {v:SV} (h:qKy v):Short 73 (encS v):=by
 obtain ⟨h1,h2⟩:=h
 cases v with
 |b x=>exact ⟨by simp[encS],fun s hs=>by simp[encS] at hs,fun s hs=>by simp[encS] at hs,by simp[encS]⟩
 |z n=>exact ⟨h2,fun s hs=>by simp[encS] at hs,fun s hs=>by simp[encS] at hs,by simp[encS]⟩
 |q r=>exact ⟨h2,fun s hs=>by simp[encS] at hs,fun s hs=>by simp[encS] at hs,by simp[encS]⟩
 |a d P=>
  obtain ⟨a1,a2,a3⟩:=h2
  exact (Sm.short (N:=73) ⟨a1,a2,by omega⟩)
theorem qMg {v:SV} (h:qKy v):∃ t,qJF (encS v)=some ((t,0,()),())/\qKV [] [qPk v] (2+3 * qCX v) (2+qCX v) t:=by
 have hsh:=qFd h
 obtain ⟨h1,h2⟩:=h
 have hval:=qUO (N:=73) (by omega) hsh
 rw[qUd h1] at hval
 unfold qJF
 rw[hval,qAA]
 simp only[qY2,qPA]
 cases v with
 |b x=>
  cases x
  ·exact ⟨_,rfl,qQaa.mono (by simp[qCX]) (by simp[qCX])⟩
  ·exact ⟨_,rfl,qZaf.mono (by simp[qCX]) (by simp[qCX])⟩
 |z n=>exact ⟨_,rfl,(qUk h2).mono (by simp[qCX]) (by simp[qCX])⟩
 |q r=>exact ⟨_,rfl,(qGao h2).mono (by simp[qCX]) (by simp[qCX])⟩
 |a d P=>
  obtain ⟨a1,a2,a3⟩:=h2
  have hk:=(qUk (VS:=[]) a1).node (n:=((20:Int),(0:Int),([]:qBs),([]:qBs),(1:Int))) (s:=4) (qNe (by omega) (by omega)) rfl rfl (by simp[qWF,nOp]) (by omega) (by simp[qMK]) (fun e=>by simp[nOp] at e) (by simp[nOp])
  obtain ⟨t',e1,e2⟩:=qIao (d:=d) a3 a2 P.length 0 _ (by omega) (hk.mono (by omega) (by omega))
  obtain ⟨F,hF⟩:=e2
  have hvt:=qNak ⟨fun v h=>absurd h qY16,fun v h=>absurd h qY16⟩ hF (by omega) (by omega)
  obtain ⟨b,b1,b2⟩:=qJV (t:=t') fun n hn=>by have:=hF.sh n hn;omega
  have hb:b=true:=b2.2 ⟨F,hvt⟩
  have e:encS (.a d P)=qMH d P:=rfl
  rw[e]
  simp only
  rw[qCA (by omega),qCA (by omega),qCA (by omega)]
  unfold qGT
  simp only[qAA]
  have hj:=qAl (n:=((20:Int),(0:Int),([]:qBs),([]:qBs),(0:Int))) (kids:=[[((3:Int),(2:Int),([]:qBs),ti d,(0:Int))]]) (by simp) (by simp)
  rw[hj,qAA]
  rw[show ((0:Nat):Int)=0 from rfl] at e1
  have e1':qLA qLC (qMH d P,([]:List Nod),0,(((20:Int),(0:Int),([]:qBs),([]:qBs),(([[((3:Int),(2:Int),([]:qBs),ti d,(0:Int))]].length:Nat):Int)):Nod)::[[((3:Int),(2:Int),([]:qBs),ti d,(0:Int))]].flatten,0,())=some (.exit 1,(qMH d P,([]:List Nod),0,t',(P.length:Int),())):=e1
  rw[e1']
  simp only[qAA,qJB,qMA]
  rw[b1,qAA,hb]
  exact ⟨t',rfl,⟨F,hF⟩⟩
def qXt (VS:List Vr) (c:List Int×Int) (s:Int) (N d:Nat) (r:Option (((List Nod)×Unit)×(qJA×Unit))):Prop:=∃ t c',r=some ((t,()),(c',()))/\CI c'/\qKV VS [s] N d t
abbrev TmF:=qJA->Int->Int->List Vr->Option (((List Nod)×Unit)×(qJA×Unit))
abbrev FmF:=qJA->Int->List Vr->Option (((List Nod)×Unit)×(qJA×Unit))
def TOk (VS:List Vr) (T:TmF) (d N D:Nat):Prop:=∀ c s,CI c->1<=s/\s<=4->qXt VS c s N D (T c s (d:Int) VS)
theorem qXt.mono {VS:List Vr} {c:List Int×Int} {s:Int} {N d M e:Nat} {r:Option (((List Nod)×Unit)×(qJA×Unit))} (h:qXt VS c s N d r) (hN:N<=M) (hd:d<=e):qXt VS c s M e r:=by
 obtain ⟨t,c',h1,h2,h3⟩:=h
 exact ⟨t,c',h1,h2,h3.mono hN hd⟩
section
variable {VS:List Vr} (T:TmF) (F:FmF) (I:TmF) (Ar:TmF) (At:FmF)
theorem qCR (a:List Nod):[a].flatten=a:=by simp
theorem qCS (a b:List Nod):[a,b].flatten=a++b:=by simp
end
theorem qUY {v:SV} (h:match v with
 |.b _=>True
 |.z n=>(ti n).length<=73
 |.q r=>(txt r).length<=73
 |.a d P=>Sm 73 d P/\P.length<=75):SmallV (encS v):=by
 cases v with
 |b x=>exact ⟨⟨by simp[encS],fun s hs=>by simp[encS] at hs,fun s hs=>by simp[encS] at hs,by simp[encS]⟩,by simp[encS]⟩
 |z n=>exact ⟨⟨h,fun s hs=>by simp[encS] at hs,fun s hs=>by simp[encS] at hs,by simp[encS]⟩,by simp[encS]⟩
 |q r=>exact ⟨⟨h,fun s hs=>by simp[encS] at hs,fun s hs=>by simp[encS] at hs,by simp[encS]⟩,by simp[encS]⟩
 |a d P=>exact ⟨h.1.short,by simp only[encS];rw[qRG];exact h.2⟩
theorem qHw {c:List Int×Int} (hc:CI c) {s:Int} (hs:1<=s/\s<=4):∃ v c',qQF c s=some ((encS v,()),(c',()))/\CI c'/\qPk v=s/\okS v/\SmallV (encS v):=by
 by_cases h4:s=4
 ·obtain ⟨d,P,c',h1,h2,h3,h5,h6⟩:=qRw hc
  rw[h4]
  exact ⟨.a d P,c',h1,h2,rfl,h3,qUY (v:=.a d P) ⟨⟨by have:=h5.num;omega,fun p hp=>⟨by have:=(h5.els p hp).1;omega,by have:=(h5.els p hp).2;omega⟩,h5.few⟩,by omega⟩⟩
 unfold qQF
 by_cases h1:s=1
 ·obtain ⟨r,c',n1,n2,n3,n4⟩:=qBL hc (n:=2) (by omega)
  rw[qKA h1,n1,qAA,h1]
  exact ⟨.b (r==1),c',rfl,n2,rfl,trivial,qUY (v:=.b (r==1)) trivial⟩
 rw[qCA h1,qCA h4]
 unfold qWQ
 by_cases h2:s=2
 ·obtain ⟨z,c',e1,e2,e3⟩:=qKc hc
  rw[qKA h2,e1,qAA,qAA,h2]
  exact ⟨.z z,c',rfl,e2,rfl,trivial,qUY (v:=.z z) (show (ti z).length<=73 by omega)⟩
 ·obtain ⟨q,c',e1,e2,e3⟩:=qQp hc
  have h3:s=3:=by omega
  have hl:(txt q).length<=73:=by have:=qDH q;omega
  rw[qCA h2,e1,qAA,qAA,h3]
  exact ⟨.q q,c',rfl,e2,rfl,trivial,qUY (v:=.q q) hl⟩
structure EnvOk (VS:List Vr) (env:List qXu):Prop where
 len:env.length=VS.length
 val:∀ b∈env,qDL b.2=true/\SmallV b.2
 all:∀ v∈VS,∃ x,envA env v.1=some x/\qPk x=v.2
def VSg:List Vr:=[([120],2),([121],2),([122],3),([119],3),([112],1),([98],1),([97],4),([99],4)]
theorem qKV.short {VS:List Vr} {ss:List Int} {N d:Nat} {l:List Nod} (h:qKV VS ss N d l):qBak l:=by
 obtain ⟨K,hK⟩:=h
 exact hK.sh
theorem qNan {A:qBs->Option SV} {G:Nod->List SV->Int ⊕ SV}:∀ {f g:Tf} {vs ws:List SV},evF A G f=.inr vs->evF A G g=.inr ws->evF A G (f.app g)=.inr (vs++ws):=by
 intro f
 induction f with
 |nil=>intro g vs ws h1 h2;simp only[evF,Sum.inr.injEq] at h1;subst h1;exact h2
 |cons n k r _ ir=>
  intro g vs ws h1 h2
  rw[qAaa] at h1
  have e:(cons n k r).app g=cons n k (r.app g):=rfl
  rw[e,qAaa]
  cases he:evF A G (cons n k Tf.nil) with
  |inl e=>rw[he] at h1;cases h1
  |inr us=>
   rw[he] at h1
   cases hr:evF A G r with
   |inl e=>rw[hr] at h1;cases h1
   |inr rs=>
    rw[hr] at h1
    simp only[Sum.inr.injEq] at h1
    rw[ir hr h2]
    simp only
    rw[<-h1,qZ1]
def EvK (env:List qXu) (ss:List Int) (N d:Nat) (l:List Nod) (vs:List SV):Prop:=∃ K,GenF VSg ss N d l K/\evF (envA env) G0 K=.inr vs
theorem EvK.mono {env:List qXu} {ss:List Int} {N d M e:Nat} {l:List Nod} {vs:List SV} (h:EvK env ss N d l vs) (hN:N<=M) (hd:d<=e):EvK env ss M e l vs:=by
 obtain ⟨K,hK,hv⟩:=h
 exact ⟨K,⟨hK.flat,hK.wf,hK.srt,hK.nz,hK.sh,by have:=hK.size;omega,by have:=hK.dep;omega,hK.vars,hK.noap⟩,hv⟩
theorem EvK.nil (env:List qXu):EvK env [] 0 0 [] []:=⟨Tf.nil,⟨rfl,rfl,rfl,by simp,fun _ h=>absurd h qY16,Nat.le_refl _,Nat.le_refl _,fun _ h=>absurd h qY16,fun _ h=>absurd h qY16⟩,rfl⟩
theorem EvK.app {env:List qXu} {ss uu:List Int} {N M d:Nat} {l m:List Nod} {vs ws:List SV} (h:EvK env ss N d l vs) (g:EvK env uu M d m ws):EvK env (ss++uu) (N+M) d (l++m) (vs++ws):=by
 obtain ⟨K,hK,hv⟩:=h
 obtain ⟨L,hL,hw⟩:=g
 refine ⟨K.app L,⟨by rw[qQT,hK.flat,hL.flat],by rw[qNl,hK.wf,hL.wf];rfl,by rw[qJa,hK.srt,hL.srt],?_,?_,?_,?_,?_,?_⟩,qNan hv hw⟩
 ·rw[qZ7];exact fun h=>h.elim hK.nz hL.nz
 ·exact fun x hx=>(List.mem_append.1 hx).elim (hK.sh x) (hL.sh x)
 ·rw[qJc];have:=hK.size;have:=hL.size;omega
 ·rw[qDq];have:=hK.dep;have:=hL.dep;omega
 ·exact fun x hx=>(List.mem_append.1 hx).elim (hK.vars x) (hL.vars x)
 ·exact fun x hx=>(List.mem_append.1 hx).elim (hK.noap x) (hL.noap x)
theorem EvK.node {env:List qXu} {ss:List Int} {N d:Nat} {l:List Nod} {vs:List SV} (h:EvK env ss N d l vs) {n:Nod} {s:Int} (hf:qKB n=true) (hc:qMB (nOp n) ss.length=true) (hk:qID n=(ss.length:Int)) (hs:qWF n (l.getD 0 qPC).1 ss=s) (hz:s≠0)
 (hnum:(qMK n).length<=73) (hv:nOp n≠4) (ha:nOp n≠5):EvK env [s] (N+1) (d+1) (n::l) [opV n vs]:=by
 obtain ⟨K,hK,hev⟩:=h
 have hl:K.len=ss.length:=by rw[<-qQM,hK.srt]
 refine ⟨cons n K Tf.nil,⟨by simp[Tf.flat,hK.flat],qBH.2 ⟨qEa.2 ⟨hf,by rw[hk];exact hc⟩,by rw[hl];exact hk,hK.wf,rfl⟩,?_,?_,?_,?_,?_,?_,?_⟩,?_⟩
 ·simp only[Tf.srt,hK.srt]
  rw[if_neg hK.nz,qBu hK.flat,hs]
 ·simp[Ne.symm hz]
 ·intro x hx
  rcases List.mem_cons.1 hx with rfl | hx
  ·exact hnum
  ·exact hK.sh x hx
 ·simp only[Tf.size];have:=hK.size;omega
 ·simp only[Tf.dep];have:=hK.dep;omega
 ·intro x hx
  rcases List.mem_cons.1 hx with rfl | hx
  ·exact fun h=>absurd h hv
  ·exact hK.vars x hx
 ·intro x hx
  rcases List.mem_cons.1 hx with rfl | hx
  ·exact ha
  ·exact hK.noap x hx
 ·simp only[evF,hev,evN]
  rw[if_neg hv,if_neg ha]
end Go.AM.Num
end
section
set_option linter.unusedSimpArgs false
namespace Go.AM.Num
open Tf
noncomputable def qUX (s:Int) (q:Rat):qBs:=
 if s=2 then txt q else if q.den=1 then txt q++[46,48] else [40,47,32]++txt ((q.num:Int):Rat)++[46,48,32]++dd q.den++[46,48,41]
noncomputable def qAS (s:Int) (q:Rat):qBs:=if q.num < 0 then [40,45,32]++qUX s (-q)++[41] else qUX s q
theorem qGal (q:Rat):D ((q.num:Int):Rat)<=D q+1:=by
 have h:=qSO q
 unfold D at h ⊢
 rw[Rat.num_intCast,Rat.den_intCast,qFP]
 simp only[qY11,List.length_nil]
 omega
theorem qIU (s:Int) (q:Rat):(qUX s q).length<=2 * D q+20:=by
 have h1:=qDH q
 have h2:=qDH ((q.num:Int):Rat)
 have h3:=qGal q
 have h4:=qUM q
 unfold qUX
 split
 ·omega
 ·split
  ·simp only[qZ6,qY11,List.length_nil];omega
  ·simp only[qZ6,qY11,List.length_nil];omega
theorem qXh (s:Int) (q:Rat):(qAS s q).length<=2 * D q+24:=by
 have h1:=qIU s q
 have h2:=qIU s (-q)
 rw[qOn] at h2
 unfold qAS
 split
 ·simp only[qZ6,qY11,List.length_nil];omega
 ·omega
theorem qUu {z:Int} (h:0<=z):¬ z.sign < 0:=fun h'=>by have:=qUi.1 h';omega
theorem qSX (q:Rat):qGa (txt q)=q.num.sign:=by unfold qGa;rw[qIK]
theorem qNt {q:Rat} {s:Int} {n:Nat} (hD:D q<=100000) (h0:0<=q.num):qJG (n+1) s (txt q)=some ((qUX s q,()),()):=by
 have hl:=qDH q
 have h2:=qDH ((q.num:Int):Rat)
 have h3:=qGal q
 have h4:=qUM q
 show qJI (qJG n) s (txt q)=_
 unfold qJI qUX
 rw[qHZ (by omega),qSX,qAA,qIA (qUu h0)]
 by_cases hs:s=2
 ·rw[qKA hs,if_pos hs]
 ·rw[qCA hs,if_neg hs,qHU (by omega),qOab,qAA]
  by_cases hd:q.den=1
  ·rw[show (q.den==1)=true from by simp[hd],if_pos hd]
   simp only[qMA]
   rw[qBA (by simp only[qZ6,qY11,List.length_nil,qIB];omega)]
  ·rw[show (q.den==1)=false from by simp[hd],if_neg hd,qUap (by omega),qUS,qAap (by omega),qUS]
   simp only[qPA,qAA]
   rw[qBA (by simp only[qZ6,qY11,List.length_nil,qIB];omega),qBA (by simp only[qZ6,qY11,List.length_nil,qIB];omega),qBA (by simp only[qZ6,qY11,List.length_nil,qIB];omega),qBA (by simp only[qZ6,qY11,List.length_nil,qIB];omega)]
theorem qTl {q:Rat} {s:Int} {n:Nat} (hD:D q<=100000):qJG (n+2) s (txt q)=some ((qAS s q,()),()):=by
 by_cases h0:q.num < 0
 ·have hl:=qDH q
  have hp:=qIU s (-q)
  rw[qOn] at hp
  show qJI (qJG (n+1)) s (txt q)=_
  unfold qJI qAS
  rw[qHZ (by omega),qSX,qAA,qEA (qUi.2 h0),qEac (by omega),qUS,qAA,qNt (by rw[qOn];exact hD) (by rw[Rat.neg_num];omega),qAA,if_pos h0]
  rw[qBA (by simp only[qZ6,qY11,List.length_nil,qIB];omega),qBA (by simp only[qZ6,qY11,List.length_nil,qIB];omega)]
 ·rw[qNt hD (by omega)]
  unfold qAS
  rw[if_neg h0]
theorem qYai {q:Rat} (hD:D q<=100000):qSag (txt q)=some ((txt ((q.num:Int):Rat),()),()):=by
 have hl:=qDH q
 rcases rp (txt q) (by omega) with ⟨p,e,hr,hDp,hp⟩ | ⟨hr,_⟩
 ·rw[qIK] at hr
  cases hr
  unfold qSag
  have ht:=qBe (decide (q.num < 0)) q.num.natAbs 1 (by have:=qSO q;omega) (by rw[qFP];simp)
  have e:rr (decide (q.num < 0)) q.num.natAbs 1=(decide (q.num < 0),dd q.num.natAbs,[49]):=by
   unfold rr
   rw[qFP]
   congr 1
   by_cases h:q.num < 0
   ·rw[qZ10 h,qZ10 (show q.num.natAbs≠0 by omega)];rfl
   ·rw[qZ9 h];rfl
  rw[e] at ht
  simp only at ht
  rw[hp]
  simp only[qAA,qY2,qPA]
  rw[ht,qAA]
  have:tx (decide (q.num < 0)) q.num.natAbs 1=txt ((q.num:Int):Rat):=by
   unfold tx txt
   rw[Rat.num_intCast,Rat.den_intCast]
   by_cases h:q.num < 0
   ·rw[qZ10 h,if_pos ⟨rfl,by omega⟩,if_pos h]
   ·rw[qZ9 h,if_neg (by rintro ⟨h1,_⟩;cases h1),if_neg h]
  rw[this]
 ·rw[qIK] at hr;cases hr
theorem qEag {q:Rat} (hD:D q<=100000):qPab (txt q)=some ((dd q.den,()),()):=by
 have hl:=qDH q
 rcases rp (txt q) (by omega) with ⟨p,e,hr,hDp,hp⟩ | ⟨hr,_⟩
 ·rw[qIK] at hr
  cases hr
  unfold qPab
  rw[hp]
  rfl
 ·rw[qIK] at hr;cases hr
theorem qSs {q:Rat} {s:Int} {n:Nat} (hD:D q<=100000) (h0:0<=q.num):qLG (n+1) (txt q) s=some ((qUX s q,()),()):=by
 have hl:=qDH q
 have h2:=qDH ((q.num:Int):Rat)
 have h3:=qGal q
 have h4:=qUM q
 show qII (qLG n) (txt q) s=_
 unfold qII qUX
 rw[qGY (by omega),qSX,qAA,qIA (qUu h0)]
 by_cases hs:s=2
 ·rw[qKA hs,if_pos hs]
 ·rw[qCA hs,if_neg hs,qEag hD,qAA,qDZ]
  by_cases hd:q.den=1
  ·rw[qZ10 hd,if_pos hd]
   simp only[qMA]
   rw[qBA (by simp only[qZ6,qY11,List.length_nil,qIB];omega)]
  ·rw[qZ9 hd,if_neg hd,qYai hD]
   simp only[qPA,qAA]
   rw[qBA (by simp only[qZ6,qY11,List.length_nil,qIB];omega),qBA (by simp only[qZ6,qY11,List.length_nil,qIB];omega),qBA (by simp only[qZ6,qY11,List.length_nil,qIB];omega),qBA (by simp only[qZ6,qY11,List.length_nil,qIB];omega)]
theorem qVm {q:Rat} {s:Int} {n:Nat} (hD:D q<=100000):qLG (n+2) (txt q) s=some ((qAS s q,()),()):=by
 by_cases h0:q.num < 0
 ·have hl:=qDH q
  have hp:=qIU s (-q)
  rw[qOn] at hp
  show qII (qLG (n+1)) (txt q) s=_
  unfold qII qAS
  rw[qGY (by omega),qSX,qAA,qEA (qUi.2 h0),qDt (by omega),qUS,qAA,qSs (by rw[qOn];exact hD) (by rw[Rat.neg_num];omega),qAA,if_pos h0]
  rw[qBA (by simp only[qZ6,qY11,List.length_nil,qIB];omega),qBA (by simp only[qZ6,qY11,List.length_nil,qIB];omega)]
 ·rw[qSs hD (by omega)]
  unfold qAS
  rw[if_neg h0]
def opW (o:Int):qBs:=([[],[116,114,117,101],[102,97,108,115,101],[],[],[],[110,111,116],[97,110,100],[111,114],[61,62],[105,116,101],[61],[60,61],[60],[43],[42],[100,105,118],[109,111,100],[115,101,108,101,99,116],[115,116,111,114,101],[99,111,110,115,116]]:List qBs).getD o.toNat []
theorem qXV {o:Int} (h:1<=o/\o<=20):qRU o=some ((opW o,()),()):=by
 unfold qRU
 rw[qDA,qBA (by omega),qBA (by omega)]
 rfl
def qUy (n:Nod):qBs:=if nOp n=5 then qAL n else opW (nOp n)
theorem qJq {n:Nod} (h:5<=nOp n/\nOp n<=20):qGk n=some ((qUy n,()),()):=by
 obtain ⟨o,s,nm,nu,k⟩:=n
 simp only[nOp] at h
 have:o=5\/o=6\/o=7\/o=8\/o=9\/o=10\/o=11\/o=12\/o=13\/o=14\/o=15\/o=16\/o=17\/o=18\/o=19\/o=20:=by omega
 rcases this with rfl | rfl | rfl | rfl | rfl | rfl | rfl | rfl | rfl | rfl | rfl | rfl | rfl | rfl | rfl | rfl<;>rfl
theorem qKo (o:Int):(opW o).length<=6:=by
 unfold opW
 by_cases h:o.toNat < 21
 ·have:∀ k:Fin 21,(([[],[116,114,117,101],[102,97,108,115,101],[],[],[],[110,111,116],[97,110,100],[111,114],[61,62],[105,116,101],[61],[60,61],[60],[43],[42],[100,105,118],[109,111,100],[115,101,108,101,99,116],[115,116,111,114,101],[99,111,110,115,116]]:List qBs).getD k.val []).length<=6:=by decide
  exact this ⟨o.toNat,h⟩
 ·rw[qZ4,List.getElem?_eq_none (by simp;omega)]
  simp
noncomputable def qGt (n:Nod) (ks:qBs):qBs:=
 if nOp n=1\/nOp n=2 then opW (nOp n) else if nOp n=3 then un (qAS (qTF n)) (qMK n) else if nOp n=4 then qAL n
 else [40]++qUy n++ks++(if qMK n=[] then [] else 32::qMK n)++[41]
noncomputable def sep:Tf->qBs
 |nil=>[]
 |cons n k r=>32::qGt n (sep k)++sep r
def Shn (n:Nod):Prop:=(qAL n).length<=40/\(qMK n).length<=1000
theorem qTk {n:Nod} (h:Shn n) (ks:qBs):(qGt n ks).length<=5000+ks.length:=by
 unfold qGt
 have h0:=qKo (nOp n)
 split
 ·omega
 ·split
  ·unfold un
   cases hr:rd (qMK n) with
   |none=>simp
   |some q=>
    have:=qMJ hr
    have h2:=h.2
    rw[this] at h2
    have h3:=qQU h2
    have h4:=qXh (qTF n) q
    simp only
    omega
  ·split
   ·have:=h.1;omega
   ·have h1:(qUy n).length<=40:=by
     unfold qUy
     split
     ·exact h.1
     ·omega
    have h2:=h.2
    have h3:(if qMK n=[] then ([]:qBs) else 32::qMK n).length<=1001:=by
     split
     ·simp
     ·simp only[qY11];omega
    simp only[qZ6,qY11,List.length_nil]
    omega
theorem qLZ:∀ (k:Tf),(∀ n∈k.flat,Shn n)->(sep k).length<=6000 * k.size
 |nil,_=>Nat.zero_le _
 |cons n k r,h=>by
  simp only[flat,qY12,qZ7] at h
  have h1:=qLZ k fun m hm=>h m (.inr (.inl hm))
  have h2:=qLZ r fun m hm=>h m (.inr (.inr hm))
  have h3:=qTk (h n (.inl rfl)) (sep k)
  simp only[sep,size,qZ6,qY11]
  omega
theorem qSaj {n:Nod} (h:qKB n=true) (hl:(qMK n).length<=1000):Shn n:=by
 refine ⟨?_,hl⟩
 unfold qKB at h
 have hn:∀ s,qHb s=true->s.length<=40:=fun s hs=>by
  unfold qHb at hs
  simp only[qY0,decide_eq_true_eq] at hs
  exact hs.1.1.1
 split at h
 ·simp only[qY0,decide_eq_true_eq] at h
  rw[h.1];simp
 ·split at h
  ·simp only[qY0,decide_eq_true_eq] at h
   exact hn _ h.1.2
  ·split at h
   ·simp only[qY0,decide_eq_true_eq] at h
    rw[h.1.1.2];simp
   ·simp only[qY0,decide_eq_true_eq] at h
    rw[h.1.2];simp
theorem qQal (t:qBs) (c:UInt8) (h:t.length+1<=68719476736):qQB ((),bs t) (c.toNat:Int)=some ((false,()),((),bs (t++[c])),()):=by
 unfold qQB
 rw[qLz]
 simp only[qAA,qVaj]
 rw[qBA (by rw[qCH];simp[bs];omega)]
 rfl
end Go.AM.Num
end
section
set_option linter.unusedSimpArgs false
namespace Go.AM.Num
open Tf
theorem qSZ {n:Nod} (h:qKB n=true) (h3:nOp n=3):∃ q,qMK n=txt q:=by
 unfold qKB at h
 rw[if_pos h3] at h
 simp only[qY0,Bool.or_eq_true,decide_eq_true_eq] at h
 rcases h.2 with ⟨_,h⟩ | ⟨_,h⟩
 ·obtain ⟨z,hz,_⟩:=qUT h;exact ⟨_,hz⟩
 ·obtain ⟨q,hq⟩:=Option.isSome_iff_exists.1 h;exact ⟨q,qMJ hq⟩
theorem qUZ {n:Nod} (h:qKB n=true):1<=nOp n/\nOp n<=20:=by
 unfold qKB at h
 split at h
 ·omega
 ·split at h
  ·omega
  ·split at h
   ·omega
   ·simp only[qY0,decide_eq_true_eq] at h
    exact h.1.1.1
theorem qIr {n:Nod} (h:qKB n=true) (h3:nOp n≠3):(qMK n=[] ↔ ¬ (nOp n=16\/nOp n=17)):=by
 unfold qKB at h
 rw[if_neg h3] at h
 split at h
 ·rename_i h4
  simp only[qY0,decide_eq_true_eq] at h
  rw[h.2];simp;omega
 ·split at h
  ·rename_i h5
   simp only[qY0,decide_eq_true_eq] at h
   constructor
   ·intro e
    obtain ⟨z,hz,_⟩:=qUT h.1.2
    rw[e] at hz
    have:=h.2
    rw[e] at this
    simp[qGa,qKt] at this
   ·intro h';exact absurd h5 h'
  ·simp only[qY0,decide_eq_true_eq] at h
   rw[h.2];simp;omega
theorem qMY:∀ (F:Tf),F.wf=true->∀ m∈F.flat,qKB m=true
 |nil,_,_,hm=>by simp[flat] at hm
 |cons n k r,h,m,hm=>by
  obtain ⟨w1,w2,w3,w4⟩:=qBH.1 h
  simp only[flat,qY12,qZ7] at hm
  rcases hm with rfl | hm | hm
  ·unfold okN at w1;exact ((qY0 _ _).mp w1).1
  ·exact qMY k w3 m hm
  ·exact qMY r w4 m hm
theorem qIi {t:List Nod} {P:List (Int×Sml)} (hP:P.length<=20000) (hPt:t.length<=P.length) {d p:Nat} {n:Nod} {k:Tf} {rest:List (Int×Sml)} (hp:p < t.length) (ht:t.getD p qPC=n) (hn:qID n=(k.len:Int)) (hf:qKB n=true) (hs:Shn n) (hd:P.drop (p+1)=info (p+1) k++rest) (hk:k.size<=20000) (hsl:(sep k).length<=1000000000)
 {out:qBs} (hloop:∀ o,o.length<=out.length+50->qLA (t_view_write_s4 (qEF d)) (some (t,P),((),bs o),n,rtf (p+1) k,((rtf (p+1) k).length:Int),0,())=some (.exit 1,(some (t,P),((),bs (o++sep k)),n,rtf (p+1) k,((rtf (p+1) k).length:Int),((rtf (p+1) k).length:Int),())))
 (ho:out.length<=1000000000):qEF (d+1) (some (t,P)) ((),bs out) (p:Int)=some ((),((),bs (out++qGt n (sep k))),()):=by
 show qQL (qEF d) (some (t,P)) ((),bs out) (p:Int)=_
 have hop:=qUZ hf
 have hg:t.getD (p:Int).toNat qPC=n:=by rw[qZ0];exact ht
 unfold qQL qGt
 simp only[Option.isSome_some,Option.getD_some]
 rw[qBO,qDA,qBA (by omega),qBA (by omega)]
 simp only[hg]
 by_cases h1:nOp n=1
 ·rw[qKA h1,if_pos (.inl h1),h1,qQi _ _ (by simp;omega)]
  rfl
 ·rw[qCA h1]
  by_cases h2:nOp n=2
  ·rw[qKA h2,if_pos (.inr h2),h2,qQi _ _ (by simp;omega)]
   rfl
  ·rw[qCA h2,if_neg (by omega)]
   by_cases h3:nOp n=3
   ·obtain ⟨q,hq⟩:=qSZ hf h3
    have h5:=hs.2
    rw[hq] at h5
    have hD:=qQU h5
    have hlen:=qXh (qTF n) q
    obtain ⟨b,hb1,hb2⟩:=qMh
    obtain ⟨c,rfl⟩:∃ c,b=c+2:=⟨b - 2,by omega⟩
    have hq':n.2.2.2.1=txt q:=hq
    rw[qKA h3,if_pos h3,hb1,hq',qTl (by omega),qAA,hq,qUS]
    simp only
    rw[qQi _ _ (by show _+(qAS n.2.1 q).length<=_;have:(qAS n.2.1 q).length<=2 * D q+24:=hlen;omega)]
    rfl
   ·rw[qCA h3,if_neg h3]
    by_cases h4:nOp n=4
    ·have:=hs.1
     rw[qKA h4,if_pos h4,qQi _ _ (by show _+(qAL n).length<=_;omega)]
     rfl
    ·rw[qCA h4,if_neg h4,qJq (by omega)]
     have hsy:(qUy n).length<=40:=by
      unfold qUy
      have:=qKo (nOp n)
      split
      ·exact hs.1
      ·omega
     have hnu:=hs.2
     simp only[qAA]
     rw[qBA (by simp only[qY11,List.length_nil,qIB];omega),qQi _ _ (by simp;omega)]
     simp only[qAA]
     rw[qEae hP hp ht hn hd hk (by omega)]
     simp only[qAA]
     rw[hloop _ (by simp;omega)]
     simp only[qAA,qJB,qMA]
     have e32:((32:UInt8).toNat:Int)=32:=rfl
     have e41:((41:UInt8).toNat:Int)=41:=rfl
     by_cases h5:qMK n=[]
     ·have h5':n.2.2.2.1=[]:=h5
      rw[h5',if_pos h5]
      simp only[beq_self_eq_true,qY2,qPA]
      rw[<-e41,qQal _ _ (by simp;omega)]
      simp
     ·have h5':(n.2.2.2.1==([]:qBs))=false:=by simpa using h5
      rw[h5',if_neg h5]
      simp only[qY1,qMA]
      rw[qBA (by simp only[qY11,List.length_nil,qIB];show _+(qMK n).length<=_;omega),qQi _ _ (by simp only[qZ6,qY11,List.length_nil];show _+(_+(qMK n).length)<=_;omega)]
      simp only[qAA]
      rw[<-e41,qQal _ _ (by simp only[qZ6,qY11,List.length_nil];show _+(_+(qMK n).length)+1<=_;omega)]
      simp
theorem qQv (t:List Nod) (P:List (Int×Sml)) (hP:P.length<=20000) (hPt:t.length<=P.length):∀ (k:Tf) (m:Nod) (d p:Nat) (out:qBs) (pre:List Int),k.dep<=d->k.wf=true->(∀ n∈k.flat,Shn n)->(∃ rest,P.drop p=info p k++rest)->(∃ rest,t.drop p=k.flat++rest)->out.length+6000 * k.size<=1000000000->pre.length+k.len<=100000->
 qLA (t_view_write_s4 (qEF d)) (some (t,P),((),bs out),m,pre++rtf p k,((pre++rtf p k).length:Int),(pre.length:Int),())=some (.exit 1,(some (t,P),((),bs (out++sep k)),m,pre++rtf p k,((pre++rtf p k).length:Int),((pre++rtf p k).length:Int),())):=by
 intro k
 induction k with
 |nil=>
  intro m d p out pre _ _ _ _ _ _ _
  refine qQA ?_ (by simp)
  unfold t_view_write_s4
  simp only[rtf,qY4]
  rw[qIA (by omega)]
  simp[sep]
 |cons n k r ik ir=>
  intro m d p out pre hd hw hsh ⟨rest,hr⟩ ⟨restN,hrN⟩ ho h3
  obtain ⟨w1,w2,w3,w4⟩:=qBH.1 hw
  have hfl:qKB n=true:=by
   unfold okN at w1
   exact ((qY0 _ _).mp w1).1
  simp only[info,qY5] at hr
  simp only[flat,qY5] at hrN
  obtain ⟨g1,g2⟩:=qSF (d:=((0:Int),(0:Int),(0:Int))) hr
  obtain ⟨g3,g4⟩:=qSF (d:=qPC) hrN
  simp only[len] at h3
  simp only[dep] at hd
  simp only[size] at ho
  simp only[flat,qY12,qZ7] at hsh
  have hr1:P.drop (p+1)=info (p+1) k++(info (p+1+size k) r++rest):=by
   have:=congrArg (List.drop 1) hr
   rw[List.drop_drop] at this
   rw[this];simp
  have hrN1:t.drop (p+1)=flat k++(flat r++restN):=by
   have:=congrArg (List.drop 1) hrN
   rw[List.drop_drop] at this
   rw[this];simp
  have hr':P.drop (p+1+size k)=info (p+1+size k) r++rest:=by
   have:=congrArg (List.drop (size k)) hr1
   rw[List.drop_drop] at this
   rw[this,List.drop_append_of_le_length (by rw[qOF];omega)]
   have:(info (p+1) k).drop (size k)=[]:=qY7 (by rw[qOF];omega)
   rw[this,qY15]
  have hrN':t.drop (p+1+size k)=flat r++restN:=by
   have:=congrArg (List.drop (size k)) hrN1
   rw[List.drop_drop] at this
   rw[this,List.drop_append_of_le_length (by rw[qKC];omega)]
   have:(flat k).drop (size k)=[]:=qY7 (by rw[qKC];omega)
   rw[this,qY15]
  obtain ⟨d',rfl⟩:∃ d',d=d'+1:=⟨d - 1,by omega⟩
  have hks:k.size<=20000:=by
   have h:=congrArg List.length hr1
   simp only[List.length_drop,qZ6,qOF] at h
   omega
  have hkl:=qHH k
  have hshk:∀ n∈k.flat,Shn n:=fun x hx=>hsh x (.inr (.inl hx))
  have hsl:=qLZ k hshk
  have hfn:=qTk (hsh n (.inl rfl)) (sep k)
  have node:=qIi (d:=d') (out:=out++[32]) hP hPt g4 g3 w2 hfl (hsh n (.inl rfl)) hr1 hks (by omega) (fun o ho'=>by
   simp only[qZ6,qY11,List.length_nil] at ho'
   have:=ik n d' (p+1) o [] (by omega) w3 hshk ⟨_,hr1⟩ ⟨_,hrN1⟩ (by omega) (by simp;omega)
   simpa using this) (by simp;omega)
  have ih:=ir m (d'+1) (p+1+size k) (out++(32::qGt n (sep k))) (pre++[(p:Int)]) (by omega) w4 (fun x hx=>hsh x (.inr (.inr hx))) ⟨rest,hr'⟩ ⟨restN,hrN'⟩ (by simp only[qZ6,qY11];omega) (by simp;omega)
  simp only[qZ1,qY5,qY15] at ih node
  simp only[rtf,sep]
  rw[qSA (y:=(some (t,P),((),bs (out++32::qGt n (sep k))),m,pre++(p:Int)::rtf (p+1+size k) r,((pre++(p:Int)::rtf (p+1+size k) r).length:Int),((pre.length+1:Nat):Int),())) (by
   unfold t_view_write_s4
   have e:(pre++(p:Int)::rtf (p+1+size k) r).getD pre.length 0=(p:Int):=by simp[qZ4]
   have e32:((32:UInt8).toNat:Int)=32:=rfl
   simp only
   rw[qEA (by simp;omega),qDA,qBA (by omega),qBA (by simp;omega),qZ0,e,<-e32,qQal _ _ (by omega),qAA]
   simp only
   rw[node,qAA,w64 (x:=(pre.length:Int)+1) (by omega)]
   rfl)]
  have e2:(pre++[(p:Int)]).length=pre.length+1:=by simp
  rw[e2] at ih
  rw[ih]
  simp only[qZ1,qY5]
noncomputable def fmtT:Tf->qBs
 |nil=>[]
 |cons n k _=>qGt n (sep k)
theorem qIal {n:Nod} (hf:qKB n=true) (ks:qBs):qGt n ks≠[]:=by
 have hop:=qUZ hf
 unfold qGt
 split
 ·rename_i h;rcases h with h | h<;>rw[h]<;>simp[opW]
 ·split
  ·rename_i h h3
   obtain ⟨q,hq⟩:=qSZ hf h3
   rw[hq,qUS]
   unfold qAS
   split
   ·simp
   ·unfold qUX
    have:txt q≠[]:=by
     unfold txt
     have:=qKb q.num.natAbs
     simp[this]
    split
    ·exact this
    ·split<;>simp
  ·split
   ·rename_i h4
    unfold qKB at hf
    rw[if_neg (by omega),if_pos (.inl h4)] at hf
    simp only[qY0,decide_eq_true_eq] at hf
    intro e
    have:=hf.1.2
    rw[e] at this
    exact absurd this (by decide)
   ·simp
theorem qEq {t:List Nod} {F:Tf} (h:VT t F) (hn:∀ n∈t,(qMK n).length<=1000) (hl:t.length<=20000):qSb t=some ((fmtT F,()),()):=by
 have hs:qSN t:=fun n h=>by have:=hn n h;omega
 rcases qEi hs with ⟨G,hG,hk⟩ | ⟨hno,_⟩
 ·obtain rfl:=h.uniq hG
  unfold qSb
  rw[hk]
  simp only[qAA,qY2,qPA]
  obtain ⟨n,k,rfl⟩:=h.one
  obtain ⟨w1,w2,w3,w4⟩:=qBH.1 h.wf
  have hfl:=h.flat
  have hsz:t.length=k.size+1:=by rw[<-hfl,qKC];simp[size]
  have hf:=qMY _ h.wf
  have hsh:∀ m∈(cons n k nil).flat,Shn m:=fun m hm=>qSaj (hf m hm) (hn m (by rw[<-hfl];exact hm))
  simp only[flat,qY4,qY12] at hsh hf
  have ht0:t.drop 0=n::(flat k++[]):=by rw[List.drop_zero,<-hfl];simp[flat]
  obtain ⟨g3,g4⟩:=qSF (d:=qPC) ht0
  have hi:(info 0 (cons n k nil)).length=t.length:=by rw[qOF,<-qKC,hfl]
  have hd:(info 0 (cons n k nil)).drop (0+1)=info (0+1) k++[]:=by simp[info]
  obtain ⟨b,hb1,hb2⟩:=qMh
  have hdep:=h.dep
  simp only[dep] at hdep
  obtain ⟨c,rfl⟩:∃ c,b=c+1:=⟨b - 1,by omega⟩
  have hsl:=qLZ k fun m hm=>hsh m (.inr hm)
  have:=qIi (d:=c) (out:=[]) (by omega) (by omega) g4 g3 w2 (hf n (.inl rfl)) (hsh n (.inl rfl)) hd (by omega) (by omega) (fun o ho=>by
   simp only[List.length_nil] at ho
   have hkl:=qHH k
   have:=qQv t (info 0 (cons n k nil)) (by omega) (by omega) k n c (0+1) o [] (by omega) w3 (fun m hm=>hsh m (.inr hm)) ⟨_,hd⟩ ⟨[],by rw[<-hfl];simp[flat]⟩ (by omega) (by simp;omega)
   simpa using this) (by simp)
  rw[hb1]
  have e0:((0:Nat):Int)=0:=rfl
  rw[e0] at this
  have eb:bs []=[]:=rfl
  rw[eb] at this
  rw[this]
  simp only[qAA,qY15]
  rw[qAac _ (qIal (hf n (.inl rfl)) _)]
  rfl
 ·exact absurd ⟨F,h⟩ hno
end Go.AM.Num
end
section
set_option linter.unusedSimpArgs false
namespace Go.AM.Num
open Tf
theorem qTb {n:Nod} {k:Tf} (h:okN n=true) (hn:qID n=(k.len:Int)) (h4:nOp n=1\/nOp n=2\/nOp n=3\/nOp n=4):k=nil:=by
 unfold okN at h
 have h2:=((qY0 _ _).mp h).2
 unfold qMB at h2
 rw[if_pos h4] at h2
 have h2:=of_decide_eq_true h2
 cases k with
 |nil=>rfl
 |cons a b c=>simp only[len] at hn;omega
theorem qVn {t:List Nod} {d p:Nat} {n:Nod} {k:Tf} (hp:p < t.length) (htl:t.length<=20000) (ht:t.getD p qPC=n) (hn:qID n=(k.len:Int)) (hok:okN n=true) (hs:Shn n) (hsl:(sep k).length<=1000000000)
 (hloop:∀ s,s.length<=50->qLA (qIE (qWG d)) (t,((p+1:Nat):Int),n,s,0,())=some (.exit 1,(t,((p+1+k.size:Nat):Int),n,s++sep k,qID n,()))) :
 qWG (d+1) t (p:Int)=some ((qGt n (sep k),((p+1+k.size:Nat):Int),()),()):=by
 show qBP (qWG d) t (p:Int)=_
 have hf:qKB n=true:=by
  unfold okN at hok
  exact ((qY0 _ _).mp hok).1
 have hop:=qUZ hf
 have hg:t.getD (p:Int).toNat qPC=n:=by rw[qZ0];exact ht
 have e1:qI ((p:Int)+1)=((p+1:Nat):Int):=by rw[w64 (by omega)];omega
 unfold qBP qGt
 rw[qDA,qBA (by omega),qBA (by omega)]
 simp only[hg,e1]
 by_cases h1:nOp n=1
 ·obtain rfl:=qTb hok hn (.inl h1)
  rw[qKA h1,if_pos (.inl h1),qXV hop]
  rfl
 ·rw[qCA h1]
  by_cases h2:nOp n=2
  ·obtain rfl:=qTb hok hn (.inr (.inl h2))
   rw[qKA h2,if_pos (.inr h2),qXV hop]
   rfl
  ·rw[qCA h2,if_neg (by omega)]
   by_cases h3:nOp n=3
   ·obtain rfl:=qTb hok hn (.inr (.inr (.inl h3)))
    obtain ⟨q,hq⟩:=qSZ hf h3
    have h5:=hs.2
    rw[hq] at h5
    have hD:=qQU h5
    obtain ⟨b,hb1,hb2⟩:=qMh
    obtain ⟨c,rfl⟩:∃ c,b=c+2:=⟨b - 2,by omega⟩
    have hq':n.2.2.2.1=txt q:=hq
    rw[qKA h3,if_pos h3,hb1,hq',qVm (by omega),qAA,hq,qUS]
    rfl
   ·rw[qCA h3,if_neg h3]
    by_cases h4:nOp n=4
    ·obtain rfl:=qTb hok hn (.inr (.inr (.inr h4)))
     rw[qKA h4,if_pos h4]
     rfl
    ·have ho6:=qKo (nOp n)
     rw[qCA h4,if_neg h4,qXV hop,qAA]
     have hnu:=hs.2
     have hna:=hs.1
     have htail:=qIr hf h3
     rw[qBA (by simp only[qY11,List.length_nil,qIB];omega)]
     have fin:∀ (s:qBs),s.length<=50->s=[40]++qUy n->((qLA (qIE (qWG d)) (t,((p+1:Nat):Int),n,s,0,())).bind fun y5=>
      cond (Ex.same y5.1 (Ex.exit 1))
       (cond (y5.2.2.2.1.1==(16:Int))
        (grd (decide (([32]:qBs).length+y5.2.2.2.1.2.2.2.1.length<=qXF)) (grd (decide (y5.2.2.2.2.1.length+(([32]:qBs)++y5.2.2.2.1.2.2.2.1).length<=qXF)) (grd (decide ((y5.2.2.2.2.1++(([32]:qBs)++y5.2.2.2.1.2.2.2.1)).length+([41]:qBs).length<=qXF)) (some (((y5.2.2.2.2.1++(([32]:qBs)++y5.2.2.2.1.2.2.2.1))++([41]:qBs),y5.2.2.1,()),())))))
        (cond (y5.2.2.2.1.1==(17:Int))
         (grd (decide (([32]:qBs).length+y5.2.2.2.1.2.2.2.1.length<=qXF)) (grd (decide (y5.2.2.2.2.1.length+(([32]:qBs)++y5.2.2.2.1.2.2.2.1).length<=qXF)) (grd (decide ((y5.2.2.2.2.1++(([32]:qBs)++y5.2.2.2.1.2.2.2.1)).length+([41]:qBs).length<=qXF)) (some (((y5.2.2.2.2.1++(([32]:qBs)++y5.2.2.2.1.2.2.2.1))++([41]:qBs),y5.2.2.1,()),())))))
         (grd (decide (y5.2.2.2.2.1.length+([41]:qBs).length<=qXF)) (some ((y5.2.2.2.2.1++([41]:qBs),y5.2.2.1,()),())))))
       (none))=some (([40]++qUy n++sep k++(if qMK n=[] then [] else 32::qMK n)++[41],((p+1+k.size:Nat):Int),()),()):=by
      intro s hs50 es
      rw[hloop s hs50]
      simp only[qAA,qJB,qMA]
      by_cases h16:nOp n=16
      ·have hne:¬ qMK n=[]:=fun e=>(htail.1 e) (.inl h16)
       rw[qKA h16,if_neg hne]
       show grd (decide (_+(qMK n).length<=_)) (grd (decide (_+([32]++qMK n).length<=_)) (grd (decide ((_++([32]++qMK n)).length+_<=_)) _))=_
       rw[qBA (by simp only[qY11,List.length_nil,qIB];omega),qBA (by simp only[qZ6,qY11,List.length_nil,qIB];omega),qBA (by simp only[qZ6,qY11,List.length_nil,qIB];omega),es]
       simp
      ·rw[qCA h16]
       by_cases h17:nOp n=17
       ·have hne:¬ qMK n=[]:=fun e=>(htail.1 e) (.inr h17)
        rw[qKA h17,if_neg hne]
        show grd (decide (_+(qMK n).length<=_)) (grd (decide (_+([32]++qMK n).length<=_)) (grd (decide ((_++([32]++qMK n)).length+_<=_)) _))=_
        rw[qBA (by simp only[qY11,List.length_nil,qIB];omega),qBA (by simp only[qZ6,qY11,List.length_nil,qIB];omega),qBA (by simp only[qZ6,qY11,List.length_nil,qIB];omega),es]
        simp
       ·have he:qMK n=[]:=htail.2 (by omega)
        rw[qCA h17,if_pos he,qBA (by simp only[qZ6,qY11,List.length_nil,qIB];omega),es]
        simp
     by_cases h5:nOp n=5
     ·have hsy:qUy n=qAL n:=by unfold qUy;rw[if_pos h5]
      rw[qKA h5,qBA (by simp only[qY11,List.length_nil,qIB];show _+(qAL n).length<=_;omega)]
      exact fin _ (by show (_++qAL n).length<=_;simp only[qZ6,qY11,List.length_nil];omega) (by rw[hsy])
     ·have hsy:qUy n=opW (nOp n):=by unfold qUy;rw[if_neg h5]
      rw[qCA h5]
      exact fin _ (by show (_++opW (nOp n)).length<=_;simp only[qZ6,qY11,List.length_nil];omega) (by rw[hsy])
theorem qRae (t:List Nod) (htl:t.length<=20000):∀ (k:Tf) (m:Nod) (d p:Nat) (s:qBs) (idx:Nat),k.dep<=d->k.wf=true->(∀ n∈k.flat,Shn n)->(∃ rest,t.drop p=k.flat++rest)->s.length+6000 * k.size<=1000000000->qID m=((idx+k.len:Nat):Int)-> idx+k.len<=100000->
 qLA (qIE (qWG d)) (t,(p:Int),m,s,(idx:Int),())=some (.exit 1,(t,((p+k.size:Nat):Int),m,s++sep k,qID m,())):=by
 intro k
 induction k with
 |nil=>
  intro m d p s idx _ _ _ _ _ hm _
  simp only[len,Nat.add_zero] at hm
  refine qQA ?_ (by simp)
  unfold qIE
  simp only
  rw[qIA (by show ¬ (_ < qID m);omega),hm]
  simp[sep,size]
 |cons n k r ik ir=>
  intro m d p s idx hd hw hsh ⟨restN,hrN⟩ ho hm hi
  obtain ⟨w1,w2,w3,w4⟩:=qBH.1 hw
  simp only[flat,qY5] at hrN
  obtain ⟨g3,g4⟩:=qSF (d:=qPC) hrN
  simp only[len] at hm hi
  simp only[dep] at hd
  simp only[size] at ho
  simp only[flat,qY12,qZ7] at hsh
  have hrN1:t.drop (p+1)=flat k++(flat r++restN):=by
   have:=congrArg (List.drop 1) hrN
   rw[List.drop_drop] at this
   rw[this];simp
  have hrN':t.drop (p+1+size k)=flat r++restN:=by
   have:=congrArg (List.drop (size k)) hrN1
   rw[List.drop_drop] at this
   rw[this,List.drop_append_of_le_length (by rw[qKC];omega)]
   have:(flat k).drop (size k)=[]:=qY7 (by rw[qKC];omega)
   rw[this,qY15]
  obtain ⟨d',rfl⟩:∃ d',d=d'+1:=⟨d - 1,by omega⟩
  have hks:k.size<=20000:=by
   have h:=congrArg List.length hrN1
   simp only[List.length_drop,qZ6,qKC] at h
   omega
  have hkl:=qHH k
  have hshk:∀ n∈k.flat,Shn n:=fun x hx=>hsh x (.inr (.inl hx))
  have hsl:=qLZ k hshk
  have hfn:=qTk (hsh n (.inl rfl)) (sep k)
  have node:=qVn (d:=d') g4 htl g3 w2 w1 (hsh n (.inl rfl)) (by omega) (fun o ho'=>by
   have:=ik n d' (p+1) o 0 (by omega) w3 hshk ⟨_,hrN1⟩ (by omega) (by rw[w2];omega) (by omega)
   simpa using this)
  have ih:=ir m (d'+1) (p+1+size k) (s++(32::qGt n (sep k))) (idx+1) (by omega) w4 (fun x hx=>hsh x (.inr (.inr hx))) ⟨restN,hrN'⟩ (by simp only[qZ6,qY11];omega) (by rw[hm];omega) (by omega)
  rw[qSA (y:=(t,((p+1+size k:Nat):Int),m,s++32::qGt n (sep k),((idx+1:Nat):Int),())) (by
   unfold qIE
   simp only
   rw[qEA (by show _ < qID m;omega),node,qAA]
   simp only
   rw[qBA (by simp only[qY11,List.length_nil,qIB];omega),qBA (by simp only[qZ6,qY11,List.length_nil,qIB];omega),w64 (x:=(idx:Int)+1) (by omega)]
   rfl)]
  rw[ih]
  have e2:p+1+size k+size r=p+(cons n k r).size:=by simp only[size];omega
  rw[e2]
  simp only[sep,qZ1,qY5]
theorem qUo {t:List Nod} {F:Tf} (h:VT t F) (hn:∀ n∈t,(qMK n).length<=1000) (hl:t.length<=20000):qQc t=some ((fmtT F,()),()):=by
 have hs:qSN t:=fun n h=>by have:=hn n h;omega
 obtain ⟨b,b1,b2⟩:=qJV hs
 have hb:=b2.2 ⟨F,h⟩
 subst hb
 unfold qQc
 rw[b1]
 simp only[qAA,qY2,qPA]
 obtain ⟨n,k,rfl⟩:=h.one
 obtain ⟨w1,w2,w3,w4⟩:=qBH.1 h.wf
 have hfl:=h.flat
 have hsz:t.length=k.size+1:=by rw[<-hfl,qKC];simp[size]
 have hf:=qMY _ h.wf
 have hsh:∀ m∈(cons n k nil).flat,Shn m:=fun m hm=>qSaj (hf m hm) (hn m (by rw[<-hfl];exact hm))
 simp only[flat,qY4,qY12] at hsh hf
 have ht0:t.drop 0=n::(flat k++[]):=by rw[List.drop_zero,<-hfl];simp[flat]
 obtain ⟨g3,g4⟩:=qSF (d:=qPC) ht0
 obtain ⟨b,hb1,hb2⟩:=qMh
 have hdep:=h.dep
 simp only[dep] at hdep
 obtain ⟨c,rfl⟩:∃ c,b=c+1:=⟨b - 1,by omega⟩
 have hsl:=qLZ k fun m hm=>hsh m (.inr hm)
 have:=qVn (d:=c) g4 hl g3 w2 w1 (hsh n (.inl rfl)) (by omega) (fun o ho=>by
  have hkl:=qHH k
  have:=qRae t hl k n c (0+1) o 0 (by omega) w3 (fun m hm=>hsh m (.inr hm)) ⟨[],by rw[<-hfl];simp[flat]⟩ (by omega) (by rw[w2];omega) (by omega)
  simpa using this)
 rw[hb1]
 have e0:((0:Nat):Int)=0:=rfl
 rw[e0] at this
 rw[this]
 rfl
end Go.AM.Num
end
section
set_option linter.unusedSimpArgs false
namespace Go.AM.Num
def cI (a b:Int):Int:=if a < b then -1 else if a > b then 1 else 0
def cS (a b:qBs):Int:=if qTV a b then -1 else if !(qTV a b||a==b) then 1 else 0
theorem qWm (a b:Int):qLr a b=some ((cI a b,()),()):=by
 unfold qLr cI
 by_cases h:a < b
 ·rw[qEA h,if_pos h]
 ·rw[qIA h,if_neg h]
  by_cases h2:a > b
  ·rw[qEA h2,if_pos h2]
  ·rw[qIA h2,if_neg h2]
theorem qCz (a b:qBs):qHT a b=some ((cS a b,()),()):=by
 unfold qHT cS
 cases qTV a b<;>cases a==b<;>rfl
def f5 (c:Int×Int×Int×Int×Int):Int:=if c.1≠0 then c.1 else if c.2.1≠0 then c.2.1 else if c.2.2.1≠0 then c.2.2.1 else if c.2.2.2.1≠0 then c.2.2.2.1 else c.2.2.2.2
def c5 (x y:Nod):Int×Int×Int×Int×Int:=(cI x.1 y.1,cI x.2.1 y.2.1,cS x.2.2.1 y.2.2.1,cS x.2.2.2.1 y.2.2.2.1,cI x.2.2.2.2 y.2.2.2.2)
def cT:List Nod->List Nod->Int
 |[],[]=>0
 |[],_::_=>-1
 |_::_,[]=>1
 |x::a,y::b=>if f5 (c5 x y)=0 then cT a b else f5 (c5 x y)
theorem qVam (a b:List Nod) (t i:Int) (c:Int×Int×Int×Int×Int):(f5 c=0/\qLA qHD (a,b,t,i,some c,((0:Nat):Int),())=some (.exit 2,(a,b,t,i,some c,5,())))\/
 (f5 c≠0/\∃ k,qLA qHD (a,b,t,i,some c,((0:Nat):Int),())=some (.ret,(a,b,f5 c,i,some c,k,()))):=by
 obtain ⟨c1,c2,c3,c4,c5⟩:=c
 have go:∀ (k:Nat) (x:Int),k < 5->([c1,c2,c3,c4,c5]:List Int).getD k 0=x->x=0->qHD (a,b,t,i,some (c1,c2,c3,c4,c5),(k:Int),())=some (.normal,(a,b,t,i,some (c1,c2,c3,c4,c5),((k+1:Nat):Int),())):=fun k x hk hx h0=>by
  unfold qHD
  simp only[Option.isSome_some,Option.getD_some]
  rw[qEA (by omega),qBO,qDA,qBA (by omega),qBA (by omega),qZ0,hx,qPD h0,w64 (by omega)]
  rfl
 have stop:∀ (k:Nat) (x:Int),k < 5->([c1,c2,c3,c4,c5]:List Int).getD k 0=x->x≠0->qHD (a,b,t,i,some (c1,c2,c3,c4,c5),(k:Int),())=some (.ret,(a,b,x,i,some (c1,c2,c3,c4,c5),(k:Int),())):=fun k x hk hx h0=>by
  unfold qHD
  simp only[Option.isSome_some,Option.getD_some]
  rw[qEA (by omega),qBO,qDA,qBA (by omega),qBA (by omega),qZ0,hx,qAE h0,qBO,qDA,qBA (by omega),qBA (by omega)]
 unfold f5
 simp only
 by_cases h1:c1=0
 ·rw[if_neg (by simp[h1]),qSA (go 0 c1 (by omega) rfl h1)]
  by_cases h2:c2=0
  ·rw[if_neg (by simp[h2]),qSA (go 1 c2 (by omega) rfl h2)]
   by_cases h3:c3=0
   ·rw[if_neg (by simp[h3]),qSA (go 2 c3 (by omega) rfl h3)]
    by_cases h4:c4=0
    ·rw[if_neg (by simp[h4]),qSA (go 3 c4 (by omega) rfl h4)]
     by_cases h5:c5=0
     ·rw[qSA (go 4 c5 (by omega) rfl h5)]
      refine .inl ⟨h5,qQA ?_ (by simp)⟩
      unfold qHD
      simp only
      rw[qIA (by omega)]
      rfl
     ·exact .inr ⟨h5,_,qQA (stop 4 c5 (by omega) rfl h5) (by simp)⟩
    ·rw[if_pos h4]
     exact .inr ⟨h4,_,qQA (stop 3 c4 (by omega) rfl h4) (by simp)⟩
   ·rw[if_pos h3]
    exact .inr ⟨h3,_,qQA (stop 2 c3 (by omega) rfl h3) (by simp)⟩
  ·rw[if_pos h2]
   exact .inr ⟨h2,_,qQA (stop 1 c2 (by omega) rfl h2) (by simp)⟩
 ·rw[if_pos h1]
  exact .inr ⟨h1,_,qQA (stop 0 c1 (by omega) rfl h1) (by simp)⟩
theorem qAaq (a b:List Nod) (t i:Int) (c:Int×Int×Int×Int×Int):(f5 c=0/\qLA qHD (a,b,t,i,some c,0,())=some (.exit 2,(a,b,t,i,some c,5,())))\/
 (f5 c≠0/\∃ k,qLA qHD (a,b,t,i,some c,0,())=some (.ret,(a,b,f5 c,i,some c,k,()))):=qVam a b t i c
theorem qOaf (a b:List Nod) (hl:a.length<=1000000000):∀ (m i:Nat),i+m=a.length->i<=b.length->∃ r,qLA qSH (a,b,0,(i:Int),())=some r/\
 ((r.1=.exit 0/\r.2.1=a/\r.2.2.1=b/\cT (a.drop i) (b.drop i)=cI a.length b.length)\/(r.1=.ret/\r.2.2.2.1=cT (a.drop i) (b.drop i))):=by
 intro m
 induction m with
 |zero=>
  intro i hi hb
  refine ⟨_,qQA (e:=.exit 0) (y:=(a,b,0,(i:Int),())) ?_ (by simp),.inl ⟨rfl,rfl,rfl,?_⟩⟩
  ·unfold qSH
   simp only
   rw[qIA (by omega)]
  ·rw[qY7 (by omega)]
   unfold cI
   cases hd:b.drop i with
   |nil=>
    have:=congrArg List.length hd
    simp at this
    rw[if_neg (by omega),if_neg (by omega)];rfl
   |cons y l=>
    have:=congrArg List.length hd
    simp at this
    rw[if_pos (by omega)];rfl
 |succ m ih=>
  intro i hi hb
  have hil:i < a.length:=by omega
  by_cases hbl:i < b.length
  ·have ha:=qY6 hil
   have hb':=qY6 hbl
   have ga:a.getD i qPC=a[i]:=by simp[qZ4,hil]
   have gb:b.getD i qPC=b[i]:=by simp[qZ4,hbl]
   rw[ha,hb']
   simp only[cT]
   have hs:∀ r,qLA qHD (a,b,(0:Int),(i:Int),some (c5 a[i] b[i]),0,())=some r->qSH (a,b,0,(i:Int),())=cond (Ex.same r.1 (Ex.exit 2)) (some (Ex.normal,(r.2.1,r.2.2.1,r.2.2.2.1,qI (r.2.2.2.2.1+(1:Int)),())))
    (cond (Ex.same r.1 Ex.ret) (some (Ex.ret,(r.2.1,r.2.2.1,r.2.2.2.1,r.2.2.2.2.1,()))) none):=fun r hr=>by
    unfold qSH qVS
    simp only
    rw[qEA (by omega),qEA (by omega),qDA,qBA (by omega),qBA (by omega),qDA,qBA (by omega),qBA (by omega),qAA,qZ0,ga,gb]
    simp only[qWm,qCz,qAA]
    unfold c5 at hr
    rw[hr,qAA]
   rcases qAaq a b 0 i (c5 a[i] b[i]) with ⟨h1,h2⟩ | ⟨h1,k,h2⟩
   ·rw[if_pos h1]
    have:=hs _ h2
    simp only[qJB,qMA] at this
    rw[w64 (by omega)] at this
    rw[qSA this]
    exact ih (i+1) (by omega) (by omega)
   ·rw[if_neg h1]
    have:=hs _ h2
    simp only[qXD,qWD,qMA,qPA] at this
    exact ⟨_,qQA this (by simp),.inr ⟨rfl,rfl⟩⟩
  ·refine ⟨_,qQA (e:=.exit 0) (y:=(a,b,0,(i:Int),())) ?_ (by simp),.inl ⟨rfl,rfl,rfl,?_⟩⟩
   ·unfold qSH
    simp only
    rw[qEA (by omega),qIA (by omega)]
   ·rw[qY7 (show b.length<=i by omega),qY6 hil]
    unfold cI
    rw[if_neg (by omega),if_pos (by omega)];rfl
theorem qGn {a b:List Nod} (hl:a.length<=1000000000):qOW a b=some ((cT a b,()),()):=by
 unfold qOW
 obtain ⟨r,hr,h⟩:=qOaf a b hl a.length 0 (by omega) (by omega)
 rw[show ((0:Nat):Int)=0 from rfl] at hr
 rw[hr,qAA]
 simp only[List.drop_zero] at h
 rcases h with ⟨h1,h2,h3,h4⟩ | ⟨h1,h2⟩
 ·rw[h1,h2,h3,h4]
  simp only[qJB,qMA,qWm,qAA]
 ·rw[h1,h2]
  simp only[qXD,qWD,qMA,qPA]
theorem qXal {a b:Int}:cI a b=0 ↔ a=b:=by
 unfold cI
 split
 ·constructor
  ·intro h;cases h
  ·intro h;omega
 ·split
  ·constructor
   ·intro h;cases h
   ·intro h;omega
  ·constructor
   ·intro _;omega
   ·intro _;rfl
theorem qHl:∀ (s:qBs),qTV s s=false
 |[]=>rfl
 |c::s=>by
  have ih:=qHl s
  unfold qTV at ih ⊢
  simp only[Op.bytesLess,ih]
  simp
theorem qDal {a b:qBs}:cS a b=0 ↔ a=b:=by
 unfold cS
 constructor
 ·intro h
  cases h1:qTV a b with
  |true=>rw[h1] at h;cases h
  |false=>
   rw[h1] at h
   cases h2:a==b with
   |true=>exact eq_of_beq h2
   |false=>rw[h2] at h;cases h
 ·rintro rfl
  rw[qHl]
  simp
theorem qYam {c:Int×Int×Int×Int×Int}:f5 c=0 ↔ c.1=0/\c.2.1=0/\c.2.2.1=0/\c.2.2.2.1=0/\c.2.2.2.2=0:=by
 unfold f5
 constructor
 ·intro h
  split at h
  ·omega
  ·split at h
   ·omega
   ·split at h
    ·omega
    ·split at h
     ·omega
     ·omega
 ·rintro ⟨h1,h2,h3,h4,h5⟩
  simp[h1,h2,h3,h4,h5]
theorem c5_zero {x y:Nod}:f5 (c5 x y)=0 ↔ x=y:=by
 rw[qYam]
 unfold c5
 simp only[qXal,qDal]
 constructor
 ·rintro ⟨h1,h2,h3,h4,h5⟩
  exact Prod.ext h1 (Prod.ext h2 (Prod.ext h3 (Prod.ext h4 h5)))
 ·rintro rfl;exact ⟨rfl,rfl,rfl,rfl,rfl⟩
theorem qNr:∀ {a b:List Nod},cT a b=0 ↔ a=b
 |[],[]=>by simp[cT]
 |[],_::_=>by simp[cT]
 |_::_,[]=>by simp[cT]
 |x::a,y::b=>by
  simp only[cT]
  split
  ·rename_i h
   rw[qNr,c5_zero.1 h]
   simp
  ·rename_i h
   constructor
   ·intro h';exact absurd h' h
   ·intro h';cases h';exact absurd (c5_zero.2 rfl) h
theorem qRas {a b:List Nod} (hl:a.length<=1000000000):qPj a b=some ((decide (a=b),()),()):=by
 unfold qPj
 rw[qGn hl,qAA]
 by_cases h:a=b
 ·rw[qZ10 h,beq_iff_eq.2 (qNr.2 h)]
 ·rw[qZ9 h]
  have:(cT a b==0)=false:=by simpa using fun e=>h (qNr.1 e)
  rw[this]
end Go.AM.Num
end
section
set_option linter.unusedSimpArgs false
namespace Go.AM.Num
open Tf
abbrev stN:Nod:=((19:Int),(0:Int),([]:qBs),([]:qBs),(3:Int))
abbrev coN:Nod:=((20:Int),(0:Int),([]:qBs),([]:qBs),(1:Int))
abbrev inN (z:Int):Nod:=((3:Int),(2:Int),([]:qBs),ti z,(0:Int))
def prs (P:KV):List Nod:=P.flatMap fun p=>[inN p.1,inN p.2]
def tmA (d:Int) (P:KV):List Nod:=List.replicate P.length stN++([coN,inN d]++prs P)
theorem qTae (P:KV):(prs P).length=2 * P.length:=by
 induction P with
 |nil=>rfl
 |cons p P ih=>simp only[prs,List.flatMap_cons,qZ6,qY11,List.length_nil] at ih ⊢;omega
theorem qEt (P:KV) (p:Int×Int):prs (P++[p])=prs P++[inN p.1,inN p.2]:=by simp[prs]
theorem qTan (d:Int) (P:KV):(tmA d P).length=3 * P.length+2:=by
 simp only[tmA,qZ6,List.length_replicate,qTae,qY11,List.length_nil];omega
def tmS:SV->List Nod
 |.b x=>[(if x then (1:Int) else 2,(0:Int),([]:qBs),([]:qBs),(0:Int))]
 |.z n=>[inN n]
 |.q r=>[((3:Int),(3:Int),([]:qBs),txt r,(0:Int))]
 |.a d P=>tmA d P
theorem qOaq {α:Type} {l:List α} {i:Nat} (h:i < l.length):l.take (i+1)=l.take i++[l[i]]:=by rw[List.take_add_one,qZ5 h];rfl
theorem qJaj {d:Int} {P:KV} (hP:P.length<=100):∀ (m i:Nat),i+m=P.length->
 qLA qLC (qMH d P,([]:List Nod),0,tmA d (P.take i),(i:Int),())=some (.exit 1,(qMH d P,([]:List Nod),0,tmA d P,(P.length:Int),())):=by
 intro m
 induction m with
 |zero=>
  intro i hi
  have:i=P.length:=by omega
  subst this
  rw[List.take_length]
  refine qQA ?_ (by simp)
  unfold qLC
  simp only
  rw[qIA (by rw[qRG];omega)]
 |succ m ih=>
  intro i hi
  have hil:i < P.length:=by omega
  have hlen:=qTan d (P.take i)
  rw[List.length_take] at hlen
  have hj:=qAl (n:=((19:Int),(0:Int),([]:qBs),([]:qBs),(0:Int))) (kids:=[tmA d (P.take i),[inN P[i].1],[inN P[i].2]]) (by simp) (by simp;omega)
  have hfl:((19:Int),(0:Int),([]:qBs),([]:qBs),(3:Int))::[tmA d (P.take i),[inN P[i].1],[inN P[i].2]].flatten=tmA d (P.take (i+1)):=by
   rw[qOaq hil]
   unfold tmA
   rw[qEt]
   simp only[qZ6,qY11,List.length_nil,List.replicate_succ,List.flatten_cons,List.flatten_nil,qY4,qY5,qZ1,qY15]
  rw[qSA (y:=(qMH d P,([]:List Nod),0,tmA d (P.take (i+1)),((i+1:Nat):Int),())) (by
   unfold qLC
   simp only
   rw[qEA (by rw[qRG];omega),qIA (by omega),qDA,qBA (by omega),qBA (by rw[qRG];omega),qZ0,qMS hil,qNY hil]
   unfold qGT
   rw[qAA,qDA,qBA (by omega),qBA (by rw[qJP];omega),qAA]
   simp only
   rw[hj,qAA,w64 (by omega)]
   simp only[<-hfl]
   rfl)]
  exact ih (i+1) (by omega)
theorem qLaj {v:SV} (h:qKy v):qJF (encS v)=some ((tmS v,0,()),())/\qKV [] [qPk v] (2+3 * qCX v) (2+qCX v) (tmS v):=by
 obtain ⟨t,h1,h2⟩:=qMg h
 have key:t=tmS v:=by
  have hsh:=qFd h
  obtain ⟨q1,q2⟩:=h
  have hval:=qUO (N:=73) (by omega) hsh
  rw[qUd q1] at hval
  unfold qJF at h1
  rw[hval,qAA] at h1
  simp only[qY2,qPA] at h1
  cases v with
  |b x=>cases x<;>(have h1:=Option.some.inj h1;simp only[Prod.mk.injEq] at h1;exact h1.1.1.symm)
  |z n=>have h1:=Option.some.inj h1;simp only[Prod.mk.injEq] at h1;exact h1.1.1.symm
  |q r=>have h1:=Option.some.inj h1;simp only[Prod.mk.injEq] at h1;exact h1.1.1.symm
  |a d P=>
   obtain ⟨a1,a2,a3⟩:=q2
   have e:encS (.a d P)=qMH d P:=rfl
   rw[e] at h1
   simp only at h1
   rw[qCA (by omega),qCA (by omega),qCA (by omega)] at h1
   unfold qGT at h1
   simp only[qAA] at h1
   have hj:=qAl (n:=((20:Int),(0:Int),([]:qBs),([]:qBs),(0:Int))) (kids:=[[inN d]]) (by simp) (by simp)
   rw[hj,qAA] at h1
   have hl:=qJaj (d:=d) a3 P.length 0 (by omega)
   rw[show ((0:Nat):Int)=0 from rfl] at hl
   have hl':qLA qLC (qMH d P,([]:List Nod),0,(((20:Int),(0:Int),([]:qBs),([]:qBs),(([[inN d]].length:Nat):Int)):Nod)::[[inN d]].flatten,0,())=some (.exit 1,(qMH d P,([]:List Nod),0,tmA d P,(P.length:Int),())):=hl
   rw[hl'] at h1
   simp only[qAA,qJB,qMA] at h1
   cases hb:qHL (tmA d P) with
   |none=>rw[hb] at h1;cases h1
   |some b=>
    rw[hb,qAA] at h1
    cases hb1:b.1.1 with
    |true=>
     rw[hb1] at h1
     simp only[qY2,qPA] at h1
     have h1:=Option.some.inj h1;simp only[Prod.mk.injEq] at h1;exact h1.1.1.symm
    |false=>
     rw[hb1] at h1
     simp only[qY1,qMA] at h1
     have h1:=Option.some.inj h1;simp only[Prod.mk.injEq] at h1
     have:=h1.1.2.1
     omega
 rw[key] at h1 h2
 exact ⟨h1,h2⟩
theorem vt13 (v:Val) (n:Nat) (hn:n<=100000):∀ (m i:Nat),i+m=n->qLA qNQ (v,List.replicate i stN,(n:Int),(i:Int),())=some (.exit 1,(v,List.replicate n stN,(n:Int),(n:Int),())):=by
 intro m
 induction m with
 |zero=>
  intro i hi
  have:i=n:=by omega
  subst this
  refine qQA ?_ (by simp)
  unfold qNQ
  simp only
  rw[qIA (by omega)]
 |succ m ih=>
  intro i hi
  rw[qSA (y:=(v,List.replicate (i+1) stN,(n:Int),((i+1:Nat):Int),())) (by
   unfold qNQ
   simp only
   rw[qEA (by omega),qBA (by simp[qSE];omega),w64 (by omega),List.replicate_succ']
   rfl)]
  exact ih (i+1) (by omega)
theorem vt18 {d:Int} {P:KV} (hP:P.length<=100) (t0:List Nod) (ht:t0.length<=1000):∀ (m i:Nat),i+m=P.length->
 qLA qJQ (qMH d P,t0++prs (P.take i),ks P,(P.length:Int),(i:Int),())=some (.exit 3,(qMH d P,t0++prs P,ks P,(P.length:Int),(P.length:Int),())):=by
 intro m
 induction m with
 |zero=>
  intro i hi
  have:i=P.length:=by omega
  subst this
  rw[List.take_length]
  refine qQA ?_ (by simp)
  unfold qJQ
  simp only
  rw[qIA (by omega)]
 |succ m ih=>
  intro i hi
  have hil:i < P.length:=by omega
  have hlen:=qTae (P.take i)
  rw[List.length_take] at hlen
  rw[qSA (y:=(qMH d P,t0++prs (P.take (i+1)),ks P,(P.length:Int),((i+1:Nat):Int),())) (by
   unfold qJQ qKQ
   simp only
   rw[qEA (by omega),qDA,qBA (by omega),qBA (by rw[qRG];omega),qZ0,qMS hil,qNY hil,qAA,qDA,qBA (by omega),qBA (by rw[qJP];omega),qAA]
   simp only
   rw[qBA (by simp[qSE];omega),w64 (by omega),qOaq hil,qEt,qZ1]
   rfl)]
  exact ih (i+1) (by omega)
theorem qKaq {v:SV} (h:qKy v):(∃ F,VT (tmS v) F)/\(∀ n∈tmS v,(qMK n).length<=73)/\(tmS v).length<=400:=by
 obtain ⟨_,F,hF⟩:=qLaj h
 have hk:qCX v<=100:=by
  have:=h.2
  cases v with
  |a d P=>exact this.2.2
  |_=>simp[qCX]
 have hvt:=qNak ⟨fun v h=>absurd h qY16,fun v h=>absurd h qY16⟩ hF (by omega) (by omega)
 refine ⟨⟨F,hvt⟩,fun n hn=>hF.sh n hn,?_⟩
 rw[<-hF.flat,qKC]
 have:=hF.size
 omega
theorem qIac {v:SV} (h:qKy v):qOa (encS v)=some ((tmS v,0,()),()):=by
 obtain ⟨hF,hs,hl⟩:=qKaq h
 have hsh:=qFd h
 obtain ⟨q1,q2⟩:=h
 have hval:=qPZ (N:=73) (by omega) hsh
 rw[qUd q1] at hval
 unfold qOa
 rw[hval,qAA]
 simp only[qY2,qPA]
 cases v with
 |b x=>cases x<;>rfl
 |z n=>rfl
 |q r=>rfl
 |a d P=>
  obtain ⟨a1,a2,a3⟩:=q2
  have e:encS (.a d P)=qMH d P:=rfl
  rw[e]
  simp only
  rw[qCA (by omega),qCA (by omega),qCA (by omega)]
  have h13:=vt13 (qMH d P) P.length (by omega) P.length 0 (by omega)
  have e0:((0:Nat):Int)=0:=rfl
  rw[e0] at h13
  have e1:List.replicate 0 stN=([]:List Nod):=rfl
  rw[e1] at h13
  rw[qRG,h13]
  unfold qKQ
  simp only[qAA,qJB,qMA]
  rw[qBA (by simp[qSE];omega)]
  have h18:=vt18 (d:=d) a3 (List.replicate P.length stN++[coN,inN d]) (by simp;omega) P.length 0 (by omega)
  rw[e0] at h18
  have e2:prs (P.take 0)=[]:=rfl
  rw[e2,qY4] at h18
  rw[qRG,h18]
  simp only[qAA,qJB,qMA]
  have e3:List.replicate P.length stN++[coN,inN d]++prs P=tmS (.a d P):=by simp only[tmS,tmA,qZ1]
  rw[e3]
  obtain ⟨b,b1,b2⟩:=qEy (t:=tmS (.a d P)) fun n hn=>by have:=hs n hn;omega
  rw[b1,qAA,b2.2 hF]
  rfl
theorem qPaq {v:SV} (h:okS v) (hs:SmallV (encS v)):qKy v:=by
 refine ⟨h,?_⟩
 have h1:=hs.sh
 have h2:=hs.few
 cases v with
 |b x=>trivial
 |z n=>exact h1.num
 |q r=>exact h1.num
 |a d P=>
  refine ⟨h1.num,fun p hp=>⟨h1.keys _ ?_,h1.vals _ ?_⟩,?_⟩
  ·exact List.mem_map.2 ⟨p,hp,rfl⟩
  ·exact List.mem_map.2 ⟨p,hp,rfl⟩
  ·have h2:(ks P).length<=75:=h2
   rw[qRG] at h2;omega
theorem qUal {v:Val} (h:SmallV v):∃ t e s,qOa v=some ((t,e,()),())/\qJF v=some ((t,e,()),())/\t.length<=1000/\qBU v=some ((s,()),())/\qJK v=some ((s,()),()):=by
 by_cases hv:qDL v=true
 ·obtain ⟨s,s1,s2,s3⟩:=qIw hv
  rw[s3] at h
  have hm:=qPaq s2 h
  have h1:=qIac hm
  obtain ⟨h2,_⟩:=qLaj hm
  obtain ⟨⟨F,hF⟩,k2,k3⟩:=qKaq hm
  have f1:=qEq hF (fun n hn=>by have:=k2 n hn;omega) (by omega)
  have f2:=qUo hF (fun n hn=>by have:=k2 n hn;omega) (by omega)
  rw[s3]
  refine ⟨_,_,fmtT F,h1,h2,by omega,?_,?_⟩
  ·unfold qBU
   rw[h1,qAA,qPD rfl,f1]
   rfl
  ·unfold qJK
   rw[h2,qAA,qPD rfl,f2]
   rfl
 ·have hv:qDL v=false:=by simpa using hv
  have a1:=qPZ (N:=73) (by omega) h.sh
  have a2:=qUO (N:=73) (by omega) h.sh
  rw[hv] at a1 a2
  have h1:qOa v=some ((([]:List Nod),1,()),()):=by
   unfold qOa
   rw[a1,qAA]
   rfl
  have h2:qJF v=some ((([]:List Nod),1,()),()):=by
   unfold qJF
   rw[a2,qAA]
   rfl
  refine ⟨[],1,[],h1,h2,by simp,?_,?_⟩
  ·unfold qBU
   rw[h1,qAA,qAE (by decide)]
  ·unfold qJK
   rw[h2,qAA,qAE (by decide)]
end Go.AM.Num
end
section
namespace Go.AM.Num
open Tf
theorem EvK.op {env:List qXu} {ss:List Int} {N d:Nat} {ts:List (List Nod)} {vs:List SV} {o s:Int} (h:EvK env ss N d ts.flatten vs) (hl:ts.length=ss.length) (h1:1<=o/\o<=20) (h':o≠3/\o≠4/\o≠5/\o≠16/\o≠17)
 (hc:qMB o ss.length=true) (hs:qWF ((o,0,[],[],(ss.length:Int)):Nod) (ts.flatten.getD 0 qPC).1 ss=s) (hz:s≠0):EvK env [s] (N+1) (d+1) ((o,0,[],[],(ts.length:Int))::ts.flatten) [opV (o,0,[],[],(ts.length:Int)) vs]:=by
 have e:((ts.length:Nat):Int)=(ss.length:Int):=by rw[hl]
 rw[e]
 exact h.node (qNe h1 h') hc rfl hs hz (by simp[qMK]) h'.2.1 h'.2.2.1
end Go.AM.Num
end
section
namespace Go.AM.Num
open Go.Proofs Go.Proofs.YtcpdjngcofhljaaGreatDoor
theorem gPow : Tryz.prog.globalNamed "internal/strconv.uint64pow10" = some 3 := by kernel_rfl
theorem tPow:(Tryz.prog.globals[3]?).map (·.type)=some 356:=by kernel_rfl
theorem qVao {W:World} (h:W.ShapedOpen Tryz.prog):∃ m,W.cell? ⟨0,0,none⟩=some (.int .i64 m):=
 cell_of_shapedOpen_int (t:=3) (zero:=#[.int .i64 0]) h (of_decide_eq_true (by kernel_rfl)) (by kernel_rfl) rfl (by kernel_rfl) (by kernel_rfl) Tryz.underlying3
theorem qKas {W:World} (hL:laidMetH Tryz.prog Rows.valueShapeRow.laid W) (hsh:W.ShapedOpen Tryz.prog):GN W:=by
 rw[MakeChecks.laidMetH_plain _ _ _ (by kernel_rfl)] at hL
 obtain ⟨ps,⟨g0,t0,cs0,f0,p0,q0,hg0,ht0,hv0,hd0,⟨g1,t1,cs1,f1,p1,q1,hg1,ht1,hv1,hd1,⟨g2,t2,cs2,f2,p2,q2,hg2,ht2,hv2,hd2,_⟩,_⟩,_⟩,_⟩:=hL
 obtain rfl:=Option.some.inj (gPow.symm.trans hg2)
 obtain rfl:=Option.some.inj (tPow.symm.trans ht2)
 refine ⟨qVao hsh,?_⟩
 have e:(Rows.laid_internal_strconv_uint64pow10:DataW Unit)=Lib.tabData .u64 Lib.pow10Tab:=by kernel_rfl
 rw[e] at hd2
 unfold Lib.TabIs
 rw[hv2,<-Lib.cells_of_tab Tryz.underlying356 Tryz.underlying269 (by kernel_rfl) (by kernel_rfl) hd2]
theorem qYan {w w':World} (h:GN w) (hb:∀ B,B < 4->w'.heap[B]?=w.heap[B]?):GN w':=by
 have hc:∀ B o,B < 4->w'.cell? ⟨B,o,none⟩=w.cell? ⟨B,o,none⟩:=fun B o hB=>by simp[World.cell?,hb B hB]
 refine ⟨?_,?_⟩
 ·rw[hc _ 0 (by decide)];exact h.maxLen
 ·have:=h.pow10
  unfold Lib.TabIs World.var? at this ⊢
  rw[gPow] at this ⊢
  simp only[Option.bind_some] at this ⊢
  rw[hb _ (by decide)]
  exact this
theorem qHao {w:World} (h:GN w):4<=w.heap.size:=by
 obtain ⟨m,hm⟩:=h.maxLen
 have h1:0 < w.heap.size:=World.block_lt_of_cell? w ⟨0,0,none⟩ hm
 have h2:3 < w.heap.size:=by
  have:=h.pow10
  unfold Lib.TabIs World.var? at this
  rw[gPow] at this
  simp only[Option.bind_some] at this
  cases hh:w.heap[3]? with
  |none=>rw[hh] at this;simp at this
  |some _=>exact (Array.getElem?_eq_some_iff.1 hh).1
 omega
end Go.AM.Num
end
section
namespace Go.AM.Num
open Go.Proofs
noncomputable def VN:Env where
 P:=Tryz.prog
 gb:=4
 G:=GN
 keep:=fun w w' h _ hb=>qYan h hb
 mixed:=by kernel_rfl
theorem f0:Fs Tryz.prog VN l0:=(((((((((((⟨rfl,qSar⟩:Fs Tryz.prog VN []).cons (qLR rfl (fun _ h=>h))).cons (qHS rfl (fun _ h=>h))).cons (qGS rfl)).cons (qPS rfl)).cons (qLb rfl (fun _ h=>h))).cons (qWY rfl)).cons (qLY rfl)).cons (qDa rfl)).cons (qSV rfl)).cons (qDS rfl))
end Go.AM.Num
end
section
namespace Go.AM.Num
open Go.Proofs Go.Proofs.YtcpdjngcofhljaaGreatDoor Go.RowKit Go.ChangeShapes Go.WideShapes Go.ChangeAt
theorem qLaf {k:FuncId} {ps:List PK} {g:qME ps->Option (qME [.val .bool]×qQf ps)} (hG:Good VN k ⟨ps,[.val .bool],g⟩) (x:qME ps) (hin:qXA ps x=[]) (hk:cntK ps=0) (o:qQf ps) (hx:g x=some ((true,()),o))
 (W:World) (hW:GN W) (vs:Array Value) (ha:RelL (rdW W) (fun B=>B < W.heap.size) (fun _=>none) (qVA ps x 0 0) vs.toList) :
 Calls Tryz.prog k vs W fun e w'=>e=.returned (.bool true)/\Below W.heap.size W w':=by
 refine Calls.mono (hG.spec x _ o hx W (fun B=>B < W.heap.size) (fun _=>none) vs hW (qHao hW) ?_ ?_) ?_
 ·rw[hin];exact qBam fun _ h=>h
 ·rw[hk];exact ha
 ·rintro e w' ⟨us,I',β',rfl,hf,_,hr⟩
  obtain rfl:us=[.bool true]:=by
   have:qWR ps [.val .bool] (true,())=[.bool true]:=rfl
   rw[this] at hr
   simp only[RelL,RelV] at hr
   obtain ⟨u,us',rfl,rfl,rfl⟩:=hr
   rfl
  refine ⟨rfl,hf.os,hf.tape,hf.output,hf.size,fun B hB=>hf.block B hB ?_⟩
  rw[hin]
  exact qDR B
def IL (l:List Int):Prop:=l.length<=9223372036854775807/\∀ x∈l,qNv x
def SL (s:qBs):Prop:=s.length<=9223372036854775807
theorem qAab {n:Int} (h:(Lit.int .i64 n).wf=true):qNv n:=by
 simp only[Lit.wf,qY0,decide_eq_true_eq] at h
 exact h
theorem qWar {l:List Int} (h:l.length<=maxLen) (hw:∀ x∈l,(Lit.int .i64 x).wf=true):IL l:=⟨by unfold maxLen at h;omega,fun x hx=>qAab (hw x hx)⟩
theorem qMas {s:ByteArray} (h:s.size<=maxLen):SL s.data.toList:=by unfold SL;unfold maxLen at h;have:=Lib.size_eq s;omega
section
variable {H:Type} {enc:TypeId×Value->H} {W:World} {I:Nat->Prop} {rd:Nat->Nat->Option Value} {β:Nat->Option Place}
theorem qDaq (n:Int):RelV rd I β (Go.AM.enc (.int .i64) n) (.int .i64 n):=by
 have e:Go.AM.enc (.int .i64) n=.int .i64 n:=rfl
 rw[e];simp only[RelV]
theorem qEar:RelL rd I β (qVA [] () 0 0) []:=by simp only[qVA,RelL]
theorem qHo {t:GT} {ps:List PK} {x:t.ty} {y:qME ps} {v:Value} {vs:List Value} (h:RelV rd I β (Go.AM.enc t x) v) (r:RelL rd I β (qVA ps y 0 0) vs):RelL rd I β (qVA (.val t::ps) (x,y) 0 0) (v::vs):=by
 simp only[qVA,RelL]
 exact ⟨v,vs,rfl,h,r⟩
theorem qGr (a:Addr) (i:Nat) (h:a.spot=none):a.add i=⟨a.block,a.off+i,none⟩:=by
 obtain ⟨b,o,s⟩:=a
 simp only at h;subst h
 simp[Addr.add]
theorem qAal {t e:TypeId} {k:IntKind} {a:Option Addr} {len cap:Nat} {d:DataW H} {p:List MemPlace} (ht:Tryz.prog.underlying t=some (.slice e)) (he:Tryz.prog.underlying e=some (.int k)) (hc:Tryz.prog.cellsOf e=1) (h:DataW.Trod enc Tryz.prog W 0 (fun _=>true) true t (.slice a len cap) d p) :
 ∃ l:List Int,l.length=len/\len<=maxLen/\(∀ x∈l,(Lit.int k x).wf=true)/\TV (rdW W) (fun B=>B < W.heap.size) (.sl (.int k)) l (.slice a len cap):=by
 obtain ⟨fuel,hf⟩:=h
 rcases open_ints ht he hc hf with ⟨hcs,_⟩ | ⟨x,l,c,zs,hcs,_,hl,hm,hz,_,hcell,hwz⟩
 ·simp[Value.cells] at hcs
  obtain ⟨rfl,rfl,rfl⟩:=hcs
  refine ⟨[],rfl,Nat.zero_le _,by simp,?_⟩
  simp only[TV,GT.isAgg,RelC]
  exact ⟨none,0,rfl,Nat.le_refl _,fun h=>absurd rfl h⟩
 ·simp[Value.cells] at hcs
  obtain ⟨rfl,rfl,rfl⟩:=hcs
  simp only[if_true] at hz
  have hzl:zs.length=cap:=by simpa using hz
  refine ⟨zs.take len,by simp;omega,by omega,fun y hy=>hwz y (List.mem_of_mem_take hy),?_⟩
  have hg:∀ i,i < zs.length->W.cell? (x.add i)=some (.int k (zs.getD i 0)):=hcell
  simp only[TV,GT.isAgg,RelC]
  refine ⟨some x,cap,by simp;omega,by simp;omega,fun hne=>?_⟩
  have hpos:0 < zs.length:=by
   have:zs.take len≠[]:=hne
   rcases zs with _ | ⟨z,zs⟩
   ·simp at this
   ·simp
  have hspot:x.spot=none:=by simpa [Addr.add] using World.cell?_spot (hg 0 hpos)
  have hat:∀ i,i < zs.length->W.cell? ⟨x.block,x.off+i,none⟩=some (.int k (zs.getD i 0)):=fun i hi=>by
   rw[<-qGr x i hspot];exact hg i hi
  refine ⟨x.block,x.off,by obtain ⟨b,o,s⟩:=x;simp only at hspot;subst hspot;rfl,World.block_lt_of_cell? W ⟨x.block,x.off+0,none⟩ (hat 0 hpos),fun i z hi=>?_⟩
  have hi1:i < zs.length:=by
   have:=(List.getElem?_eq_some_iff.1 hi).1
   simp at this;omega
  have hzi:zs.getD i 0=z:=by
   rw[List.getElem?_take] at hi
   split at hi
   ·rw[qZ4,hi];rfl
   ·cases hi
  refine ⟨[.int k z],rfl,fun j hj=>?_,rfl⟩
  have:j=0:=by simp[GT.cells] at hj;omega
  subst this
  have:=hat i hi1
  rw[hzi] at this
  have h2:=qVV this rfl
  simpa [GT.cells] using h2
end
noncomputable def qXS (os:Os):World:=
 { World.doorLaid Tryz.prog 400 os with heap:=(World.doorLaid Tryz.prog 400 os).heap.modify 4 fun
  |.cells _ t frozen=>.cells (Go.Pinned.utf8FirstZ.map fun n=>Value.int .u8 (n:Nat)).toArray t frozen
  |o=>o }
set_option maxRecDepth 100000 in
theorem qLah (os:Os) (args:Array Value):laidMet Tryz.prog Rows.valueShapeRow.laid ((qXS os).forCall (fun _ _=>0) ⟨#[],args,[]⟩).memory:=
 laidMet_of_run' 8 (by kernel_rfl) (by kernel_rfl)
theorem qNah (os:Os) (args:Array Value):(((qXS os).forCall (fun _ _=>0) ⟨#[],args,[]⟩).variablesRefB Tryz.prog)=true:=by kernel_rfl
theorem qKab (os:Os) (args:Array Value):((((qXS os).forCall (fun _ _=>0) ⟨#[],args,[]⟩).heap.toList.drop Tryz.prog.globals.size).take ((begin Tryz.prog (fun _ _=>0) default).world.heap.size - Tryz.prog.globals.size) =
 (begin Tryz.prog (fun _ _=>0) default).world.heap.toList.drop Tryz.prog.globals.size):=by kernel_rfl
theorem own:ownKnob Tryz.prog.godebug=none:=by kernel_rfl
theorem qPac:laidOutB Tryz.prog=true:=by kernel_rfl
end Go.AM.Num
end
section
set_option maxRecDepth 10000
namespace Go.AM.Num
open Go.Proofs Go.Proofs.YtcpdjngcofhljaaGreatDoor Go.RowKit Go.ChangeShapes Go.WideShapes Go.ChangeAt
def Inb:(T:GT)->T.ty->Prop
 |.int k,n=>(Lit.int k n).wf=true
 |.str,s=>List.length s<=9223372036854775807
 |.sl e,l=>List.length l<=9223372036854775807/\∀ x∈(l:List e.ty),Inb e x
 |.pair a b,x=>Inb a x.1/\Inb b x.2
 |_,_=>True
def qWy (T:GT) (t:TypeId):Prop:=∀ (H:Type) (enc:TypeId×Value->H) (W:World) (fuel:Nat) (cs:List Value) (x:DataW H×List MemPlace),DataW.trod enc Tryz.prog W 0 (fun _=>true) true fuel t cs=some x->
 ∃ v:T.ty,RelC (rdW W) (fun B=>B < W.heap.size) T v cs/\Inb T v
theorem qTap {k:IntKind} {t:TypeId} (ht:Tryz.prog.underlying t=some (.int k)):qWy (.int k) t:=fun H enc W fuel cs x h=>by
 obtain ⟨n,rfl,_,hw⟩:=DataW.trod_int ht h
 exact ⟨n,by simp only[RelC],hw⟩
theorem qNam {t:TypeId} (ht:Tryz.prog.underlying t=some .bool):qWy .bool t:=fun H enc W fuel cs x h=>by
 obtain ⟨n,rfl,_⟩:=DataW.trod_bool ht h
 exact ⟨n,by simp only[RelC],trivial⟩
theorem qKaj {t:TypeId} (ht:Tryz.prog.underlying t=some .string):qWy .str t:=fun H enc W fuel cs x h=>by
 obtain ⟨s,rfl,_,hs⟩:=DataW.trod_string ht h
 refine ⟨s.data.toList,by simp only[RelC];exact ⟨s,rfl,rfl⟩,?_⟩
 have:=qMas hs
 exact this
theorem qPam {α:Type} {P:Nat->α->Prop}:∀ n,(∀ i,i < n->∃ v,P i v)->∃ l:List α,l.length=n/\∀ i x,l[i]?=some x->P i x:=by
 intro n
 induction n with
 |zero=>exact fun _=>⟨[],rfl,fun i x h=>by simp at h⟩
 |succ n ih=>
  intro h
  obtain ⟨l,hl,hP⟩:=ih fun i hi=>h i (by omega)
  obtain ⟨v,hv⟩:=h n (by omega)
  refine ⟨l++[v],by simp[hl],fun i x hx=>?_⟩
  rcases Nat.lt_or_ge i l.length with h1 | h1
  ·rw[qY8 h1] at hx;exact hP i x hx
  ·rw[qY9 h1] at hx
   obtain ⟨h2,h3⟩:=List.getElem?_eq_some_iff.1 hx
   simp at h2 h3
   obtain rfl:i=n:=by omega
   rw[<-h3];exact hv
theorem qVar {E:GT} {t e:TypeId} (ht:Tryz.prog.underlying t=some (.slice e)) (hc:Tryz.prog.cellsOf e=E.cells) (hp:0 < E.cells) (hE:qWy E e):qWy (.sl E) t:=fun H enc W fuel cs x h=>by
 rcases DataW.trod_slice ht h with ⟨rfl,_⟩ | ⟨a,len,cap,elems,rest,n,_,rfl,_,_,hl,hm,hlen,hel,_,_⟩
 ·refine ⟨[],?_,?_⟩
  ·simp only[RelC];exact ⟨none,0,rfl,Nat.le_refl _,fun h=>absurd rfl h⟩
  ·exact ⟨Nat.zero_le _,fun x hx=>absurd hx qY16⟩
 ·have each:∀ i,i < len->∃ v:E.ty,(∃ us:List Value,us.length=E.cells/\(∀ j,j < E.cells->W.cell? ((a.add (i * E.cells)).add j)=us[j]?)/\RelC (rdW W) (fun B=>B < W.heap.size) E v us)/\Inb E v:=by
   intro i hi
   have hb:=hel i hi
   rw[qZ5 (by omega),Option.bind_eq_some_iff] at hb
   obtain ⟨us,h1,h2⟩:=hb
   obtain ⟨v,hv,hi'⟩:=hE H enc W n us _ h2
   obtain ⟨_,q1,q2⟩:=World.cells?_some h1
   rw[hc] at q1 q2
   exact ⟨v,⟨us,q1,q2,hv⟩,hi'⟩
  obtain ⟨l,hll,hP⟩:=qPam len each
  refine ⟨l,?_,⟨by unfold maxLen at hm;omega,fun x hx=>?_⟩⟩
  ·simp only[RelC]
   refine ⟨some a,cap,by rw[hll],by omega,fun hne=>?_⟩
   have h0:0 < l.length:=List.length_pos_iff.2 hne
   obtain ⟨⟨us,u1,u2,u3⟩,_⟩:=hP 0 l[0] (qZ5 h0)
   have hu:=u2 0 hp
   rw[qZ5 (by omega)] at hu
   have hspot:a.spot=none:=by simpa [Addr.add] using World.cell?_spot hu
   have hblk:a.block < W.heap.size:=by simpa [Addr.add] using World.block_lt_of_cell? W _ hu
   refine ⟨a.block,a.off,by obtain ⟨b,o,s⟩:=a;simp only at hspot;subst hspot;rfl,hblk,fun i x hx=>?_⟩
   obtain ⟨⟨us,u1,u2,u3⟩,_⟩:=hP i x hx
   refine ⟨us,u1,fun j hj=>?_,u3⟩
   have hj':=u2 j hj
   have e:(a.add (i * E.cells)).add j=⟨a.block,a.off+i * E.cells+j,none⟩:=by rw[qGr _ _ hspot,qGr _ _ rfl]
   rw[e,qZ5 (by omega)] at hj'
   rw[qZ5 (by omega)]
   exact qVV hj' (qUD E x us u3 _ (List.getElem_mem _))
  ·obtain ⟨i,hi⟩:=List.getElem?_of_mem hx
   exact (hP i x hi).2
inductive RdFs:GT->List Field->Nat->Prop
 |one {T:GT} {f:Field} {o:Nat} (ho:f.offset=o) (hc:Tryz.prog.cellsOf f.type=T.cells) (h:qWy T f.type):RdFs T [f] o
 |cons {a b:GT} {f:Field} {fs:List Field} {o:Nat} (ho:f.offset=o) (hc:Tryz.prog.cellsOf f.type=a.cells) (h:qWy a f.type) (r:RdFs b fs (o+a.cells)):RdFs (.pair a b) (f::fs) o
theorem qGas {T:GT} {fs:List Field} {o:Nat} (h:RdFs T fs o):∀ {H:Type} {enc:TypeId×Value->H} {W:World} {n:Nat} {cs:List Value} {xs:List (DataW H×List MemPlace)},cs.length=o+T.cells->xs.length=fs.length->
 (∀ (i:Nat) (f:Field),fs[i]?=some f->DataW.trod enc Tryz.prog W 0 (fun _=>true) true n f.type ((cs.drop f.offset).take (Tryz.prog.cellsOf f.type))=xs[i]?)->
 ∃ v:T.ty,RelC (rdW W) (fun B=>B < W.heap.size) T v (cs.drop o)/\Inb T v:=by
 induction h with
 |one ho hc h=>
  intro H enc W n cs xs hl hx ht
  have h0:=ht 0 _ rfl
  rw[ho,hc,List.take_of_length_le (by simp;omega),qZ5 (by simp at hx;omega)] at h0
  exact h H enc W n _ _ h0
 |cons ho hc h r ih=>
  intro H enc W n cs xs hl hx ht
  simp only[GT.cells] at hl
  have h0:=ht 0 _ rfl
  rw[ho,hc,qZ5 (by simp at hx;omega)] at h0
  obtain ⟨v1,r1,i1⟩:=h H enc W n _ _ h0
  cases xs with
  |nil=>simp at hx
  |cons y ys=>
   obtain ⟨v2,r2,i2⟩:=ih (cs:=cs) (xs:=ys) (by omega) (by simpa using hx) fun i f hf=>by
    have:=ht (i+1) f (by simpa using hf)
    simpa using this
   refine ⟨(v1,v2),?_,i1,i2⟩
   simp only[RelC]
   refine ⟨_,_,?_,r1,r2⟩
   rw[<-List.drop_drop,List.take_append_drop]
theorem qNas {T:GT} {t:TypeId} {fs:Array Field} (ht:Tryz.prog.underlying t=some (.struct fs)) (hc:Tryz.prog.cellsOf t=T.cells) (h:RdFs T fs.toList 0):qWy T t:=fun H enc W fuel cs x hx=>by
 obtain ⟨xs,n,_,_,h1,h2,h3⟩:=DataW.trod_struct ht hx
 have:=qGas h (enc:=enc) (W:=W) (n:=n) (cs:=cs) (xs:=xs) (by omega) (by simpa using h2) fun i f hf=>h3 i f (by simpa using hf)
 simpa using this
theorem qXap {T:GT} {t:TypeId} (h:qWy T t) {H:Type} {enc:TypeId×Value->H} {W:World} {cs:Array Value} {d:DataW H} {p:List MemPlace} (hd:DataW.Trod enc Tryz.prog W 0 (fun _=>true) true t (.agg cs) d p)
 (hT:T.isAgg=true):∃ x:T.ty,Inb T x/\TV (rdW W) (fun B=>B < W.heap.size) T x (.agg cs):=by
 obtain ⟨fuel,hf⟩:=hd
 obtain ⟨x,hx,hi⟩:=h H enc W fuel _ _ hf
 refine ⟨x,hi,?_⟩
 unfold TV
 rw[if_pos hT]
 exact ⟨cs.toList,by simp,hx⟩
theorem qPw {W:World} {t:TypeId} {fs:Array Field} {v:Value} (ht:Tryz.prog.underlying t=some (.struct fs)) (h:Value.okWide Tryz.prog W .any 0 t v):∃ cs,v=.agg cs:=by
 simp only[Value.okWide,ht] at h
 obtain ⟨cs,rfl,_⟩:=h
 exact ⟨cs,rfl⟩
end Go.AM.Num
end
section
namespace Go.AM.Num
open Go.Proofs Go.Proofs.YtcpdjngcofhljaaGreatDoor Go.RowKit Go.ChangeShapes Go.WideShapes Go.ChangeAt
theorem qBaa:qWy (.sl .str) 22:=qVar Tryz.underlying22 (by kernel_rfl) (by decide) (qKaj Tryz.underlying9)
theorem qGaq:qWy (.int .i64) 3:=qTap Tryz.underlying3
theorem qWap:qWy qFE 24:=qNas Tryz.underlying24 (by kernel_rfl)
 (.cons rfl (by kernel_rfl) qGaq (.cons rfl (by kernel_rfl) (qNam Tryz.underlying4) (.cons rfl (by kernel_rfl) (qKaj Tryz.underlying9) (.cons rfl (by kernel_rfl) qBaa (.one rfl (by kernel_rfl) qBaa)))))
end Go.AM.Num
end
section
set_option linter.unusedVariables false
set_option linter.unusedSimpArgs false
namespace Go.AM.Num
theorem qMv {v w x:Val} (hv:SmallV v) (hw:SmallV w) (hx:SmallV x):∀ (m i:Nat),i+m=3->
 qLA l_ValueShape_s17 (v,false,w,x,([v,w,x]:List Val),(i:Int),())=some (.exit 1,(v,false,w,x,([v,w,x]:List Val),3,())):=by
 intro m
 induction m with
 |zero=>
  intro i hi
  obtain rfl:i=3:=by omega
  refine qQA ?_ (by simp)
  unfold l_ValueShape_s17
  simp only
  rw[qIA (by simp)]
  rfl
 |succ m ih=>
  intro i hi
  have hu:SmallV (([v,w,x]:List Val).getD i qVO):=by
   have:i=0\/i=1\/i=2:=by omega
   rcases this with rfl | rfl | rfl
   ·exact hv
   ·exact hw
   ·exact hx
  rw[qSA (y:=(v,false,w,x,([v,w,x]:List Val),((i+1:Nat):Int),())) (by
   unfold l_ValueShape_s17
   simp only
   have e:(([v,w,x]:List Val).getD (i:Int).toNat qVO)=([v,w,x]:List Val).getD i qVO:=by rw[qZ0]
   simp only[e]
   generalize ([v,w,x]:List Val).getD i qVO=u at hu
   obtain ⟨t,f,s,h1,h2,h3,h4,h5⟩:=qUal hu
   have a1:=qPZ (N:=73) (by omega) hu.sh
   have a2:=qUO (N:=73) (by omega) hu.sh
   have a3:=qRas (a:=t) (b:=t) (by omega)
   rw[qZ10 rfl] at a3
   rw[qEA (by simp;omega)]
   simp only[qDA]
   rw[qBA (by omega),qBA (by simp;omega),h1,h2,a1,a2]
   simp only[qAA,beq_self_eq_true,qY2,qPA]
   rw[qBA (by omega),qBA (by simp;omega),qBA (by omega),qBA (by simp;omega),qBA (by omega),qBA (by simp;omega),qPD rfl,a3]
   simp only[qAA,qY2,qPA]
   rw[qBA (by omega),qBA (by simp;omega),h4,h5]
   simp only[qAA,beq_self_eq_true,qY2,qPA]
   rw[qBA (by omega),qBA (by simp;omega),w64 (by omega)]
   rfl)]
  exact ih (i+1) (by omega)
theorem qMQ {v w x:Val} (hv:SmallV v) (hw:SmallV w) (hx:SmallV x):((qLA l_ValueShape_s17 (v,false,w,x,([v,w,x]:List Val),0,())).bind fun y6=>
 cond (Ex.same y6.1 (Ex.exit 1))
  ((qHE y6.2.1 y6.2.2.2.1).bind fun r7=>
  (qXB y6.2.1 y6.2.2.2.1).bind fun r8=>
  cond (r7.1.1==r8.1.1)
   ((qHE y6.2.2.2.1 y6.2.2.2.2.1).bind fun r9=>
   (qXB y6.2.2.2.1 y6.2.2.2.2.1).bind fun r10=>
   cond (r9.1.1==r10.1.1)
    ((qHE y6.2.1 y6.2.1).bind fun r11=>
    cond (r11.1.1)
     (qQR.bind fun r12=>
     some ((r12.1.1,()),()))
     (some ((false,()),())))
    (some ((false,()),())))
   (some ((false,()),())))
  (cond (Ex.same y6.1 Ex.ret)
   (some ((y6.2.2.1,()),()))
   (none)))=some ((true,()),()):=by
 have hl:=qMv hv hw hx 3 0 (by omega)
 rw[show ((0:Nat):Int)=0 from rfl] at hl
 rw[hl]
 have b1:∀ {u:Val},SmallV u->u.2.2.2.1.length<=2000000000/\u.2.2.2.2.length<=2000000000:=fun h=>⟨by have:=h.few;omega,by have:=h.sh.few;omega⟩
 simp only[qAA,qJB,qMA,qVh (b1 hv).1 (b1 hv).2,qGi (b1 hv).1 (b1 hv).2,qVh (b1 hw).1 (b1 hw).2,qGi (b1 hw).1 (b1 hw).2,beq_self_eq_true,decide_true,qAi]
theorem qOm (v:Val) (hv:Inb qFE v) (l:List Int) (hl:IL l) (how:Int) (hh:qNv how):qAT v l how=some ((true,()),()):=by
 unfold qAT
 rcases qMw (v:=v) with ⟨u,h⟩ | ⟨h,hs,hk⟩
 ·rw[h,qAA]
  simp only[qY1,qMA,qAi,qAA]
 ·rw[h,qAA]
  simp only[qY2,qPA]
  have sv:SmallV v:=⟨⟨by have:=hs.num;omega,fun s h=>by have:=hs.keys s h;omega,fun s h=>by have:=hs.vals s h;omega,hs.few⟩,by omega⟩
  obtain ⟨c0,n0,hc0⟩:=qOai l
  obtain ⟨r,c1,n1,n2,n3,n4⟩:=qBL hc0 (n:=4) (by omega)
  obtain ⟨w',c2,n5,n6,n7,n8,sw⟩:=qHw n2 (s:=1+r) (by omega)
  unfold qDan
  rw[n0]
  simp only[qAA]
  rw[n1]
  simp only[qAA]
  rw[w64 (by omega),n5]
  simp only[qAA]
  generalize encS w'=w at sw
  obtain ⟨m,hm,_,_⟩:=qJk how (n:=5) (by omega)
  rw[hm]
  simp only[qAA]
  have s1:=sw.sh
  have s2:=sv.sh
  by_cases e0:m=0
  ·obtain ⟨m6,hm6,_,_⟩:=qJk v.1 (n:=6) (by omega)
   rw[qKA e0,hm6]
   simp only[qAA]
   exact qMQ sv sw ⟨⟨s1.num,s1.keys,s1.vals,s1.few⟩,sw.few⟩
  rw[qCA e0]
  by_cases e1:m=1
  ·rw[qKA e1]
   exact qMQ sv sw ⟨⟨s2.num,s1.keys,s1.vals,s1.few⟩,sw.few⟩
  rw[qCA e1]
  by_cases e2:m=2
  ·rw[qKA e2]
   exact qMQ sv sw ⟨⟨s1.num,s2.keys,s1.vals,⟨s2.few.1,s1.few.2⟩⟩,sv.few⟩
  rw[qCA e2]
  by_cases e3:m=3
  ·rw[qKA e3]
   exact qMQ sv sw ⟨⟨s1.num,s1.keys,s2.vals,⟨s1.few.1,s2.few.2⟩⟩,sw.few⟩
  rw[qCA e3]
  exact qMQ sv sw ⟨⟨s1.num,s1.keys,s1.vals,s1.few⟩,sw.few⟩
end Go.AM.Num
end
