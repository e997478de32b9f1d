/- What the functions of the program compute, as functions of plain data, with the proofs that the program computes just that. No condition beyond what each statement says. -/
import Derived.Test.YtollagkikaapjaaGreatDoorN1
import Derived.Test.YtollagkikaapjaaGreatDoorProg
set_option linter.unusedSimpArgs false
set_option linter.unusedVariables false
section
namespace Go.AM.Num
open Go.Proofs
set_option maxRecDepth 100000
noncomputable section
def i2 : TI := ⟨.int .i64, 1, 8, some (.int .i64)⟩
theorem tok2 : TOk Tryz.prog 2 i2 := tok_of Tryz.underlying2 Tryz.type2 rfl rfl rfl (fun g hg => by cases hg; exact ⟨rfl, rfl, rfl⟩)
def i3 : TI := ⟨.int .i64, 1, 8, some (.int .i64)⟩
theorem tok3 : TOk Tryz.prog 3 i3 := tok_of Tryz.underlying3 Tryz.type3 rfl rfl rfl (fun g hg => by cases hg; exact ⟨rfl, rfl, rfl⟩)
def i4 : TI := ⟨.bool, 1, 1, some .bool⟩
theorem tok4 : TOk Tryz.prog 4 i4 := tok_of Tryz.underlying4 Tryz.type4 rfl rfl rfl (fun g hg => by cases hg; exact ⟨rfl, rfl, rfl⟩)
def i5 : TI := ⟨.int .u8, 1, 1, some (.int .u8)⟩
theorem tok5 : TOk Tryz.prog 5 i5 := tok_of Tryz.underlying5 Tryz.type5 rfl rfl rfl (fun g hg => by cases hg; exact ⟨rfl, rfl, rfl⟩)
def i9 : TI := ⟨.str, 1, 16, some .str⟩
theorem tok9 : TOk Tryz.prog 9 i9 := tok_of Tryz.underlying9 Tryz.type9 rfl rfl rfl (fun g hg => by cases hg; exact ⟨rfl, rfl, rfl⟩)
def i22 : TI := ⟨.slice 3, 1, 24, some (.sl (.int .i64))⟩
theorem tok22 : TOk Tryz.prog 22 i22 := tok_of Tryz.underlying22 Tryz.type22 rfl rfl rfl (fun g hg => by cases hg; exact ⟨rfl, rfl, rfl⟩)
def i38 : TI := ⟨.slice 9, 1, 24, some (.sl .str)⟩
theorem tok38 : TOk Tryz.prog 38 i38 := tok_of Tryz.underlying38 Tryz.type38 rfl rfl rfl (fun g hg => by cases hg; exact ⟨rfl, rfl, rfl⟩)
def i49 : TI := ⟨.slice 5, 1, 24, some (.sl (.int .u8))⟩
theorem tok49 : TOk Tryz.prog 49 i49 := tok_of Tryz.underlying49 Tryz.type49 rfl rfl rfl (fun g hg => by cases hg; exact ⟨rfl, rfl, rfl⟩)
def i50 : TI := ⟨.int .u64, 1, 8, some (.int .u64)⟩
theorem tok50 : TOk Tryz.prog 50 i50 := tok_of Tryz.underlying50 Tryz.type50 rfl rfl rfl (fun g hg => by cases hg; exact ⟨rfl, rfl, rfl⟩)
def i55 : TI := ⟨.slice 86, 1, 24, some (.sl (.int .u32))⟩
theorem tok55 : TOk Tryz.prog 55 i55 := tok_of Tryz.underlying55 Tryz.type55 rfl rfl rfl (fun g hg => by cases hg; exact ⟨rfl, rfl, rfl⟩)
def i59 : TI := ⟨.struct [(0, 4), (1, 55), (2, 55)], 3, 56, some (.pair .bool (.pair (.sl (.int .u32)) (.sl (.int .u32))))⟩
theorem tok59 : TOk Tryz.prog 59 i59 := tok_of Tryz.underlying59 Tryz.type59 rfl rfl rfl (fun g hg => by cases hg; exact ⟨rfl, rfl, rfl⟩)
def i62 : TI := ⟨.struct [(0, 4), (1, 9), (2, 9)], 3, 40, some (.pair .bool (.pair .str .str))⟩
theorem tok62 : TOk Tryz.prog 62 i62 := tok_of Tryz.underlying62 Tryz.type62 rfl rfl rfl (fun g hg => by cases hg; exact ⟨rfl, rfl, rfl⟩)
def i66 : TI := ⟨.struct [(0, 2), (1, 2)], 2, 16, some (.pair (.int .i64) (.int .i64))⟩
theorem tok66 : TOk Tryz.prog 66 i66 := tok_of Tryz.underlying66 Tryz.type66 rfl rfl rfl (fun g hg => by cases hg; exact ⟨rfl, rfl, rfl⟩)
def i73 : TI := ⟨.struct [(0, 22), (1, 3)], 2, 32, some (.pair (.sl (.int .i64)) (.int .i64))⟩
theorem tok73 : TOk Tryz.prog 73 i73 := tok_of Tryz.underlying73 Tryz.type73 rfl rfl rfl (fun g hg => by cases hg; exact ⟨rfl, rfl, rfl⟩)
def i81 : TI := ⟨.iface, 1, 16, some .err⟩
theorem tok81 : TOk Tryz.prog 81 i81 := tok_of Tryz.underlying81 Tryz.type81 rfl rfl rfl (fun g hg => by cases hg; exact ⟨rfl, rfl, rfl⟩)
def i86 : TI := ⟨.int .u32, 1, 4, some (.int .u32)⟩
theorem tok86 : TOk Tryz.prog 86 i86 := tok_of Tryz.underlying86 Tryz.type86 rfl rfl rfl (fun g hg => by cases hg; exact ⟨rfl, rfl, rfl⟩)
def i104 : TI := ⟨.int .u64, 1, 8, some (.int .u64)⟩
theorem tok104 : TOk Tryz.prog 104 i104 := tok_of Tryz.underlying104 Tryz.type104 rfl rfl rfl (fun g hg => by cases hg; exact ⟨rfl, rfl, rfl⟩)
def l_short_s2_A : Ann := ⟨16, [0, 2, 3], [.val (.sl .str), .val .bool, .val (.int .i64)], [], []⟩
def l_short_C : Callee := ⟨[.val (.sl .str)], [.val .bool], fun x => l_short x.1⟩
def l_short_ti : List (Nat × TI) := [(9, i9), (38, i38)]
def l_short_fn : List (Nat × Callee) := []
def l_short_lp : List (Nat × LoopO) := [(2, loopF l_short_s2_A [Ex.exit 0, Ex.ret] l_short_s2)]
def l_short_E : Tab := ⟨look l_short_ti, lookC l_short_fn, lookL l_short_lp⟩
theorem l_short_tab {V : Env} (hP : V.P = Tryz.prog) : TabOK V l_short_E :=
  tab_ok (hP ▸ (tiCons tok9 (tiCons tok38 tiNil))) fnNil
theorem l_short_s2_run : ∀ x, run l_short_E (lb (bb (sr (sl (sr (fb Tryz.f13)))))) (encSt l_short_s2_A x) (fun ex st => (decSt l_short_s2_A st).bind fun y => some (ex, y)) = l_short_s2 x := fun x => by kernel_rfl
theorem l_short_s2_ok {V : Env} (hE : TabOK V l_short_E) (Γ : Base) (hg : Γ.gb = V.gb) (h0 : V.G Γ.w) : Sound V Γ (.loop (lb (bb (sr (sl (sr (fb Tryz.f13))))))) fun ρ => (loopF l_short_s2_A [Ex.exit 0, Ex.ret] l_short_s2).f ρ :=
  loop_ok hE hg h0 (by rw [show loopsOf (lb (bb (sr (sl (sr (fb Tryz.f13)))))) = [] from by kernel_rfl]; exact lpNil) l_short_s2_run
theorem l_short_good {V : Env} (hP : V.P = Tryz.prog) : Good V 13 l_short_C :=
  have hE := l_short_tab hP
  good_of hE (hP ▸ Tryz.func13) (show Tryz.f13.body = some (fb Tryz.f13) from rfl) (by decide) (by decide) (fun Γ hg h0 => by rw [show loopsOf (fb Tryz.f13) = [lb (bb (sr (sl (sr (fb Tryz.f13)))))] from by kernel_rfl]; exact (lpCons (by kernel_rfl) (l_short_s2_ok hE Γ hg h0) lpNil)) (fun x => by kernel_rfl)
def n_figures_C : Callee := ⟨[.val .str], [.val .bool], fun x => n_figures x.1⟩
def n_figures_ti : List (Nat × TI) := []
def n_figures_fn : List (Nat × Callee) := [(95, strings_Trim_C)]
def n_figures_lp : List (Nat × LoopO) := []
def n_figures_E : Tab := ⟨look n_figures_ti, lookC n_figures_fn, lookL n_figures_lp⟩
theorem n_figures_tab {V : Env} (hP : V.P = Tryz.prog) (h95 : Good V 95 strings_Trim_C) : TabOK V n_figures_E :=
  tab_ok (hP ▸ tiNil) (fnCons h95 fnNil)
theorem n_figures_good {V : Env} (hP : V.P = Tryz.prog) (h95 : Good V 95 strings_Trim_C) : Good V 52 n_figures_C :=
  have hE := n_figures_tab hP h95
  good_of hE (hP ▸ Tryz.func52) (show Tryz.f52.body = some (fb Tryz.f52) from rfl) (by decide) (by decide) (fun Γ hg h0 => by rw [show loopsOf (fb Tryz.f52) = [] from by kernel_rfl]; exact lpNil) (fun x => by kernel_rfl)
def n_nat_trim_s2_A : Ann := ⟨21, [0, 3], [.val (.sl (.int .u32)), .val (.int .i64)], [], []⟩
def n_nat_trim_C : Callee := ⟨[.val (.sl (.int .u32))], [.val (.sl (.int .u32))], fun x => n_nat_trim x.1⟩
def n_nat_trim_ti : List (Nat × TI) := [(55, i55), (86, i86)]
def n_nat_trim_fn : List (Nat × Callee) := []
def n_nat_trim_lp : List (Nat × LoopO) := [(2, loopF n_nat_trim_s2_A [Ex.exit 0] n_nat_trim_s2)]
def n_nat_trim_E : Tab := ⟨look n_nat_trim_ti, lookC n_nat_trim_fn, lookL n_nat_trim_lp⟩
theorem n_nat_trim_tab {V : Env} (hP : V.P = Tryz.prog) : TabOK V n_nat_trim_E :=
  tab_ok (hP ▸ (tiCons tok55 (tiCons tok86 tiNil))) fnNil
theorem n_nat_trim_s2_run : ∀ x, run n_nat_trim_E (lb (bb (sl (sr (sr (fb Tryz.f96)))))) (encSt n_nat_trim_s2_A x) (fun ex st => (decSt n_nat_trim_s2_A st).bind fun y => some (ex, y)) = n_nat_trim_s2 x := fun x => by kernel_rfl
theorem n_nat_trim_s2_ok {V : Env} (hE : TabOK V n_nat_trim_E) (Γ : Base) (hg : Γ.gb = V.gb) (h0 : V.G Γ.w) : Sound V Γ (.loop (lb (bb (sl (sr (sr (fb Tryz.f96))))))) fun ρ => (loopF n_nat_trim_s2_A [Ex.exit 0] n_nat_trim_s2).f ρ :=
  loop_ok hE hg h0 (by rw [show loopsOf (lb (bb (sl (sr (sr (fb Tryz.f96)))))) = [] from by kernel_rfl]; exact lpNil) n_nat_trim_s2_run
theorem n_nat_trim_good {V : Env} (hP : V.P = Tryz.prog) : Good V 96 n_nat_trim_C :=
  have hE := n_nat_trim_tab hP
  good_of hE (hP ▸ Tryz.func96) (show Tryz.f96.body = some (fb Tryz.f96) from rfl) (by decide) (by decide) (fun Γ hg h0 => by rw [show loopsOf (fb Tryz.f96) = [lb (bb (sl (sr (sr (fb Tryz.f96)))))] from by kernel_rfl]; exact (lpCons (by kernel_rfl) (n_nat_trim_s2_ok hE Γ hg h0) lpNil)) (fun x => by kernel_rfl)
def n_natOf_s7_A : Ann := ⟨39, [0, 3, 4, 5, 20, 21, 22], [.val .str, .row (.int .u32), .val (.int .i64), .val (.int .u32), .val (.sl (.int .u8)), .val (.int .i64), .val (.int .i64)], [], []⟩
def n_natOf_s3_A : Ann := ⟨39, [0, 3, 4], [.val .str, .row (.int .u32), .val (.int .i64)], [], []⟩
def n_natOf_C : Callee := ⟨[.val .str], [.val (.sl (.int .u32))], fun x => n_natOf x.1⟩
def n_natOf_ti : List (Nat × TI) := [(5, i5), (9, i9), (49, i49), (55, i55), (86, i86)]
def n_natOf_fn : List (Nat × Callee) := [(96, n_nat_trim_C)]
def n_natOf_lp : List (Nat × LoopO) := [(7, loopF n_natOf_s7_A [Ex.exit 2] n_natOf_s7), (3, loopF n_natOf_s3_A [Ex.exit 0] n_natOf_s3)]
def n_natOf_E : Tab := ⟨look n_natOf_ti, lookC n_natOf_fn, lookL n_natOf_lp⟩
theorem n_natOf_tab {V : Env} (hP : V.P = Tryz.prog) (h96 : Good V 96 n_nat_trim_C) : TabOK V n_natOf_E :=
  tab_ok (hP ▸ (tiCons tok5 (tiCons tok9 (tiCons tok49 (tiCons tok55 (tiCons tok86 tiNil)))))) (fnCons h96 fnNil)
theorem n_natOf_s7_run : ∀ x, run n_natOf_E (lb (bb (sr (sl (sr (bb (sl (sr (lb (bb (sr (sl (sr (sr (fb Tryz.f53))))))))))))))) (encSt n_natOf_s7_A x) (fun ex st => (decSt n_natOf_s7_A st).bind fun y => some (ex, y)) = n_natOf_s7 x := fun x => by kernel_rfl
theorem n_natOf_s7_ok {V : Env} (hE : TabOK V n_natOf_E) (Γ : Base) (hg : Γ.gb = V.gb) (h0 : V.G Γ.w) : Sound V Γ (.loop (lb (bb (sr (sl (sr (bb (sl (sr (lb (bb (sr (sl (sr (sr (fb Tryz.f53)))))))))))))))) fun ρ => (loopF n_natOf_s7_A [Ex.exit 2] n_natOf_s7).f ρ :=
  loop_ok hE hg h0 (by rw [show loopsOf (lb (bb (sr (sl (sr (bb (sl (sr (lb (bb (sr (sl (sr (sr (fb Tryz.f53))))))))))))))) = [] from by kernel_rfl]; exact lpNil) n_natOf_s7_run
theorem n_natOf_s3_run : ∀ x, run n_natOf_E (lb (bb (sr (sl (sr (sr (fb Tryz.f53))))))) (encSt n_natOf_s3_A x) (fun ex st => (decSt n_natOf_s3_A st).bind fun y => some (ex, y)) = n_natOf_s3 x := fun x => by kernel_rfl
theorem n_natOf_s3_ok {V : Env} (hE : TabOK V n_natOf_E) (Γ : Base) (hg : Γ.gb = V.gb) (h0 : V.G Γ.w) : Sound V Γ (.loop (lb (bb (sr (sl (sr (sr (fb Tryz.f53)))))))) fun ρ => (loopF n_natOf_s3_A [Ex.exit 0] n_natOf_s3).f ρ :=
  loop_ok hE hg h0 (by rw [show loopsOf (lb (bb (sr (sl (sr (sr (fb Tryz.f53))))))) = [lb (bb (sr (sl (sr (bb (sl (sr (lb (bb (sr (sl (sr (sr (fb Tryz.f53))))))))))))))] from by kernel_rfl]; exact (lpCons (by kernel_rfl) (n_natOf_s7_ok hE Γ hg h0) lpNil)) n_natOf_s3_run
theorem n_natOf_good {V : Env} (hP : V.P = Tryz.prog) (h96 : Good V 96 n_nat_trim_C) : Good V 53 n_natOf_C :=
  have hE := n_natOf_tab hP h96
  good_of hE (hP ▸ Tryz.func53) (show Tryz.f53.body = some (fb Tryz.f53) from rfl) (by decide) (by decide) (fun Γ hg h0 => by rw [show loopsOf (fb Tryz.f53) = [lb (bb (sr (sl (sr (sr (fb Tryz.f53))))))] from by kernel_rfl]; exact (lpCons (by kernel_rfl) (n_natOf_s3_ok hE Γ hg h0) lpNil)) (fun x => by kernel_rfl)
def n_nat_trim_v_s2_A : Ann := ⟨21, [0, 3], [.row (.int .u32), .val (.int .i64)], [0], []⟩
def n_nat_trim_v_C : Callee := ⟨[.row (.int .u32)], [.view 0], fun x => n_nat_trim_v x.1⟩
def n_nat_trim_v_ti : List (Nat × TI) := [(55, i55), (86, i86)]
def n_nat_trim_v_fn : List (Nat × Callee) := []
def n_nat_trim_v_lp : List (Nat × LoopO) := [(2, loopF n_nat_trim_v_s2_A [Ex.exit 0] n_nat_trim_v_s2)]
def n_nat_trim_v_E : Tab := ⟨look n_nat_trim_v_ti, lookC n_nat_trim_v_fn, lookL n_nat_trim_v_lp⟩
theorem n_nat_trim_v_tab {V : Env} (hP : V.P = Tryz.prog) : TabOK V n_nat_trim_v_E :=
  tab_ok (hP ▸ (tiCons tok55 (tiCons tok86 tiNil))) fnNil
theorem n_nat_trim_v_s2_run : ∀ x, run n_nat_trim_v_E (lb (bb (sl (sr (sr (fb Tryz.f96)))))) (encSt n_nat_trim_v_s2_A x) (fun ex st => (decSt n_nat_trim_v_s2_A st).bind fun y => some (ex, y)) = n_nat_trim_v_s2 x := fun x => by kernel_rfl
theorem n_nat_trim_v_s2_ok {V : Env} (hE : TabOK V n_nat_trim_v_E) (Γ : Base) (hg : Γ.gb = V.gb) (h0 : V.G Γ.w) : Sound V Γ (.loop (lb (bb (sl (sr (sr (fb Tryz.f96))))))) fun ρ => (loopF n_nat_trim_v_s2_A [Ex.exit 0] n_nat_trim_v_s2).f ρ :=
  loop_ok hE hg h0 (by rw [show loopsOf (lb (bb (sl (sr (sr (fb Tryz.f96)))))) = [] from by kernel_rfl]; exact lpNil) n_nat_trim_v_s2_run
theorem n_nat_trim_v_good {V : Env} (hP : V.P = Tryz.prog) : Good V 96 n_nat_trim_v_C :=
  have hE := n_nat_trim_v_tab hP
  good_of hE (hP ▸ Tryz.func96) (show Tryz.f96.body = some (fb Tryz.f96) from rfl) (by decide) (by decide) (fun Γ hg h0 => by rw [show loopsOf (fb Tryz.f96) = [lb (bb (sl (sr (sr (fb Tryz.f96)))))] from by kernel_rfl]; exact (lpCons (by kernel_rfl) (n_nat_trim_v_s2_ok hE Γ hg h0) lpNil)) (fun x => by kernel_rfl)
def n_nat_mul_r_s7_A : Ann := ⟨69, [1, 5, 6, 7, 8, 18, 19, 20, 25, 26, 27], [.val (.sl (.int .u32)), .row (.int .u32), .val (.int .i64), .val (.int .u32), .val (.int .u64), .val (.sl (.int .u32)), .val (.int .i64), .val (.int .i64), .val (.sl (.int .u32)), .val (.int .i64), .val (.int .i64)], [], []⟩
def n_nat_mul_r_s3_A : Ann := ⟨69, [1, 5, 18, 19, 20], [.val (.sl (.int .u32)), .row (.int .u32), .val (.sl (.int .u32)), .val (.int .i64), .val (.int .i64)], [], []⟩
def n_nat_mul_r_C : Callee := ⟨[.val (.sl (.int .u32)), .val (.sl (.int .u32))], [.row (.int .u32)], fun x => n_nat_mul_r x.1 x.2.1⟩
def n_nat_mul_r_ti : List (Nat × TI) := [(55, i55), (86, i86), (104, i104)]
def n_nat_mul_r_fn : List (Nat × Callee) := [(96, n_nat_trim_v_C)]
def n_nat_mul_r_lp : List (Nat × LoopO) := [(7, loopF n_nat_mul_r_s7_A [Ex.exit 2] n_nat_mul_r_s7), (3, loopF n_nat_mul_r_s3_A [Ex.exit 0] n_nat_mul_r_s3)]
def n_nat_mul_r_E : Tab := ⟨look n_nat_mul_r_ti, lookC n_nat_mul_r_fn, lookL n_nat_mul_r_lp⟩
theorem n_nat_mul_r_tab {V : Env} (hP : V.P = Tryz.prog) (h96 : Good V 96 n_nat_trim_v_C) : TabOK V n_nat_mul_r_E :=
  tab_ok (hP ▸ (tiCons tok55 (tiCons tok86 (tiCons tok104 tiNil)))) (fnCons h96 fnNil)
theorem n_nat_mul_r_s7_run : ∀ x, run n_nat_mul_r_E (lb (bb (sr (sl (sr (sr (bb (sl (sr (sr (lb (bb (sr (sl (sr (sr (fb Tryz.f110))))))))))))))))) (encSt n_nat_mul_r_s7_A x) (fun ex st => (decSt n_nat_mul_r_s7_A st).bind fun y => some (ex, y)) = n_nat_mul_r_s7 x := fun x => by kernel_rfl
theorem n_nat_mul_r_s7_ok {V : Env} (hE : TabOK V n_nat_mul_r_E) (Γ : Base) (hg : Γ.gb = V.gb) (h0 : V.G Γ.w) : Sound V Γ (.loop (lb (bb (sr (sl (sr (sr (bb (sl (sr (sr (lb (bb (sr (sl (sr (sr (fb Tryz.f110)))))))))))))))))) fun ρ => (loopF n_nat_mul_r_s7_A [Ex.exit 2] n_nat_mul_r_s7).f ρ :=
  loop_ok hE hg h0 (by rw [show loopsOf (lb (bb (sr (sl (sr (sr (bb (sl (sr (sr (lb (bb (sr (sl (sr (sr (fb Tryz.f110))))))))))))))))) = [] from by kernel_rfl]; exact lpNil) n_nat_mul_r_s7_run
theorem n_nat_mul_r_s3_run : ∀ x, run n_nat_mul_r_E (lb (bb (sr (sl (sr (sr (fb Tryz.f110))))))) (encSt n_nat_mul_r_s3_A x) (fun ex st => (decSt n_nat_mul_r_s3_A st).bind fun y => some (ex, y)) = n_nat_mul_r_s3 x := fun x => by kernel_rfl
theorem n_nat_mul_r_s3_ok {V : Env} (hE : TabOK V n_nat_mul_r_E) (Γ : Base) (hg : Γ.gb = V.gb) (h0 : V.G Γ.w) : Sound V Γ (.loop (lb (bb (sr (sl (sr (sr (fb Tryz.f110)))))))) fun ρ => (loopF n_nat_mul_r_s3_A [Ex.exit 0] n_nat_mul_r_s3).f ρ :=
  loop_ok hE hg h0 (by rw [show loopsOf (lb (bb (sr (sl (sr (sr (fb Tryz.f110))))))) = [lb (bb (sr (sl (sr (sr (bb (sl (sr (sr (lb (bb (sr (sl (sr (sr (fb Tryz.f110))))))))))))))))] from by kernel_rfl]; exact (lpCons (by kernel_rfl) (n_nat_mul_r_s7_ok hE Γ hg h0) lpNil)) n_nat_mul_r_s3_run
theorem n_nat_mul_r_good {V : Env} (hP : V.P = Tryz.prog) (h96 : Good V 96 n_nat_trim_v_C) : Good V 110 n_nat_mul_r_C :=
  have hE := n_nat_mul_r_tab hP h96
  good_of hE (hP ▸ Tryz.func110) (show Tryz.f110.body = some (fb Tryz.f110) from rfl) (by decide) (by decide) (fun Γ hg h0 => by rw [show loopsOf (fb Tryz.f110) = [lb (bb (sr (sl (sr (sr (fb Tryz.f110))))))] from by kernel_rfl]; exact (lpCons (by kernel_rfl) (n_nat_mul_r_s3_ok hE Γ hg h0) lpNil)) (fun x => by kernel_rfl)
def n_nat_cmp_s4_A : Ann := ⟨43, [0, 1, 4, 5], [.val (.sl (.int .u32)), .val (.sl (.int .u32)), .val (.int .i64), .val (.int .i64)], [], []⟩
def n_nat_cmp_C : Callee := ⟨[.val (.sl (.int .u32)), .val (.sl (.int .u32))], [.val (.int .i64)], fun x => n_nat_cmp x.1 x.2.1⟩
def n_nat_cmp_ti : List (Nat × TI) := [(3, i3), (55, i55), (86, i86)]
def n_nat_cmp_fn : List (Nat × Callee) := []
def n_nat_cmp_lp : List (Nat × LoopO) := [(4, loopF n_nat_cmp_s4_A [Ex.exit 0, Ex.ret] n_nat_cmp_s4)]
def n_nat_cmp_E : Tab := ⟨look n_nat_cmp_ti, lookC n_nat_cmp_fn, lookL n_nat_cmp_lp⟩
theorem n_nat_cmp_tab {V : Env} (hP : V.P = Tryz.prog) : TabOK V n_nat_cmp_E :=
  tab_ok (hP ▸ (tiCons tok3 (tiCons tok55 (tiCons tok86 tiNil)))) fnNil
theorem n_nat_cmp_s4_run : ∀ x, run n_nat_cmp_E (lb (bb (sr (sl (sr (sr (fb Tryz.f112))))))) (encSt n_nat_cmp_s4_A x) (fun ex st => (decSt n_nat_cmp_s4_A st).bind fun y => some (ex, y)) = n_nat_cmp_s4 x := fun x => by kernel_rfl
theorem n_nat_cmp_s4_ok {V : Env} (hE : TabOK V n_nat_cmp_E) (Γ : Base) (hg : Γ.gb = V.gb) (h0 : V.G Γ.w) : Sound V Γ (.loop (lb (bb (sr (sl (sr (sr (fb Tryz.f112)))))))) fun ρ => (loopF n_nat_cmp_s4_A [Ex.exit 0, Ex.ret] n_nat_cmp_s4).f ρ :=
  loop_ok hE hg h0 (by rw [show loopsOf (lb (bb (sr (sl (sr (sr (fb Tryz.f112))))))) = [] from by kernel_rfl]; exact lpNil) n_nat_cmp_s4_run
theorem n_nat_cmp_good {V : Env} (hP : V.P = Tryz.prog) : Good V 112 n_nat_cmp_C :=
  have hE := n_nat_cmp_tab hP
  good_of hE (hP ▸ Tryz.func112) (show Tryz.f112.body = some (fb Tryz.f112) from rfl) (by decide) (by decide) (fun Γ hg h0 => by rw [show loopsOf (fb Tryz.f112) = [lb (bb (sr (sl (sr (sr (fb Tryz.f112))))))] from by kernel_rfl]; exact (lpCons (by kernel_rfl) (n_nat_cmp_s4_ok hE Γ hg h0) lpNil)) (fun x => by kernel_rfl)
def n_nat_quoLimb_s4_A : Ann := ⟨46, [0, 1, 6, 7, 8], [.val (.sl (.int .u32)), .val (.int .u32), .row (.int .u32), .val (.int .u64), .val (.int .i64)], [], []⟩
def n_nat_quoLimb_C : Callee := ⟨[.val (.sl (.int .u32)), .val (.int .u32)], [.val (.sl (.int .u32)), .val (.sl (.int .u32))], fun x => n_nat_quoLimb x.1 x.2.1⟩
def n_nat_quoLimb_ti : List (Nat × TI) := [(55, i55), (86, i86), (104, i104)]
def n_nat_quoLimb_fn : List (Nat × Callee) := [(96, n_nat_trim_C)]
def n_nat_quoLimb_lp : List (Nat × LoopO) := [(4, loopF n_nat_quoLimb_s4_A [Ex.exit 0] n_nat_quoLimb_s4)]
def n_nat_quoLimb_E : Tab := ⟨look n_nat_quoLimb_ti, lookC n_nat_quoLimb_fn, lookL n_nat_quoLimb_lp⟩
theorem n_nat_quoLimb_tab {V : Env} (hP : V.P = Tryz.prog) (h96 : Good V 96 n_nat_trim_C) : TabOK V n_nat_quoLimb_E :=
  tab_ok (hP ▸ (tiCons tok55 (tiCons tok86 (tiCons tok104 tiNil)))) (fnCons h96 fnNil)
theorem n_nat_quoLimb_s4_run : ∀ x, run n_nat_quoLimb_E (lb (bb (sr (sl (sr (sr (sr (fb Tryz.f142)))))))) (encSt n_nat_quoLimb_s4_A x) (fun ex st => (decSt n_nat_quoLimb_s4_A st).bind fun y => some (ex, y)) = n_nat_quoLimb_s4 x := fun x => by kernel_rfl
theorem n_nat_quoLimb_s4_ok {V : Env} (hE : TabOK V n_nat_quoLimb_E) (Γ : Base) (hg : Γ.gb = V.gb) (h0 : V.G Γ.w) : Sound V Γ (.loop (lb (bb (sr (sl (sr (sr (sr (fb Tryz.f142))))))))) fun ρ => (loopF n_nat_quoLimb_s4_A [Ex.exit 0] n_nat_quoLimb_s4).f ρ :=
  loop_ok hE hg h0 (by rw [show loopsOf (lb (bb (sr (sl (sr (sr (sr (fb Tryz.f142)))))))) = [] from by kernel_rfl]; exact lpNil) n_nat_quoLimb_s4_run
theorem n_nat_quoLimb_good {V : Env} (hP : V.P = Tryz.prog) (h96 : Good V 96 n_nat_trim_C) : Good V 142 n_nat_quoLimb_C :=
  have hE := n_nat_quoLimb_tab hP h96
  good_of hE (hP ▸ Tryz.func142) (show Tryz.f142.body = some (fb Tryz.f142) from rfl) (by decide) (by decide) (fun Γ hg h0 => by rw [show loopsOf (fb Tryz.f142) = [lb (bb (sr (sl (sr (sr (sr (fb Tryz.f142)))))))] from by kernel_rfl]; exact (lpCons (by kernel_rfl) (n_nat_quoLimb_s4_ok hE Γ hg h0) lpNil)) (fun x => by kernel_rfl)
def n_subtract_s3_A : Ann := ⟨54, [0, 1, 2, 7, 8, 12, 13], [.row (.int .u32), .val (.sl (.int .u32)), .val (.int .u64), .val (.int .u64), .val (.int .i64), .val (.int .i64), .val (.int .i64)], [0], []⟩
def n_subtract_C : Callee := ⟨[.row (.int .u32), .val (.sl (.int .u32)), .val (.int .u64)], [.val .bool], fun x => n_subtract x.1 x.2.1 x.2.2.1⟩
def n_subtract_ti : List (Nat × TI) := [(2, i2), (55, i55), (86, i86), (104, i104)]
def n_subtract_fn : List (Nat × Callee) := []
def n_subtract_lp : List (Nat × LoopO) := [(3, loopF n_subtract_s3_A [Ex.exit 0] n_subtract_s3)]
def n_subtract_E : Tab := ⟨look n_subtract_ti, lookC n_subtract_fn, lookL n_subtract_lp⟩
theorem n_subtract_tab {V : Env} (hP : V.P = Tryz.prog) : TabOK V n_subtract_E :=
  tab_ok (hP ▸ (tiCons tok2 (tiCons tok55 (tiCons tok86 (tiCons tok104 tiNil))))) fnNil
theorem n_subtract_s3_run : ∀ x, run n_subtract_E (lb (bb (sr (sl (sr (sr (fb Tryz.f164))))))) (encSt n_subtract_s3_A x) (fun ex st => (decSt n_subtract_s3_A st).bind fun y => some (ex, y)) = n_subtract_s3 x := fun x => by kernel_rfl
theorem n_subtract_s3_ok {V : Env} (hE : TabOK V n_subtract_E) (Γ : Base) (hg : Γ.gb = V.gb) (h0 : V.G Γ.w) : Sound V Γ (.loop (lb (bb (sr (sl (sr (sr (fb Tryz.f164)))))))) fun ρ => (loopF n_subtract_s3_A [Ex.exit 0] n_subtract_s3).f ρ :=
  loop_ok hE hg h0 (by rw [show loopsOf (lb (bb (sr (sl (sr (sr (fb Tryz.f164))))))) = [] from by kernel_rfl]; exact lpNil) n_subtract_s3_run
theorem n_subtract_good {V : Env} (hP : V.P = Tryz.prog) : Good V 164 n_subtract_C :=
  have hE := n_subtract_tab hP
  good_of hE (hP ▸ Tryz.func164) (show Tryz.f164.body = some (fb Tryz.f164) from rfl) (by decide) (by decide) (fun Γ hg h0 => by rw [show loopsOf (fb Tryz.f164) = [lb (bb (sr (sl (sr (sr (fb Tryz.f164))))))] from by kernel_rfl]; exact (lpCons (by kernel_rfl) (n_subtract_s3_ok hE Γ hg h0) lpNil)) (fun x => by kernel_rfl)
def n_nat_at_C : Callee := ⟨[.val (.sl (.int .u32)), .val (.int .i64)], [.val (.int .u32)], fun x => n_nat_at x.1 x.2.1⟩
def n_nat_at_ti : List (Nat × TI) := [(55, i55), (86, i86)]
def n_nat_at_fn : List (Nat × Callee) := []
def n_nat_at_lp : List (Nat × LoopO) := []
def n_nat_at_E : Tab := ⟨look n_nat_at_ti, lookC n_nat_at_fn, lookL n_nat_at_lp⟩
theorem n_nat_at_tab {V : Env} (hP : V.P = Tryz.prog) : TabOK V n_nat_at_E :=
  tab_ok (hP ▸ (tiCons tok55 (tiCons tok86 tiNil))) fnNil
theorem n_nat_at_good {V : Env} (hP : V.P = Tryz.prog) : Good V 145 n_nat_at_C :=
  have hE := n_nat_at_tab hP
  good_of hE (hP ▸ Tryz.func145) (show Tryz.f145.body = some (fb Tryz.f145) from rfl) (by decide) (by decide) (fun Γ hg h0 => by rw [show loopsOf (fb Tryz.f145) = [] from by kernel_rfl]; exact lpNil) (fun x => by kernel_rfl)
def n_restore_s2_A : Ann := ⟨30, [0, 1, 4, 8, 9], [.row (.int .u32), .val (.sl (.int .u32)), .val (.int .u32), .val (.int .i64), .val (.int .i64)], [0], []⟩
def n_restore_C : Callee := ⟨[.row (.int .u32), .val (.sl (.int .u32))], [], fun x => n_restore x.1 x.2.1⟩
def n_restore_ti : List (Nat × TI) := [(55, i55), (86, i86)]
def n_restore_fn : List (Nat × Callee) := [(145, n_nat_at_C)]
def n_restore_lp : List (Nat × LoopO) := [(2, loopF n_restore_s2_A [Ex.exit 0] n_restore_s2)]
def n_restore_E : Tab := ⟨look n_restore_ti, lookC n_restore_fn, lookL n_restore_lp⟩
theorem n_restore_tab {V : Env} (hP : V.P = Tryz.prog) (h145 : Good V 145 n_nat_at_C) : TabOK V n_restore_E :=
  tab_ok (hP ▸ (tiCons tok55 (tiCons tok86 tiNil))) (fnCons h145 fnNil)
theorem n_restore_s2_run : ∀ x, run n_restore_E (lb (bb (sr (sr (fb Tryz.f165))))) (encSt n_restore_s2_A x) (fun ex st => (decSt n_restore_s2_A st).bind fun y => some (ex, y)) = n_restore_s2 x := fun x => by kernel_rfl
theorem n_restore_s2_ok {V : Env} (hE : TabOK V n_restore_E) (Γ : Base) (hg : Γ.gb = V.gb) (h0 : V.G Γ.w) : Sound V Γ (.loop (lb (bb (sr (sr (fb Tryz.f165)))))) fun ρ => (loopF n_restore_s2_A [Ex.exit 0] n_restore_s2).f ρ :=
  loop_ok hE hg h0 (by rw [show loopsOf (lb (bb (sr (sr (fb Tryz.f165))))) = [] from by kernel_rfl]; exact lpNil) n_restore_s2_run
theorem n_restore_good {V : Env} (hP : V.P = Tryz.prog) (h145 : Good V 145 n_nat_at_C) : Good V 165 n_restore_C :=
  have hE := n_restore_tab hP h145
  good_of hE (hP ▸ Tryz.func165) (show Tryz.f165.body = some (fb Tryz.f165) from rfl) (by decide) (by decide) (fun Γ hg h0 => by rw [show loopsOf (fb Tryz.f165) = [lb (bb (sr (sr (fb Tryz.f165))))] from by kernel_rfl]; exact (lpCons (by kernel_rfl) (n_restore_s2_ok hE Γ hg h0) lpNil)) (fun x => by kernel_rfl)
def n_reduce_s4_A : Ann := ⟨77, [0, 1, 5, 7, 8, 9], [.row (.int .u32), .val (.sl (.int .u32)), .val (.int .i64), .val (.int .u64), .val (.int .u64), .val (.int .u64)], [0], []⟩
def n_reduce_C : Callee := ⟨[.row (.int .u32), .val (.sl (.int .u32))], [.val (.int .u32)], fun x => n_reduce x.1 x.2.1⟩
def n_reduce_ti : List (Nat × TI) := [(55, i55), (86, i86), (104, i104)]
def n_reduce_fn : List (Nat × Callee) := [(164, n_subtract_C), (165, n_restore_C)]
def n_reduce_lp : List (Nat × LoopO) := [(4, loopF n_reduce_s4_A [Ex.exit 0] n_reduce_s4)]
def n_reduce_E : Tab := ⟨look n_reduce_ti, lookC n_reduce_fn, lookL n_reduce_lp⟩
theorem n_reduce_tab {V : Env} (hP : V.P = Tryz.prog) (h164 : Good V 164 n_subtract_C) (h165 : Good V 165 n_restore_C) : TabOK V n_reduce_E :=
  tab_ok (hP ▸ (tiCons tok55 (tiCons tok86 (tiCons tok104 tiNil)))) (fnCons h164 (fnCons h165 fnNil))
theorem n_reduce_s4_run : ∀ x, run n_reduce_E (lb (bb (sl (sr (sr (sr (sr (fb Tryz.f143)))))))) (encSt n_reduce_s4_A x) (fun ex st => (decSt n_reduce_s4_A st).bind fun y => some (ex, y)) = n_reduce_s4 x := fun x => by kernel_rfl
theorem n_reduce_s4_ok {V : Env} (hE : TabOK V n_reduce_E) (Γ : Base) (hg : Γ.gb = V.gb) (h0 : V.G Γ.w) : Sound V Γ (.loop (lb (bb (sl (sr (sr (sr (sr (fb Tryz.f143))))))))) fun ρ => (loopF n_reduce_s4_A [Ex.exit 0] n_reduce_s4).f ρ :=
  loop_ok hE hg h0 (by rw [show loopsOf (lb (bb (sl (sr (sr (sr (sr (fb Tryz.f143)))))))) = [] from by kernel_rfl]; exact lpNil) n_reduce_s4_run
theorem n_reduce_good {V : Env} (hP : V.P = Tryz.prog) (h164 : Good V 164 n_subtract_C) (h165 : Good V 165 n_restore_C) : Good V 143 n_reduce_C :=
  have hE := n_reduce_tab hP h164 h165
  good_of hE (hP ▸ Tryz.func143) (show Tryz.f143.body = some (fb Tryz.f143) from rfl) (by decide) (by decide) (fun Γ hg h0 => by rw [show loopsOf (fb Tryz.f143) = [lb (bb (sl (sr (sr (sr (sr (fb Tryz.f143)))))))] from by kernel_rfl]; exact (lpCons (by kernel_rfl) (n_reduce_s4_ok hE Γ hg h0) lpNil)) (fun x => by kernel_rfl)
def n_nat_quoRem_s7_A : Ann := ⟨93, [0, 6, 7, 8], [.val (.sl (.int .u32)), .val (.sl (.int .u32)), .row (.int .u32), .row (.int .u32)], [], []⟩
def n_nat_quoRem_s11_A : Ann := ⟨93, [6, 7, 8, 9, 10], [.val (.sl (.int .u32)), .row (.int .u32), .row (.int .u32), .row (.int .u32), .val (.int .i64)], [], [7]⟩
def n_nat_quoRem_C : Callee := ⟨[.val (.sl (.int .u32)), .val (.sl (.int .u32))], [.val (.sl (.int .u32)), .val (.sl (.int .u32))], fun x => n_nat_quoRem x.1 x.2.1⟩
def n_nat_quoRem_ti : List (Nat × TI) := [(55, i55), (86, i86), (104, i104)]
def n_nat_quoRem_fn : List (Nat × Callee) := [(96, n_nat_trim_C), (110, n_nat_mul_r_C), (112, n_nat_cmp_C), (142, n_nat_quoLimb_C), (143, n_reduce_C)]
def n_nat_quoRem_lp : List (Nat × LoopO) := [(7, loopF n_nat_quoRem_s7_A [Ex.exit 1] n_nat_quoRem_s7), (11, loopF n_nat_quoRem_s11_A [Ex.exit 3] n_nat_quoRem_s11)]
def n_nat_quoRem_E : Tab := ⟨look n_nat_quoRem_ti, lookC n_nat_quoRem_fn, lookL n_nat_quoRem_lp⟩
theorem n_nat_quoRem_tab {V : Env} (hP : V.P = Tryz.prog) (h96 : Good V 96 n_nat_trim_C) (h110 : Good V 110 n_nat_mul_r_C) (h112 : Good V 112 n_nat_cmp_C) (h142 : Good V 142 n_nat_quoLimb_C) (h143 : Good V 143 n_reduce_C) : TabOK V n_nat_quoRem_E :=
  tab_ok (hP ▸ (tiCons tok55 (tiCons tok86 (tiCons tok104 tiNil)))) (fnCons h96 (fnCons h110 (fnCons h112 (fnCons h142 (fnCons h143 fnNil)))))
theorem n_nat_quoRem_s7_run : ∀ x, run n_nat_quoRem_E (lb (bb (sl (sr (sr (sr (sr (fb Tryz.f104)))))))) (encSt n_nat_quoRem_s7_A x) (fun ex st => (decSt n_nat_quoRem_s7_A st).bind fun y => some (ex, y)) = n_nat_quoRem_s7 x := fun x => by kernel_rfl
theorem n_nat_quoRem_s7_ok {V : Env} (hE : TabOK V n_nat_quoRem_E) (Γ : Base) (hg : Γ.gb = V.gb) (h0 : V.G Γ.w) : Sound V Γ (.loop (lb (bb (sl (sr (sr (sr (sr (fb Tryz.f104))))))))) fun ρ => (loopF n_nat_quoRem_s7_A [Ex.exit 1] n_nat_quoRem_s7).f ρ :=
  loop_ok hE hg h0 (by rw [show loopsOf (lb (bb (sl (sr (sr (sr (sr (fb Tryz.f104)))))))) = [] from by kernel_rfl]; exact lpNil) n_nat_quoRem_s7_run
theorem n_nat_quoRem_s11_run : ∀ x, run n_nat_quoRem_E (lb (bb (sr (sl (sr (sr (sr (sr (sr (sr (fb Tryz.f104))))))))))) (encSt n_nat_quoRem_s11_A x) (fun ex st => (decSt n_nat_quoRem_s11_A st).bind fun y => some (ex, y)) = n_nat_quoRem_s11 x := fun x => by kernel_rfl
theorem n_nat_quoRem_s11_ok {V : Env} (hE : TabOK V n_nat_quoRem_E) (Γ : Base) (hg : Γ.gb = V.gb) (h0 : V.G Γ.w) : Sound V Γ (.loop (lb (bb (sr (sl (sr (sr (sr (sr (sr (sr (fb Tryz.f104)))))))))))) fun ρ => (loopF n_nat_quoRem_s11_A [Ex.exit 3] n_nat_quoRem_s11).f ρ :=
  loop_ok hE hg h0 (by rw [show loopsOf (lb (bb (sr (sl (sr (sr (sr (sr (sr (sr (fb Tryz.f104))))))))))) = [] from by kernel_rfl]; exact lpNil) n_nat_quoRem_s11_run
theorem n_nat_quoRem_good {V : Env} (hP : V.P = Tryz.prog) (h96 : Good V 96 n_nat_trim_C) (h110 : Good V 110 n_nat_mul_r_C) (h112 : Good V 112 n_nat_cmp_C) (h142 : Good V 142 n_nat_quoLimb_C) (h143 : Good V 143 n_reduce_C) : Good V 104 n_nat_quoRem_C :=
  have hE := n_nat_quoRem_tab hP h96 h110 h112 h142 h143
  good_of hE (hP ▸ Tryz.func104) (show Tryz.f104.body = some (fb Tryz.f104) from rfl) (by decide) (by decide) (fun Γ hg h0 => by rw [show loopsOf (fb Tryz.f104) = [lb (bb (sl (sr (sr (sr (sr (fb Tryz.f104))))))), lb (bb (sr (sl (sr (sr (sr (sr (sr (sr (fb Tryz.f104))))))))))] from by kernel_rfl]; exact (lpCons (by kernel_rfl) (n_nat_quoRem_s7_ok hE Γ hg h0) (lpCons (by kernel_rfl) (n_nat_quoRem_s11_ok hE Γ hg h0) lpNil))) (fun x => by kernel_rfl)
def n_gcd_s1_A : Ann := ⟨19, [0, 1], [.val (.sl (.int .u32)), .val (.sl (.int .u32))], [], []⟩
def n_gcd_C : Callee := ⟨[.val (.sl (.int .u32)), .val (.sl (.int .u32))], [.val (.sl (.int .u32))], fun x => n_gcd x.1 x.2.1⟩
def n_gcd_ti : List (Nat × TI) := [(55, i55)]
def n_gcd_fn : List (Nat × Callee) := [(104, n_nat_quoRem_C)]
def n_gcd_lp : List (Nat × LoopO) := [(1, loopF n_gcd_s1_A [Ex.exit 0] n_gcd_s1)]
def n_gcd_E : Tab := ⟨look n_gcd_ti, lookC n_gcd_fn, lookL n_gcd_lp⟩
theorem n_gcd_tab {V : Env} (hP : V.P = Tryz.prog) (h104 : Good V 104 n_nat_quoRem_C) : TabOK V n_gcd_E :=
  tab_ok (hP ▸ (tiCons tok55 tiNil)) (fnCons h104 fnNil)
theorem n_gcd_s1_run : ∀ x, run n_gcd_E (lb (bb (sl (sr (fb Tryz.f80))))) (encSt n_gcd_s1_A x) (fun ex st => (decSt n_gcd_s1_A st).bind fun y => some (ex, y)) = n_gcd_s1 x := fun x => by kernel_rfl
theorem n_gcd_s1_ok {V : Env} (hE : TabOK V n_gcd_E) (Γ : Base) (hg : Γ.gb = V.gb) (h0 : V.G Γ.w) : Sound V Γ (.loop (lb (bb (sl (sr (fb Tryz.f80)))))) fun ρ => (loopF n_gcd_s1_A [Ex.exit 0] n_gcd_s1).f ρ :=
  loop_ok hE hg h0 (by rw [show loopsOf (lb (bb (sl (sr (fb Tryz.f80))))) = [] from by kernel_rfl]; exact lpNil) n_gcd_s1_run
theorem n_gcd_good {V : Env} (hP : V.P = Tryz.prog) (h104 : Good V 104 n_nat_quoRem_C) : Good V 80 n_gcd_C :=
  have hE := n_gcd_tab hP h104
  good_of hE (hP ▸ Tryz.func80) (show Tryz.f80.body = some (fb Tryz.f80) from rfl) (by decide) (by decide) (fun Γ hg h0 => by rw [show loopsOf (fb Tryz.f80) = [lb (bb (sl (sr (fb Tryz.f80))))] from by kernel_rfl]; exact (lpCons (by kernel_rfl) (n_gcd_s1_ok hE Γ hg h0) lpNil)) (fun x => by kernel_rfl)
def n_nat_one_C : Callee := ⟨[.val (.sl (.int .u32))], [.val .bool], fun x => n_nat_one x.1⟩
def n_nat_one_ti : List (Nat × TI) := [(55, i55), (86, i86)]
def n_nat_one_fn : List (Nat × Callee) := []
def n_nat_one_lp : List (Nat × LoopO) := []
def n_nat_one_E : Tab := ⟨look n_nat_one_ti, lookC n_nat_one_fn, lookL n_nat_one_lp⟩
theorem n_nat_one_tab {V : Env} (hP : V.P = Tryz.prog) : TabOK V n_nat_one_E :=
  tab_ok (hP ▸ (tiCons tok55 (tiCons tok86 tiNil))) fnNil
theorem n_nat_one_good {V : Env} (hP : V.P = Tryz.prog) : Good V 103 n_nat_one_C :=
  have hE := n_nat_one_tab hP
  good_of hE (hP ▸ Tryz.func103) (show Tryz.f103.body = some (fb Tryz.f103) from rfl) (by decide) (by decide) (fun Γ hg h0 => by rw [show loopsOf (fb Tryz.f103) = [] from by kernel_rfl]; exact lpNil) (fun x => by kernel_rfl)
def n_lowest_C : Callee := ⟨[.val .bool, .val (.sl (.int .u32)), .val (.sl (.int .u32))], [.val (.pair .bool (.pair (.sl (.int .u32)) (.sl (.int .u32))))], fun x => n_lowest x.1 x.2.1 x.2.2.1⟩
def n_lowest_ti : List (Nat × TI) := [(4, i4), (55, i55), (59, i59)]
def n_lowest_fn : List (Nat × Callee) := [(80, n_gcd_C), (103, n_nat_one_C), (104, n_nat_quoRem_C)]
def n_lowest_lp : List (Nat × LoopO) := []
def n_lowest_E : Tab := ⟨look n_lowest_ti, lookC n_lowest_fn, lookL n_lowest_lp⟩
theorem n_lowest_tab {V : Env} (hP : V.P = Tryz.prog) (h80 : Good V 80 n_gcd_C) (h103 : Good V 103 n_nat_one_C) (h104 : Good V 104 n_nat_quoRem_C) : TabOK V n_lowest_E :=
  tab_ok (hP ▸ (tiCons tok4 (tiCons tok55 (tiCons tok59 tiNil)))) (fnCons h80 (fnCons h103 (fnCons h104 fnNil)))
theorem n_lowest_good {V : Env} (hP : V.P = Tryz.prog) (h80 : Good V 80 n_gcd_C) (h103 : Good V 103 n_nat_one_C) (h104 : Good V 104 n_nat_quoRem_C) : Good V 55 n_lowest_C :=
  have hE := n_lowest_tab hP h80 h103 h104
  good_of hE (hP ▸ Tryz.func55) (show Tryz.f55.body = some (fb Tryz.f55) from rfl) (by decide) (by decide) (fun Γ hg h0 => by rw [show loopsOf (fb Tryz.f55) = [] from by kernel_rfl]; exact lpNil) (fun x => by kernel_rfl)
def n_rat_text_C : Callee := ⟨[.val (.pair .bool (.pair (.sl (.int .u32)) (.sl (.int .u32))))], [.val .str], fun x => n_rat_text x.1⟩
def n_rat_text_ti : List (Nat × TI) := [(4, i4), (55, i55), (59, i59)]
def n_rat_text_fn : List (Nat × Callee) := [(81, n_nat_text_C), (103, n_nat_one_C)]
def n_rat_text_lp : List (Nat × LoopO) := []
def n_rat_text_E : Tab := ⟨look n_rat_text_ti, lookC n_rat_text_fn, lookL n_rat_text_lp⟩
theorem n_rat_text_tab {V : Env} (hP : V.P = Tryz.prog) (h81 : Good V 81 n_nat_text_C) (h103 : Good V 103 n_nat_one_C) : TabOK V n_rat_text_E :=
  tab_ok (hP ▸ (tiCons tok4 (tiCons tok55 (tiCons tok59 tiNil)))) (fnCons h81 (fnCons h103 fnNil))
theorem n_rat_text_good {V : Env} (hP : V.P = Tryz.prog) (h81 : Good V 81 n_nat_text_C) (h103 : Good V 103 n_nat_one_C) : Good V 56 n_rat_text_C :=
  have hE := n_rat_text_tab hP h81 h103
  good_of hE (hP ▸ Tryz.func56) (show Tryz.f56.body = some (fb Tryz.f56) from rfl) (by decide) (by decide) (fun Γ hg h0 => by rw [show loopsOf (fb Tryz.f56) = [] from by kernel_rfl]; exact lpNil) (fun x => by kernel_rfl)
def n_Parse_C : Callee := ⟨[.val .str], [.val .str, .val .bool], fun x => n_Parse x.1⟩
def n_Parse_ti : List (Nat × TI) := [(9, i9)]
def n_Parse_fn : List (Nat × Callee) := [(50, strings_CutPrefix_C), (51, strings_Cut_C), (52, n_figures_C), (53, n_natOf_C), (54, strings_Repeat_C), (55, n_lowest_C), (56, n_rat_text_C)]
def n_Parse_lp : List (Nat × LoopO) := []
def n_Parse_E : Tab := ⟨look n_Parse_ti, lookC n_Parse_fn, lookL n_Parse_lp⟩
theorem n_Parse_tab {V : Env} (hP : V.P = Tryz.prog) (h50 : Good V 50 strings_CutPrefix_C) (h51 : Good V 51 strings_Cut_C) (h52 : Good V 52 n_figures_C) (h53 : Good V 53 n_natOf_C) (h54 : Good V 54 strings_Repeat_C) (h55 : Good V 55 n_lowest_C) (h56 : Good V 56 n_rat_text_C) : TabOK V n_Parse_E :=
  tab_ok (hP ▸ (tiCons tok9 tiNil)) (fnCons h50 (fnCons h51 (fnCons h52 (fnCons h53 (fnCons h54 (fnCons h55 (fnCons h56 fnNil)))))))
theorem n_Parse_good {V : Env} (hP : V.P = Tryz.prog) (h50 : Good V 50 strings_CutPrefix_C) (h51 : Good V 51 strings_Cut_C) (h52 : Good V 52 n_figures_C) (h53 : Good V 53 n_natOf_C) (h54 : Good V 54 strings_Repeat_C) (h55 : Good V 55 n_lowest_C) (h56 : Good V 56 n_rat_text_C) : Good V 17 n_Parse_C :=
  have hE := n_Parse_tab hP h50 h51 h52 h53 h54 h55 h56
  good_of hE (hP ▸ Tryz.func17) (show Tryz.f17.body = some (fb Tryz.f17) from rfl) (by decide) (by decide) (fun Γ hg h0 => by rw [show loopsOf (fb Tryz.f17) = [] from by kernel_rfl]; exact lpNil) (fun x => by kernel_rfl)
def n_divisor_s1_A : Ann := ⟨12, [0, 1], [.val (.int .i64), .val (.int .i64)], [], []⟩
def n_divisor_C : Callee := ⟨[.val (.int .i64), .val (.int .i64)], [.val (.int .i64)], fun x => n_divisor x.1 x.2.1⟩
def n_divisor_ti : List (Nat × TI) := []
def n_divisor_fn : List (Nat × Callee) := []
def n_divisor_lp : List (Nat × LoopO) := [(1, loopF n_divisor_s1_A [Ex.exit 0] n_divisor_s1)]
def n_divisor_E : Tab := ⟨look n_divisor_ti, lookC n_divisor_fn, lookL n_divisor_lp⟩
theorem n_divisor_tab {V : Env} (hP : V.P = Tryz.prog) : TabOK V n_divisor_E :=
  tab_ok (hP ▸ tiNil) fnNil
theorem n_divisor_s1_run : ∀ x, run n_divisor_E (lb (bb (sl (sr (fb Tryz.f108))))) (encSt n_divisor_s1_A x) (fun ex st => (decSt n_divisor_s1_A st).bind fun y => some (ex, y)) = n_divisor_s1 x := fun x => by kernel_rfl
theorem n_divisor_s1_ok {V : Env} (hE : TabOK V n_divisor_E) (Γ : Base) (hg : Γ.gb = V.gb) (h0 : V.G Γ.w) : Sound V Γ (.loop (lb (bb (sl (sr (fb Tryz.f108)))))) fun ρ => (loopF n_divisor_s1_A [Ex.exit 0] n_divisor_s1).f ρ :=
  loop_ok hE hg h0 (by rw [show loopsOf (lb (bb (sl (sr (fb Tryz.f108))))) = [] from by kernel_rfl]; exact lpNil) n_divisor_s1_run
theorem n_divisor_good {V : Env} (hP : V.P = Tryz.prog) : Good V 108 n_divisor_C :=
  have hE := n_divisor_tab hP
  good_of hE (hP ▸ Tryz.func108) (show Tryz.f108.body = some (fb Tryz.f108) from rfl) (by decide) (by decide) (fun Γ hg h0 => by rw [show loopsOf (fb Tryz.f108) = [lb (bb (sl (sr (fb Tryz.f108))))] from by kernel_rfl]; exact (lpCons (by kernel_rfl) (n_divisor_s1_ok hE Γ hg h0) lpNil)) (fun x => by kernel_rfl)
def n_fraction_C : Callee := ⟨[.val (.int .i64), .val (.int .i64)], [.val .str], fun x => n_fraction x.1 x.2.1⟩
def n_fraction_ti : List (Nat × TI) := []
def n_fraction_fn : List (Nat × Callee) := [(108, n_divisor_C), (109, strconv_FormatInt_C)]
def n_fraction_lp : List (Nat × LoopO) := []
def n_fraction_E : Tab := ⟨look n_fraction_ti, lookC n_fraction_fn, lookL n_fraction_lp⟩
theorem n_fraction_tab {V : Env} (hP : V.P = Tryz.prog) (h108 : Good V 108 n_divisor_C) (h109 : Good V 109 strconv_FormatInt_C) : TabOK V n_fraction_E :=
  tab_ok (hP ▸ tiNil) (fnCons h108 (fnCons h109 fnNil))
theorem n_fraction_good {V : Env} (hP : V.P = Tryz.prog) (h108 : Good V 108 n_divisor_C) (h109 : Good V 109 strconv_FormatInt_C) : Good V 64 n_fraction_C :=
  have hE := n_fraction_tab hP h108 h109
  good_of hE (hP ▸ Tryz.func64) (show Tryz.f64.body = some (fb Tryz.f64) from rfl) (by decide) (by decide) (fun Γ hg h0 => by rw [show loopsOf (fb Tryz.f64) = [] from by kernel_rfl]; exact lpNil) (fun x => by kernel_rfl)
def n_Add_1_C : Callee := ⟨[.val (.pair (.int .i64) (.int .i64)), .val (.pair (.int .i64) (.int .i64))], [.val .str], fun x => n_Add_1 x.1 x.2.1⟩
def n_Add_1_ti : List (Nat × TI) := [(2, i2), (66, i66)]
def n_Add_1_fn : List (Nat × Callee) := [(64, n_fraction_C)]
def n_Add_1_lp : List (Nat × LoopO) := []
def n_Add_1_E : Tab := ⟨look n_Add_1_ti, lookC n_Add_1_fn, lookL n_Add_1_lp⟩
theorem n_Add_1_tab {V : Env} (hP : V.P = Tryz.prog) (h64 : Good V 64 n_fraction_C) : TabOK V n_Add_1_E :=
  tab_ok (hP ▸ (tiCons tok2 (tiCons tok66 tiNil))) (fnCons h64 fnNil)
theorem n_Add_1_good {V : Env} (hP : V.P = Tryz.prog) (h64 : Good V 64 n_fraction_C) : Good V 63 n_Add_1_C :=
  have hE := n_Add_1_tab hP h64
  good_of hE (hP ▸ Tryz.func63) (show Tryz.f63.body = some (fb Tryz.f63) from rfl) (by decide) (by decide) (fun Γ hg h0 => by rw [show loopsOf (fb Tryz.f63) = [] from by kernel_rfl]; exact lpNil) (fun x => by kernel_rfl)
def n_nat_mul_s7_A : Ann := ⟨69, [1, 5, 6, 7, 8, 18, 19, 20, 25, 26, 27], [.val (.sl (.int .u32)), .row (.int .u32), .val (.int .i64), .val (.int .u32), .val (.int .u64), .val (.sl (.int .u32)), .val (.int .i64), .val (.int .i64), .val (.sl (.int .u32)), .val (.int .i64), .val (.int .i64)], [], []⟩
def n_nat_mul_s3_A : Ann := ⟨69, [1, 5, 18, 19, 20], [.val (.sl (.int .u32)), .row (.int .u32), .val (.sl (.int .u32)), .val (.int .i64), .val (.int .i64)], [], []⟩
def n_nat_mul_C : Callee := ⟨[.val (.sl (.int .u32)), .val (.sl (.int .u32))], [.val (.sl (.int .u32))], fun x => n_nat_mul x.1 x.2.1⟩
def n_nat_mul_ti : List (Nat × TI) := [(55, i55), (86, i86), (104, i104)]
def n_nat_mul_fn : List (Nat × Callee) := [(96, n_nat_trim_C)]
def n_nat_mul_lp : List (Nat × LoopO) := [(7, loopF n_nat_mul_s7_A [Ex.exit 2] n_nat_mul_s7), (3, loopF n_nat_mul_s3_A [Ex.exit 0] n_nat_mul_s3)]
def n_nat_mul_E : Tab := ⟨look n_nat_mul_ti, lookC n_nat_mul_fn, lookL n_nat_mul_lp⟩
theorem n_nat_mul_tab {V : Env} (hP : V.P = Tryz.prog) (h96 : Good V 96 n_nat_trim_C) : TabOK V n_nat_mul_E :=
  tab_ok (hP ▸ (tiCons tok55 (tiCons tok86 (tiCons tok104 tiNil)))) (fnCons h96 fnNil)
theorem n_nat_mul_s7_run : ∀ x, run n_nat_mul_E (lb (bb (sr (sl (sr (sr (bb (sl (sr (sr (lb (bb (sr (sl (sr (sr (fb Tryz.f110))))))))))))))))) (encSt n_nat_mul_s7_A x) (fun ex st => (decSt n_nat_mul_s7_A st).bind fun y => some (ex, y)) = n_nat_mul_s7 x := fun x => by kernel_rfl
theorem n_nat_mul_s7_ok {V : Env} (hE : TabOK V n_nat_mul_E) (Γ : Base) (hg : Γ.gb = V.gb) (h0 : V.G Γ.w) : Sound V Γ (.loop (lb (bb (sr (sl (sr (sr (bb (sl (sr (sr (lb (bb (sr (sl (sr (sr (fb Tryz.f110)))))))))))))))))) fun ρ => (loopF n_nat_mul_s7_A [Ex.exit 2] n_nat_mul_s7).f ρ :=
  loop_ok hE hg h0 (by rw [show loopsOf (lb (bb (sr (sl (sr (sr (bb (sl (sr (sr (lb (bb (sr (sl (sr (sr (fb Tryz.f110))))))))))))))))) = [] from by kernel_rfl]; exact lpNil) n_nat_mul_s7_run
theorem n_nat_mul_s3_run : ∀ x, run n_nat_mul_E (lb (bb (sr (sl (sr (sr (fb Tryz.f110))))))) (encSt n_nat_mul_s3_A x) (fun ex st => (decSt n_nat_mul_s3_A st).bind fun y => some (ex, y)) = n_nat_mul_s3 x := fun x => by kernel_rfl
theorem n_nat_mul_s3_ok {V : Env} (hE : TabOK V n_nat_mul_E) (Γ : Base) (hg : Γ.gb = V.gb) (h0 : V.G Γ.w) : Sound V Γ (.loop (lb (bb (sr (sl (sr (sr (fb Tryz.f110)))))))) fun ρ => (loopF n_nat_mul_s3_A [Ex.exit 0] n_nat_mul_s3).f ρ :=
  loop_ok hE hg h0 (by rw [show loopsOf (lb (bb (sr (sl (sr (sr (fb Tryz.f110))))))) = [lb (bb (sr (sl (sr (sr (bb (sl (sr (sr (lb (bb (sr (sl (sr (sr (fb Tryz.f110))))))))))))))))] from by kernel_rfl]; exact (lpCons (by kernel_rfl) (n_nat_mul_s7_ok hE Γ hg h0) lpNil)) n_nat_mul_s3_run
theorem n_nat_mul_good {V : Env} (hP : V.P = Tryz.prog) (h96 : Good V 96 n_nat_trim_C) : Good V 110 n_nat_mul_C :=
  have hE := n_nat_mul_tab hP h96
  good_of hE (hP ▸ Tryz.func110) (show Tryz.f110.body = some (fb Tryz.f110) from rfl) (by decide) (by decide) (fun Γ hg h0 => by rw [show loopsOf (fb Tryz.f110) = [lb (bb (sr (sl (sr (sr (fb Tryz.f110))))))] from by kernel_rfl]; exact (lpCons (by kernel_rfl) (n_nat_mul_s3_ok hE Γ hg h0) lpNil)) (fun x => by kernel_rfl)
def n_nat_add_s4_A : Ann := ⟨46, [0, 1, 5, 6, 20, 21], [.val (.sl (.int .u32)), .val (.sl (.int .u32)), .row (.int .u32), .val (.int .u32), .val (.int .i64), .val (.int .i64)], [], []⟩
def n_nat_add_C : Callee := ⟨[.val (.sl (.int .u32)), .val (.sl (.int .u32))], [.val (.sl (.int .u32))], fun x => n_nat_add x.1 x.2.1⟩
def n_nat_add_ti : List (Nat × TI) := [(55, i55), (86, i86)]
def n_nat_add_fn : List (Nat × Callee) := [(96, n_nat_trim_C), (145, n_nat_at_C)]
def n_nat_add_lp : List (Nat × LoopO) := [(4, loopF n_nat_add_s4_A [Ex.exit 0] n_nat_add_s4)]
def n_nat_add_E : Tab := ⟨look n_nat_add_ti, lookC n_nat_add_fn, lookL n_nat_add_lp⟩
theorem n_nat_add_tab {V : Env} (hP : V.P = Tryz.prog) (h96 : Good V 96 n_nat_trim_C) (h145 : Good V 145 n_nat_at_C) : TabOK V n_nat_add_E :=
  tab_ok (hP ▸ (tiCons tok55 (tiCons tok86 tiNil))) (fnCons h96 (fnCons h145 fnNil))
theorem n_nat_add_s4_run : ∀ x, run n_nat_add_E (lb (bb (sr (sl (sr (sr (sr (fb Tryz.f111)))))))) (encSt n_nat_add_s4_A x) (fun ex st => (decSt n_nat_add_s4_A st).bind fun y => some (ex, y)) = n_nat_add_s4 x := fun x => by kernel_rfl
theorem n_nat_add_s4_ok {V : Env} (hE : TabOK V n_nat_add_E) (Γ : Base) (hg : Γ.gb = V.gb) (h0 : V.G Γ.w) : Sound V Γ (.loop (lb (bb (sr (sl (sr (sr (sr (fb Tryz.f111))))))))) fun ρ => (loopF n_nat_add_s4_A [Ex.exit 0] n_nat_add_s4).f ρ :=
  loop_ok hE hg h0 (by rw [show loopsOf (lb (bb (sr (sl (sr (sr (sr (fb Tryz.f111)))))))) = [] from by kernel_rfl]; exact lpNil) n_nat_add_s4_run
theorem n_nat_add_good {V : Env} (hP : V.P = Tryz.prog) (h96 : Good V 96 n_nat_trim_C) (h145 : Good V 145 n_nat_at_C) : Good V 111 n_nat_add_C :=
  have hE := n_nat_add_tab hP h96 h145
  good_of hE (hP ▸ Tryz.func111) (show Tryz.f111.body = some (fb Tryz.f111) from rfl) (by decide) (by decide) (fun Γ hg h0 => by rw [show loopsOf (fb Tryz.f111) = [lb (bb (sr (sl (sr (sr (sr (fb Tryz.f111)))))))] from by kernel_rfl]; exact (lpCons (by kernel_rfl) (n_nat_add_s4_ok hE Γ hg h0) lpNil)) (fun x => by kernel_rfl)
def n_nat_sub_s4_A : Ann := ⟨41, [0, 1, 5, 6, 13, 14], [.val (.sl (.int .u32)), .val (.sl (.int .u32)), .row (.int .u32), .val (.int .i64), .val (.int .i64), .val (.int .i64)], [], []⟩
def n_nat_sub_C : Callee := ⟨[.val (.sl (.int .u32)), .val (.sl (.int .u32))], [.val (.sl (.int .u32))], fun x => n_nat_sub x.1 x.2.1⟩
def n_nat_sub_ti : List (Nat × TI) := [(2, i2), (55, i55), (86, i86)]
def n_nat_sub_fn : List (Nat × Callee) := [(96, n_nat_trim_C), (145, n_nat_at_C)]
def n_nat_sub_lp : List (Nat × LoopO) := [(4, loopF n_nat_sub_s4_A [Ex.exit 0] n_nat_sub_s4)]
def n_nat_sub_E : Tab := ⟨look n_nat_sub_ti, lookC n_nat_sub_fn, lookL n_nat_sub_lp⟩
theorem n_nat_sub_tab {V : Env} (hP : V.P = Tryz.prog) (h96 : Good V 96 n_nat_trim_C) (h145 : Good V 145 n_nat_at_C) : TabOK V n_nat_sub_E :=
  tab_ok (hP ▸ (tiCons tok2 (tiCons tok55 (tiCons tok86 tiNil)))) (fnCons h96 (fnCons h145 fnNil))
theorem n_nat_sub_s4_run : ∀ x, run n_nat_sub_E (lb (bb (sr (sl (sr (sr (sr (fb Tryz.f113)))))))) (encSt n_nat_sub_s4_A x) (fun ex st => (decSt n_nat_sub_s4_A st).bind fun y => some (ex, y)) = n_nat_sub_s4 x := fun x => by kernel_rfl
theorem n_nat_sub_s4_ok {V : Env} (hE : TabOK V n_nat_sub_E) (Γ : Base) (hg : Γ.gb = V.gb) (h0 : V.G Γ.w) : Sound V Γ (.loop (lb (bb (sr (sl (sr (sr (sr (fb Tryz.f113))))))))) fun ρ => (loopF n_nat_sub_s4_A [Ex.exit 0] n_nat_sub_s4).f ρ :=
  loop_ok hE hg h0 (by rw [show loopsOf (lb (bb (sr (sl (sr (sr (sr (fb Tryz.f113)))))))) = [] from by kernel_rfl]; exact lpNil) n_nat_sub_s4_run
theorem n_nat_sub_good {V : Env} (hP : V.P = Tryz.prog) (h96 : Good V 96 n_nat_trim_C) (h145 : Good V 145 n_nat_at_C) : Good V 113 n_nat_sub_C :=
  have hE := n_nat_sub_tab hP h96 h145
  good_of hE (hP ▸ Tryz.func113) (show Tryz.f113.body = some (fb Tryz.f113) from rfl) (by decide) (by decide) (fun Γ hg h0 => by rw [show loopsOf (fb Tryz.f113) = [lb (bb (sr (sl (sr (sr (sr (fb Tryz.f113)))))))] from by kernel_rfl]; exact (lpCons (by kernel_rfl) (n_nat_sub_s4_ok hE Γ hg h0) lpNil)) (fun x => by kernel_rfl)
def n_rat_add_C : Callee := ⟨[.val (.pair .bool (.pair (.sl (.int .u32)) (.sl (.int .u32)))), .val (.pair .bool (.pair (.sl (.int .u32)) (.sl (.int .u32))))], [.val (.pair .bool (.pair (.sl (.int .u32)) (.sl (.int .u32))))], fun x => n_rat_add x.1 x.2.1⟩
def n_rat_add_ti : List (Nat × TI) := [(4, i4), (55, i55), (59, i59)]
def n_rat_add_fn : List (Nat × Callee) := [(55, n_lowest_C), (110, n_nat_mul_C), (111, n_nat_add_C), (112, n_nat_cmp_C), (113, n_nat_sub_C)]
def n_rat_add_lp : List (Nat × LoopO) := []
def n_rat_add_E : Tab := ⟨look n_rat_add_ti, lookC n_rat_add_fn, lookL n_rat_add_lp⟩
theorem n_rat_add_tab {V : Env} (hP : V.P = Tryz.prog) (h55 : Good V 55 n_lowest_C) (h110 : Good V 110 n_nat_mul_C) (h111 : Good V 111 n_nat_add_C) (h112 : Good V 112 n_nat_cmp_C) (h113 : Good V 113 n_nat_sub_C) : TabOK V n_rat_add_E :=
  tab_ok (hP ▸ (tiCons tok4 (tiCons tok55 (tiCons tok59 tiNil)))) (fnCons h55 (fnCons h110 (fnCons h111 (fnCons h112 (fnCons h113 fnNil)))))
theorem n_rat_add_good {V : Env} (hP : V.P = Tryz.prog) (h55 : Good V 55 n_lowest_C) (h110 : Good V 110 n_nat_mul_C) (h111 : Good V 111 n_nat_add_C) (h112 : Good V 112 n_nat_cmp_C) (h113 : Good V 113 n_nat_sub_C) : Good V 66 n_rat_add_C :=
  have hE := n_rat_add_tab hP h55 h110 h111 h112 h113
  good_of hE (hP ▸ Tryz.func66) (show Tryz.f66.body = some (fb Tryz.f66) from rfl) (by decide) (by decide) (fun Γ hg h0 => by rw [show loopsOf (fb Tryz.f66) = [] from by kernel_rfl]; exact lpNil) (fun x => by kernel_rfl)
def n_Add_2_C : Callee := ⟨[.val (.pair .bool (.pair (.sl (.int .u32)) (.sl (.int .u32)))), .val (.pair .bool (.pair (.sl (.int .u32)) (.sl (.int .u32))))], [.val .str], fun x => n_Add_2 x.1 x.2.1⟩
def n_Add_2_ti : List (Nat × TI) := [(59, i59)]
def n_Add_2_fn : List (Nat × Callee) := [(56, n_rat_text_C), (66, n_rat_add_C)]
def n_Add_2_lp : List (Nat × LoopO) := []
def n_Add_2_E : Tab := ⟨look n_Add_2_ti, lookC n_Add_2_fn, lookL n_Add_2_lp⟩
theorem n_Add_2_tab {V : Env} (hP : V.P = Tryz.prog) (h56 : Good V 56 n_rat_text_C) (h66 : Good V 66 n_rat_add_C) : TabOK V n_Add_2_E :=
  tab_ok (hP ▸ (tiCons tok59 tiNil)) (fnCons h56 (fnCons h66 fnNil))
theorem n_Add_2_good {V : Env} (hP : V.P = Tryz.prog) (h56 : Good V 56 n_rat_text_C) (h66 : Good V 66 n_rat_add_C) : Good V 65 n_Add_2_C :=
  have hE := n_Add_2_tab hP h56 h66
  good_of hE (hP ▸ Tryz.func65) (show Tryz.f65.body = some (fb Tryz.f65) from rfl) (by decide) (by decide) (fun Γ hg h0 => by rw [show loopsOf (fb Tryz.f65) = [] from by kernel_rfl]; exact lpNil) (fun x => by kernel_rfl)
def n_numeral_s2_A : Ann := ⟨30, [0, 2, 6, 7, 8], [.val .str, .val .bool, .val (.sl (.int .u8)), .val (.int .i64), .val (.int .i64)], [], []⟩
def n_numeral_C : Callee := ⟨[.val .str], [.val .bool], fun x => n_numeral x.1⟩
def n_numeral_ti : List (Nat × TI) := [(5, i5), (9, i9), (49, i49)]
def n_numeral_fn : List (Nat × Callee) := []
def n_numeral_lp : List (Nat × LoopO) := [(2, loopF n_numeral_s2_A [Ex.exit 0, Ex.ret] n_numeral_s2)]
def n_numeral_E : Tab := ⟨look n_numeral_ti, lookC n_numeral_fn, lookL n_numeral_lp⟩
theorem n_numeral_tab {V : Env} (hP : V.P = Tryz.prog) : TabOK V n_numeral_E :=
  tab_ok (hP ▸ (tiCons tok5 (tiCons tok9 (tiCons tok49 tiNil)))) fnNil
theorem n_numeral_s2_run : ∀ x, run n_numeral_E (lb (bb (sr (sl (sr (fb Tryz.f72)))))) (encSt n_numeral_s2_A x) (fun ex st => (decSt n_numeral_s2_A st).bind fun y => some (ex, y)) = n_numeral_s2 x := fun x => by kernel_rfl
theorem n_numeral_s2_ok {V : Env} (hE : TabOK V n_numeral_E) (Γ : Base) (hg : Γ.gb = V.gb) (h0 : V.G Γ.w) : Sound V Γ (.loop (lb (bb (sr (sl (sr (fb Tryz.f72))))))) fun ρ => (loopF n_numeral_s2_A [Ex.exit 0, Ex.ret] n_numeral_s2).f ρ :=
  loop_ok hE hg h0 (by rw [show loopsOf (lb (bb (sr (sl (sr (fb Tryz.f72)))))) = [] from by kernel_rfl]; exact lpNil) n_numeral_s2_run
theorem n_numeral_good {V : Env} (hP : V.P = Tryz.prog) : Good V 72 n_numeral_C :=
  have hE := n_numeral_tab hP
  good_of hE (hP ▸ Tryz.func72) (show Tryz.f72.body = some (fb Tryz.f72) from rfl) (by decide) (by decide) (fun Γ hg h0 => by rw [show loopsOf (fb Tryz.f72) = [lb (bb (sr (sl (sr (fb Tryz.f72)))))] from by kernel_rfl]; exact (lpCons (by kernel_rfl) (n_numeral_s2_ok hE Γ hg h0) lpNil)) (fun x => by kernel_rfl)
def n_read_C : Callee := ⟨[.val .str], [.val (.pair .bool (.pair (.sl (.int .u32)) (.sl (.int .u32)))), .val .bool], fun x => n_read x.1⟩
def n_read_ti : List (Nat × TI) := [(4, i4), (55, i55), (59, i59), (86, i86)]
def n_read_fn : List (Nat × Callee) := [(50, strings_CutPrefix_C), (51, strings_Cut_C), (53, n_natOf_C), (72, n_numeral_C), (80, n_gcd_C), (103, n_nat_one_C)]
def n_read_lp : List (Nat × LoopO) := []
def n_read_E : Tab := ⟨look n_read_ti, lookC n_read_fn, lookL n_read_lp⟩
theorem n_read_tab {V : Env} (hP : V.P = Tryz.prog) (h50 : Good V 50 strings_CutPrefix_C) (h51 : Good V 51 strings_Cut_C) (h53 : Good V 53 n_natOf_C) (h72 : Good V 72 n_numeral_C) (h80 : Good V 80 n_gcd_C) (h103 : Good V 103 n_nat_one_C) : TabOK V n_read_E :=
  tab_ok (hP ▸ (tiCons tok4 (tiCons tok55 (tiCons tok59 (tiCons tok86 tiNil))))) (fnCons h50 (fnCons h51 (fnCons h53 (fnCons h72 (fnCons h80 (fnCons h103 fnNil))))))
theorem n_read_good {V : Env} (hP : V.P = Tryz.prog) (h50 : Good V 50 strings_CutPrefix_C) (h51 : Good V 51 strings_Cut_C) (h53 : Good V 53 n_natOf_C) (h72 : Good V 72 n_numeral_C) (h80 : Good V 80 n_gcd_C) (h103 : Good V 103 n_nat_one_C) : Good V 79 n_read_C :=
  have hE := n_read_tab hP h50 h51 h53 h72 h80 h103
  good_of hE (hP ▸ Tryz.func79) (show Tryz.f79.body = some (fb Tryz.f79) from rfl) (by decide) (by decide) (fun Γ hg h0 => by rw [show loopsOf (fb Tryz.f79) = [] from by kernel_rfl]; exact lpNil) (fun x => by kernel_rfl)
def n_smallOf_C : Callee := ⟨[.val .str], [.val (.pair (.int .i64) (.int .i64)), .val .bool], fun x => n_smallOf x.1⟩
def n_smallOf_ti : List (Nat × TI) := [(2, i2), (9, i9), (66, i66)]
def n_smallOf_fn : List (Nat × Callee) := [(50, strings_CutPrefix_C), (51, strings_Cut_C), (72, n_numeral_C), (108, n_divisor_C), (128, strconv_ParseInt_C)]
def n_smallOf_lp : List (Nat × LoopO) := []
def n_smallOf_E : Tab := ⟨look n_smallOf_ti, lookC n_smallOf_fn, lookL n_smallOf_lp⟩
theorem n_smallOf_tab {V : Env} (hP : V.P = Tryz.prog) (h50 : Good V 50 strings_CutPrefix_C) (h51 : Good V 51 strings_Cut_C) (h72 : Good V 72 n_numeral_C) (h108 : Good V 108 n_divisor_C) (h128 : Good V 128 strconv_ParseInt_C) : TabOK V n_smallOf_E :=
  tab_ok (hP ▸ (tiCons tok2 (tiCons tok9 (tiCons tok66 tiNil)))) (fnCons h50 (fnCons h51 (fnCons h72 (fnCons h108 (fnCons h128 fnNil)))))
theorem n_smallOf_good {V : Env} (hP : V.P = Tryz.prog) (h50 : Good V 50 strings_CutPrefix_C) (h51 : Good V 51 strings_Cut_C) (h72 : Good V 72 n_numeral_C) (h108 : Good V 108 n_divisor_C) (h128 : Good V 128 strconv_ParseInt_C) : Good V 92 n_smallOf_C :=
  have hE := n_smallOf_tab hP h50 h51 h72 h108 h128
  good_of hE (hP ▸ Tryz.func92) (show Tryz.f92.body = some (fb Tryz.f92) from rfl) (by decide) (by decide) (fun Γ hg h0 => by rw [show loopsOf (fb Tryz.f92) = [] from by kernel_rfl]; exact lpNil) (fun x => by kernel_rfl)
def n_two_a_C : Callee := ⟨[.val .str, .val .str, .val (.fnv 63 .unit), .val (.fnv 65 .unit)], [.val .str], fun x => n_two_a x.1 x.2.1 x.2.2.1 x.2.2.2.1⟩
def n_two_a_ti : List (Nat × TI) := [(59, i59), (66, i66)]
def n_two_a_fn : List (Nat × Callee) := [(63, n_Add_1_C), (65, n_Add_2_C), (79, n_read_C), (92, n_smallOf_C)]
def n_two_a_lp : List (Nat × LoopO) := []
def n_two_a_E : Tab := ⟨look n_two_a_ti, lookC n_two_a_fn, lookL n_two_a_lp⟩
theorem n_two_a_tab {V : Env} (hP : V.P = Tryz.prog) (h63 : Good V 63 n_Add_1_C) (h65 : Good V 65 n_Add_2_C) (h79 : Good V 79 n_read_C) (h92 : Good V 92 n_smallOf_C) : TabOK V n_two_a_E :=
  tab_ok (hP ▸ (tiCons tok59 (tiCons tok66 tiNil))) (fnCons h63 (fnCons h65 (fnCons h79 (fnCons h92 fnNil))))
theorem n_two_a_good {V : Env} (hP : V.P = Tryz.prog) (h63 : Good V 63 n_Add_1_C) (h65 : Good V 65 n_Add_2_C) (h79 : Good V 79 n_read_C) (h92 : Good V 92 n_smallOf_C) : Good V 62 n_two_a_C :=
  have hE := n_two_a_tab hP h63 h65 h79 h92
  good_of hE (hP ▸ Tryz.func62) (show Tryz.f62.body = some (fb Tryz.f62) from rfl) (by decide) (by decide) (fun Γ hg h0 => by rw [show loopsOf (fb Tryz.f62) = [] from by kernel_rfl]; exact lpNil) (fun x => by kernel_rfl)
def n_Add_C : Callee := ⟨[.val .str, .val .str], [.val .str], fun x => n_Add x.1 x.2.1⟩
def n_Add_ti : List (Nat × TI) := []
def n_Add_fn : List (Nat × Callee) := [(62, n_two_a_C)]
def n_Add_lp : List (Nat × LoopO) := []
def n_Add_E : Tab := ⟨look n_Add_ti, lookC n_Add_fn, lookL n_Add_lp⟩
theorem n_Add_tab {V : Env} (hP : V.P = Tryz.prog) (h62 : Good V 62 n_two_a_C) : TabOK V n_Add_E :=
  tab_ok (hP ▸ tiNil) (fnCons h62 fnNil)
theorem n_Add_good {V : Env} (hP : V.P = Tryz.prog) (h62 : Good V 62 n_two_a_C) : Good V 21 n_Add_C :=
  have hE := n_Add_tab hP h62
  good_of hE (hP ▸ Tryz.func21) (show Tryz.f21.body = some (fb Tryz.f21) from rfl) (by decide) (by decide) (fun Γ hg h0 => by rw [show loopsOf (fb Tryz.f21) = [] from by kernel_rfl]; exact lpNil) (fun x => by kernel_rfl)
def n_IsInt_C : Callee := ⟨[.val .str], [.val .bool], fun x => n_IsInt x.1⟩
def n_IsInt_ti : List (Nat × TI) := []
def n_IsInt_fn : List (Nat × Callee) := [(50, strings_CutPrefix_C), (72, n_numeral_C)]
def n_IsInt_lp : List (Nat × LoopO) := []
def n_IsInt_E : Tab := ⟨look n_IsInt_ti, lookC n_IsInt_fn, lookL n_IsInt_lp⟩
theorem n_IsInt_tab {V : Env} (hP : V.P = Tryz.prog) (h50 : Good V 50 strings_CutPrefix_C) (h72 : Good V 72 n_numeral_C) : TabOK V n_IsInt_E :=
  tab_ok (hP ▸ tiNil) (fnCons h50 (fnCons h72 fnNil))
theorem n_IsInt_good {V : Env} (hP : V.P = Tryz.prog) (h50 : Good V 50 strings_CutPrefix_C) (h72 : Good V 72 n_numeral_C) : Good V 28 n_IsInt_C :=
  have hE := n_IsInt_tab hP h50 h72
  good_of hE (hP ▸ Tryz.func28) (show Tryz.f28.body = some (fb Tryz.f28) from rfl) (by decide) (by decide) (fun Γ hg h0 => by rw [show loopsOf (fb Tryz.f28) = [] from by kernel_rfl]; exact lpNil) (fun x => by kernel_rfl)
def n_rat_quoRem_C : Callee := ⟨[.val (.pair .bool (.pair (.sl (.int .u32)) (.sl (.int .u32)))), .val (.pair .bool (.pair (.sl (.int .u32)) (.sl (.int .u32))))], [.val (.pair .bool (.pair (.sl (.int .u32)) (.sl (.int .u32)))), .val (.pair .bool (.pair (.sl (.int .u32)) (.sl (.int .u32))))], fun x => n_rat_quoRem x.1 x.2.1⟩
def n_rat_quoRem_ti : List (Nat × TI) := [(4, i4), (55, i55), (59, i59), (86, i86)]
def n_rat_quoRem_fn : List (Nat × Callee) := [(104, n_nat_quoRem_C), (111, n_nat_add_C), (113, n_nat_sub_C)]
def n_rat_quoRem_lp : List (Nat × LoopO) := []
def n_rat_quoRem_E : Tab := ⟨look n_rat_quoRem_ti, lookC n_rat_quoRem_fn, lookL n_rat_quoRem_lp⟩
theorem n_rat_quoRem_tab {V : Env} (hP : V.P = Tryz.prog) (h104 : Good V 104 n_nat_quoRem_C) (h111 : Good V 111 n_nat_add_C) (h113 : Good V 113 n_nat_sub_C) : TabOK V n_rat_quoRem_E :=
  tab_ok (hP ▸ (tiCons tok4 (tiCons tok55 (tiCons tok59 (tiCons tok86 tiNil))))) (fnCons h104 (fnCons h111 (fnCons h113 fnNil)))
theorem n_rat_quoRem_good {V : Env} (hP : V.P = Tryz.prog) (h104 : Good V 104 n_nat_quoRem_C) (h111 : Good V 111 n_nat_add_C) (h113 : Good V 113 n_nat_sub_C) : Good V 121 n_rat_quoRem_C :=
  have hE := n_rat_quoRem_tab hP h104 h111 h113
  good_of hE (hP ▸ Tryz.func121) (show Tryz.f121.body = some (fb Tryz.f121) from rfl) (by decide) (by decide) (fun Γ hg h0 => by rw [show loopsOf (fb Tryz.f121) = [] from by kernel_rfl]; exact lpNil) (fun x => by kernel_rfl)
def n_quoRem_C : Callee := ⟨[.val .str, .val .str], [.val .str, .val .str], fun x => n_quoRem x.1 x.2.1⟩
def n_quoRem_ti : List (Nat × TI) := [(59, i59)]
def n_quoRem_fn : List (Nat × Callee) := [(28, n_IsInt_C), (56, n_rat_text_C), (79, n_read_C), (121, n_rat_quoRem_C)]
def n_quoRem_lp : List (Nat × LoopO) := []
def n_quoRem_E : Tab := ⟨look n_quoRem_ti, lookC n_quoRem_fn, lookL n_quoRem_lp⟩
theorem n_quoRem_tab {V : Env} (hP : V.P = Tryz.prog) (h28 : Good V 28 n_IsInt_C) (h56 : Good V 56 n_rat_text_C) (h79 : Good V 79 n_read_C) (h121 : Good V 121 n_rat_quoRem_C) : TabOK V n_quoRem_E :=
  tab_ok (hP ▸ (tiCons tok59 tiNil)) (fnCons h28 (fnCons h56 (fnCons h79 (fnCons h121 fnNil))))
theorem n_quoRem_good {V : Env} (hP : V.P = Tryz.prog) (h28 : Good V 28 n_IsInt_C) (h56 : Good V 56 n_rat_text_C) (h79 : Good V 79 n_read_C) (h121 : Good V 121 n_rat_quoRem_C) : Good V 83 n_quoRem_C :=
  have hE := n_quoRem_tab hP h28 h56 h79 h121
  good_of hE (hP ▸ Tryz.func83) (show Tryz.f83.body = some (fb Tryz.f83) from rfl) (by decide) (by decide) (fun Γ hg h0 => by rw [show loopsOf (fb Tryz.f83) = [] from by kernel_rfl]; exact lpNil) (fun x => by kernel_rfl)
def n_Rem_C : Callee := ⟨[.val .str, .val .str], [.val .str], fun x => n_Rem x.1 x.2.1⟩
def n_Rem_ti : List (Nat × TI) := []
def n_Rem_fn : List (Nat × Callee) := [(83, n_quoRem_C)]
def n_Rem_lp : List (Nat × LoopO) := []
def n_Rem_E : Tab := ⟨look n_Rem_ti, lookC n_Rem_fn, lookL n_Rem_lp⟩
theorem n_Rem_tab {V : Env} (hP : V.P = Tryz.prog) (h83 : Good V 83 n_quoRem_C) : TabOK V n_Rem_E :=
  tab_ok (hP ▸ tiNil) (fnCons h83 fnNil)
theorem n_Rem_good {V : Env} (hP : V.P = Tryz.prog) (h83 : Good V 83 n_quoRem_C) : Good V 43 n_Rem_C :=
  have hE := n_Rem_tab hP h83
  good_of hE (hP ▸ Tryz.func43) (show Tryz.f43.body = some (fb Tryz.f43) from rfl) (by decide) (by decide) (fun Γ hg h0 => by rw [show loopsOf (fb Tryz.f43) = [] from by kernel_rfl]; exact lpNil) (fun x => by kernel_rfl)
def n_Quo_C : Callee := ⟨[.val .str, .val .str], [.val .str], fun x => n_Quo x.1 x.2.1⟩
def n_Quo_ti : List (Nat × TI) := []
def n_Quo_fn : List (Nat × Callee) := [(83, n_quoRem_C)]
def n_Quo_lp : List (Nat × LoopO) := []
def n_Quo_E : Tab := ⟨look n_Quo_ti, lookC n_Quo_fn, lookL n_Quo_lp⟩
theorem n_Quo_tab {V : Env} (hP : V.P = Tryz.prog) (h83 : Good V 83 n_quoRem_C) : TabOK V n_Quo_E :=
  tab_ok (hP ▸ tiNil) (fnCons h83 fnNil)
theorem n_Quo_good {V : Env} (hP : V.P = Tryz.prog) (h83 : Good V 83 n_quoRem_C) : Good V 45 n_Quo_C :=
  have hE := n_Quo_tab hP h83
  good_of hE (hP ▸ Tryz.func45) (show Tryz.f45.body = some (fb Tryz.f45) from rfl) (by decide) (by decide) (fun Γ hg h0 => by rw [show loopsOf (fb Tryz.f45) = [] from by kernel_rfl]; exact lpNil) (fun x => by kernel_rfl)
def n_Valid_C : Callee := ⟨[.val .str], [.val .bool], fun x => n_Valid x.1⟩
def n_Valid_ti : List (Nat × TI) := [(59, i59), (66, i66)]
def n_Valid_fn : List (Nat × Callee) := [(79, n_read_C), (92, n_smallOf_C)]
def n_Valid_lp : List (Nat × LoopO) := []
def n_Valid_E : Tab := ⟨look n_Valid_ti, lookC n_Valid_fn, lookL n_Valid_lp⟩
theorem n_Valid_tab {V : Env} (hP : V.P = Tryz.prog) (h79 : Good V 79 n_read_C) (h92 : Good V 92 n_smallOf_C) : TabOK V n_Valid_E :=
  tab_ok (hP ▸ (tiCons tok59 (tiCons tok66 tiNil))) (fnCons h79 (fnCons h92 fnNil))
theorem n_Valid_good {V : Env} (hP : V.P = Tryz.prog) (h79 : Good V 79 n_read_C) (h92 : Good V 92 n_smallOf_C) : Good V 49 n_Valid_C :=
  have hE := n_Valid_tab hP h79 h92
  good_of hE (hP ▸ Tryz.func49) (show Tryz.f49.body = some (fb Tryz.f49) from rfl) (by decide) (by decide) (fun Γ hg h0 => by rw [show loopsOf (fb Tryz.f49) = [] from by kernel_rfl]; exact lpNil) (fun x => by kernel_rfl)
def l_awake_C : Callee := ⟨[], [.val .bool], fun _ => l_awake⟩
def l_awake_ti : List (Nat × TI) := []
def l_awake_fn : List (Nat × Callee) := [(17, n_Parse_C), (21, n_Add_C), (43, n_Rem_C), (45, n_Quo_C), (49, n_Valid_C)]
def l_awake_lp : List (Nat × LoopO) := []
def l_awake_E : Tab := ⟨look l_awake_ti, lookC l_awake_fn, lookL l_awake_lp⟩
theorem l_awake_tab {V : Env} (hP : V.P = Tryz.prog) (h17 : Good V 17 n_Parse_C) (h21 : Good V 21 n_Add_C) (h43 : Good V 43 n_Rem_C) (h45 : Good V 45 n_Quo_C) (h49 : Good V 49 n_Valid_C) : TabOK V l_awake_E :=
  tab_ok (hP ▸ tiNil) (fnCons h17 (fnCons h21 (fnCons h43 (fnCons h45 (fnCons h49 fnNil)))))
theorem l_awake_good {V : Env} (hP : V.P = Tryz.prog) (h17 : Good V 17 n_Parse_C) (h21 : Good V 21 n_Add_C) (h43 : Good V 43 n_Rem_C) (h45 : Good V 45 n_Quo_C) (h49 : Good V 49 n_Valid_C) : Good V 14 l_awake_C :=
  have hE := l_awake_tab hP h17 h21 h43 h45 h49
  good_of hE (hP ▸ Tryz.func14) (show Tryz.f14.body = some (fb Tryz.f14) from rfl) (by decide) (by decide) (fun Γ hg h0 => by rw [show loopsOf (fb Tryz.f14) = [] from by kernel_rfl]; exact lpNil) (fun x => by kernel_rfl)
def r_FromInt_s3_A : Ann := ⟨33, [0, 3, 4], [.val (.int .i64), .val .str, .val (.int .i64)], [], []⟩
def r_FromInt_C : Callee := ⟨[.val (.int .i64)], [.val .str], fun x => r_FromInt x.1⟩
def r_FromInt_ti : List (Nat × TI) := [(3, i3), (5, i5), (9, i9), (49, i49)]
def r_FromInt_fn : List (Nat × Callee) := []
def r_FromInt_lp : List (Nat × LoopO) := [(3, loopF r_FromInt_s3_A [Ex.exit 0] r_FromInt_s3)]
def r_FromInt_E : Tab := ⟨look r_FromInt_ti, lookC r_FromInt_fn, lookL r_FromInt_lp⟩
theorem r_FromInt_tab {V : Env} (hP : V.P = Tryz.prog) : TabOK V r_FromInt_E :=
  tab_ok (hP ▸ (tiCons tok3 (tiCons tok5 (tiCons tok9 (tiCons tok49 tiNil))))) fnNil
theorem r_FromInt_s3_run : ∀ x, run r_FromInt_E (lb (bb (sr (sl (sr (sr (fb Tryz.f15))))))) (encSt r_FromInt_s3_A x) (fun ex st => (decSt r_FromInt_s3_A st).bind fun y => some (ex, y)) = r_FromInt_s3 x := fun x => by kernel_rfl
theorem r_FromInt_s3_ok {V : Env} (hE : TabOK V r_FromInt_E) (Γ : Base) (hg : Γ.gb = V.gb) (h0 : V.G Γ.w) : Sound V Γ (.loop (lb (bb (sr (sl (sr (sr (fb Tryz.f15)))))))) fun ρ => (loopF r_FromInt_s3_A [Ex.exit 0] r_FromInt_s3).f ρ :=
  loop_ok hE hg h0 (by rw [show loopsOf (lb (bb (sr (sl (sr (sr (fb Tryz.f15))))))) = [] from by kernel_rfl]; exact lpNil) r_FromInt_s3_run
theorem r_FromInt_good {V : Env} (hP : V.P = Tryz.prog) : Good V 15 r_FromInt_C :=
  have hE := r_FromInt_tab hP
  good_of hE (hP ▸ Tryz.func15) (show Tryz.f15.body = some (fb Tryz.f15) from rfl) (by decide) (by decide) (fun Γ hg h0 => by rw [show loopsOf (fb Tryz.f15) = [lb (bb (sr (sl (sr (sr (fb Tryz.f15))))))] from by kernel_rfl]; exact (lpCons (by kernel_rfl) (r_FromInt_s3_ok hE Γ hg h0) lpNil)) (fun x => by kernel_rfl)
def g_Mod_C : Callee := ⟨[.val (.int .i64), .val (.int .i64)], [.val (.int .i64)], fun x => g_Mod x.1 x.2.1⟩
def g_Mod_ti : List (Nat × TI) := [(3, i3), (50, i50)]
def g_Mod_fn : List (Nat × Callee) := []
def g_Mod_lp : List (Nat × LoopO) := []
def g_Mod_E : Tab := ⟨look g_Mod_ti, lookC g_Mod_fn, lookL g_Mod_lp⟩
theorem g_Mod_tab {V : Env} (hP : V.P = Tryz.prog) : TabOK V g_Mod_E :=
  tab_ok (hP ▸ (tiCons tok3 (tiCons tok50 tiNil))) fnNil
theorem g_Mod_good {V : Env} (hP : V.P = Tryz.prog) : Good V 16 g_Mod_C :=
  have hE := g_Mod_tab hP
  good_of hE (hP ▸ Tryz.func16) (show Tryz.f16.body = some (fb Tryz.f16) from rfl) (by decide) (by decide) (fun Γ hg h0 => by rw [show loopsOf (fb Tryz.f16) = [] from by kernel_rfl]; exact lpNil) (fun x => by kernel_rfl)
def r_digits_s2_A : Ann := ⟨22, [0, 2, 3], [.val .str, .val .bool, .val (.int .i64)], [], []⟩
def r_digits_C : Callee := ⟨[.val .str], [.val .bool], fun x => r_digits x.1⟩
def r_digits_ti : List (Nat × TI) := [(9, i9)]
def r_digits_fn : List (Nat × Callee) := []
def r_digits_lp : List (Nat × LoopO) := [(2, loopF r_digits_s2_A [Ex.exit 0, Ex.ret] r_digits_s2)]
def r_digits_E : Tab := ⟨look r_digits_ti, lookC r_digits_fn, lookL r_digits_lp⟩
theorem r_digits_tab {V : Env} (hP : V.P = Tryz.prog) : TabOK V r_digits_E :=
  tab_ok (hP ▸ (tiCons tok9 tiNil)) fnNil
theorem r_digits_s2_run : ∀ x, run r_digits_E (lb (bb (sr (sl (sr (fb Tryz.f57)))))) (encSt r_digits_s2_A x) (fun ex st => (decSt r_digits_s2_A st).bind fun y => some (ex, y)) = r_digits_s2 x := fun x => by kernel_rfl
theorem r_digits_s2_ok {V : Env} (hE : TabOK V r_digits_E) (Γ : Base) (hg : Γ.gb = V.gb) (h0 : V.G Γ.w) : Sound V Γ (.loop (lb (bb (sr (sl (sr (fb Tryz.f57))))))) fun ρ => (loopF r_digits_s2_A [Ex.exit 0, Ex.ret] r_digits_s2).f ρ :=
  loop_ok hE hg h0 (by rw [show loopsOf (lb (bb (sr (sl (sr (fb Tryz.f57)))))) = [] from by kernel_rfl]; exact lpNil) r_digits_s2_run
theorem r_digits_good {V : Env} (hP : V.P = Tryz.prog) : Good V 57 r_digits_C :=
  have hE := r_digits_tab hP
  good_of hE (hP ▸ Tryz.func57) (show Tryz.f57.body = some (fb Tryz.f57) from rfl) (by decide) (by decide) (fun Γ hg h0 => by rw [show loopsOf (fb Tryz.f57) = [lb (bb (sr (sl (sr (fb Tryz.f57)))))] from by kernel_rfl]; exact (lpCons (by kernel_rfl) (r_digits_s2_ok hE Γ hg h0) lpNil)) (fun x => by kernel_rfl)
def r_trim_s1_A : Ann := ⟨14, [0], [.val .str], [], []⟩
def r_trim_C : Callee := ⟨[.val .str], [.val .str], fun x => r_trim x.1⟩
def r_trim_ti : List (Nat × TI) := [(9, i9)]
def r_trim_fn : List (Nat × Callee) := []
def r_trim_lp : List (Nat × LoopO) := [(1, loopF r_trim_s1_A [Ex.exit 0] r_trim_s1)]
def r_trim_E : Tab := ⟨look r_trim_ti, lookC r_trim_fn, lookL r_trim_lp⟩
theorem r_trim_tab {V : Env} (hP : V.P = Tryz.prog) : TabOK V r_trim_E :=
  tab_ok (hP ▸ (tiCons tok9 tiNil)) fnNil
theorem r_trim_s1_run : ∀ x, run r_trim_E (lb (bb (sl (sr (fb Tryz.f59))))) (encSt r_trim_s1_A x) (fun ex st => (decSt r_trim_s1_A st).bind fun y => some (ex, y)) = r_trim_s1 x := fun x => by kernel_rfl
theorem r_trim_s1_ok {V : Env} (hE : TabOK V r_trim_E) (Γ : Base) (hg : Γ.gb = V.gb) (h0 : V.G Γ.w) : Sound V Γ (.loop (lb (bb (sl (sr (fb Tryz.f59)))))) fun ρ => (loopF r_trim_s1_A [Ex.exit 0] r_trim_s1).f ρ :=
  loop_ok hE hg h0 (by rw [show loopsOf (lb (bb (sl (sr (fb Tryz.f59))))) = [] from by kernel_rfl]; exact lpNil) r_trim_s1_run
theorem r_trim_good {V : Env} (hP : V.P = Tryz.prog) : Good V 59 r_trim_C :=
  have hE := r_trim_tab hP
  good_of hE (hP ▸ Tryz.func59) (show Tryz.f59.body = some (fb Tryz.f59) from rfl) (by decide) (by decide) (fun Γ hg h0 => by rw [show loopsOf (fb Tryz.f59) = [lb (bb (sl (sr (fb Tryz.f59))))] from by kernel_rfl]; exact (lpCons (by kernel_rfl) (r_trim_s1_ok hE Γ hg h0) lpNil)) (fun x => by kernel_rfl)
def r_cmpMag_C : Callee := ⟨[.val .str, .val .str], [.val (.int .i64)], fun x => r_cmpMag x.1 x.2.1⟩
def r_cmpMag_ti : List (Nat × TI) := [(9, i9)]
def r_cmpMag_fn : List (Nat × Callee) := []
def r_cmpMag_lp : List (Nat × LoopO) := []
def r_cmpMag_E : Tab := ⟨look r_cmpMag_ti, lookC r_cmpMag_fn, lookL r_cmpMag_lp⟩
theorem r_cmpMag_tab {V : Env} (hP : V.P = Tryz.prog) : TabOK V r_cmpMag_E :=
  tab_ok (hP ▸ (tiCons tok9 tiNil)) fnNil
theorem r_cmpMag_good {V : Env} (hP : V.P = Tryz.prog) : Good V 116 r_cmpMag_C :=
  have hE := r_cmpMag_tab hP
  good_of hE (hP ▸ Tryz.func116) (show Tryz.f116.body = some (fb Tryz.f116) from rfl) (by decide) (by decide) (fun Γ hg h0 => by rw [show loopsOf (fb Tryz.f116) = [] from by kernel_rfl]; exact lpNil) (fun x => by kernel_rfl)
def r_subMag_s4_A : Ann := ⟨61, [0, 1, 5, 6, 7], [.val .str, .val .str, .row (.int .u8), .val (.int .i64), .val (.int .i64)], [], []⟩
def r_subMag_C : Callee := ⟨[.val .str, .val .str], [.val .str], fun x => r_subMag x.1 x.2.1⟩
def r_subMag_ti : List (Nat × TI) := [(3, i3), (5, i5), (9, i9), (49, i49)]
def r_subMag_fn : List (Nat × Callee) := [(59, r_trim_C)]
def r_subMag_lp : List (Nat × LoopO) := [(4, loopF r_subMag_s4_A [Ex.exit 0] r_subMag_s4)]
def r_subMag_E : Tab := ⟨look r_subMag_ti, lookC r_subMag_fn, lookL r_subMag_lp⟩
theorem r_subMag_tab {V : Env} (hP : V.P = Tryz.prog) (h59 : Good V 59 r_trim_C) : TabOK V r_subMag_E :=
  tab_ok (hP ▸ (tiCons tok3 (tiCons tok5 (tiCons tok9 (tiCons tok49 tiNil))))) (fnCons h59 fnNil)
theorem r_subMag_s4_run : ∀ x, run r_subMag_E (lb (bb (sr (sl (sr (sr (sr (fb Tryz.f117)))))))) (encSt r_subMag_s4_A x) (fun ex st => (decSt r_subMag_s4_A st).bind fun y => some (ex, y)) = r_subMag_s4 x := fun x => by kernel_rfl
theorem r_subMag_s4_ok {V : Env} (hE : TabOK V r_subMag_E) (Γ : Base) (hg : Γ.gb = V.gb) (h0 : V.G Γ.w) : Sound V Γ (.loop (lb (bb (sr (sl (sr (sr (sr (fb Tryz.f117))))))))) fun ρ => (loopF r_subMag_s4_A [Ex.exit 0] r_subMag_s4).f ρ :=
  loop_ok hE hg h0 (by rw [show loopsOf (lb (bb (sr (sl (sr (sr (sr (fb Tryz.f117)))))))) = [] from by kernel_rfl]; exact lpNil) r_subMag_s4_run
theorem r_subMag_good {V : Env} (hP : V.P = Tryz.prog) (h59 : Good V 59 r_trim_C) : Good V 117 r_subMag_C :=
  have hE := r_subMag_tab hP h59
  good_of hE (hP ▸ Tryz.func117) (show Tryz.f117.body = some (fb Tryz.f117) from rfl) (by decide) (by decide) (fun Γ hg h0 => by rw [show loopsOf (fb Tryz.f117) = [lb (bb (sr (sl (sr (sr (sr (fb Tryz.f117)))))))] from by kernel_rfl]; exact (lpCons (by kernel_rfl) (r_subMag_s4_ok hE Γ hg h0) lpNil)) (fun x => by kernel_rfl)
def r_divMag_s8_A : Ann := ⟨44, [0, 1, 6, 7, 8, 9], [.val .str, .val .str, .row (.int .u8), .val .str, .val (.int .i64), .val (.int .u8)], [], []⟩
def r_divMag_s4_A : Ann := ⟨44, [0, 1, 6, 7, 8], [.val .str, .val .str, .row (.int .u8), .val .str, .val (.int .i64)], [], []⟩
def r_divMag_C : Callee := ⟨[.val .str, .val .str], [.val .str, .val .str], fun x => r_divMag x.1 x.2.1⟩
def r_divMag_ti : List (Nat × TI) := [(5, i5), (9, i9), (49, i49)]
def r_divMag_fn : List (Nat × Callee) := [(59, r_trim_C), (116, r_cmpMag_C), (117, r_subMag_C)]
def r_divMag_lp : List (Nat × LoopO) := [(8, loopF r_divMag_s8_A [Ex.exit 2] r_divMag_s8), (4, loopF r_divMag_s4_A [Ex.exit 0] r_divMag_s4)]
def r_divMag_E : Tab := ⟨look r_divMag_ti, lookC r_divMag_fn, lookL r_divMag_lp⟩
theorem r_divMag_tab {V : Env} (hP : V.P = Tryz.prog) (h59 : Good V 59 r_trim_C) (h116 : Good V 116 r_cmpMag_C) (h117 : Good V 117 r_subMag_C) : TabOK V r_divMag_E :=
  tab_ok (hP ▸ (tiCons tok5 (tiCons tok9 (tiCons tok49 tiNil)))) (fnCons h59 (fnCons h116 (fnCons h117 fnNil)))
theorem r_divMag_s8_run : ∀ x, run r_divMag_E (lb (bb (sl (sr (sr (bb (sl (sr (lb (bb (sr (sl (sr (sr (sr (fb Tryz.f106)))))))))))))))) (encSt r_divMag_s8_A x) (fun ex st => (decSt r_divMag_s8_A st).bind fun y => some (ex, y)) = r_divMag_s8 x := fun x => by kernel_rfl
theorem r_divMag_s8_ok {V : Env} (hE : TabOK V r_divMag_E) (Γ : Base) (hg : Γ.gb = V.gb) (h0 : V.G Γ.w) : Sound V Γ (.loop (lb (bb (sl (sr (sr (bb (sl (sr (lb (bb (sr (sl (sr (sr (sr (fb Tryz.f106))))))))))))))))) fun ρ => (loopF r_divMag_s8_A [Ex.exit 2] r_divMag_s8).f ρ :=
  loop_ok hE hg h0 (by rw [show loopsOf (lb (bb (sl (sr (sr (bb (sl (sr (lb (bb (sr (sl (sr (sr (sr (fb Tryz.f106)))))))))))))))) = [] from by kernel_rfl]; exact lpNil) r_divMag_s8_run
theorem r_divMag_s4_run : ∀ x, run r_divMag_E (lb (bb (sr (sl (sr (sr (sr (fb Tryz.f106)))))))) (encSt r_divMag_s4_A x) (fun ex st => (decSt r_divMag_s4_A st).bind fun y => some (ex, y)) = r_divMag_s4 x := fun x => by kernel_rfl
theorem r_divMag_s4_ok {V : Env} (hE : TabOK V r_divMag_E) (Γ : Base) (hg : Γ.gb = V.gb) (h0 : V.G Γ.w) : Sound V Γ (.loop (lb (bb (sr (sl (sr (sr (sr (fb Tryz.f106))))))))) fun ρ => (loopF r_divMag_s4_A [Ex.exit 0] r_divMag_s4).f ρ :=
  loop_ok hE hg h0 (by rw [show loopsOf (lb (bb (sr (sl (sr (sr (sr (fb Tryz.f106)))))))) = [lb (bb (sl (sr (sr (bb (sl (sr (lb (bb (sr (sl (sr (sr (sr (fb Tryz.f106)))))))))))))))] from by kernel_rfl]; exact (lpCons (by kernel_rfl) (r_divMag_s8_ok hE Γ hg h0) lpNil)) r_divMag_s4_run
theorem r_divMag_good {V : Env} (hP : V.P = Tryz.prog) (h59 : Good V 59 r_trim_C) (h116 : Good V 116 r_cmpMag_C) (h117 : Good V 117 r_subMag_C) : Good V 106 r_divMag_C :=
  have hE := r_divMag_tab hP h59 h116 h117
  good_of hE (hP ▸ Tryz.func106) (show Tryz.f106.body = some (fb Tryz.f106) from rfl) (by decide) (by decide) (fun Γ hg h0 => by rw [show loopsOf (fb Tryz.f106) = [lb (bb (sr (sl (sr (sr (sr (fb Tryz.f106)))))))] from by kernel_rfl]; exact (lpCons (by kernel_rfl) (r_divMag_s4_ok hE Γ hg h0) lpNil)) (fun x => by kernel_rfl)
def r_gcdMag_s1_A : Ann := ⟨18, [0, 1], [.val .str, .val .str], [], []⟩
def r_gcdMag_C : Callee := ⟨[.val .str, .val .str], [.val .str], fun x => r_gcdMag x.1 x.2.1⟩
def r_gcdMag_ti : List (Nat × TI) := []
def r_gcdMag_fn : List (Nat × Callee) := [(106, r_divMag_C)]
def r_gcdMag_lp : List (Nat × LoopO) := [(1, loopF r_gcdMag_s1_A [Ex.exit 0] r_gcdMag_s1)]
def r_gcdMag_E : Tab := ⟨look r_gcdMag_ti, lookC r_gcdMag_fn, lookL r_gcdMag_lp⟩
theorem r_gcdMag_tab {V : Env} (hP : V.P = Tryz.prog) (h106 : Good V 106 r_divMag_C) : TabOK V r_gcdMag_E :=
  tab_ok (hP ▸ tiNil) (fnCons h106 fnNil)
theorem r_gcdMag_s1_run : ∀ x, run r_gcdMag_E (lb (bb (sl (sr (fb Tryz.f105))))) (encSt r_gcdMag_s1_A x) (fun ex st => (decSt r_gcdMag_s1_A st).bind fun y => some (ex, y)) = r_gcdMag_s1 x := fun x => by kernel_rfl
theorem r_gcdMag_s1_ok {V : Env} (hE : TabOK V r_gcdMag_E) (Γ : Base) (hg : Γ.gb = V.gb) (h0 : V.G Γ.w) : Sound V Γ (.loop (lb (bb (sl (sr (fb Tryz.f105)))))) fun ρ => (loopF r_gcdMag_s1_A [Ex.exit 0] r_gcdMag_s1).f ρ :=
  loop_ok hE hg h0 (by rw [show loopsOf (lb (bb (sl (sr (fb Tryz.f105))))) = [] from by kernel_rfl]; exact lpNil) r_gcdMag_s1_run
theorem r_gcdMag_good {V : Env} (hP : V.P = Tryz.prog) (h106 : Good V 106 r_divMag_C) : Good V 105 r_gcdMag_C :=
  have hE := r_gcdMag_tab hP h106
  good_of hE (hP ▸ Tryz.func105) (show Tryz.f105.body = some (fb Tryz.f105) from rfl) (by decide) (by decide) (fun Γ hg h0 => by rw [show loopsOf (fb Tryz.f105) = [lb (bb (sl (sr (fb Tryz.f105))))] from by kernel_rfl]; exact (lpCons (by kernel_rfl) (r_gcdMag_s1_ok hE Γ hg h0) lpNil)) (fun x => by kernel_rfl)
def r_reduce_C : Callee := ⟨[.val .bool, .val .str, .val .str], [.val (.pair .bool (.pair .str .str))], fun x => r_reduce x.1 x.2.1 x.2.2.1⟩
def r_reduce_ti : List (Nat × TI) := [(4, i4), (9, i9), (62, i62)]
def r_reduce_fn : List (Nat × Callee) := [(105, r_gcdMag_C), (106, r_divMag_C)]
def r_reduce_lp : List (Nat × LoopO) := []
def r_reduce_E : Tab := ⟨look r_reduce_ti, lookC r_reduce_fn, lookL r_reduce_lp⟩
theorem r_reduce_tab {V : Env} (hP : V.P = Tryz.prog) (h105 : Good V 105 r_gcdMag_C) (h106 : Good V 106 r_divMag_C) : TabOK V r_reduce_E :=
  tab_ok (hP ▸ (tiCons tok4 (tiCons tok9 (tiCons tok62 tiNil)))) (fnCons h105 (fnCons h106 fnNil))
theorem r_reduce_good {V : Env} (hP : V.P = Tryz.prog) (h105 : Good V 105 r_gcdMag_C) (h106 : Good V 106 r_divMag_C) : Good V 58 r_reduce_C :=
  have hE := r_reduce_tab hP h105 h106
  good_of hE (hP ▸ Tryz.func58) (show Tryz.f58.body = some (fb Tryz.f58) from rfl) (by decide) (by decide) (fun Γ hg h0 => by rw [show loopsOf (fb Tryz.f58) = [] from by kernel_rfl]; exact lpNil) (fun x => by kernel_rfl)
def r_ratio_text_C : Callee := ⟨[.val (.pair .bool (.pair .str .str))], [.val .str], fun x => r_ratio_text x.1⟩
def r_ratio_text_ti : List (Nat × TI) := [(4, i4), (9, i9), (62, i62)]
def r_ratio_text_fn : List (Nat × Callee) := []
def r_ratio_text_lp : List (Nat × LoopO) := []
def r_ratio_text_E : Tab := ⟨look r_ratio_text_ti, lookC r_ratio_text_fn, lookL r_ratio_text_lp⟩
theorem r_ratio_text_tab {V : Env} (hP : V.P = Tryz.prog) : TabOK V r_ratio_text_E :=
  tab_ok (hP ▸ (tiCons tok4 (tiCons tok9 (tiCons tok62 tiNil)))) fnNil
theorem r_ratio_text_good {V : Env} (hP : V.P = Tryz.prog) : Good V 60 r_ratio_text_C :=
  have hE := r_ratio_text_tab hP
  good_of hE (hP ▸ Tryz.func60) (show Tryz.f60.body = some (fb Tryz.f60) from rfl) (by decide) (by decide) (fun Γ hg h0 => by rw [show loopsOf (fb Tryz.f60) = [] from by kernel_rfl]; exact lpNil) (fun x => by kernel_rfl)
def r_ParseDecimal_s6_A : Ann := ⟨60, [0, 2, 3, 4, 5, 6, 7], [.val .str, .val .str, .val .bool, .val .bool, .val .str, .val .str, .val (.int .i64)], [], []⟩
def r_ParseDecimal_s16_A : Ann := ⟨60, [4, 5, 6, 8, 9], [.val .bool, .val .str, .val .str, .val .str, .val (.int .i64)], [], []⟩
def r_ParseDecimal_C : Callee := ⟨[.val .str], [.val .str, .val .bool], fun x => r_ParseDecimal x.1⟩
def r_ParseDecimal_ti : List (Nat × TI) := [(9, i9)]
def r_ParseDecimal_fn : List (Nat × Callee) := [(57, r_digits_C), (58, r_reduce_C), (59, r_trim_C), (60, r_ratio_text_C)]
def r_ParseDecimal_lp : List (Nat × LoopO) := [(6, loopF r_ParseDecimal_s6_A [Ex.exit 0, Ex.ret] r_ParseDecimal_s6), (16, loopF r_ParseDecimal_s16_A [Ex.exit 2] r_ParseDecimal_s16)]
def r_ParseDecimal_E : Tab := ⟨look r_ParseDecimal_ti, lookC r_ParseDecimal_fn, lookL r_ParseDecimal_lp⟩
theorem r_ParseDecimal_tab {V : Env} (hP : V.P = Tryz.prog) (h57 : Good V 57 r_digits_C) (h58 : Good V 58 r_reduce_C) (h59 : Good V 59 r_trim_C) (h60 : Good V 60 r_ratio_text_C) : TabOK V r_ParseDecimal_E :=
  tab_ok (hP ▸ (tiCons tok9 tiNil)) (fnCons h57 (fnCons h58 (fnCons h59 (fnCons h60 fnNil))))
theorem r_ParseDecimal_s6_run : ∀ x, run r_ParseDecimal_E (lb (bb (sr (sl (sr (sr (sr (sr (fb Tryz.f18))))))))) (encSt r_ParseDecimal_s6_A x) (fun ex st => (decSt r_ParseDecimal_s6_A st).bind fun y => some (ex, y)) = r_ParseDecimal_s6 x := fun x => by kernel_rfl
theorem r_ParseDecimal_s6_ok {V : Env} (hE : TabOK V r_ParseDecimal_E) (Γ : Base) (hg : Γ.gb = V.gb) (h0 : V.G Γ.w) : Sound V Γ (.loop (lb (bb (sr (sl (sr (sr (sr (sr (fb Tryz.f18)))))))))) fun ρ => (loopF r_ParseDecimal_s6_A [Ex.exit 0, Ex.ret] r_ParseDecimal_s6).f ρ :=
  loop_ok hE hg h0 (by rw [show loopsOf (lb (bb (sr (sl (sr (sr (sr (sr (fb Tryz.f18))))))))) = [] from by kernel_rfl]; exact lpNil) r_ParseDecimal_s6_run
theorem r_ParseDecimal_s16_run : ∀ x, run r_ParseDecimal_E (lb (bb (sr (sl (sr (sr (sr (sr (sr (sr (sr (fb Tryz.f18)))))))))))) (encSt r_ParseDecimal_s16_A x) (fun ex st => (decSt r_ParseDecimal_s16_A st).bind fun y => some (ex, y)) = r_ParseDecimal_s16 x := fun x => by kernel_rfl
theorem r_ParseDecimal_s16_ok {V : Env} (hE : TabOK V r_ParseDecimal_E) (Γ : Base) (hg : Γ.gb = V.gb) (h0 : V.G Γ.w) : Sound V Γ (.loop (lb (bb (sr (sl (sr (sr (sr (sr (sr (sr (sr (fb Tryz.f18))))))))))))) fun ρ => (loopF r_ParseDecimal_s16_A [Ex.exit 2] r_ParseDecimal_s16).f ρ :=
  loop_ok hE hg h0 (by rw [show loopsOf (lb (bb (sr (sl (sr (sr (sr (sr (sr (sr (sr (fb Tryz.f18)))))))))))) = [] from by kernel_rfl]; exact lpNil) r_ParseDecimal_s16_run
theorem r_ParseDecimal_good {V : Env} (hP : V.P = Tryz.prog) (h57 : Good V 57 r_digits_C) (h58 : Good V 58 r_reduce_C) (h59 : Good V 59 r_trim_C) (h60 : Good V 60 r_ratio_text_C) : Good V 18 r_ParseDecimal_C :=
  have hE := r_ParseDecimal_tab hP h57 h58 h59 h60
  good_of hE (hP ▸ Tryz.func18) (show Tryz.f18.body = some (fb Tryz.f18) from rfl) (by decide) (by decide) (fun Γ hg h0 => by rw [show loopsOf (fb Tryz.f18) = [lb (bb (sr (sl (sr (sr (sr (sr (fb Tryz.f18)))))))), lb (bb (sr (sl (sr (sr (sr (sr (sr (sr (sr (fb Tryz.f18)))))))))))] from by kernel_rfl]; exact (lpCons (by kernel_rfl) (r_ParseDecimal_s6_ok hE Γ hg h0) (lpCons (by kernel_rfl) (r_ParseDecimal_s16_ok hE Γ hg h0) lpNil))) (fun x => by kernel_rfl)
def l_NumberParse_s7_A : Ann := ⟨110, [0, 2, 3, 9, 10], [.val .str, .val (.sl (.int .i64)), .val (.sl (.int .i64)), .val .str, .val (.int .i64)], [], []⟩
def l_NumberParse_s13_A : Ann := ⟨110, [0, 3, 9, 11], [.val .str, .val (.sl (.int .i64)), .val .str, .val (.int .i64)], [], []⟩
def l_NumberParse_C : Callee := ⟨[.val .str, .val .bool, .val (.sl (.int .i64)), .val (.sl (.int .i64))], [.val .bool], fun x => l_NumberParse x.1 x.2.1 x.2.2.1 x.2.2.2.1⟩
def l_NumberParse_ti : List (Nat × TI) := [(3, i3), (4, i4), (9, i9), (22, i22), (38, i38)]
def l_NumberParse_fn : List (Nat × Callee) := [(13, l_short_C), (14, l_awake_C), (15, r_FromInt_C), (16, g_Mod_C), (17, n_Parse_C), (18, r_ParseDecimal_C)]
def l_NumberParse_lp : List (Nat × LoopO) := [(7, loopF l_NumberParse_s7_A [Ex.exit 0] l_NumberParse_s7), (13, loopF l_NumberParse_s13_A [Ex.exit 2] l_NumberParse_s13)]
def l_NumberParse_E : Tab := ⟨look l_NumberParse_ti, lookC l_NumberParse_fn, lookL l_NumberParse_lp⟩
theorem l_NumberParse_tab {V : Env} (hP : V.P = Tryz.prog) (h13 : Good V 13 l_short_C) (h14 : Good V 14 l_awake_C) (h15 : Good V 15 r_FromInt_C) (h16 : Good V 16 g_Mod_C) (h17 : Good V 17 n_Parse_C) (h18 : Good V 18 r_ParseDecimal_C) : TabOK V l_NumberParse_E :=
  tab_ok (hP ▸ (tiCons tok3 (tiCons tok4 (tiCons tok9 (tiCons tok22 (tiCons tok38 tiNil)))))) (fnCons h13 (fnCons h14 (fnCons h15 (fnCons h16 (fnCons h17 (fnCons h18 fnNil))))))
theorem l_NumberParse_s7_run : ∀ x, run l_NumberParse_E (lb (bb (sr (sl (sr (sr (sr (sr (fb Tryz.f3))))))))) (encSt l_NumberParse_s7_A x) (fun ex st => (decSt l_NumberParse_s7_A st).bind fun y => some (ex, y)) = l_NumberParse_s7 x := fun x => by kernel_rfl
theorem l_NumberParse_s7_ok {V : Env} (hE : TabOK V l_NumberParse_E) (Γ : Base) (hg : Γ.gb = V.gb) (h0 : V.G Γ.w) : Sound V Γ (.loop (lb (bb (sr (sl (sr (sr (sr (sr (fb Tryz.f3)))))))))) fun ρ => (loopF l_NumberParse_s7_A [Ex.exit 0] l_NumberParse_s7).f ρ :=
  loop_ok hE hg h0 (by rw [show loopsOf (lb (bb (sr (sl (sr (sr (sr (sr (fb Tryz.f3))))))))) = [] from by kernel_rfl]; exact lpNil) l_NumberParse_s7_run
theorem l_NumberParse_s13_run : ∀ x, run l_NumberParse_E (lb (bb (sr (sl (sr (sr (sr (sr (sr (sr (fb Tryz.f3))))))))))) (encSt l_NumberParse_s13_A x) (fun ex st => (decSt l_NumberParse_s13_A st).bind fun y => some (ex, y)) = l_NumberParse_s13 x := fun x => by kernel_rfl
theorem l_NumberParse_s13_ok {V : Env} (hE : TabOK V l_NumberParse_E) (Γ : Base) (hg : Γ.gb = V.gb) (h0 : V.G Γ.w) : Sound V Γ (.loop (lb (bb (sr (sl (sr (sr (sr (sr (sr (sr (fb Tryz.f3)))))))))))) fun ρ => (loopF l_NumberParse_s13_A [Ex.exit 2] l_NumberParse_s13).f ρ :=
  loop_ok hE hg h0 (by rw [show loopsOf (lb (bb (sr (sl (sr (sr (sr (sr (sr (sr (fb Tryz.f3))))))))))) = [] from by kernel_rfl]; exact lpNil) l_NumberParse_s13_run
theorem l_NumberParse_good {V : Env} (hP : V.P = Tryz.prog) (h13 : Good V 13 l_short_C) (h14 : Good V 14 l_awake_C) (h15 : Good V 15 r_FromInt_C) (h16 : Good V 16 g_Mod_C) (h17 : Good V 17 n_Parse_C) (h18 : Good V 18 r_ParseDecimal_C) : Good V 3 l_NumberParse_C :=
  have hE := l_NumberParse_tab hP h13 h14 h15 h16 h17 h18
  good_of hE (hP ▸ Tryz.func3) (show Tryz.f3.body = some (fb Tryz.f3) from rfl) (by decide) (by decide) (fun Γ hg h0 => by rw [show loopsOf (fb Tryz.f3) = [lb (bb (sr (sl (sr (sr (sr (sr (fb Tryz.f3)))))))), lb (bb (sr (sl (sr (sr (sr (sr (sr (sr (fb Tryz.f3))))))))))] from by kernel_rfl]; exact (lpCons (by kernel_rfl) (l_NumberParse_s7_ok hE Γ hg h0) (lpCons (by kernel_rfl) (l_NumberParse_s13_ok hE Γ hg h0) lpNil))) (fun x => by kernel_rfl)
end
end Go.AM.Num
end
section
namespace Go.AM.Num
open Go.Proofs
set_option maxRecDepth 100000
noncomputable section
def g_New_C : Callee := ⟨[.val (.sl (.int .i64))], [.box (.pair (.sl (.int .i64)) (.int .i64))], fun x => g_New x.1⟩
def g_New_ti : List (Nat × TI) := [(3, i3), (22, i22), (73, i73)]
def g_New_fn : List (Nat × Callee) := []
def g_New_lp : List (Nat × LoopO) := []
def g_New_E : Tab := ⟨look g_New_ti, lookC g_New_fn, lookL g_New_lp⟩
theorem g_New_tab {V : Env} (hP : V.P = Tryz.prog) : TabOK V g_New_E :=
  tab_ok (hP ▸ (tiCons tok3 (tiCons tok22 (tiCons tok73 tiNil)))) fnNil
theorem g_New_good {V : Env} (hP : V.P = Tryz.prog) : Good V 36 g_New_C :=
  have hE := g_New_tab hP
  good_of hE (hP ▸ Tryz.func36) (show Tryz.f36.body = some (fb Tryz.f36) from rfl) (by decide) (by decide) (fun Γ hg h0 => by rw [show loopsOf (fb Tryz.f36) = [] from by kernel_rfl]; exact lpNil) (fun x => by kernel_rfl)
def r_parse_s6_A : Ann := ⟨84, [0, 2, 4, 5, 6], [.val .str, .box (.pair .bool (.pair .str .str)), .box (.pair .bool (.pair .str .str)), .val .str, .val (.int .i64)], [], []⟩
def r_parse_C : Callee := ⟨[.val .str], [.val (.pair .bool (.pair .str .str)), .val .bool], fun x => r_parse x.1⟩
def r_parse_ti : List (Nat × TI) := [(4, i4), (9, i9), (62, i62)]
def r_parse_fn : List (Nat × Callee) := [(57, r_digits_C), (58, r_reduce_C), (59, r_trim_C), (60, r_ratio_text_C)]
def r_parse_lp : List (Nat × LoopO) := [(6, loopF r_parse_s6_A [Ex.exit 0] r_parse_s6)]
def r_parse_E : Tab := ⟨look r_parse_ti, lookC r_parse_fn, lookL r_parse_lp⟩
theorem r_parse_tab {V : Env} (hP : V.P = Tryz.prog) (h57 : Good V 57 r_digits_C) (h58 : Good V 58 r_reduce_C) (h59 : Good V 59 r_trim_C) (h60 : Good V 60 r_ratio_text_C) : TabOK V r_parse_E :=
  tab_ok (hP ▸ (tiCons tok4 (tiCons tok9 (tiCons tok62 tiNil)))) (fnCons h57 (fnCons h58 (fnCons h59 (fnCons h60 fnNil))))
theorem r_parse_s6_run : ∀ x, run r_parse_E (lb (bb (sr (sl (sr (sr (sr (sr (fb Tryz.f107))))))))) (encSt r_parse_s6_A x) (fun ex st => (decSt r_parse_s6_A st).bind fun y => some (ex, y)) = r_parse_s6 x := fun x => by kernel_rfl
theorem r_parse_s6_ok {V : Env} (hE : TabOK V r_parse_E) (Γ : Base) (hg : Γ.gb = V.gb) (h0 : V.G Γ.w) : Sound V Γ (.loop (lb (bb (sr (sl (sr (sr (sr (sr (fb Tryz.f107)))))))))) fun ρ => (loopF r_parse_s6_A [Ex.exit 0] r_parse_s6).f ρ :=
  loop_ok hE hg h0 (by rw [show loopsOf (lb (bb (sr (sl (sr (sr (sr (sr (fb Tryz.f107))))))))) = [] from by kernel_rfl]; exact lpNil) r_parse_s6_run
theorem r_parse_good {V : Env} (hP : V.P = Tryz.prog) (h57 : Good V 57 r_digits_C) (h58 : Good V 58 r_reduce_C) (h59 : Good V 59 r_trim_C) (h60 : Good V 60 r_ratio_text_C) : Good V 107 r_parse_C :=
  have hE := r_parse_tab hP h57 h58 h59 h60
  good_of hE (hP ▸ Tryz.func107) (show Tryz.f107.body = some (fb Tryz.f107) from rfl) (by decide) (by decide) (fun Γ hg h0 => by rw [show loopsOf (fb Tryz.f107) = [lb (bb (sr (sl (sr (sr (sr (sr (fb Tryz.f107))))))))] from by kernel_rfl]; exact (lpCons (by kernel_rfl) (r_parse_s6_ok hE Γ hg h0) lpNil)) (fun x => by kernel_rfl)
def r_mulMag_s6_A : Ann := ⟨78, [0, 1, 5, 6, 7], [.val .str, .val .str, .row (.int .i64), .val (.int .i64), .val (.int .i64)], [], []⟩
def r_mulMag_s3_A : Ann := ⟨78, [0, 1, 5, 6], [.val .str, .val .str, .row (.int .i64), .val (.int .i64)], [], []⟩
def r_mulMag_s12_A : Ann := ⟨78, [5, 8, 9, 10], [.row (.int .i64), .row (.int .u8), .val (.int .i64), .val (.int .i64)], [], []⟩
def r_mulMag_C : Callee := ⟨[.val .str, .val .str], [.val .str], fun x => r_mulMag x.1 x.2.1⟩
def r_mulMag_ti : List (Nat × TI) := [(3, i3), (5, i5), (9, i9), (22, i22), (49, i49)]
def r_mulMag_fn : List (Nat × Callee) := [(59, r_trim_C)]
def r_mulMag_lp : List (Nat × LoopO) := [(6, loopF r_mulMag_s6_A [Ex.exit 2] r_mulMag_s6), (3, loopF r_mulMag_s3_A [Ex.exit 0] r_mulMag_s3), (12, loopF r_mulMag_s12_A [Ex.exit 4] r_mulMag_s12)]
def r_mulMag_E : Tab := ⟨look r_mulMag_ti, lookC r_mulMag_fn, lookL r_mulMag_lp⟩
theorem r_mulMag_tab {V : Env} (hP : V.P = Tryz.prog) (h59 : Good V 59 r_trim_C) : TabOK V r_mulMag_E :=
  tab_ok (hP ▸ (tiCons tok3 (tiCons tok5 (tiCons tok9 (tiCons tok22 (tiCons tok49 tiNil)))))) (fnCons h59 fnNil)
theorem r_mulMag_s6_run : ∀ x, run r_mulMag_E (lb (bb (sr (bb (sl (sr (lb (bb (sr (sl (sr (sr (fb Tryz.f114))))))))))))) (encSt r_mulMag_s6_A x) (fun ex st => (decSt r_mulMag_s6_A st).bind fun y => some (ex, y)) = r_mulMag_s6 x := fun x => by kernel_rfl
theorem r_mulMag_s6_ok {V : Env} (hE : TabOK V r_mulMag_E) (Γ : Base) (hg : Γ.gb = V.gb) (h0 : V.G Γ.w) : Sound V Γ (.loop (lb (bb (sr (bb (sl (sr (lb (bb (sr (sl (sr (sr (fb Tryz.f114)))))))))))))) fun ρ => (loopF r_mulMag_s6_A [Ex.exit 2] r_mulMag_s6).f ρ :=
  loop_ok hE hg h0 (by rw [show loopsOf (lb (bb (sr (bb (sl (sr (lb (bb (sr (sl (sr (sr (fb Tryz.f114))))))))))))) = [] from by kernel_rfl]; exact lpNil) r_mulMag_s6_run
theorem r_mulMag_s3_run : ∀ x, run r_mulMag_E (lb (bb (sr (sl (sr (sr (fb Tryz.f114))))))) (encSt r_mulMag_s3_A x) (fun ex st => (decSt r_mulMag_s3_A st).bind fun y => some (ex, y)) = r_mulMag_s3 x := fun x => by kernel_rfl
theorem r_mulMag_s3_ok {V : Env} (hE : TabOK V r_mulMag_E) (Γ : Base) (hg : Γ.gb = V.gb) (h0 : V.G Γ.w) : Sound V Γ (.loop (lb (bb (sr (sl (sr (sr (fb Tryz.f114)))))))) fun ρ => (loopF r_mulMag_s3_A [Ex.exit 0] r_mulMag_s3).f ρ :=
  loop_ok hE hg h0 (by rw [show loopsOf (lb (bb (sr (sl (sr (sr (fb Tryz.f114))))))) = [lb (bb (sr (bb (sl (sr (lb (bb (sr (sl (sr (sr (fb Tryz.f114))))))))))))] from by kernel_rfl]; exact (lpCons (by kernel_rfl) (r_mulMag_s6_ok hE Γ hg h0) lpNil)) r_mulMag_s3_run
theorem r_mulMag_s12_run : ∀ x, run r_mulMag_E (lb (bb (sr (sl (sr (sr (sr (sr (sr (fb Tryz.f114)))))))))) (encSt r_mulMag_s12_A x) (fun ex st => (decSt r_mulMag_s12_A st).bind fun y => some (ex, y)) = r_mulMag_s12 x := fun x => by kernel_rfl
theorem r_mulMag_s12_ok {V : Env} (hE : TabOK V r_mulMag_E) (Γ : Base) (hg : Γ.gb = V.gb) (h0 : V.G Γ.w) : Sound V Γ (.loop (lb (bb (sr (sl (sr (sr (sr (sr (sr (fb Tryz.f114))))))))))) fun ρ => (loopF r_mulMag_s12_A [Ex.exit 4] r_mulMag_s12).f ρ :=
  loop_ok hE hg h0 (by rw [show loopsOf (lb (bb (sr (sl (sr (sr (sr (sr (sr (fb Tryz.f114)))))))))) = [] from by kernel_rfl]; exact lpNil) r_mulMag_s12_run
theorem r_mulMag_good {V : Env} (hP : V.P = Tryz.prog) (h59 : Good V 59 r_trim_C) : Good V 114 r_mulMag_C :=
  have hE := r_mulMag_tab hP h59
  good_of hE (hP ▸ Tryz.func114) (show Tryz.f114.body = some (fb Tryz.f114) from rfl) (by decide) (by decide) (fun Γ hg h0 => by rw [show loopsOf (fb Tryz.f114) = [lb (bb (sr (sl (sr (sr (fb Tryz.f114)))))), lb (bb (sr (sl (sr (sr (sr (sr (sr (fb Tryz.f114)))))))))] from by kernel_rfl]; exact (lpCons (by kernel_rfl) (r_mulMag_s3_ok hE Γ hg h0) (lpCons (by kernel_rfl) (r_mulMag_s12_ok hE Γ hg h0) lpNil))) (fun x => by kernel_rfl)
def r_Div_C : Callee := ⟨[.val .str, .val .str], [.val .str], fun x => r_Div x.1 x.2.1⟩
def r_Div_ti : List (Nat × TI) := [(4, i4), (9, i9), (62, i62)]
def r_Div_fn : List (Nat × Callee) := [(58, r_reduce_C), (60, r_ratio_text_C), (107, r_parse_C), (114, r_mulMag_C)]
def r_Div_lp : List (Nat × LoopO) := []
def r_Div_E : Tab := ⟨look r_Div_ti, lookC r_Div_fn, lookL r_Div_lp⟩
theorem r_Div_tab {V : Env} (hP : V.P = Tryz.prog) (h58 : Good V 58 r_reduce_C) (h60 : Good V 60 r_ratio_text_C) (h107 : Good V 107 r_parse_C) (h114 : Good V 114 r_mulMag_C) : TabOK V r_Div_E :=
  tab_ok (hP ▸ (tiCons tok4 (tiCons tok9 (tiCons tok62 tiNil)))) (fnCons h58 (fnCons h60 (fnCons h107 (fnCons h114 fnNil))))
theorem r_Div_good {V : Env} (hP : V.P = Tryz.prog) (h58 : Good V 58 r_reduce_C) (h60 : Good V 60 r_ratio_text_C) (h107 : Good V 107 r_parse_C) (h114 : Good V 114 r_mulMag_C) : Good V 76 r_Div_C :=
  have hE := r_Div_tab hP h58 h60 h107 h114
  good_of hE (hP ▸ Tryz.func76) (show Tryz.f76.body = some (fb Tryz.f76) from rfl) (by decide) (by decide) (fun Γ hg h0 => by rw [show loopsOf (fb Tryz.f76) = [] from by kernel_rfl]; exact lpNil) (fun x => by kernel_rfl)
def g_Choices_Next_C : Callee := ⟨[.box (.pair (.sl (.int .i64)) (.int .i64)), .val (.int .i64)], [.val (.int .i64)], fun x => g_Choices_Next x.1 x.2.1⟩
def g_Choices_Next_ti : List (Nat × TI) := [(3, i3), (22, i22), (73, i73)]
def g_Choices_Next_fn : List (Nat × Callee) := [(16, g_Mod_C)]
def g_Choices_Next_lp : List (Nat × LoopO) := []
def g_Choices_Next_E : Tab := ⟨look g_Choices_Next_ti, lookC g_Choices_Next_fn, lookL g_Choices_Next_lp⟩
theorem g_Choices_Next_tab {V : Env} (hP : V.P = Tryz.prog) (h16 : Good V 16 g_Mod_C) : TabOK V g_Choices_Next_E :=
  tab_ok (hP ▸ (tiCons tok3 (tiCons tok22 (tiCons tok73 tiNil)))) (fnCons h16 fnNil)
theorem g_Choices_Next_good {V : Env} (hP : V.P = Tryz.prog) (h16 : Good V 16 g_Mod_C) : Good V 78 g_Choices_Next_C :=
  have hE := g_Choices_Next_tab hP h16
  good_of hE (hP ▸ Tryz.func78) (show Tryz.f78.body = some (fb Tryz.f78) from rfl) (by decide) (by decide) (fun Γ hg h0 => by rw [show loopsOf (fb Tryz.f78) = [] from by kernel_rfl]; exact lpNil) (fun x => by kernel_rfl)
def r_Mul_C : Callee := ⟨[.val .str, .val .str], [.val .str], fun x => r_Mul x.1 x.2.1⟩
def r_Mul_ti : List (Nat × TI) := [(4, i4), (9, i9), (62, i62)]
def r_Mul_fn : List (Nat × Callee) := [(58, r_reduce_C), (60, r_ratio_text_C), (107, r_parse_C), (114, r_mulMag_C)]
def r_Mul_lp : List (Nat × LoopO) := []
def r_Mul_E : Tab := ⟨look r_Mul_ti, lookC r_Mul_fn, lookL r_Mul_lp⟩
theorem r_Mul_tab {V : Env} (hP : V.P = Tryz.prog) (h58 : Good V 58 r_reduce_C) (h60 : Good V 60 r_ratio_text_C) (h107 : Good V 107 r_parse_C) (h114 : Good V 114 r_mulMag_C) : TabOK V r_Mul_E :=
  tab_ok (hP ▸ (tiCons tok4 (tiCons tok9 (tiCons tok62 tiNil)))) (fnCons h58 (fnCons h60 (fnCons h107 (fnCons h114 fnNil))))
theorem r_Mul_good {V : Env} (hP : V.P = Tryz.prog) (h58 : Good V 58 r_reduce_C) (h60 : Good V 60 r_ratio_text_C) (h107 : Good V 107 r_parse_C) (h114 : Good V 114 r_mulMag_C) : Good V 85 r_Mul_C :=
  have hE := r_Mul_tab hP h58 h60 h107 h114
  good_of hE (hP ▸ Tryz.func85) (show Tryz.f85.body = some (fb Tryz.f85) from rfl) (by decide) (by decide) (fun Γ hg h0 => by rw [show loopsOf (fb Tryz.f85) = [] from by kernel_rfl]; exact lpNil) (fun x => by kernel_rfl)
def g_Choices_Integer_C : Callee := ⟨[.box (.pair (.sl (.int .i64)) (.int .i64))], [.val .str], fun x => g_Choices_Integer x.1⟩
def g_Choices_Integer_ti : List (Nat × TI) := []
def g_Choices_Integer_fn : List (Nat × Callee) := [(15, r_FromInt_C), (78, g_Choices_Next_C), (85, r_Mul_C)]
def g_Choices_Integer_lp : List (Nat × LoopO) := []
def g_Choices_Integer_E : Tab := ⟨look g_Choices_Integer_ti, lookC g_Choices_Integer_fn, lookL g_Choices_Integer_lp⟩
theorem g_Choices_Integer_tab {V : Env} (hP : V.P = Tryz.prog) (h15 : Good V 15 r_FromInt_C) (h78 : Good V 78 g_Choices_Next_C) (h85 : Good V 85 r_Mul_C) : TabOK V g_Choices_Integer_E :=
  tab_ok (hP ▸ tiNil) (fnCons h15 (fnCons h78 (fnCons h85 fnNil)))
theorem g_Choices_Integer_good {V : Env} (hP : V.P = Tryz.prog) (h15 : Good V 15 r_FromInt_C) (h78 : Good V 78 g_Choices_Next_C) (h85 : Good V 85 r_Mul_C) : Good V 77 g_Choices_Integer_C :=
  have hE := g_Choices_Integer_tab hP h15 h78 h85
  good_of hE (hP ▸ Tryz.func77) (show Tryz.f77.body = some (fb Tryz.f77) from rfl) (by decide) (by decide) (fun Γ hg h0 => by rw [show loopsOf (fb Tryz.f77) = [] from by kernel_rfl]; exact lpNil) (fun x => by kernel_rfl)
def g_Choices_Number_C : Callee := ⟨[.box (.pair (.sl (.int .i64)) (.int .i64))], [.val .str], fun x => g_Choices_Number x.1⟩
def g_Choices_Number_ti : List (Nat × TI) := []
def g_Choices_Number_fn : List (Nat × Callee) := [(15, r_FromInt_C), (76, r_Div_C), (77, g_Choices_Integer_C), (78, g_Choices_Next_C)]
def g_Choices_Number_lp : List (Nat × LoopO) := []
def g_Choices_Number_E : Tab := ⟨look g_Choices_Number_ti, lookC g_Choices_Number_fn, lookL g_Choices_Number_lp⟩
theorem g_Choices_Number_tab {V : Env} (hP : V.P = Tryz.prog) (h15 : Good V 15 r_FromInt_C) (h76 : Good V 76 r_Div_C) (h77 : Good V 77 g_Choices_Integer_C) (h78 : Good V 78 g_Choices_Next_C) : TabOK V g_Choices_Number_E :=
  tab_ok (hP ▸ tiNil) (fnCons h15 (fnCons h76 (fnCons h77 (fnCons h78 fnNil))))
theorem g_Choices_Number_good {V : Env} (hP : V.P = Tryz.prog) (h15 : Good V 15 r_FromInt_C) (h76 : Good V 76 r_Div_C) (h77 : Good V 77 g_Choices_Integer_C) (h78 : Good V 78 g_Choices_Next_C) : Good V 37 g_Choices_Number_C :=
  have hE := g_Choices_Number_tab hP h15 h76 h77 h78
  good_of hE (hP ▸ Tryz.func37) (show Tryz.f37.body = some (fb Tryz.f37) from rfl) (by decide) (by decide) (fun Γ hg h0 => by rw [show loopsOf (fb Tryz.f37) = [] from by kernel_rfl]; exact lpNil) (fun x => by kernel_rfl)
def r_Valid_C : Callee := ⟨[.val .str], [.val .bool], fun x => r_Valid x.1⟩
def r_Valid_ti : List (Nat × TI) := [(62, i62)]
def r_Valid_fn : List (Nat × Callee) := [(107, r_parse_C)]
def r_Valid_lp : List (Nat × LoopO) := []
def r_Valid_E : Tab := ⟨look r_Valid_ti, lookC r_Valid_fn, lookL r_Valid_lp⟩
theorem r_Valid_tab {V : Env} (hP : V.P = Tryz.prog) (h107 : Good V 107 r_parse_C) : TabOK V r_Valid_E :=
  tab_ok (hP ▸ (tiCons tok62 tiNil)) (fnCons h107 fnNil)
theorem r_Valid_good {V : Env} (hP : V.P = Tryz.prog) (h107 : Good V 107 r_parse_C) : Good V 61 r_Valid_C :=
  have hE := r_Valid_tab hP h107
  good_of hE (hP ▸ Tryz.func61) (show Tryz.f61.body = some (fb Tryz.f61) from rfl) (by decide) (by decide) (fun Γ hg h0 => by rw [show loopsOf (fb Tryz.f61) = [] from by kernel_rfl]; exact lpNil) (fun x => by kernel_rfl)
def l_pick_C : Callee := ⟨[.val .str, .val (.sl (.int .i64))], [.val .str], fun x => l_pick x.1 x.2.1⟩
def l_pick_ti : List (Nat × TI) := [(9, i9), (38, i38)]
def l_pick_fn : List (Nat × Callee) := [(13, l_short_C), (36, g_New_C), (37, g_Choices_Number_C), (61, r_Valid_C)]
def l_pick_lp : List (Nat × LoopO) := []
def l_pick_E : Tab := ⟨look l_pick_ti, lookC l_pick_fn, lookL l_pick_lp⟩
theorem l_pick_tab {V : Env} (hP : V.P = Tryz.prog) (h13 : Good V 13 l_short_C) (h36 : Good V 36 g_New_C) (h37 : Good V 37 g_Choices_Number_C) (h61 : Good V 61 r_Valid_C) : TabOK V l_pick_E :=
  tab_ok (hP ▸ (tiCons tok9 (tiCons tok38 tiNil))) (fnCons h13 (fnCons h36 (fnCons h37 (fnCons h61 fnNil))))
theorem l_pick_good {V : Env} (hP : V.P = Tryz.prog) (h13 : Good V 13 l_short_C) (h36 : Good V 36 g_New_C) (h37 : Good V 37 g_Choices_Number_C) (h61 : Good V 61 r_Valid_C) : Good V 19 l_pick_C :=
  have hE := l_pick_tab hP h13 h36 h37 h61
  good_of hE (hP ▸ Tryz.func19) (show Tryz.f19.body = some (fb Tryz.f19) from rfl) (by decide) (by decide) (fun Γ hg h0 => by rw [show loopsOf (fb Tryz.f19) = [] from by kernel_rfl]; exact lpNil) (fun x => by kernel_rfl)
def n_Sign_C : Callee := ⟨[.val .str], [.val (.int .i64)], fun x => n_Sign x.1⟩
def n_Sign_ti : List (Nat × TI) := [(9, i9)]
def n_Sign_fn : List (Nat × Callee) := [(49, n_Valid_C)]
def n_Sign_lp : List (Nat × LoopO) := []
def n_Sign_E : Tab := ⟨look n_Sign_ti, lookC n_Sign_fn, lookL n_Sign_lp⟩
theorem n_Sign_tab {V : Env} (hP : V.P = Tryz.prog) (h49 : Good V 49 n_Valid_C) : TabOK V n_Sign_E :=
  tab_ok (hP ▸ (tiCons tok9 tiNil)) (fnCons h49 fnNil)
theorem n_Sign_good {V : Env} (hP : V.P = Tryz.prog) (h49 : Good V 49 n_Valid_C) : Good V 23 n_Sign_C :=
  have hE := n_Sign_tab hP h49
  good_of hE (hP ▸ Tryz.func23) (show Tryz.f23.body = some (fb Tryz.f23) from rfl) (by decide) (by decide) (fun Γ hg h0 => by rw [show loopsOf (fb Tryz.f23) = [] from by kernel_rfl]; exact lpNil) (fun x => by kernel_rfl)
def n_Neg_C : Callee := ⟨[.val .str], [.val .str], fun x => n_Neg x.1⟩
def n_Neg_ti : List (Nat × TI) := [(9, i9)]
def n_Neg_fn : List (Nat × Callee) := [(23, n_Sign_C)]
def n_Neg_lp : List (Nat × LoopO) := []
def n_Neg_E : Tab := ⟨look n_Neg_ti, lookC n_Neg_fn, lookL n_Neg_lp⟩
theorem n_Neg_tab {V : Env} (hP : V.P = Tryz.prog) (h23 : Good V 23 n_Sign_C) : TabOK V n_Neg_E :=
  tab_ok (hP ▸ (tiCons tok9 tiNil)) (fnCons h23 fnNil)
theorem n_Neg_good {V : Env} (hP : V.P = Tryz.prog) (h23 : Good V 23 n_Sign_C) : Good V 29 n_Neg_C :=
  have hE := n_Neg_tab hP h23
  good_of hE (hP ▸ Tryz.func29) (show Tryz.f29.body = some (fb Tryz.f29) from rfl) (by decide) (by decide) (fun Γ hg h0 => by rw [show loopsOf (fb Tryz.f29) = [] from by kernel_rfl]; exact lpNil) (fun x => by kernel_rfl)
def n_Sub_C : Callee := ⟨[.val .str, .val .str], [.val .str], fun x => n_Sub x.1 x.2.1⟩
def n_Sub_ti : List (Nat × TI) := []
def n_Sub_fn : List (Nat × Callee) := [(21, n_Add_C), (29, n_Neg_C)]
def n_Sub_lp : List (Nat × LoopO) := []
def n_Sub_E : Tab := ⟨look n_Sub_ti, lookC n_Sub_fn, lookL n_Sub_lp⟩
theorem n_Sub_tab {V : Env} (hP : V.P = Tryz.prog) (h21 : Good V 21 n_Add_C) (h29 : Good V 29 n_Neg_C) : TabOK V n_Sub_E :=
  tab_ok (hP ▸ tiNil) (fnCons h21 (fnCons h29 fnNil))
theorem n_Sub_good {V : Env} (hP : V.P = Tryz.prog) (h21 : Good V 21 n_Add_C) (h29 : Good V 29 n_Neg_C) : Good V 24 n_Sub_C :=
  have hE := n_Sub_tab hP h21 h29
  good_of hE (hP ▸ Tryz.func24) (show Tryz.f24.body = some (fb Tryz.f24) from rfl) (by decide) (by decide) (fun Γ hg h0 => by rw [show loopsOf (fb Tryz.f24) = [] from by kernel_rfl]; exact lpNil) (fun x => by kernel_rfl)
def n_Cmp_C : Callee := ⟨[.val .str, .val .str], [.val (.int .i64)], fun x => n_Cmp x.1 x.2.1⟩
def n_Cmp_ti : List (Nat × TI) := []
def n_Cmp_fn : List (Nat × Callee) := [(23, n_Sign_C), (24, n_Sub_C)]
def n_Cmp_lp : List (Nat × LoopO) := []
def n_Cmp_E : Tab := ⟨look n_Cmp_ti, lookC n_Cmp_fn, lookL n_Cmp_lp⟩
theorem n_Cmp_tab {V : Env} (hP : V.P = Tryz.prog) (h23 : Good V 23 n_Sign_C) (h24 : Good V 24 n_Sub_C) : TabOK V n_Cmp_E :=
  tab_ok (hP ▸ tiNil) (fnCons h23 (fnCons h24 fnNil))
theorem n_Cmp_good {V : Env} (hP : V.P = Tryz.prog) (h23 : Good V 23 n_Sign_C) (h24 : Good V 24 n_Sub_C) : Good V 20 n_Cmp_C :=
  have hE := n_Cmp_tab hP h23 h24
  good_of hE (hP ▸ Tryz.func20) (show Tryz.f20.body = some (fb Tryz.f20) from rfl) (by decide) (by decide) (fun Γ hg h0 => by rw [show loopsOf (fb Tryz.f20) = [] from by kernel_rfl]; exact lpNil) (fun x => by kernel_rfl)
def n_Mul_1_C : Callee := ⟨[.val (.pair (.int .i64) (.int .i64)), .val (.pair (.int .i64) (.int .i64))], [.val .str], fun x => n_Mul_1 x.1 x.2.1⟩
def n_Mul_1_ti : List (Nat × TI) := [(2, i2), (66, i66)]
def n_Mul_1_fn : List (Nat × Callee) := [(64, n_fraction_C)]
def n_Mul_1_lp : List (Nat × LoopO) := []
def n_Mul_1_E : Tab := ⟨look n_Mul_1_ti, lookC n_Mul_1_fn, lookL n_Mul_1_lp⟩
theorem n_Mul_1_tab {V : Env} (hP : V.P = Tryz.prog) (h64 : Good V 64 n_fraction_C) : TabOK V n_Mul_1_E :=
  tab_ok (hP ▸ (tiCons tok2 (tiCons tok66 tiNil))) (fnCons h64 fnNil)
theorem n_Mul_1_good {V : Env} (hP : V.P = Tryz.prog) (h64 : Good V 64 n_fraction_C) : Good V 67 n_Mul_1_C :=
  have hE := n_Mul_1_tab hP h64
  good_of hE (hP ▸ Tryz.func67) (show Tryz.f67.body = some (fb Tryz.f67) from rfl) (by decide) (by decide) (fun Γ hg h0 => by rw [show loopsOf (fb Tryz.f67) = [] from by kernel_rfl]; exact lpNil) (fun x => by kernel_rfl)
def n_rat_mul_C : Callee := ⟨[.val (.pair .bool (.pair (.sl (.int .u32)) (.sl (.int .u32)))), .val (.pair .bool (.pair (.sl (.int .u32)) (.sl (.int .u32))))], [.val (.pair .bool (.pair (.sl (.int .u32)) (.sl (.int .u32))))], fun x => n_rat_mul x.1 x.2.1⟩
def n_rat_mul_ti : List (Nat × TI) := [(4, i4), (55, i55), (59, i59)]
def n_rat_mul_fn : List (Nat × Callee) := [(55, n_lowest_C), (110, n_nat_mul_C)]
def n_rat_mul_lp : List (Nat × LoopO) := []
def n_rat_mul_E : Tab := ⟨look n_rat_mul_ti, lookC n_rat_mul_fn, lookL n_rat_mul_lp⟩
theorem n_rat_mul_tab {V : Env} (hP : V.P = Tryz.prog) (h55 : Good V 55 n_lowest_C) (h110 : Good V 110 n_nat_mul_C) : TabOK V n_rat_mul_E :=
  tab_ok (hP ▸ (tiCons tok4 (tiCons tok55 (tiCons tok59 tiNil)))) (fnCons h55 (fnCons h110 fnNil))
theorem n_rat_mul_good {V : Env} (hP : V.P = Tryz.prog) (h55 : Good V 55 n_lowest_C) (h110 : Good V 110 n_nat_mul_C) : Good V 69 n_rat_mul_C :=
  have hE := n_rat_mul_tab hP h55 h110
  good_of hE (hP ▸ Tryz.func69) (show Tryz.f69.body = some (fb Tryz.f69) from rfl) (by decide) (by decide) (fun Γ hg h0 => by rw [show loopsOf (fb Tryz.f69) = [] from by kernel_rfl]; exact lpNil) (fun x => by kernel_rfl)
def n_Mul_2_C : Callee := ⟨[.val (.pair .bool (.pair (.sl (.int .u32)) (.sl (.int .u32)))), .val (.pair .bool (.pair (.sl (.int .u32)) (.sl (.int .u32))))], [.val .str], fun x => n_Mul_2 x.1 x.2.1⟩
def n_Mul_2_ti : List (Nat × TI) := [(59, i59)]
def n_Mul_2_fn : List (Nat × Callee) := [(56, n_rat_text_C), (69, n_rat_mul_C)]
def n_Mul_2_lp : List (Nat × LoopO) := []
def n_Mul_2_E : Tab := ⟨look n_Mul_2_ti, lookC n_Mul_2_fn, lookL n_Mul_2_lp⟩
theorem n_Mul_2_tab {V : Env} (hP : V.P = Tryz.prog) (h56 : Good V 56 n_rat_text_C) (h69 : Good V 69 n_rat_mul_C) : TabOK V n_Mul_2_E :=
  tab_ok (hP ▸ (tiCons tok59 tiNil)) (fnCons h56 (fnCons h69 fnNil))
theorem n_Mul_2_good {V : Env} (hP : V.P = Tryz.prog) (h56 : Good V 56 n_rat_text_C) (h69 : Good V 69 n_rat_mul_C) : Good V 68 n_Mul_2_C :=
  have hE := n_Mul_2_tab hP h56 h69
  good_of hE (hP ▸ Tryz.func68) (show Tryz.f68.body = some (fb Tryz.f68) from rfl) (by decide) (by decide) (fun Γ hg h0 => by rw [show loopsOf (fb Tryz.f68) = [] from by kernel_rfl]; exact lpNil) (fun x => by kernel_rfl)
def n_two_m_C : Callee := ⟨[.val .str, .val .str, .val (.fnv 67 .unit), .val (.fnv 68 .unit)], [.val .str], fun x => n_two_m x.1 x.2.1 x.2.2.1 x.2.2.2.1⟩
def n_two_m_ti : List (Nat × TI) := [(59, i59), (66, i66)]
def n_two_m_fn : List (Nat × Callee) := [(67, n_Mul_1_C), (68, n_Mul_2_C), (79, n_read_C), (92, n_smallOf_C)]
def n_two_m_lp : List (Nat × LoopO) := []
def n_two_m_E : Tab := ⟨look n_two_m_ti, lookC n_two_m_fn, lookL n_two_m_lp⟩
theorem n_two_m_tab {V : Env} (hP : V.P = Tryz.prog) (h67 : Good V 67 n_Mul_1_C) (h68 : Good V 68 n_Mul_2_C) (h79 : Good V 79 n_read_C) (h92 : Good V 92 n_smallOf_C) : TabOK V n_two_m_E :=
  tab_ok (hP ▸ (tiCons tok59 (tiCons tok66 tiNil))) (fnCons h67 (fnCons h68 (fnCons h79 (fnCons h92 fnNil))))
theorem n_two_m_good {V : Env} (hP : V.P = Tryz.prog) (h67 : Good V 67 n_Mul_1_C) (h68 : Good V 68 n_Mul_2_C) (h79 : Good V 79 n_read_C) (h92 : Good V 92 n_smallOf_C) : Good V 62 n_two_m_C :=
  have hE := n_two_m_tab hP h67 h68 h79 h92
  good_of hE (hP ▸ Tryz.func62) (show Tryz.f62.body = some (fb Tryz.f62) from rfl) (by decide) (by decide) (fun Γ hg h0 => by rw [show loopsOf (fb Tryz.f62) = [] from by kernel_rfl]; exact lpNil) (fun x => by kernel_rfl)
def n_Mul_C : Callee := ⟨[.val .str, .val .str], [.val .str], fun x => n_Mul x.1 x.2.1⟩
def n_Mul_ti : List (Nat × TI) := []
def n_Mul_fn : List (Nat × Callee) := [(62, n_two_m_C)]
def n_Mul_lp : List (Nat × LoopO) := []
def n_Mul_E : Tab := ⟨look n_Mul_ti, lookC n_Mul_fn, lookL n_Mul_lp⟩
theorem n_Mul_tab {V : Env} (hP : V.P = Tryz.prog) (h62 : Good V 62 n_two_m_C) : TabOK V n_Mul_E :=
  tab_ok (hP ▸ tiNil) (fnCons h62 fnNil)
theorem n_Mul_good {V : Env} (hP : V.P = Tryz.prog) (h62 : Good V 62 n_two_m_C) : Good V 22 n_Mul_C :=
  have hE := n_Mul_tab hP h62
  good_of hE (hP ▸ Tryz.func22) (show Tryz.f22.body = some (fb Tryz.f22) from rfl) (by decide) (by decide) (fun Γ hg h0 => by rw [show loopsOf (fb Tryz.f22) = [] from by kernel_rfl]; exact lpNil) (fun x => by kernel_rfl)
def l_NumberOrder_C : Callee := ⟨[.val .str, .val .str, .val .str, .val (.sl (.int .i64)), .val (.sl (.int .i64)), .val (.sl (.int .i64))], [.val .bool], fun x => l_NumberOrder x.1 x.2.1 x.2.2.1 x.2.2.2.1 x.2.2.2.2.1 x.2.2.2.2.2.1⟩
def l_NumberOrder_ti : List (Nat × TI) := [(4, i4)]
def l_NumberOrder_fn : List (Nat × Callee) := [(14, l_awake_C), (19, l_pick_C), (20, n_Cmp_C), (21, n_Add_C), (22, n_Mul_C), (23, n_Sign_C), (24, n_Sub_C)]
def l_NumberOrder_lp : List (Nat × LoopO) := []
def l_NumberOrder_E : Tab := ⟨look l_NumberOrder_ti, lookC l_NumberOrder_fn, lookL l_NumberOrder_lp⟩
theorem l_NumberOrder_tab {V : Env} (hP : V.P = Tryz.prog) (h14 : Good V 14 l_awake_C) (h19 : Good V 19 l_pick_C) (h20 : Good V 20 n_Cmp_C) (h21 : Good V 21 n_Add_C) (h22 : Good V 22 n_Mul_C) (h23 : Good V 23 n_Sign_C) (h24 : Good V 24 n_Sub_C) : TabOK V l_NumberOrder_E :=
  tab_ok (hP ▸ (tiCons tok4 tiNil)) (fnCons h14 (fnCons h19 (fnCons h20 (fnCons h21 (fnCons h22 (fnCons h23 (fnCons h24 fnNil)))))))
theorem l_NumberOrder_good {V : Env} (hP : V.P = Tryz.prog) (h14 : Good V 14 l_awake_C) (h19 : Good V 19 l_pick_C) (h20 : Good V 20 n_Cmp_C) (h21 : Good V 21 n_Add_C) (h22 : Good V 22 n_Mul_C) (h23 : Good V 23 n_Sign_C) (h24 : Good V 24 n_Sub_C) : Good V 4 l_NumberOrder_C :=
  have hE := l_NumberOrder_tab hP h14 h19 h20 h21 h22 h23 h24
  good_of hE (hP ▸ Tryz.func4) (show Tryz.f4.body = some (fb Tryz.f4) from rfl) (by decide) (by decide) (fun Γ hg h0 => by rw [show loopsOf (fb Tryz.f4) = [] from by kernel_rfl]; exact lpNil) (fun x => by kernel_rfl)
def n_Div_1_C : Callee := ⟨[.val (.pair (.int .i64) (.int .i64)), .val (.pair (.int .i64) (.int .i64))], [.val .str], fun x => n_Div_1 x.1 x.2.1⟩
def n_Div_1_ti : List (Nat × TI) := [(2, i2), (66, i66)]
def n_Div_1_fn : List (Nat × Callee) := [(64, n_fraction_C)]
def n_Div_1_lp : List (Nat × LoopO) := []
def n_Div_1_E : Tab := ⟨look n_Div_1_ti, lookC n_Div_1_fn, lookL n_Div_1_lp⟩
theorem n_Div_1_tab {V : Env} (hP : V.P = Tryz.prog) (h64 : Good V 64 n_fraction_C) : TabOK V n_Div_1_E :=
  tab_ok (hP ▸ (tiCons tok2 (tiCons tok66 tiNil))) (fnCons h64 fnNil)
theorem n_Div_1_good {V : Env} (hP : V.P = Tryz.prog) (h64 : Good V 64 n_fraction_C) : Good V 70 n_Div_1_C :=
  have hE := n_Div_1_tab hP h64
  good_of hE (hP ▸ Tryz.func70) (show Tryz.f70.body = some (fb Tryz.f70) from rfl) (by decide) (by decide) (fun Γ hg h0 => by rw [show loopsOf (fb Tryz.f70) = [] from by kernel_rfl]; exact lpNil) (fun x => by kernel_rfl)
def n_Div_2_C : Callee := ⟨[.val (.pair .bool (.pair (.sl (.int .u32)) (.sl (.int .u32)))), .val (.pair .bool (.pair (.sl (.int .u32)) (.sl (.int .u32))))], [.val .str], fun x => n_Div_2 x.1 x.2.1⟩
def n_Div_2_ti : List (Nat × TI) := [(4, i4), (55, i55), (59, i59)]
def n_Div_2_fn : List (Nat × Callee) := [(56, n_rat_text_C), (69, n_rat_mul_C)]
def n_Div_2_lp : List (Nat × LoopO) := []
def n_Div_2_E : Tab := ⟨look n_Div_2_ti, lookC n_Div_2_fn, lookL n_Div_2_lp⟩
theorem n_Div_2_tab {V : Env} (hP : V.P = Tryz.prog) (h56 : Good V 56 n_rat_text_C) (h69 : Good V 69 n_rat_mul_C) : TabOK V n_Div_2_E :=
  tab_ok (hP ▸ (tiCons tok4 (tiCons tok55 (tiCons tok59 tiNil)))) (fnCons h56 (fnCons h69 fnNil))
theorem n_Div_2_good {V : Env} (hP : V.P = Tryz.prog) (h56 : Good V 56 n_rat_text_C) (h69 : Good V 69 n_rat_mul_C) : Good V 71 n_Div_2_C :=
  have hE := n_Div_2_tab hP h56 h69
  good_of hE (hP ▸ Tryz.func71) (show Tryz.f71.body = some (fb Tryz.f71) from rfl) (by decide) (by decide) (fun Γ hg h0 => by rw [show loopsOf (fb Tryz.f71) = [] from by kernel_rfl]; exact lpNil) (fun x => by kernel_rfl)
def n_two_d_C : Callee := ⟨[.val .str, .val .str, .val (.fnv 70 .unit), .val (.fnv 71 .unit)], [.val .str], fun x => n_two_d x.1 x.2.1 x.2.2.1 x.2.2.2.1⟩
def n_two_d_ti : List (Nat × TI) := [(59, i59), (66, i66)]
def n_two_d_fn : List (Nat × Callee) := [(70, n_Div_1_C), (71, n_Div_2_C), (79, n_read_C), (92, n_smallOf_C)]
def n_two_d_lp : List (Nat × LoopO) := []
def n_two_d_E : Tab := ⟨look n_two_d_ti, lookC n_two_d_fn, lookL n_two_d_lp⟩
theorem n_two_d_tab {V : Env} (hP : V.P = Tryz.prog) (h70 : Good V 70 n_Div_1_C) (h71 : Good V 71 n_Div_2_C) (h79 : Good V 79 n_read_C) (h92 : Good V 92 n_smallOf_C) : TabOK V n_two_d_E :=
  tab_ok (hP ▸ (tiCons tok59 (tiCons tok66 tiNil))) (fnCons h70 (fnCons h71 (fnCons h79 (fnCons h92 fnNil))))
theorem n_two_d_good {V : Env} (hP : V.P = Tryz.prog) (h70 : Good V 70 n_Div_1_C) (h71 : Good V 71 n_Div_2_C) (h79 : Good V 79 n_read_C) (h92 : Good V 92 n_smallOf_C) : Good V 62 n_two_d_C :=
  have hE := n_two_d_tab hP h70 h71 h79 h92
  good_of hE (hP ▸ Tryz.func62) (show Tryz.f62.body = some (fb Tryz.f62) from rfl) (by decide) (by decide) (fun Γ hg h0 => by rw [show loopsOf (fb Tryz.f62) = [] from by kernel_rfl]; exact lpNil) (fun x => by kernel_rfl)
def n_Div_C : Callee := ⟨[.val .str, .val .str], [.val .str], fun x => n_Div x.1 x.2.1⟩
def n_Div_ti : List (Nat × TI) := []
def n_Div_fn : List (Nat × Callee) := [(62, n_two_d_C)]
def n_Div_lp : List (Nat × LoopO) := []
def n_Div_E : Tab := ⟨look n_Div_ti, lookC n_Div_fn, lookL n_Div_lp⟩
theorem n_Div_tab {V : Env} (hP : V.P = Tryz.prog) (h62 : Good V 62 n_two_d_C) : TabOK V n_Div_E :=
  tab_ok (hP ▸ tiNil) (fnCons h62 fnNil)
theorem n_Div_good {V : Env} (hP : V.P = Tryz.prog) (h62 : Good V 62 n_two_d_C) : Good V 25 n_Div_C :=
  have hE := n_Div_tab hP h62
  good_of hE (hP ▸ Tryz.func25) (show Tryz.f25.body = some (fb Tryz.f25) from rfl) (by decide) (by decide) (fun Γ hg h0 => by rw [show loopsOf (fb Tryz.f25) = [] from by kernel_rfl]; exact lpNil) (fun x => by kernel_rfl)
def l_NumberField_C : Callee := ⟨[.val .str, .val .str, .val .str, .val (.sl (.int .i64)), .val (.sl (.int .i64)), .val (.sl (.int .i64))], [.val .bool], fun x => l_NumberField x.1 x.2.1 x.2.2.1 x.2.2.2.1 x.2.2.2.2.1 x.2.2.2.2.2.1⟩
def l_NumberField_ti : List (Nat × TI) := []
def l_NumberField_fn : List (Nat × Callee) := [(14, l_awake_C), (19, l_pick_C), (21, n_Add_C), (22, n_Mul_C), (24, n_Sub_C), (25, n_Div_C)]
def l_NumberField_lp : List (Nat × LoopO) := []
def l_NumberField_E : Tab := ⟨look l_NumberField_ti, lookC l_NumberField_fn, lookL l_NumberField_lp⟩
theorem l_NumberField_tab {V : Env} (hP : V.P = Tryz.prog) (h14 : Good V 14 l_awake_C) (h19 : Good V 19 l_pick_C) (h21 : Good V 21 n_Add_C) (h22 : Good V 22 n_Mul_C) (h24 : Good V 24 n_Sub_C) (h25 : Good V 25 n_Div_C) : TabOK V l_NumberField_E :=
  tab_ok (hP ▸ tiNil) (fnCons h14 (fnCons h19 (fnCons h21 (fnCons h22 (fnCons h24 (fnCons h25 fnNil))))))
theorem l_NumberField_good {V : Env} (hP : V.P = Tryz.prog) (h14 : Good V 14 l_awake_C) (h19 : Good V 19 l_pick_C) (h21 : Good V 21 n_Add_C) (h22 : Good V 22 n_Mul_C) (h24 : Good V 24 n_Sub_C) (h25 : Good V 25 n_Div_C) : Good V 5 l_NumberField_C :=
  have hE := l_NumberField_tab hP h14 h19 h21 h22 h24 h25
  good_of hE (hP ▸ Tryz.func5) (show Tryz.f5.body = some (fb Tryz.f5) from rfl) (by decide) (by decide) (fun Γ hg h0 => by rw [show loopsOf (fb Tryz.f5) = [] from by kernel_rfl]; exact lpNil) (fun x => by kernel_rfl)
def n_Num_C : Callee := ⟨[.val .str], [.val .str], fun x => n_Num x.1⟩
def n_Num_ti : List (Nat × TI) := []
def n_Num_fn : List (Nat × Callee) := [(49, n_Valid_C), (51, strings_Cut_C)]
def n_Num_lp : List (Nat × LoopO) := []
def n_Num_E : Tab := ⟨look n_Num_ti, lookC n_Num_fn, lookL n_Num_lp⟩
theorem n_Num_tab {V : Env} (hP : V.P = Tryz.prog) (h49 : Good V 49 n_Valid_C) (h51 : Good V 51 strings_Cut_C) : TabOK V n_Num_E :=
  tab_ok (hP ▸ tiNil) (fnCons h49 (fnCons h51 fnNil))
theorem n_Num_good {V : Env} (hP : V.P = Tryz.prog) (h49 : Good V 49 n_Valid_C) (h51 : Good V 51 strings_Cut_C) : Good V 38 n_Num_C :=
  have hE := n_Num_tab hP h49 h51
  good_of hE (hP ▸ Tryz.func38) (show Tryz.f38.body = some (fb Tryz.f38) from rfl) (by decide) (by decide) (fun Γ hg h0 => by rw [show loopsOf (fb Tryz.f38) = [] from by kernel_rfl]; exact lpNil) (fun x => by kernel_rfl)
def n_Den_C : Callee := ⟨[.val .str], [.val .str], fun x => n_Den x.1⟩
def n_Den_ti : List (Nat × TI) := []
def n_Den_fn : List (Nat × Callee) := [(49, n_Valid_C), (51, strings_Cut_C)]
def n_Den_lp : List (Nat × LoopO) := []
def n_Den_E : Tab := ⟨look n_Den_ti, lookC n_Den_fn, lookL n_Den_lp⟩
theorem n_Den_tab {V : Env} (hP : V.P = Tryz.prog) (h49 : Good V 49 n_Valid_C) (h51 : Good V 51 strings_Cut_C) : TabOK V n_Den_E :=
  tab_ok (hP ▸ tiNil) (fnCons h49 (fnCons h51 fnNil))
theorem n_Den_good {V : Env} (hP : V.P = Tryz.prog) (h49 : Good V 49 n_Valid_C) (h51 : Good V 51 strings_Cut_C) : Good V 39 n_Den_C :=
  have hE := n_Den_tab hP h49 h51
  good_of hE (hP ▸ Tryz.func39) (show Tryz.f39.body = some (fb Tryz.f39) from rfl) (by decide) (by decide) (fun Γ hg h0 => by rw [show loopsOf (fb Tryz.f39) = [] from by kernel_rfl]; exact lpNil) (fun x => by kernel_rfl)
def n_Floor_C : Callee := ⟨[.val .str], [.val .str], fun x => n_Floor x.1⟩
def n_Floor_ti : List (Nat × TI) := []
def n_Floor_fn : List (Nat × Callee) := [(38, n_Num_C), (39, n_Den_C), (45, n_Quo_C)]
def n_Floor_lp : List (Nat × LoopO) := []
def n_Floor_E : Tab := ⟨look n_Floor_ti, lookC n_Floor_fn, lookL n_Floor_lp⟩
theorem n_Floor_tab {V : Env} (hP : V.P = Tryz.prog) (h38 : Good V 38 n_Num_C) (h39 : Good V 39 n_Den_C) (h45 : Good V 45 n_Quo_C) : TabOK V n_Floor_E :=
  tab_ok (hP ▸ tiNil) (fnCons h38 (fnCons h39 (fnCons h45 fnNil)))
theorem n_Floor_good {V : Env} (hP : V.P = Tryz.prog) (h38 : Good V 38 n_Num_C) (h39 : Good V 39 n_Den_C) (h45 : Good V 45 n_Quo_C) : Good V 26 n_Floor_C :=
  have hE := n_Floor_tab hP h38 h39 h45
  good_of hE (hP ▸ Tryz.func26) (show Tryz.f26.body = some (fb Tryz.f26) from rfl) (by decide) (by decide) (fun Γ hg h0 => by rw [show loopsOf (fb Tryz.f26) = [] from by kernel_rfl]; exact lpNil) (fun x => by kernel_rfl)
def n_Ceil_C : Callee := ⟨[.val .str], [.val .str], fun x => n_Ceil x.1⟩
def n_Ceil_ti : List (Nat × TI) := []
def n_Ceil_fn : List (Nat × Callee) := [(26, n_Floor_C), (29, n_Neg_C)]
def n_Ceil_lp : List (Nat × LoopO) := []
def n_Ceil_E : Tab := ⟨look n_Ceil_ti, lookC n_Ceil_fn, lookL n_Ceil_lp⟩
theorem n_Ceil_tab {V : Env} (hP : V.P = Tryz.prog) (h26 : Good V 26 n_Floor_C) (h29 : Good V 29 n_Neg_C) : TabOK V n_Ceil_E :=
  tab_ok (hP ▸ tiNil) (fnCons h26 (fnCons h29 fnNil))
theorem n_Ceil_good {V : Env} (hP : V.P = Tryz.prog) (h26 : Good V 26 n_Floor_C) (h29 : Good V 29 n_Neg_C) : Good V 27 n_Ceil_C :=
  have hE := n_Ceil_tab hP h26 h29
  good_of hE (hP ▸ Tryz.func27) (show Tryz.f27.body = some (fb Tryz.f27) from rfl) (by decide) (by decide) (fun Γ hg h0 => by rw [show loopsOf (fb Tryz.f27) = [] from by kernel_rfl]; exact lpNil) (fun x => by kernel_rfl)
def l_NumberRounding_C : Callee := ⟨[.val .str, .val (.sl (.int .i64))], [.val .bool], fun x => l_NumberRounding x.1 x.2.1⟩
def l_NumberRounding_ti : List (Nat × TI) := [(4, i4)]
def l_NumberRounding_fn : List (Nat × Callee) := [(14, l_awake_C), (19, l_pick_C), (20, n_Cmp_C), (24, n_Sub_C), (26, n_Floor_C), (27, n_Ceil_C), (28, n_IsInt_C), (29, n_Neg_C)]
def l_NumberRounding_lp : List (Nat × LoopO) := []
def l_NumberRounding_E : Tab := ⟨look l_NumberRounding_ti, lookC l_NumberRounding_fn, lookL l_NumberRounding_lp⟩
theorem l_NumberRounding_tab {V : Env} (hP : V.P = Tryz.prog) (h14 : Good V 14 l_awake_C) (h19 : Good V 19 l_pick_C) (h20 : Good V 20 n_Cmp_C) (h24 : Good V 24 n_Sub_C) (h26 : Good V 26 n_Floor_C) (h27 : Good V 27 n_Ceil_C) (h28 : Good V 28 n_IsInt_C) (h29 : Good V 29 n_Neg_C) : TabOK V l_NumberRounding_E :=
  tab_ok (hP ▸ (tiCons tok4 tiNil)) (fnCons h14 (fnCons h19 (fnCons h20 (fnCons h24 (fnCons h26 (fnCons h27 (fnCons h28 (fnCons h29 fnNil))))))))
theorem l_NumberRounding_good {V : Env} (hP : V.P = Tryz.prog) (h14 : Good V 14 l_awake_C) (h19 : Good V 19 l_pick_C) (h20 : Good V 20 n_Cmp_C) (h24 : Good V 24 n_Sub_C) (h26 : Good V 26 n_Floor_C) (h27 : Good V 27 n_Ceil_C) (h28 : Good V 28 n_IsInt_C) (h29 : Good V 29 n_Neg_C) : Good V 6 l_NumberRounding_C :=
  have hE := l_NumberRounding_tab hP h14 h19 h20 h24 h26 h27 h28 h29
  good_of hE (hP ▸ Tryz.func6) (show Tryz.f6.body = some (fb Tryz.f6) from rfl) (by decide) (by decide) (fun Γ hg h0 => by rw [show loopsOf (fb Tryz.f6) = [] from by kernel_rfl]; exact lpNil) (fun x => by kernel_rfl)
def n_Sum_s3_A : Ann := ⟨17, [3, 6, 7, 8], [.val .str, .val (.sl .str), .val (.int .i64), .val (.int .i64)], [], []⟩
def n_Sum_C : Callee := ⟨[.val (.sl .str)], [.val .str], fun x => n_Sum x.1⟩
def n_Sum_ti : List (Nat × TI) := [(9, i9), (38, i38)]
def n_Sum_fn : List (Nat × Callee) := [(21, n_Add_C)]
def n_Sum_lp : List (Nat × LoopO) := [(3, loopF n_Sum_s3_A [Ex.exit 0] n_Sum_s3)]
def n_Sum_E : Tab := ⟨look n_Sum_ti, lookC n_Sum_fn, lookL n_Sum_lp⟩
theorem n_Sum_tab {V : Env} (hP : V.P = Tryz.prog) (h21 : Good V 21 n_Add_C) : TabOK V n_Sum_E :=
  tab_ok (hP ▸ (tiCons tok9 (tiCons tok38 tiNil))) (fnCons h21 fnNil)
theorem n_Sum_s3_run : ∀ x, run n_Sum_E (lb (bb (sr (sl (sr (sr (fb Tryz.f30))))))) (encSt n_Sum_s3_A x) (fun ex st => (decSt n_Sum_s3_A st).bind fun y => some (ex, y)) = n_Sum_s3 x := fun x => by kernel_rfl
theorem n_Sum_s3_ok {V : Env} (hE : TabOK V n_Sum_E) (Γ : Base) (hg : Γ.gb = V.gb) (h0 : V.G Γ.w) : Sound V Γ (.loop (lb (bb (sr (sl (sr (sr (fb Tryz.f30)))))))) fun ρ => (loopF n_Sum_s3_A [Ex.exit 0] n_Sum_s3).f ρ :=
  loop_ok hE hg h0 (by rw [show loopsOf (lb (bb (sr (sl (sr (sr (fb Tryz.f30))))))) = [] from by kernel_rfl]; exact lpNil) n_Sum_s3_run
theorem n_Sum_good {V : Env} (hP : V.P = Tryz.prog) (h21 : Good V 21 n_Add_C) : Good V 30 n_Sum_C :=
  have hE := n_Sum_tab hP h21
  good_of hE (hP ▸ Tryz.func30) (show Tryz.f30.body = some (fb Tryz.f30) from rfl) (by decide) (by decide) (fun Γ hg h0 => by rw [show loopsOf (fb Tryz.f30) = [lb (bb (sr (sl (sr (sr (fb Tryz.f30))))))] from by kernel_rfl]; exact (lpCons (by kernel_rfl) (n_Sum_s3_ok hE Γ hg h0) lpNil)) (fun x => by kernel_rfl)
def r_addMag_s5_A : Ann := ⟨69, [0, 1, 5, 6, 7, 8], [.val .str, .val .str, .val (.int .i64), .row (.int .u8), .val (.int .i64), .val (.int .i64)], [], []⟩
def r_addMag_C : Callee := ⟨[.val .str, .val .str], [.val .str], fun x => r_addMag x.1 x.2.1⟩
def r_addMag_ti : List (Nat × TI) := [(3, i3), (5, i5), (9, i9), (49, i49)]
def r_addMag_fn : List (Nat × Callee) := [(59, r_trim_C)]
def r_addMag_lp : List (Nat × LoopO) := [(5, loopF r_addMag_s5_A [Ex.exit 0] r_addMag_s5)]
def r_addMag_E : Tab := ⟨look r_addMag_ti, lookC r_addMag_fn, lookL r_addMag_lp⟩
theorem r_addMag_tab {V : Env} (hP : V.P = Tryz.prog) (h59 : Good V 59 r_trim_C) : TabOK V r_addMag_E :=
  tab_ok (hP ▸ (tiCons tok3 (tiCons tok5 (tiCons tok9 (tiCons tok49 tiNil))))) (fnCons h59 fnNil)
theorem r_addMag_s5_run : ∀ x, run r_addMag_E (lb (bb (sr (sl (sr (sr (sr (sr (fb Tryz.f115))))))))) (encSt r_addMag_s5_A x) (fun ex st => (decSt r_addMag_s5_A st).bind fun y => some (ex, y)) = r_addMag_s5 x := fun x => by kernel_rfl
theorem r_addMag_s5_ok {V : Env} (hE : TabOK V r_addMag_E) (Γ : Base) (hg : Γ.gb = V.gb) (h0 : V.G Γ.w) : Sound V Γ (.loop (lb (bb (sr (sl (sr (sr (sr (sr (fb Tryz.f115)))))))))) fun ρ => (loopF r_addMag_s5_A [Ex.exit 0] r_addMag_s5).f ρ :=
  loop_ok hE hg h0 (by rw [show loopsOf (lb (bb (sr (sl (sr (sr (sr (sr (fb Tryz.f115))))))))) = [] from by kernel_rfl]; exact lpNil) r_addMag_s5_run
theorem r_addMag_good {V : Env} (hP : V.P = Tryz.prog) (h59 : Good V 59 r_trim_C) : Good V 115 r_addMag_C :=
  have hE := r_addMag_tab hP h59
  good_of hE (hP ▸ Tryz.func115) (show Tryz.f115.body = some (fb Tryz.f115) from rfl) (by decide) (by decide) (fun Γ hg h0 => by rw [show loopsOf (fb Tryz.f115) = [lb (bb (sr (sl (sr (sr (sr (sr (fb Tryz.f115))))))))] from by kernel_rfl]; exact (lpCons (by kernel_rfl) (r_addMag_s5_ok hE Γ hg h0) lpNil)) (fun x => by kernel_rfl)
def r_Add_C : Callee := ⟨[.val .str, .val .str], [.val .str], fun x => r_Add x.1 x.2.1⟩
def r_Add_ti : List (Nat × TI) := [(4, i4), (9, i9), (62, i62)]
def r_Add_fn : List (Nat × Callee) := [(58, r_reduce_C), (60, r_ratio_text_C), (107, r_parse_C), (114, r_mulMag_C), (115, r_addMag_C), (116, r_cmpMag_C), (117, r_subMag_C)]
def r_Add_lp : List (Nat × LoopO) := []
def r_Add_E : Tab := ⟨look r_Add_ti, lookC r_Add_fn, lookL r_Add_lp⟩
theorem r_Add_tab {V : Env} (hP : V.P = Tryz.prog) (h58 : Good V 58 r_reduce_C) (h60 : Good V 60 r_ratio_text_C) (h107 : Good V 107 r_parse_C) (h114 : Good V 114 r_mulMag_C) (h115 : Good V 115 r_addMag_C) (h116 : Good V 116 r_cmpMag_C) (h117 : Good V 117 r_subMag_C) : TabOK V r_Add_E :=
  tab_ok (hP ▸ (tiCons tok4 (tiCons tok9 (tiCons tok62 tiNil)))) (fnCons h58 (fnCons h60 (fnCons h107 (fnCons h114 (fnCons h115 (fnCons h116 (fnCons h117 fnNil)))))))
theorem r_Add_good {V : Env} (hP : V.P = Tryz.prog) (h58 : Good V 58 r_reduce_C) (h60 : Good V 60 r_ratio_text_C) (h107 : Good V 107 r_parse_C) (h114 : Good V 114 r_mulMag_C) (h115 : Good V 115 r_addMag_C) (h116 : Good V 116 r_cmpMag_C) (h117 : Good V 117 r_subMag_C) : Good V 73 r_Add_C :=
  have hE := r_Add_tab hP h58 h60 h107 h114 h115 h116 h117
  good_of hE (hP ▸ Tryz.func73) (show Tryz.f73.body = some (fb Tryz.f73) from rfl) (by decide) (by decide) (fun Γ hg h0 => by rw [show loopsOf (fb Tryz.f73) = [] from by kernel_rfl]; exact lpNil) (fun x => by kernel_rfl)
def r_Sum_s3_A : Ann := ⟨18, [0, 3, 4], [.val (.sl .str), .val .str, .val (.int .i64)], [], []⟩
def r_Sum_C : Callee := ⟨[.val (.sl .str)], [.val .str], fun x => r_Sum x.1⟩
def r_Sum_ti : List (Nat × TI) := [(9, i9), (38, i38)]
def r_Sum_fn : List (Nat × Callee) := [(73, r_Add_C)]
def r_Sum_lp : List (Nat × LoopO) := [(3, loopF r_Sum_s3_A [Ex.exit 0] r_Sum_s3)]
def r_Sum_E : Tab := ⟨look r_Sum_ti, lookC r_Sum_fn, lookL r_Sum_lp⟩
theorem r_Sum_tab {V : Env} (hP : V.P = Tryz.prog) (h73 : Good V 73 r_Add_C) : TabOK V r_Sum_E :=
  tab_ok (hP ▸ (tiCons tok9 (tiCons tok38 tiNil))) (fnCons h73 fnNil)
theorem r_Sum_s3_run : ∀ x, run r_Sum_E (lb (bb (sr (sl (sr (sr (fb Tryz.f31))))))) (encSt r_Sum_s3_A x) (fun ex st => (decSt r_Sum_s3_A st).bind fun y => some (ex, y)) = r_Sum_s3 x := fun x => by kernel_rfl
theorem r_Sum_s3_ok {V : Env} (hE : TabOK V r_Sum_E) (Γ : Base) (hg : Γ.gb = V.gb) (h0 : V.G Γ.w) : Sound V Γ (.loop (lb (bb (sr (sl (sr (sr (fb Tryz.f31)))))))) fun ρ => (loopF r_Sum_s3_A [Ex.exit 0] r_Sum_s3).f ρ :=
  loop_ok hE hg h0 (by rw [show loopsOf (lb (bb (sr (sl (sr (sr (fb Tryz.f31))))))) = [] from by kernel_rfl]; exact lpNil) r_Sum_s3_run
theorem r_Sum_good {V : Env} (hP : V.P = Tryz.prog) (h73 : Good V 73 r_Add_C) : Good V 31 r_Sum_C :=
  have hE := r_Sum_tab hP h73
  good_of hE (hP ▸ Tryz.func31) (show Tryz.f31.body = some (fb Tryz.f31) from rfl) (by decide) (by decide) (fun Γ hg h0 => by rw [show loopsOf (fb Tryz.f31) = [lb (bb (sr (sl (sr (sr (fb Tryz.f31))))))] from by kernel_rfl]; exact (lpCons (by kernel_rfl) (r_Sum_s3_ok hE Γ hg h0) lpNil)) (fun x => by kernel_rfl)
def n_best_s3_A : Ann := ⟨30, [0, 4, 5, 8, 9, 10], [.val (.int .i64), .val .str, .val .str, .val (.sl .str), .val (.int .i64), .val (.int .i64)], [], []⟩
def n_best_C : Callee := ⟨[.val (.int .i64), .val (.sl .str)], [.val .str], fun x => n_best x.1 x.2.1⟩
def n_best_ti : List (Nat × TI) := [(9, i9), (38, i38)]
def n_best_fn : List (Nat × Callee) := [(20, n_Cmp_C), (49, n_Valid_C)]
def n_best_lp : List (Nat × LoopO) := [(3, loopF n_best_s3_A [Ex.exit 0, Ex.ret] n_best_s3)]
def n_best_E : Tab := ⟨look n_best_ti, lookC n_best_fn, lookL n_best_lp⟩
theorem n_best_tab {V : Env} (hP : V.P = Tryz.prog) (h20 : Good V 20 n_Cmp_C) (h49 : Good V 49 n_Valid_C) : TabOK V n_best_E :=
  tab_ok (hP ▸ (tiCons tok9 (tiCons tok38 tiNil))) (fnCons h20 (fnCons h49 fnNil))
theorem n_best_s3_run : ∀ x, run n_best_E (lb (bb (sr (sl (sr (sr (fb Tryz.f74))))))) (encSt n_best_s3_A x) (fun ex st => (decSt n_best_s3_A st).bind fun y => some (ex, y)) = n_best_s3 x := fun x => by kernel_rfl
theorem n_best_s3_ok {V : Env} (hE : TabOK V n_best_E) (Γ : Base) (hg : Γ.gb = V.gb) (h0 : V.G Γ.w) : Sound V Γ (.loop (lb (bb (sr (sl (sr (sr (fb Tryz.f74)))))))) fun ρ => (loopF n_best_s3_A [Ex.exit 0, Ex.ret] n_best_s3).f ρ :=
  loop_ok hE hg h0 (by rw [show loopsOf (lb (bb (sr (sl (sr (sr (fb Tryz.f74))))))) = [] from by kernel_rfl]; exact lpNil) n_best_s3_run
theorem n_best_good {V : Env} (hP : V.P = Tryz.prog) (h20 : Good V 20 n_Cmp_C) (h49 : Good V 49 n_Valid_C) : Good V 74 n_best_C :=
  have hE := n_best_tab hP h20 h49
  good_of hE (hP ▸ Tryz.func74) (show Tryz.f74.body = some (fb Tryz.f74) from rfl) (by decide) (by decide) (fun Γ hg h0 => by rw [show loopsOf (fb Tryz.f74) = [lb (bb (sr (sl (sr (sr (fb Tryz.f74))))))] from by kernel_rfl]; exact (lpCons (by kernel_rfl) (n_best_s3_ok hE Γ hg h0) lpNil)) (fun x => by kernel_rfl)
def n_Min_C : Callee := ⟨[.val (.sl .str)], [.val .str], fun x => n_Min x.1⟩
def n_Min_ti : List (Nat × TI) := []
def n_Min_fn : List (Nat × Callee) := [(74, n_best_C)]
def n_Min_lp : List (Nat × LoopO) := []
def n_Min_E : Tab := ⟨look n_Min_ti, lookC n_Min_fn, lookL n_Min_lp⟩
theorem n_Min_tab {V : Env} (hP : V.P = Tryz.prog) (h74 : Good V 74 n_best_C) : TabOK V n_Min_E :=
  tab_ok (hP ▸ tiNil) (fnCons h74 fnNil)
theorem n_Min_good {V : Env} (hP : V.P = Tryz.prog) (h74 : Good V 74 n_best_C) : Good V 32 n_Min_C :=
  have hE := n_Min_tab hP h74
  good_of hE (hP ▸ Tryz.func32) (show Tryz.f32.body = some (fb Tryz.f32) from rfl) (by decide) (by decide) (fun Γ hg h0 => by rw [show loopsOf (fb Tryz.f32) = [] from by kernel_rfl]; exact lpNil) (fun x => by kernel_rfl)
def r_Neg_C : Callee := ⟨[.val .str], [.val .str], fun x => r_Neg x.1⟩
def r_Neg_ti : List (Nat × TI) := [(4, i4), (9, i9), (62, i62)]
def r_Neg_fn : List (Nat × Callee) := [(60, r_ratio_text_C), (107, r_parse_C)]
def r_Neg_lp : List (Nat × LoopO) := []
def r_Neg_E : Tab := ⟨look r_Neg_ti, lookC r_Neg_fn, lookL r_Neg_lp⟩
theorem r_Neg_tab {V : Env} (hP : V.P = Tryz.prog) (h60 : Good V 60 r_ratio_text_C) (h107 : Good V 107 r_parse_C) : TabOK V r_Neg_E :=
  tab_ok (hP ▸ (tiCons tok4 (tiCons tok9 (tiCons tok62 tiNil)))) (fnCons h60 (fnCons h107 fnNil))
theorem r_Neg_good {V : Env} (hP : V.P = Tryz.prog) (h60 : Good V 60 r_ratio_text_C) (h107 : Good V 107 r_parse_C) : Good V 122 r_Neg_C :=
  have hE := r_Neg_tab hP h60 h107
  good_of hE (hP ▸ Tryz.func122) (show Tryz.f122.body = some (fb Tryz.f122) from rfl) (by decide) (by decide) (fun Γ hg h0 => by rw [show loopsOf (fb Tryz.f122) = [] from by kernel_rfl]; exact lpNil) (fun x => by kernel_rfl)
def r_Sub_C : Callee := ⟨[.val .str, .val .str], [.val .str], fun x => r_Sub x.1 x.2.1⟩
def r_Sub_ti : List (Nat × TI) := []
def r_Sub_fn : List (Nat × Callee) := [(73, r_Add_C), (122, r_Neg_C)]
def r_Sub_lp : List (Nat × LoopO) := []
def r_Sub_E : Tab := ⟨look r_Sub_ti, lookC r_Sub_fn, lookL r_Sub_lp⟩
theorem r_Sub_tab {V : Env} (hP : V.P = Tryz.prog) (h73 : Good V 73 r_Add_C) (h122 : Good V 122 r_Neg_C) : TabOK V r_Sub_E :=
  tab_ok (hP ▸ tiNil) (fnCons h73 (fnCons h122 fnNil))
theorem r_Sub_good {V : Env} (hP : V.P = Tryz.prog) (h73 : Good V 73 r_Add_C) (h122 : Good V 122 r_Neg_C) : Good V 84 r_Sub_C :=
  have hE := r_Sub_tab hP h73 h122
  good_of hE (hP ▸ Tryz.func84) (show Tryz.f84.body = some (fb Tryz.f84) from rfl) (by decide) (by decide) (fun Γ hg h0 => by rw [show loopsOf (fb Tryz.f84) = [] from by kernel_rfl]; exact lpNil) (fun x => by kernel_rfl)
def r_Sign_C : Callee := ⟨[.val .str], [.val (.int .i64)], fun x => r_Sign x.1⟩
def r_Sign_ti : List (Nat × TI) := [(4, i4), (9, i9), (62, i62)]
def r_Sign_fn : List (Nat × Callee) := [(107, r_parse_C)]
def r_Sign_lp : List (Nat × LoopO) := []
def r_Sign_E : Tab := ⟨look r_Sign_ti, lookC r_Sign_fn, lookL r_Sign_lp⟩
theorem r_Sign_tab {V : Env} (hP : V.P = Tryz.prog) (h107 : Good V 107 r_parse_C) : TabOK V r_Sign_E :=
  tab_ok (hP ▸ (tiCons tok4 (tiCons tok9 (tiCons tok62 tiNil)))) (fnCons h107 fnNil)
theorem r_Sign_good {V : Env} (hP : V.P = Tryz.prog) (h107 : Good V 107 r_parse_C) : Good V 118 r_Sign_C :=
  have hE := r_Sign_tab hP h107
  good_of hE (hP ▸ Tryz.func118) (show Tryz.f118.body = some (fb Tryz.f118) from rfl) (by decide) (by decide) (fun Γ hg h0 => by rw [show loopsOf (fb Tryz.f118) = [] from by kernel_rfl]; exact lpNil) (fun x => by kernel_rfl)
def r_Cmp_C : Callee := ⟨[.val .str, .val .str], [.val (.int .i64)], fun x => r_Cmp x.1 x.2.1⟩
def r_Cmp_ti : List (Nat × TI) := []
def r_Cmp_fn : List (Nat × Callee) := [(61, r_Valid_C), (84, r_Sub_C), (118, r_Sign_C)]
def r_Cmp_lp : List (Nat × LoopO) := []
def r_Cmp_E : Tab := ⟨look r_Cmp_ti, lookC r_Cmp_fn, lookL r_Cmp_lp⟩
theorem r_Cmp_tab {V : Env} (hP : V.P = Tryz.prog) (h61 : Good V 61 r_Valid_C) (h84 : Good V 84 r_Sub_C) (h118 : Good V 118 r_Sign_C) : TabOK V r_Cmp_E :=
  tab_ok (hP ▸ tiNil) (fnCons h61 (fnCons h84 (fnCons h118 fnNil)))
theorem r_Cmp_good {V : Env} (hP : V.P = Tryz.prog) (h61 : Good V 61 r_Valid_C) (h84 : Good V 84 r_Sub_C) (h118 : Good V 118 r_Sign_C) : Good V 75 r_Cmp_C :=
  have hE := r_Cmp_tab hP h61 h84 h118
  good_of hE (hP ▸ Tryz.func75) (show Tryz.f75.body = some (fb Tryz.f75) from rfl) (by decide) (by decide) (fun Γ hg h0 => by rw [show loopsOf (fb Tryz.f75) = [] from by kernel_rfl]; exact lpNil) (fun x => by kernel_rfl)
def r_Min_s3_A : Ann := ⟨33, [0, 2, 3, 4], [.val (.sl .str), .val .str, .val .str, .val (.int .i64)], [], []⟩
def r_Min_C : Callee := ⟨[.val (.sl .str)], [.val .str], fun x => r_Min x.1⟩
def r_Min_ti : List (Nat × TI) := [(9, i9), (38, i38)]
def r_Min_fn : List (Nat × Callee) := [(61, r_Valid_C), (75, r_Cmp_C)]
def r_Min_lp : List (Nat × LoopO) := [(3, loopF r_Min_s3_A [Ex.exit 0, Ex.ret] r_Min_s3)]
def r_Min_E : Tab := ⟨look r_Min_ti, lookC r_Min_fn, lookL r_Min_lp⟩
theorem r_Min_tab {V : Env} (hP : V.P = Tryz.prog) (h61 : Good V 61 r_Valid_C) (h75 : Good V 75 r_Cmp_C) : TabOK V r_Min_E :=
  tab_ok (hP ▸ (tiCons tok9 (tiCons tok38 tiNil))) (fnCons h61 (fnCons h75 fnNil))
theorem r_Min_s3_run : ∀ x, run r_Min_E (lb (bb (sr (sl (sr (sr (fb Tryz.f33))))))) (encSt r_Min_s3_A x) (fun ex st => (decSt r_Min_s3_A st).bind fun y => some (ex, y)) = r_Min_s3 x := fun x => by kernel_rfl
theorem r_Min_s3_ok {V : Env} (hE : TabOK V r_Min_E) (Γ : Base) (hg : Γ.gb = V.gb) (h0 : V.G Γ.w) : Sound V Γ (.loop (lb (bb (sr (sl (sr (sr (fb Tryz.f33)))))))) fun ρ => (loopF r_Min_s3_A [Ex.exit 0, Ex.ret] r_Min_s3).f ρ :=
  loop_ok hE hg h0 (by rw [show loopsOf (lb (bb (sr (sl (sr (sr (fb Tryz.f33))))))) = [] from by kernel_rfl]; exact lpNil) r_Min_s3_run
theorem r_Min_good {V : Env} (hP : V.P = Tryz.prog) (h61 : Good V 61 r_Valid_C) (h75 : Good V 75 r_Cmp_C) : Good V 33 r_Min_C :=
  have hE := r_Min_tab hP h61 h75
  good_of hE (hP ▸ Tryz.func33) (show Tryz.f33.body = some (fb Tryz.f33) from rfl) (by decide) (by decide) (fun Γ hg h0 => by rw [show loopsOf (fb Tryz.f33) = [lb (bb (sr (sl (sr (sr (fb Tryz.f33))))))] from by kernel_rfl]; exact (lpCons (by kernel_rfl) (r_Min_s3_ok hE Γ hg h0) lpNil)) (fun x => by kernel_rfl)
def n_Max_C : Callee := ⟨[.val (.sl .str)], [.val .str], fun x => n_Max x.1⟩
def n_Max_ti : List (Nat × TI) := []
def n_Max_fn : List (Nat × Callee) := [(74, n_best_C)]
def n_Max_lp : List (Nat × LoopO) := []
def n_Max_E : Tab := ⟨look n_Max_ti, lookC n_Max_fn, lookL n_Max_lp⟩
theorem n_Max_tab {V : Env} (hP : V.P = Tryz.prog) (h74 : Good V 74 n_best_C) : TabOK V n_Max_E :=
  tab_ok (hP ▸ tiNil) (fnCons h74 fnNil)
theorem n_Max_good {V : Env} (hP : V.P = Tryz.prog) (h74 : Good V 74 n_best_C) : Good V 34 n_Max_C :=
  have hE := n_Max_tab hP h74
  good_of hE (hP ▸ Tryz.func34) (show Tryz.f34.body = some (fb Tryz.f34) from rfl) (by decide) (by decide) (fun Γ hg h0 => by rw [show loopsOf (fb Tryz.f34) = [] from by kernel_rfl]; exact lpNil) (fun x => by kernel_rfl)
def r_Max_s3_A : Ann := ⟨33, [0, 2, 3, 4], [.val (.sl .str), .val .str, .val .str, .val (.int .i64)], [], []⟩
def r_Max_C : Callee := ⟨[.val (.sl .str)], [.val .str], fun x => r_Max x.1⟩
def r_Max_ti : List (Nat × TI) := [(9, i9), (38, i38)]
def r_Max_fn : List (Nat × Callee) := [(61, r_Valid_C), (75, r_Cmp_C)]
def r_Max_lp : List (Nat × LoopO) := [(3, loopF r_Max_s3_A [Ex.exit 0, Ex.ret] r_Max_s3)]
def r_Max_E : Tab := ⟨look r_Max_ti, lookC r_Max_fn, lookL r_Max_lp⟩
theorem r_Max_tab {V : Env} (hP : V.P = Tryz.prog) (h61 : Good V 61 r_Valid_C) (h75 : Good V 75 r_Cmp_C) : TabOK V r_Max_E :=
  tab_ok (hP ▸ (tiCons tok9 (tiCons tok38 tiNil))) (fnCons h61 (fnCons h75 fnNil))
theorem r_Max_s3_run : ∀ x, run r_Max_E (lb (bb (sr (sl (sr (sr (fb Tryz.f35))))))) (encSt r_Max_s3_A x) (fun ex st => (decSt r_Max_s3_A st).bind fun y => some (ex, y)) = r_Max_s3 x := fun x => by kernel_rfl
theorem r_Max_s3_ok {V : Env} (hE : TabOK V r_Max_E) (Γ : Base) (hg : Γ.gb = V.gb) (h0 : V.G Γ.w) : Sound V Γ (.loop (lb (bb (sr (sl (sr (sr (fb Tryz.f35)))))))) fun ρ => (loopF r_Max_s3_A [Ex.exit 0, Ex.ret] r_Max_s3).f ρ :=
  loop_ok hE hg h0 (by rw [show loopsOf (lb (bb (sr (sl (sr (sr (fb Tryz.f35))))))) = [] from by kernel_rfl]; exact lpNil) r_Max_s3_run
theorem r_Max_good {V : Env} (hP : V.P = Tryz.prog) (h61 : Good V 61 r_Valid_C) (h75 : Good V 75 r_Cmp_C) : Good V 35 r_Max_C :=
  have hE := r_Max_tab hP h61 h75
  good_of hE (hP ▸ Tryz.func35) (show Tryz.f35.body = some (fb Tryz.f35) from rfl) (by decide) (by decide) (fun Γ hg h0 => by rw [show loopsOf (fb Tryz.f35) = [lb (bb (sr (sl (sr (sr (fb Tryz.f35))))))] from by kernel_rfl]; exact (lpCons (by kernel_rfl) (r_Max_s3_ok hE Γ hg h0) lpNil)) (fun x => by kernel_rfl)
def l_NumberLists_s8_A : Ann := ⟨128, [0, 4, 5, 6, 7, 8], [.val (.sl .str), .val .bool, .box (.pair (.sl (.int .i64)) (.int .i64)), .row .str, .val (.sl .str), .val (.int .i64)], [], []⟩
def l_NumberLists_s14_A : Ann := ⟨128, [4, 6, 7, 9, 10, 11, 12], [.val .bool, .row .str, .val (.sl .str), .val .str, .val .str, .val (.int .i64), .val (.int .i64)], [], []⟩
def l_NumberLists_C : Callee := ⟨[.val (.sl .str), .val (.sl (.int .i64))], [.val .bool], fun x => l_NumberLists x.1 x.2.1⟩
def l_NumberLists_ti : List (Nat × TI) := [(9, i9), (38, i38)]
def l_NumberLists_fn : List (Nat × Callee) := [(13, l_short_C), (14, l_awake_C), (20, n_Cmp_C), (30, n_Sum_C), (31, r_Sum_C), (32, n_Min_C), (33, r_Min_C), (34, n_Max_C), (35, r_Max_C), (36, g_New_C), (37, g_Choices_Number_C)]
def l_NumberLists_lp : List (Nat × LoopO) := [(8, loopF l_NumberLists_s8_A [Ex.exit 0] l_NumberLists_s8), (14, loopF l_NumberLists_s14_A [Ex.exit 2, Ex.ret] l_NumberLists_s14)]
def l_NumberLists_E : Tab := ⟨look l_NumberLists_ti, lookC l_NumberLists_fn, lookL l_NumberLists_lp⟩
theorem l_NumberLists_tab {V : Env} (hP : V.P = Tryz.prog) (h13 : Good V 13 l_short_C) (h14 : Good V 14 l_awake_C) (h20 : Good V 20 n_Cmp_C) (h30 : Good V 30 n_Sum_C) (h31 : Good V 31 r_Sum_C) (h32 : Good V 32 n_Min_C) (h33 : Good V 33 r_Min_C) (h34 : Good V 34 n_Max_C) (h35 : Good V 35 r_Max_C) (h36 : Good V 36 g_New_C) (h37 : Good V 37 g_Choices_Number_C) : TabOK V l_NumberLists_E :=
  tab_ok (hP ▸ (tiCons tok9 (tiCons tok38 tiNil))) (fnCons h13 (fnCons h14 (fnCons h20 (fnCons h30 (fnCons h31 (fnCons h32 (fnCons h33 (fnCons h34 (fnCons h35 (fnCons h36 (fnCons h37 fnNil)))))))))))
theorem l_NumberLists_s8_run : ∀ x, run l_NumberLists_E (lb (bb (sr (sl (sr (sr (sr (sr (sr (fb Tryz.f7)))))))))) (encSt l_NumberLists_s8_A x) (fun ex st => (decSt l_NumberLists_s8_A st).bind fun y => some (ex, y)) = l_NumberLists_s8 x := fun x => by kernel_rfl
theorem l_NumberLists_s8_ok {V : Env} (hE : TabOK V l_NumberLists_E) (Γ : Base) (hg : Γ.gb = V.gb) (h0 : V.G Γ.w) : Sound V Γ (.loop (lb (bb (sr (sl (sr (sr (sr (sr (sr (fb Tryz.f7))))))))))) fun ρ => (loopF l_NumberLists_s8_A [Ex.exit 0] l_NumberLists_s8).f ρ :=
  loop_ok hE hg h0 (by rw [show loopsOf (lb (bb (sr (sl (sr (sr (sr (sr (sr (fb Tryz.f7)))))))))) = [] from by kernel_rfl]; exact lpNil) l_NumberLists_s8_run
theorem l_NumberLists_s14_run : ∀ x, run l_NumberLists_E (lb (bb (sr (sl (sr (sr (sr (sr (sr (sr (sr (fb Tryz.f7)))))))))))) (encSt l_NumberLists_s14_A x) (fun ex st => (decSt l_NumberLists_s14_A st).bind fun y => some (ex, y)) = l_NumberLists_s14 x := fun x => by kernel_rfl
theorem l_NumberLists_s14_ok {V : Env} (hE : TabOK V l_NumberLists_E) (Γ : Base) (hg : Γ.gb = V.gb) (h0 : V.G Γ.w) : Sound V Γ (.loop (lb (bb (sr (sl (sr (sr (sr (sr (sr (sr (sr (fb Tryz.f7))))))))))))) fun ρ => (loopF l_NumberLists_s14_A [Ex.exit 2, Ex.ret] l_NumberLists_s14).f ρ :=
  loop_ok hE hg h0 (by rw [show loopsOf (lb (bb (sr (sl (sr (sr (sr (sr (sr (sr (sr (fb Tryz.f7)))))))))))) = [] from by kernel_rfl]; exact lpNil) l_NumberLists_s14_run
theorem l_NumberLists_good {V : Env} (hP : V.P = Tryz.prog) (h13 : Good V 13 l_short_C) (h14 : Good V 14 l_awake_C) (h20 : Good V 20 n_Cmp_C) (h30 : Good V 30 n_Sum_C) (h31 : Good V 31 r_Sum_C) (h32 : Good V 32 n_Min_C) (h33 : Good V 33 r_Min_C) (h34 : Good V 34 n_Max_C) (h35 : Good V 35 r_Max_C) (h36 : Good V 36 g_New_C) (h37 : Good V 37 g_Choices_Number_C) : Good V 7 l_NumberLists_C :=
  have hE := l_NumberLists_tab hP h13 h14 h20 h30 h31 h32 h33 h34 h35 h36 h37
  good_of hE (hP ▸ Tryz.func7) (show Tryz.f7.body = some (fb Tryz.f7) from rfl) (by decide) (by decide) (fun Γ hg h0 => by rw [show loopsOf (fb Tryz.f7) = [lb (bb (sr (sl (sr (sr (sr (sr (sr (fb Tryz.f7))))))))), lb (bb (sr (sl (sr (sr (sr (sr (sr (sr (sr (fb Tryz.f7)))))))))))] from by kernel_rfl]; exact (lpCons (by kernel_rfl) (l_NumberLists_s8_ok hE Γ hg h0) (lpCons (by kernel_rfl) (l_NumberLists_s14_ok hE Γ hg h0) lpNil))) (fun x => by kernel_rfl)
def n_Gcd_C : Callee := ⟨[.val .str, .val .str], [.val .str], fun x => n_Gcd x.1 x.2.1⟩
def n_Gcd_ti : List (Nat × TI) := [(55, i55), (59, i59)]
def n_Gcd_fn : List (Nat × Callee) := [(28, n_IsInt_C), (79, n_read_C), (80, n_gcd_C), (81, n_nat_text_C)]
def n_Gcd_lp : List (Nat × LoopO) := []
def n_Gcd_E : Tab := ⟨look n_Gcd_ti, lookC n_Gcd_fn, lookL n_Gcd_lp⟩
theorem n_Gcd_tab {V : Env} (hP : V.P = Tryz.prog) (h28 : Good V 28 n_IsInt_C) (h79 : Good V 79 n_read_C) (h80 : Good V 80 n_gcd_C) (h81 : Good V 81 n_nat_text_C) : TabOK V n_Gcd_E :=
  tab_ok (hP ▸ (tiCons tok55 (tiCons tok59 tiNil))) (fnCons h28 (fnCons h79 (fnCons h80 (fnCons h81 fnNil))))
theorem n_Gcd_good {V : Env} (hP : V.P = Tryz.prog) (h28 : Good V 28 n_IsInt_C) (h79 : Good V 79 n_read_C) (h80 : Good V 80 n_gcd_C) (h81 : Good V 81 n_nat_text_C) : Good V 40 n_Gcd_C :=
  have hE := n_Gcd_tab hP h28 h79 h80 h81
  good_of hE (hP ▸ Tryz.func40) (show Tryz.f40.body = some (fb Tryz.f40) from rfl) (by decide) (by decide) (fun Γ hg h0 => by rw [show loopsOf (fb Tryz.f40) = [] from by kernel_rfl]; exact lpNil) (fun x => by kernel_rfl)
def l_NumberFraction_C : Callee := ⟨[.val .str, .val (.sl (.int .i64))], [.val .bool], fun x => l_NumberFraction x.1 x.2.1⟩
def l_NumberFraction_ti : List (Nat × TI) := [(4, i4)]
def l_NumberFraction_fn : List (Nat × Callee) := [(14, l_awake_C), (19, l_pick_C), (23, n_Sign_C), (25, n_Div_C), (28, n_IsInt_C), (38, n_Num_C), (39, n_Den_C), (40, n_Gcd_C)]
def l_NumberFraction_lp : List (Nat × LoopO) := []
def l_NumberFraction_E : Tab := ⟨look l_NumberFraction_ti, lookC l_NumberFraction_fn, lookL l_NumberFraction_lp⟩
theorem l_NumberFraction_tab {V : Env} (hP : V.P = Tryz.prog) (h14 : Good V 14 l_awake_C) (h19 : Good V 19 l_pick_C) (h23 : Good V 23 n_Sign_C) (h25 : Good V 25 n_Div_C) (h28 : Good V 28 n_IsInt_C) (h38 : Good V 38 n_Num_C) (h39 : Good V 39 n_Den_C) (h40 : Good V 40 n_Gcd_C) : TabOK V l_NumberFraction_E :=
  tab_ok (hP ▸ (tiCons tok4 tiNil)) (fnCons h14 (fnCons h19 (fnCons h23 (fnCons h25 (fnCons h28 (fnCons h38 (fnCons h39 (fnCons h40 fnNil))))))))
theorem l_NumberFraction_good {V : Env} (hP : V.P = Tryz.prog) (h14 : Good V 14 l_awake_C) (h19 : Good V 19 l_pick_C) (h23 : Good V 23 n_Sign_C) (h25 : Good V 25 n_Div_C) (h28 : Good V 28 n_IsInt_C) (h38 : Good V 38 n_Num_C) (h39 : Good V 39 n_Den_C) (h40 : Good V 40 n_Gcd_C) : Good V 8 l_NumberFraction_C :=
  have hE := l_NumberFraction_tab hP h14 h19 h23 h25 h28 h38 h39 h40
  good_of hE (hP ▸ Tryz.func8) (show Tryz.f8.body = some (fb Tryz.f8) from rfl) (by decide) (by decide) (fun Γ hg h0 => by rw [show loopsOf (fb Tryz.f8) = [] from by kernel_rfl]; exact lpNil) (fun x => by kernel_rfl)
def r_IsInt_C : Callee := ⟨[.val .str], [.val .bool], fun x => r_IsInt x.1⟩
def r_IsInt_ti : List (Nat × TI) := [(9, i9), (62, i62)]
def r_IsInt_fn : List (Nat × Callee) := [(107, r_parse_C)]
def r_IsInt_lp : List (Nat × LoopO) := []
def r_IsInt_E : Tab := ⟨look r_IsInt_ti, lookC r_IsInt_fn, lookL r_IsInt_lp⟩
theorem r_IsInt_tab {V : Env} (hP : V.P = Tryz.prog) (h107 : Good V 107 r_parse_C) : TabOK V r_IsInt_E :=
  tab_ok (hP ▸ (tiCons tok9 (tiCons tok62 tiNil))) (fnCons h107 fnNil)
theorem r_IsInt_good {V : Env} (hP : V.P = Tryz.prog) (h107 : Good V 107 r_parse_C) : Good V 82 r_IsInt_C :=
  have hE := r_IsInt_tab hP h107
  good_of hE (hP ▸ Tryz.func82) (show Tryz.f82.body = some (fb Tryz.f82) from rfl) (by decide) (by decide) (fun Γ hg h0 => by rw [show loopsOf (fb Tryz.f82) = [] from by kernel_rfl]; exact lpNil) (fun x => by kernel_rfl)
def l_whole_C : Callee := ⟨[.val .str, .val (.sl (.int .i64))], [.val .str], fun x => l_whole x.1 x.2.1⟩
def l_whole_ti : List (Nat × TI) := [(9, i9), (38, i38)]
def l_whole_fn : List (Nat × Callee) := [(13, l_short_C), (36, g_New_C), (77, g_Choices_Integer_C), (82, r_IsInt_C)]
def l_whole_lp : List (Nat × LoopO) := []
def l_whole_E : Tab := ⟨look l_whole_ti, lookC l_whole_fn, lookL l_whole_lp⟩
theorem l_whole_tab {V : Env} (hP : V.P = Tryz.prog) (h13 : Good V 13 l_short_C) (h36 : Good V 36 g_New_C) (h77 : Good V 77 g_Choices_Integer_C) (h82 : Good V 82 r_IsInt_C) : TabOK V l_whole_E :=
  tab_ok (hP ▸ (tiCons tok9 (tiCons tok38 tiNil))) (fnCons h13 (fnCons h36 (fnCons h77 (fnCons h82 fnNil))))
theorem l_whole_good {V : Env} (hP : V.P = Tryz.prog) (h13 : Good V 13 l_short_C) (h36 : Good V 36 g_New_C) (h77 : Good V 77 g_Choices_Integer_C) (h82 : Good V 82 r_IsInt_C) : Good V 41 l_whole_C :=
  have hE := l_whole_tab hP h13 h36 h77 h82
  good_of hE (hP ▸ Tryz.func41) (show Tryz.f41.body = some (fb Tryz.f41) from rfl) (by decide) (by decide) (fun Γ hg h0 => by rw [show loopsOf (fb Tryz.f41) = [] from by kernel_rfl]; exact lpNil) (fun x => by kernel_rfl)
def n_Abs_C : Callee := ⟨[.val .str], [.val .str], fun x => n_Abs x.1⟩
def n_Abs_ti : List (Nat × TI) := [(9, i9)]
def n_Abs_fn : List (Nat × Callee) := [(23, n_Sign_C), (29, n_Neg_C)]
def n_Abs_lp : List (Nat × LoopO) := []
def n_Abs_E : Tab := ⟨look n_Abs_ti, lookC n_Abs_fn, lookL n_Abs_lp⟩
theorem n_Abs_tab {V : Env} (hP : V.P = Tryz.prog) (h23 : Good V 23 n_Sign_C) (h29 : Good V 29 n_Neg_C) : TabOK V n_Abs_E :=
  tab_ok (hP ▸ (tiCons tok9 tiNil)) (fnCons h23 (fnCons h29 fnNil))
theorem n_Abs_good {V : Env} (hP : V.P = Tryz.prog) (h23 : Good V 23 n_Sign_C) (h29 : Good V 29 n_Neg_C) : Good V 44 n_Abs_C :=
  have hE := n_Abs_tab hP h23 h29
  good_of hE (hP ▸ Tryz.func44) (show Tryz.f44.body = some (fb Tryz.f44) from rfl) (by decide) (by decide) (fun Γ hg h0 => by rw [show loopsOf (fb Tryz.f44) = [] from by kernel_rfl]; exact lpNil) (fun x => by kernel_rfl)
def n_Lcm_C : Callee := ⟨[.val .str, .val .str], [.val .str], fun x => n_Lcm x.1 x.2.1⟩
def n_Lcm_ti : List (Nat × TI) := []
def n_Lcm_fn : List (Nat × Callee) := [(22, n_Mul_C), (40, n_Gcd_C), (44, n_Abs_C), (45, n_Quo_C)]
def n_Lcm_lp : List (Nat × LoopO) := []
def n_Lcm_E : Tab := ⟨look n_Lcm_ti, lookC n_Lcm_fn, lookL n_Lcm_lp⟩
theorem n_Lcm_tab {V : Env} (hP : V.P = Tryz.prog) (h22 : Good V 22 n_Mul_C) (h40 : Good V 40 n_Gcd_C) (h44 : Good V 44 n_Abs_C) (h45 : Good V 45 n_Quo_C) : TabOK V n_Lcm_E :=
  tab_ok (hP ▸ tiNil) (fnCons h22 (fnCons h40 (fnCons h44 (fnCons h45 fnNil))))
theorem n_Lcm_good {V : Env} (hP : V.P = Tryz.prog) (h22 : Good V 22 n_Mul_C) (h40 : Good V 40 n_Gcd_C) (h44 : Good V 44 n_Abs_C) (h45 : Good V 45 n_Quo_C) : Good V 42 n_Lcm_C :=
  have hE := n_Lcm_tab hP h22 h40 h44 h45
  good_of hE (hP ▸ Tryz.func42) (show Tryz.f42.body = some (fb Tryz.f42) from rfl) (by decide) (by decide) (fun Γ hg h0 => by rw [show loopsOf (fb Tryz.f42) = [] from by kernel_rfl]; exact lpNil) (fun x => by kernel_rfl)
def l_NumberDivisors_C : Callee := ⟨[.val .str, .val .str, .val .str, .val (.sl (.int .i64)), .val (.sl (.int .i64)), .val (.sl (.int .i64))], [.val .bool], fun x => l_NumberDivisors x.1 x.2.1 x.2.2.1 x.2.2.2.1 x.2.2.2.2.1 x.2.2.2.2.2.1⟩
def l_NumberDivisors_ti : List (Nat × TI) := []
def l_NumberDivisors_fn : List (Nat × Callee) := [(14, l_awake_C), (22, n_Mul_C), (23, n_Sign_C), (40, n_Gcd_C), (41, l_whole_C), (42, n_Lcm_C), (43, n_Rem_C), (44, n_Abs_C)]
def l_NumberDivisors_lp : List (Nat × LoopO) := []
def l_NumberDivisors_E : Tab := ⟨look l_NumberDivisors_ti, lookC l_NumberDivisors_fn, lookL l_NumberDivisors_lp⟩
theorem l_NumberDivisors_tab {V : Env} (hP : V.P = Tryz.prog) (h14 : Good V 14 l_awake_C) (h22 : Good V 22 n_Mul_C) (h23 : Good V 23 n_Sign_C) (h40 : Good V 40 n_Gcd_C) (h41 : Good V 41 l_whole_C) (h42 : Good V 42 n_Lcm_C) (h43 : Good V 43 n_Rem_C) (h44 : Good V 44 n_Abs_C) : TabOK V l_NumberDivisors_E :=
  tab_ok (hP ▸ tiNil) (fnCons h14 (fnCons h22 (fnCons h23 (fnCons h40 (fnCons h41 (fnCons h42 (fnCons h43 (fnCons h44 fnNil))))))))
theorem l_NumberDivisors_good {V : Env} (hP : V.P = Tryz.prog) (h14 : Good V 14 l_awake_C) (h22 : Good V 22 n_Mul_C) (h23 : Good V 23 n_Sign_C) (h40 : Good V 40 n_Gcd_C) (h41 : Good V 41 l_whole_C) (h42 : Good V 42 n_Lcm_C) (h43 : Good V 43 n_Rem_C) (h44 : Good V 44 n_Abs_C) : Good V 9 l_NumberDivisors_C :=
  have hE := l_NumberDivisors_tab hP h14 h22 h23 h40 h41 h42 h43 h44
  good_of hE (hP ▸ Tryz.func9) (show Tryz.f9.body = some (fb Tryz.f9) from rfl) (by decide) (by decide) (fun Γ hg h0 => by rw [show loopsOf (fb Tryz.f9) = [] from by kernel_rfl]; exact lpNil) (fun x => by kernel_rfl)
def l_NumberDivision_C : Callee := ⟨[.val .str, .val .str, .val (.sl (.int .i64)), .val (.sl (.int .i64))], [.val .bool], fun x => l_NumberDivision x.1 x.2.1 x.2.2.1 x.2.2.2.1⟩
def l_NumberDivision_ti : List (Nat × TI) := []
def l_NumberDivision_fn : List (Nat × Callee) := [(14, l_awake_C), (20, n_Cmp_C), (21, n_Add_C), (22, n_Mul_C), (23, n_Sign_C), (25, n_Div_C), (26, n_Floor_C), (41, l_whole_C), (43, n_Rem_C), (44, n_Abs_C), (45, n_Quo_C)]
def l_NumberDivision_lp : List (Nat × LoopO) := []
def l_NumberDivision_E : Tab := ⟨look l_NumberDivision_ti, lookC l_NumberDivision_fn, lookL l_NumberDivision_lp⟩
theorem l_NumberDivision_tab {V : Env} (hP : V.P = Tryz.prog) (h14 : Good V 14 l_awake_C) (h20 : Good V 20 n_Cmp_C) (h21 : Good V 21 n_Add_C) (h22 : Good V 22 n_Mul_C) (h23 : Good V 23 n_Sign_C) (h25 : Good V 25 n_Div_C) (h26 : Good V 26 n_Floor_C) (h41 : Good V 41 l_whole_C) (h43 : Good V 43 n_Rem_C) (h44 : Good V 44 n_Abs_C) (h45 : Good V 45 n_Quo_C) : TabOK V l_NumberDivision_E :=
  tab_ok (hP ▸ tiNil) (fnCons h14 (fnCons h20 (fnCons h21 (fnCons h22 (fnCons h23 (fnCons h25 (fnCons h26 (fnCons h41 (fnCons h43 (fnCons h44 (fnCons h45 fnNil)))))))))))
theorem l_NumberDivision_good {V : Env} (hP : V.P = Tryz.prog) (h14 : Good V 14 l_awake_C) (h20 : Good V 20 n_Cmp_C) (h21 : Good V 21 n_Add_C) (h22 : Good V 22 n_Mul_C) (h23 : Good V 23 n_Sign_C) (h25 : Good V 25 n_Div_C) (h26 : Good V 26 n_Floor_C) (h41 : Good V 41 l_whole_C) (h43 : Good V 43 n_Rem_C) (h44 : Good V 44 n_Abs_C) (h45 : Good V 45 n_Quo_C) : Good V 10 l_NumberDivision_C :=
  have hE := l_NumberDivision_tab hP h14 h20 h21 h22 h23 h25 h26 h41 h43 h44 h45
  good_of hE (hP ▸ Tryz.func10) (show Tryz.f10.body = some (fb Tryz.f10) from rfl) (by decide) (by decide) (fun Γ hg h0 => by rw [show loopsOf (fb Tryz.f10) = [] from by kernel_rfl]; exact lpNil) (fun x => by kernel_rfl)
def r_Floor_C : Callee := ⟨[.val .str], [.val .str], fun x => r_Floor x.1⟩
def r_Floor_ti : List (Nat × TI) := [(4, i4), (9, i9), (62, i62)]
def r_Floor_fn : List (Nat × Callee) := [(60, r_ratio_text_C), (106, r_divMag_C), (107, r_parse_C), (115, r_addMag_C)]
def r_Floor_lp : List (Nat × LoopO) := []
def r_Floor_E : Tab := ⟨look r_Floor_ti, lookC r_Floor_fn, lookL r_Floor_lp⟩
theorem r_Floor_tab {V : Env} (hP : V.P = Tryz.prog) (h60 : Good V 60 r_ratio_text_C) (h106 : Good V 106 r_divMag_C) (h107 : Good V 107 r_parse_C) (h115 : Good V 115 r_addMag_C) : TabOK V r_Floor_E :=
  tab_ok (hP ▸ (tiCons tok4 (tiCons tok9 (tiCons tok62 tiNil)))) (fnCons h60 (fnCons h106 (fnCons h107 (fnCons h115 fnNil))))
theorem r_Floor_good {V : Env} (hP : V.P = Tryz.prog) (h60 : Good V 60 r_ratio_text_C) (h106 : Good V 106 r_divMag_C) (h107 : Good V 107 r_parse_C) (h115 : Good V 115 r_addMag_C) : Good V 123 r_Floor_C :=
  have hE := r_Floor_tab hP h60 h106 h107 h115
  good_of hE (hP ▸ Tryz.func123) (show Tryz.f123.body = some (fb Tryz.f123) from rfl) (by decide) (by decide) (fun Γ hg h0 => by rw [show loopsOf (fb Tryz.f123) = [] from by kernel_rfl]; exact lpNil) (fun x => by kernel_rfl)
def r_Num0_C : Callee := ⟨[.val .str], [.val .str], fun x => r_Num0 x.1⟩
def r_Num0_ti : List (Nat × TI) := []
def r_Num0_fn : List (Nat × Callee) := [(61, r_Valid_C)]
def r_Num0_lp : List (Nat × LoopO) := []
def r_Num0_E : Tab := ⟨look r_Num0_ti, lookC r_Num0_fn, lookL r_Num0_lp⟩
theorem r_Num0_tab {V : Env} (hP : V.P = Tryz.prog) (h61 : Good V 61 r_Valid_C) : TabOK V r_Num0_E :=
  tab_ok (hP ▸ tiNil) (fnCons h61 fnNil)
theorem r_Num0_good {V : Env} (hP : V.P = Tryz.prog) (h61 : Good V 61 r_Valid_C) : Good V 148 r_Num0_C :=
  have hE := r_Num0_tab hP h61
  good_of hE (hP ▸ Tryz.func148) (show Tryz.f148.body = some (fb Tryz.f148) from rfl) (by decide) (by decide) (fun Γ hg h0 => by rw [show loopsOf (fb Tryz.f148) = [] from by kernel_rfl]; exact lpNil) (fun x => by kernel_rfl)
def r_Abs_C : Callee := ⟨[.val .str], [.val .str], fun x => r_Abs x.1⟩
def r_Abs_ti : List (Nat × TI) := []
def r_Abs_fn : List (Nat × Callee) := [(118, r_Sign_C), (122, r_Neg_C), (148, r_Num0_C)]
def r_Abs_lp : List (Nat × LoopO) := []
def r_Abs_E : Tab := ⟨look r_Abs_ti, lookC r_Abs_fn, lookL r_Abs_lp⟩
theorem r_Abs_tab {V : Env} (hP : V.P = Tryz.prog) (h118 : Good V 118 r_Sign_C) (h122 : Good V 122 r_Neg_C) (h148 : Good V 148 r_Num0_C) : TabOK V r_Abs_E :=
  tab_ok (hP ▸ tiNil) (fnCons h118 (fnCons h122 (fnCons h148 fnNil)))
theorem r_Abs_good {V : Env} (hP : V.P = Tryz.prog) (h118 : Good V 118 r_Sign_C) (h122 : Good V 122 r_Neg_C) (h148 : Good V 148 r_Num0_C) : Good V 124 r_Abs_C :=
  have hE := r_Abs_tab hP h118 h122 h148
  good_of hE (hP ▸ Tryz.func124) (show Tryz.f124.body = some (fb Tryz.f124) from rfl) (by decide) (by decide) (fun Γ hg h0 => by rw [show loopsOf (fb Tryz.f124) = [] from by kernel_rfl]; exact lpNil) (fun x => by kernel_rfl)
def r_Quo_C : Callee := ⟨[.val .str, .val .str], [.val .str], fun x => r_Quo x.1 x.2.1⟩
def r_Quo_ti : List (Nat × TI) := []
def r_Quo_fn : List (Nat × Callee) := [(76, r_Div_C), (82, r_IsInt_C), (118, r_Sign_C), (122, r_Neg_C), (123, r_Floor_C), (124, r_Abs_C)]
def r_Quo_lp : List (Nat × LoopO) := []
def r_Quo_E : Tab := ⟨look r_Quo_ti, lookC r_Quo_fn, lookL r_Quo_lp⟩
theorem r_Quo_tab {V : Env} (hP : V.P = Tryz.prog) (h76 : Good V 76 r_Div_C) (h82 : Good V 82 r_IsInt_C) (h118 : Good V 118 r_Sign_C) (h122 : Good V 122 r_Neg_C) (h123 : Good V 123 r_Floor_C) (h124 : Good V 124 r_Abs_C) : TabOK V r_Quo_E :=
  tab_ok (hP ▸ tiNil) (fnCons h76 (fnCons h82 (fnCons h118 (fnCons h122 (fnCons h123 (fnCons h124 fnNil))))))
theorem r_Quo_good {V : Env} (hP : V.P = Tryz.prog) (h76 : Good V 76 r_Div_C) (h82 : Good V 82 r_IsInt_C) (h118 : Good V 118 r_Sign_C) (h122 : Good V 122 r_Neg_C) (h123 : Good V 123 r_Floor_C) (h124 : Good V 124 r_Abs_C) : Good V 86 r_Quo_C :=
  have hE := r_Quo_tab hP h76 h82 h118 h122 h123 h124
  good_of hE (hP ▸ Tryz.func86) (show Tryz.f86.body = some (fb Tryz.f86) from rfl) (by decide) (by decide) (fun Γ hg h0 => by rw [show loopsOf (fb Tryz.f86) = [] from by kernel_rfl]; exact lpNil) (fun x => by kernel_rfl)
def r_Rem_C : Callee := ⟨[.val .str, .val .str], [.val .str], fun x => r_Rem x.1 x.2.1⟩
def r_Rem_ti : List (Nat × TI) := []
def r_Rem_fn : List (Nat × Callee) := [(84, r_Sub_C), (85, r_Mul_C), (86, r_Quo_C)]
def r_Rem_lp : List (Nat × LoopO) := []
def r_Rem_E : Tab := ⟨look r_Rem_ti, lookC r_Rem_fn, lookL r_Rem_lp⟩
theorem r_Rem_tab {V : Env} (hP : V.P = Tryz.prog) (h84 : Good V 84 r_Sub_C) (h85 : Good V 85 r_Mul_C) (h86 : Good V 86 r_Quo_C) : TabOK V r_Rem_E :=
  tab_ok (hP ▸ tiNil) (fnCons h84 (fnCons h85 (fnCons h86 fnNil)))
theorem r_Rem_good {V : Env} (hP : V.P = Tryz.prog) (h84 : Good V 84 r_Sub_C) (h85 : Good V 85 r_Mul_C) (h86 : Good V 86 r_Quo_C) : Good V 87 r_Rem_C :=
  have hE := r_Rem_tab hP h84 h85 h86
  good_of hE (hP ▸ Tryz.func87) (show Tryz.f87.body = some (fb Tryz.f87) from rfl) (by decide) (by decide) (fun Γ hg h0 => by rw [show loopsOf (fb Tryz.f87) = [] from by kernel_rfl]; exact lpNil) (fun x => by kernel_rfl)
def r_Gcd_C : Callee := ⟨[.val .str, .val .str], [.val .str], fun x => r_Gcd x.1 x.2.1⟩
def r_Gcd_ti : List (Nat × TI) := []
def r_Gcd_fn : List (Nat × Callee) := [(82, r_IsInt_C), (105, r_gcdMag_C), (124, r_Abs_C)]
def r_Gcd_lp : List (Nat × LoopO) := []
def r_Gcd_E : Tab := ⟨look r_Gcd_ti, lookC r_Gcd_fn, lookL r_Gcd_lp⟩
theorem r_Gcd_tab {V : Env} (hP : V.P = Tryz.prog) (h82 : Good V 82 r_IsInt_C) (h105 : Good V 105 r_gcdMag_C) (h124 : Good V 124 r_Abs_C) : TabOK V r_Gcd_E :=
  tab_ok (hP ▸ tiNil) (fnCons h82 (fnCons h105 (fnCons h124 fnNil)))
theorem r_Gcd_good {V : Env} (hP : V.P = Tryz.prog) (h82 : Good V 82 r_IsInt_C) (h105 : Good V 105 r_gcdMag_C) (h124 : Good V 124 r_Abs_C) : Good V 88 r_Gcd_C :=
  have hE := r_Gcd_tab hP h82 h105 h124
  good_of hE (hP ▸ Tryz.func88) (show Tryz.f88.body = some (fb Tryz.f88) from rfl) (by decide) (by decide) (fun Γ hg h0 => by rw [show loopsOf (fb Tryz.f88) = [] from by kernel_rfl]; exact lpNil) (fun x => by kernel_rfl)
def r_Lcm_C : Callee := ⟨[.val .str, .val .str], [.val .str], fun x => r_Lcm x.1 x.2.1⟩
def r_Lcm_ti : List (Nat × TI) := []
def r_Lcm_fn : List (Nat × Callee) := [(76, r_Div_C), (82, r_IsInt_C), (85, r_Mul_C), (88, r_Gcd_C), (124, r_Abs_C)]
def r_Lcm_lp : List (Nat × LoopO) := []
def r_Lcm_E : Tab := ⟨look r_Lcm_ti, lookC r_Lcm_fn, lookL r_Lcm_lp⟩
theorem r_Lcm_tab {V : Env} (hP : V.P = Tryz.prog) (h76 : Good V 76 r_Div_C) (h82 : Good V 82 r_IsInt_C) (h85 : Good V 85 r_Mul_C) (h88 : Good V 88 r_Gcd_C) (h124 : Good V 124 r_Abs_C) : TabOK V r_Lcm_E :=
  tab_ok (hP ▸ tiNil) (fnCons h76 (fnCons h82 (fnCons h85 (fnCons h88 (fnCons h124 fnNil)))))
theorem r_Lcm_good {V : Env} (hP : V.P = Tryz.prog) (h76 : Good V 76 r_Div_C) (h82 : Good V 82 r_IsInt_C) (h85 : Good V 85 r_Mul_C) (h88 : Good V 88 r_Gcd_C) (h124 : Good V 124 r_Abs_C) : Good V 89 r_Lcm_C :=
  have hE := r_Lcm_tab hP h76 h82 h85 h88 h124
  good_of hE (hP ▸ Tryz.func89) (show Tryz.f89.body = some (fb Tryz.f89) from rfl) (by decide) (by decide) (fun Γ hg h0 => by rw [show loopsOf (fb Tryz.f89) = [] from by kernel_rfl]; exact lpNil) (fun x => by kernel_rfl)
def l_binary_C : Callee := ⟨[.val .str, .val .str], [.val .bool], fun x => l_binary x.1 x.2.1⟩
def l_binary_ti : List (Nat × TI) := []
def l_binary_fn : List (Nat × Callee) := [(20, n_Cmp_C), (21, n_Add_C), (22, n_Mul_C), (24, n_Sub_C), (25, n_Div_C), (40, n_Gcd_C), (42, n_Lcm_C), (43, n_Rem_C), (45, n_Quo_C), (73, r_Add_C), (75, r_Cmp_C), (76, r_Div_C), (84, r_Sub_C), (85, r_Mul_C), (86, r_Quo_C), (87, r_Rem_C), (88, r_Gcd_C), (89, r_Lcm_C)]
def l_binary_lp : List (Nat × LoopO) := []
def l_binary_E : Tab := ⟨look l_binary_ti, lookC l_binary_fn, lookL l_binary_lp⟩
theorem l_binary_tab {V : Env} (hP : V.P = Tryz.prog) (h20 : Good V 20 n_Cmp_C) (h21 : Good V 21 n_Add_C) (h22 : Good V 22 n_Mul_C) (h24 : Good V 24 n_Sub_C) (h25 : Good V 25 n_Div_C) (h40 : Good V 40 n_Gcd_C) (h42 : Good V 42 n_Lcm_C) (h43 : Good V 43 n_Rem_C) (h45 : Good V 45 n_Quo_C) (h73 : Good V 73 r_Add_C) (h75 : Good V 75 r_Cmp_C) (h76 : Good V 76 r_Div_C) (h84 : Good V 84 r_Sub_C) (h85 : Good V 85 r_Mul_C) (h86 : Good V 86 r_Quo_C) (h87 : Good V 87 r_Rem_C) (h88 : Good V 88 r_Gcd_C) (h89 : Good V 89 r_Lcm_C) : TabOK V l_binary_E :=
  tab_ok (hP ▸ tiNil) (fnCons h20 (fnCons h21 (fnCons h22 (fnCons h24 (fnCons h25 (fnCons h40 (fnCons h42 (fnCons h43 (fnCons h45 (fnCons h73 (fnCons h75 (fnCons h76 (fnCons h84 (fnCons h85 (fnCons h86 (fnCons h87 (fnCons h88 (fnCons h89 fnNil))))))))))))))))))
theorem l_binary_good {V : Env} (hP : V.P = Tryz.prog) (h20 : Good V 20 n_Cmp_C) (h21 : Good V 21 n_Add_C) (h22 : Good V 22 n_Mul_C) (h24 : Good V 24 n_Sub_C) (h25 : Good V 25 n_Div_C) (h40 : Good V 40 n_Gcd_C) (h42 : Good V 42 n_Lcm_C) (h43 : Good V 43 n_Rem_C) (h45 : Good V 45 n_Quo_C) (h73 : Good V 73 r_Add_C) (h75 : Good V 75 r_Cmp_C) (h76 : Good V 76 r_Div_C) (h84 : Good V 84 r_Sub_C) (h85 : Good V 85 r_Mul_C) (h86 : Good V 86 r_Quo_C) (h87 : Good V 87 r_Rem_C) (h88 : Good V 88 r_Gcd_C) (h89 : Good V 89 r_Lcm_C) : Good V 46 l_binary_C :=
  have hE := l_binary_tab hP h20 h21 h22 h24 h25 h40 h42 h43 h45 h73 h75 h76 h84 h85 h86 h87 h88 h89
  good_of hE (hP ▸ Tryz.func46) (show Tryz.f46.body = some (fb Tryz.f46) from rfl) (by decide) (by decide) (fun Γ hg h0 => by rw [show loopsOf (fb Tryz.f46) = [] from by kernel_rfl]; exact lpNil) (fun x => by kernel_rfl)
def l_NumberBinary_C : Callee := ⟨[.val .str, .val .str, .val (.sl (.int .i64)), .val (.sl (.int .i64))], [.val .bool], fun x => l_NumberBinary x.1 x.2.1 x.2.2.1 x.2.2.2.1⟩
def l_NumberBinary_ti : List (Nat × TI) := [(9, i9), (38, i38)]
def l_NumberBinary_fn : List (Nat × Callee) := [(13, l_short_C), (14, l_awake_C), (19, l_pick_C), (36, g_New_C), (37, g_Choices_Number_C), (46, l_binary_C)]
def l_NumberBinary_lp : List (Nat × LoopO) := []
def l_NumberBinary_E : Tab := ⟨look l_NumberBinary_ti, lookC l_NumberBinary_fn, lookL l_NumberBinary_lp⟩
theorem l_NumberBinary_tab {V : Env} (hP : V.P = Tryz.prog) (h13 : Good V 13 l_short_C) (h14 : Good V 14 l_awake_C) (h19 : Good V 19 l_pick_C) (h36 : Good V 36 g_New_C) (h37 : Good V 37 g_Choices_Number_C) (h46 : Good V 46 l_binary_C) : TabOK V l_NumberBinary_E :=
  tab_ok (hP ▸ (tiCons tok9 (tiCons tok38 tiNil))) (fnCons h13 (fnCons h14 (fnCons h19 (fnCons h36 (fnCons h37 (fnCons h46 fnNil))))))
theorem l_NumberBinary_good {V : Env} (hP : V.P = Tryz.prog) (h13 : Good V 13 l_short_C) (h14 : Good V 14 l_awake_C) (h19 : Good V 19 l_pick_C) (h36 : Good V 36 g_New_C) (h37 : Good V 37 g_Choices_Number_C) (h46 : Good V 46 l_binary_C) : Good V 11 l_NumberBinary_C :=
  have hE := l_NumberBinary_tab hP h13 h14 h19 h36 h37 h46
  good_of hE (hP ▸ Tryz.func11) (show Tryz.f11.body = some (fb Tryz.f11) from rfl) (by decide) (by decide) (fun Γ hg h0 => by rw [show loopsOf (fb Tryz.f11) = [] from by kernel_rfl]; exact lpNil) (fun x => by kernel_rfl)
def n_FromInt_C : Callee := ⟨[.val (.int .i64)], [.val .str], fun x => n_FromInt x.1⟩
def n_FromInt_ti : List (Nat × TI) := []
def n_FromInt_fn : List (Nat × Callee) := [(90, strconv_Itoa_C)]
def n_FromInt_lp : List (Nat × LoopO) := []
def n_FromInt_E : Tab := ⟨look n_FromInt_ti, lookC n_FromInt_fn, lookL n_FromInt_lp⟩
theorem n_FromInt_tab {V : Env} (hP : V.P = Tryz.prog) (h90 : Good V 90 strconv_Itoa_C) : TabOK V n_FromInt_E :=
  tab_ok (hP ▸ tiNil) (fnCons h90 fnNil)
theorem n_FromInt_good {V : Env} (hP : V.P = Tryz.prog) (h90 : Good V 90 strconv_Itoa_C) : Good V 47 n_FromInt_C :=
  have hE := n_FromInt_tab hP h90
  good_of hE (hP ▸ Tryz.func47) (show Tryz.f47.body = some (fb Tryz.f47) from rfl) (by decide) (by decide) (fun Γ hg h0 => by rw [show loopsOf (fb Tryz.f47) = [] from by kernel_rfl]; exact lpNil) (fun x => by kernel_rfl)
def n_Int_C : Callee := ⟨[.val .str], [.val (.int .i64), .val .bool], fun x => n_Int x.1⟩
def n_Int_ti : List (Nat × TI) := [(81, i81)]
def n_Int_fn : List (Nat × Callee) := [(28, n_IsInt_C), (91, strconv_Atoi_C)]
def n_Int_lp : List (Nat × LoopO) := []
def n_Int_E : Tab := ⟨look n_Int_ti, lookC n_Int_fn, lookL n_Int_lp⟩
theorem n_Int_tab {V : Env} (hP : V.P = Tryz.prog) (h28 : Good V 28 n_IsInt_C) (h91 : Good V 91 strconv_Atoi_C) : TabOK V n_Int_E :=
  tab_ok (hP ▸ (tiCons tok81 tiNil)) (fnCons h28 (fnCons h91 fnNil))
theorem n_Int_good {V : Env} (hP : V.P = Tryz.prog) (h28 : Good V 28 n_IsInt_C) (h91 : Good V 91 strconv_Atoi_C) : Good V 48 n_Int_C :=
  have hE := n_Int_tab hP h28 h91
  good_of hE (hP ▸ Tryz.func48) (show Tryz.f48.body = some (fb Tryz.f48) from rfl) (by decide) (by decide) (fun Γ hg h0 => by rw [show loopsOf (fb Tryz.f48) = [] from by kernel_rfl]; exact lpNil) (fun x => by kernel_rfl)
def l_NumberFromInt_C : Callee := ⟨[.val (.int .i64), .val (.int .i64)], [.val .bool], fun x => l_NumberFromInt x.1 x.2.1⟩
def l_NumberFromInt_ti : List (Nat × TI) := []
def l_NumberFromInt_fn : List (Nat × Callee) := [(14, l_awake_C), (15, r_FromInt_C), (20, n_Cmp_C), (23, n_Sign_C), (28, n_IsInt_C), (47, n_FromInt_C), (48, n_Int_C)]
def l_NumberFromInt_lp : List (Nat × LoopO) := []
def l_NumberFromInt_E : Tab := ⟨look l_NumberFromInt_ti, lookC l_NumberFromInt_fn, lookL l_NumberFromInt_lp⟩
theorem l_NumberFromInt_tab {V : Env} (hP : V.P = Tryz.prog) (h14 : Good V 14 l_awake_C) (h15 : Good V 15 r_FromInt_C) (h20 : Good V 20 n_Cmp_C) (h23 : Good V 23 n_Sign_C) (h28 : Good V 28 n_IsInt_C) (h47 : Good V 47 n_FromInt_C) (h48 : Good V 48 n_Int_C) : TabOK V l_NumberFromInt_E :=
  tab_ok (hP ▸ tiNil) (fnCons h14 (fnCons h15 (fnCons h20 (fnCons h23 (fnCons h28 (fnCons h47 (fnCons h48 fnNil)))))))
theorem l_NumberFromInt_good {V : Env} (hP : V.P = Tryz.prog) (h14 : Good V 14 l_awake_C) (h15 : Good V 15 r_FromInt_C) (h20 : Good V 20 n_Cmp_C) (h23 : Good V 23 n_Sign_C) (h28 : Good V 28 n_IsInt_C) (h47 : Good V 47 n_FromInt_C) (h48 : Good V 48 n_Int_C) : Good V 12 l_NumberFromInt_C :=
  have hE := l_NumberFromInt_tab hP h14 h15 h20 h23 h28 h47 h48
  good_of hE (hP ▸ Tryz.func12) (show Tryz.f12.body = some (fb Tryz.f12) from rfl) (by decide) (by decide) (fun Γ hg h0 => by rw [show loopsOf (fb Tryz.f12) = [] from by kernel_rfl]; exact lpNil) (fun x => by kernel_rfl)
end
end Go.AM.Num
end
