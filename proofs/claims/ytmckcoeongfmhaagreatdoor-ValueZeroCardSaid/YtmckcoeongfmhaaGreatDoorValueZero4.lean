/- Law ValueZero of the values: a machine of plain values, what the program's functions compute in it, and what that is. No condition beyond what the statement says. -/
import Derived.Test.YtmckcoeongfmhaaGreatDoorValueZero3
import Derived.Test.YtmckcoeongfmhaaGreatDoorProg
import Derived.Test.YtmckcoeongfmhaaGreatDoorShelf
import Derived.Lib.ItoaMem
import Derived.Lib.Walk
import Derived.WalkKit
import Derived.BigCall
import Derived.BigGuard
import Derived.Shelf.Spec.SlicesInsert
import Derived.Shelf.Spec.SlicesInsertGrow
import Derived.Shelf.Strings.Builder1
import Derived.IntWalk
import Derived.Lib.ItoaNum
import Derived.Lib.SlTrimSet
import Derived.Test.YtmckcoeongfmhaaGreatDoorRows
import Derived.Shelf.Vars
import Derived.Lib.LaidTab
import Derived.ProofKit
import Derived.MakeChecks
import Derived.OpenShut
import Derived.Lib.Strings
import Derived.SliceStrings
import Derived.SizedLaws
import Derived.Test.YtmckcoeongfmhaaGreatDoorCards
import Derived.Test.YtmckcoeongfmhaaGreatDoorTie
import Derived.ShutString
import Derived.ChangeOld
import Derived.Below
import Derived.LaidMore
import Derived.Deep.DeepHandedRow
import Derived.Deep.DeepWitnessRowRef
import GoSem.PinnedTables
set_option linter.unusedSimpArgs false
set_option linter.unusedVariables false
section
namespace Go.AM.Num
open Go.Proofs
set_option maxRecDepth 100000
noncomputable section
def tiL : List (Nat × TI) := [(9, ⟨.str, 1, 16, some .str⟩), (3, ⟨.int .i64, 1, 8, some (.int .i64)⟩), (24, ⟨.struct [(0, 3), (1, 4), (2, 9), (3, 22), (4, 22)], 5, 80, some gVal⟩), (4, ⟨.bool, 1, 1, some .bool⟩), (22, ⟨.slice 9, 1, 24, some (.sl .str)⟩), (127, ⟨.slice 198, 1, 24, some (.sl (.int .u32))⟩), (198, ⟨.int .u32, 1, 4, some (.int .u32)⟩), (54, ⟨.struct [(0, 3), (1, 3), (2, 9), (3, 9), (4, 3)], 5, 56, some gNod⟩), (31, ⟨.slice 54, 1, 24, some (.sl gNod)⟩), (129, ⟨.struct [(0, 4), (1, 127), (2, 127)], 3, 56, some gRt⟩), (30, ⟨.slice 24, 1, 24, some (.sl gVal)⟩), (25, ⟨.slice 3, 1, 24, some (.sl (.int .i64))⟩), (231, ⟨.int .u64, 1, 8, some (.int .u64)⟩), (123, ⟨.struct [(0, 2), (1, 2)], 2, 16, some gSml⟩), (119, ⟨.struct [(0, 31), (1, 117)], 2, 48, some gView⟩), (2, ⟨.int .i64, 1, 8, some (.int .i64)⟩), (120, ⟨.slice 5, 1, 24, some (.sl (.int .u8))⟩), (5, ⟨.int .u8, 1, 1, some (.int .u8)⟩), (150, ⟨.struct [(0, 148), (1, 120)], 2, 32, some (.pair (.ptr .unit) (.sl (.int .u8)))⟩), (63, ⟨.slice 30, 1, 24, some (.sl (.sl gVal))⟩), (116, ⟨.struct [(0, 3), (1, 3), (2, 3)], 3, 24, some (.pair (.int .i64) gSml)⟩), (117, ⟨.slice 116, 1, 24, some (.sl (.pair (.int .i64) gSml))⟩), (109, ⟨.struct [(0, 31), (1, 3), (2, 101), (3, 104)], 4, 48, some gEvl⟩), (101, ⟨.map 9 24, 1, 8, some (.map gVal)⟩), (104, ⟨.map 9 65, 1, 8, some (.map gInterp)⟩), (224, ⟨.struct [(0, 9), (1, 25), (2, 3)], 3, 48, some (.pair .str gChoices)⟩), (84, ⟨.int .u64, 1, 8, some (.int .u64)⟩), (67, ⟨.slice 31, 1, 24, some (.sl (.sl gNod))⟩), (65, ⟨.struct [(0, 9), (1, 63), (2, 30), (3, 24)], 8, 144, some gInterp⟩), (47, ⟨.slice 50, 1, 24, some (.sl gBind)⟩), (50, ⟨.struct [(0, 9), (1, 24)], 6, 96, some gBind⟩), (60, ⟨.slice 65, 1, 24, some (.sl gInterp)⟩), (112, ⟨.pointer 119, 1, 8, some (.ptr gView)⟩), (96, ⟨.struct [(0, 9), (1, 3)], 2, 24, some gVr⟩), (172, ⟨.slice 224, 1, 24, some (.sl (.pair .str gChoices))⟩), (45, ⟨.slice 96, 1, 24, some (.sl gVr)⟩), (220, ⟨.map 9 96, 1, 8, some (.map gVr)⟩), (221, ⟨.map 9 224, 1, 8, some (.map (.pair .str gChoices))⟩)]
theorem tiAll : TiAll Tryz.prog tiL :=
  (tiCons (tok_of Tryz.underlying9 Tryz.type9 rfl rfl rfl (fun g hg => by cases hg; exact ⟨rfl, rfl, rfl⟩))
  (tiCons (tok_of Tryz.underlying3 Tryz.type3 rfl rfl rfl (fun g hg => by cases hg; exact ⟨rfl, rfl, rfl⟩))
  (tiCons (tok_of Tryz.underlying24 Tryz.type24 rfl rfl rfl (fun g hg => by cases hg; exact ⟨rfl, rfl, rfl⟩))
  (tiCons (tok_of Tryz.underlying4 Tryz.type4 rfl rfl rfl (fun g hg => by cases hg; exact ⟨rfl, rfl, rfl⟩))
  (tiCons (tok_of Tryz.underlying22 Tryz.type22 rfl rfl rfl (fun g hg => by cases hg; exact ⟨rfl, rfl, rfl⟩))
  (tiCons (tok_of Tryz.underlying127 Tryz.type127 rfl rfl rfl (fun g hg => by cases hg; exact ⟨rfl, rfl, rfl⟩))
  (tiCons (tok_of Tryz.underlying198 Tryz.type198 rfl rfl rfl (fun g hg => by cases hg; exact ⟨rfl, rfl, rfl⟩))
  (tiCons (tok_of Tryz.underlying54 Tryz.type54 rfl rfl rfl (fun g hg => by cases hg; exact ⟨rfl, rfl, rfl⟩))
  (tiCons (tok_of Tryz.underlying31 Tryz.type31 rfl rfl rfl (fun g hg => by cases hg; exact ⟨rfl, rfl, rfl⟩))
  (tiCons (tok_of Tryz.underlying129 Tryz.type129 rfl rfl rfl (fun g hg => by cases hg; exact ⟨rfl, rfl, rfl⟩))
  (tiCons (tok_of Tryz.underlying30 Tryz.type30 rfl rfl rfl (fun g hg => by cases hg; exact ⟨rfl, rfl, rfl⟩))
  (tiCons (tok_of Tryz.underlying25 Tryz.type25 rfl rfl rfl (fun g hg => by cases hg; exact ⟨rfl, rfl, rfl⟩))
  (tiCons (tok_of Tryz.underlying231 Tryz.type231 rfl rfl rfl (fun g hg => by cases hg; exact ⟨rfl, rfl, rfl⟩))
  (tiCons (tok_of Tryz.underlying123 Tryz.type123 rfl rfl rfl (fun g hg => by cases hg; exact ⟨rfl, rfl, rfl⟩))
  (tiCons (tok_of Tryz.underlying119 Tryz.type119 rfl rfl rfl (fun g hg => by cases hg; exact ⟨rfl, rfl, rfl⟩))
  (tiCons (tok_of Tryz.underlying2 Tryz.type2 rfl rfl rfl (fun g hg => by cases hg; exact ⟨rfl, rfl, rfl⟩))
  (tiCons (tok_of Tryz.underlying120 Tryz.type120 rfl rfl rfl (fun g hg => by cases hg; exact ⟨rfl, rfl, rfl⟩))
  (tiCons (tok_of Tryz.underlying5 Tryz.type5 rfl rfl rfl (fun g hg => by cases hg; exact ⟨rfl, rfl, rfl⟩))
  (tiCons (tok_of Tryz.underlying150 Tryz.type150 rfl rfl rfl (fun g hg => by cases hg; exact ⟨rfl, rfl, rfl⟩))
  (tiCons (tok_of Tryz.underlying63 Tryz.type63 rfl rfl rfl (fun g hg => by cases hg; exact ⟨rfl, rfl, rfl⟩))
  (tiCons (tok_of Tryz.underlying116 Tryz.type116 rfl rfl rfl (fun g hg => by cases hg; exact ⟨rfl, rfl, rfl⟩))
  (tiCons (tok_of Tryz.underlying117 Tryz.type117 rfl rfl rfl (fun g hg => by cases hg; exact ⟨rfl, rfl, rfl⟩))
  (tiCons (tok_of Tryz.underlying109 Tryz.type109 rfl rfl rfl (fun g hg => by cases hg; exact ⟨rfl, rfl, rfl⟩))
  (tiCons (tok_of Tryz.underlying101 Tryz.type101 rfl rfl rfl (fun g hg => by cases hg; exact ⟨rfl, rfl, rfl⟩))
  (tiCons (tok_of Tryz.underlying104 Tryz.type104 rfl rfl rfl (fun g hg => by cases hg; exact ⟨rfl, rfl, rfl⟩))
  (tiCons (tok_of Tryz.underlying224 Tryz.type224 rfl rfl rfl (fun g hg => by cases hg; exact ⟨rfl, rfl, rfl⟩))
  (tiCons (tok_of Tryz.underlying84 Tryz.type84 rfl rfl rfl (fun g hg => by cases hg; exact ⟨rfl, rfl, rfl⟩))
  (tiCons (tok_of Tryz.underlying67 Tryz.type67 rfl rfl rfl (fun g hg => by cases hg; exact ⟨rfl, rfl, rfl⟩))
  (tiCons (tok_of Tryz.underlying65 Tryz.type65 rfl rfl rfl (fun g hg => by cases hg; exact ⟨rfl, rfl, rfl⟩))
  (tiCons (tok_of Tryz.underlying47 Tryz.type47 rfl rfl rfl (fun g hg => by cases hg; exact ⟨rfl, rfl, rfl⟩))
  (tiCons (tok_of Tryz.underlying50 Tryz.type50 rfl rfl rfl (fun g hg => by cases hg; exact ⟨rfl, rfl, rfl⟩))
  (tiCons (tok_of Tryz.underlying60 Tryz.type60 rfl rfl rfl (fun g hg => by cases hg; exact ⟨rfl, rfl, rfl⟩))
  (tiCons (tok_of Tryz.underlying112 Tryz.type112 rfl rfl rfl (fun g hg => by cases hg; exact ⟨rfl, rfl, rfl⟩))
  (tiCons (tok_of Tryz.underlying96 Tryz.type96 rfl rfl rfl (fun g hg => by cases hg; exact ⟨rfl, rfl, rfl⟩))
  (tiCons (tok_of Tryz.underlying172 Tryz.type172 rfl rfl rfl (fun g hg => by cases hg; exact ⟨rfl, rfl, rfl⟩))
  (tiCons (tok_of Tryz.underlying45 Tryz.type45 rfl rfl rfl (fun g hg => by cases hg; exact ⟨rfl, rfl, rfl⟩))
  (tiCons (tok_of Tryz.underlying220 Tryz.type220 rfl rfl rfl (fun g hg => by cases hg; exact ⟨rfl, rfl, rfl⟩))
  (tiCons (tok_of Tryz.underlying221 Tryz.type221 rfl rfl rfl (fun g hg => by cases hg; exact ⟨rfl, rfl, rfl⟩))
  tiNil))))))))))))))))))))))))))))))))))))))
def l0 : FL := [(109, none, strings_CutPrefix_C), (119, none, strings_Builder_String_C), (129, none, slices_Delete_string_string_C), (130, none, slices_Insert_string_string_C), (137, none, slices_Clone_string_string_C), (145, none, strconv_FormatInt_C), (161, none, strings_Cut_C), (162, none, strconv_ParseInt_C), (204, none, strconv_FormatUint_C), (231, none, strings_Builder_copyCheck_C)]
theorem g0 {V : Env} (h0 : Fs Tryz.prog V l0) : Fs Tryz.prog V l0 := h0
def v_Zero_C : Callee := ⟨[.val (.int .i64)], [.val gVal, .val (.int .i64)], fun x => v_Zero x.1⟩
def l1 : FL := (28, none, v_Zero_C) :: l0
theorem g1 {V : Env} (h0 : Fs Tryz.prog V l0) : Fs Tryz.prog V l1 :=
  have h := g0 h0
  h.cons (gd [] [] [] h tiAll bkNil Tryz.func28 (by kernel_rfl) (fun _ => lsNil) (fun x => by kernel_rfl))
def r_sorted_C : Callee := ⟨[.val (.int .i64)], [.val .bool], fun x => r_sorted x.1⟩
def l2 : FL := (74, none, r_sorted_C) :: l1
theorem g2 {V : Env} (h0 : Fs Tryz.prog V l0) : Fs Tryz.prog V l2 :=
  have h := g1 h0
  h.cons (gd [] [] [] h tiAll bkNil Tryz.func74 (by kernel_rfl) (fun _ => lsNil) (fun x => by kernel_rfl))
def r_Zero_C : Callee := ⟨[.val (.int .i64)], [.val gVal, .val (.int .i64)], fun x => r_Zero x.1⟩
def l3 : FL := (29, none, r_Zero_C) :: l2
theorem g3 {V : Env} (h0 : Fs Tryz.prog V l0) : Fs Tryz.prog V l3 :=
  have h := g2 h0
  h.cons (gd [] [] [] h tiAll bkNil Tryz.func29 (by kernel_rfl) (fun _ => lsNil) (fun x => by kernel_rfl))
def g_Mod_C : Callee := ⟨[.val (.int .i64), .val (.int .i64)], [.val (.int .i64)], fun x => g_Mod x.1 x.2.1⟩
def l4 : FL := (18, none, g_Mod_C) :: l3
theorem g4 {V : Env} (h0 : Fs Tryz.prog V l0) : Fs Tryz.prog V l4 :=
  have h := g3 h0
  h.cons (gd [] [] [] h tiAll bkNil Tryz.func18 (by kernel_rfl) (fun _ => lsNil) (fun x => by kernel_rfl))
def r_equalTexts_C : Callee := ⟨[.val (.sl .str), .val (.sl .str)], [.val .bool], fun x => r_equalTexts x.1 x.2.1⟩
def l5 : FL := (73, none, r_equalTexts_C) :: l4
theorem g5 {V : Env} (h0 : Fs Tryz.prog V l0) : Fs Tryz.prog V l5 :=
  have h := g4 h0
  h.cons (gd [.lp 4 ⟨26, [0, 1, 4, 5], [.val (.sl .str), .val (.sl .str), .val .bool, .val (.int .i64)], [], []⟩ [.exit 0, .ret] r_equalTexts_s4] [] [] h tiAll bkNil Tryz.func73 (by kernel_rfl) (fun _ => (lsLp (fun x => by kernel_rfl) lsNil)) (fun x => by kernel_rfl))
def r_EqualValue_C : Callee := ⟨[.val gVal, .val gVal], [.val .bool], fun x => r_EqualValue x.1 x.2.1⟩
def l6 : FL := (27, none, r_EqualValue_C) :: l5
theorem g6 {V : Env} (h0 : Fs Tryz.prog V l0) : Fs Tryz.prog V l6 :=
  have h := g5 h0
  h.cons (gd [] [] [] h tiAll bkNil Tryz.func27 (by kernel_rfl) (fun _ => lsNil) (fun x => by kernel_rfl))
def v_simple_C : Callee := ⟨[.val gVal], [.val .bool], fun x => v_simple x.1⟩
def l7 : FL := (62, none, v_simple_C) :: l6
theorem g7 {V : Env} (h0 : Fs Tryz.prog V l0) : Fs Tryz.prog V l7 :=
  have h := g6 h0
  h.cons (gd [] [] [] h tiAll bkNil Tryz.func62 (by kernel_rfl) (fun _ => lsNil) (fun x => by kernel_rfl))
def n_numeral_C : Callee := ⟨[.val .str], [.val .bool], fun x => n_numeral x.1⟩
def l8 : FL := (110, none, n_numeral_C) :: l7
theorem g8 {V : Env} (h0 : Fs Tryz.prog V l0) : Fs Tryz.prog V l8 :=
  have h := g7 h0
  h.cons (gd [.lp 2 ⟨30, [0, 2, 6, 7, 8], [.val .str, .val .bool, .val (.sl (.int .u8)), .val (.int .i64), .val (.int .i64)], [], []⟩ [.exit 0, .ret] n_numeral_s2] [] [] h tiAll bkNil Tryz.func110 (by kernel_rfl) (fun _ => (lsLp (fun x => by kernel_rfl) lsNil)) (fun x => by kernel_rfl))
def n_IsInt_C : Callee := ⟨[.val .str], [.val .bool], fun x => n_IsInt x.1⟩
def l9 : FL := (63, none, n_IsInt_C) :: l8
theorem g9 {V : Env} (h0 : Fs Tryz.prog V l0) : Fs Tryz.prog V l9 :=
  have h := g8 h0
  h.cons (gd [] [] [] h tiAll bkNil Tryz.func63 (by kernel_rfl) (fun _ => lsNil) (fun x => by kernel_rfl))
def n_divisor_C : Callee := ⟨[.val (.int .i64), .val (.int .i64)], [.val (.int .i64)], fun x => n_divisor x.1 x.2.1⟩
def l10 : FL := (144, none, n_divisor_C) :: l9
theorem g10 {V : Env} (h0 : Fs Tryz.prog V l0) : Fs Tryz.prog V l10 :=
  have h := g9 h0
  h.cons (gd [.lp 1 ⟨12, [0, 1], [.val (.int .i64), .val (.int .i64)], [], []⟩ [.exit 0] n_divisor_s1] [] [] h tiAll bkNil Tryz.func144 (by kernel_rfl) (fun _ => (lsLp (fun x => by kernel_rfl) lsNil)) (fun x => by kernel_rfl))
def n_smallOf_C : Callee := ⟨[.val .str], [.val gSml, .val .bool], fun x => n_smallOf x.1⟩
def l11 : FL := (111, none, n_smallOf_C) :: l10
theorem g11 {V : Env} (h0 : Fs Tryz.prog V l0) : Fs Tryz.prog V l11 :=
  have h := g10 h0
  h.cons (gd [] [] [] h tiAll bkNil Tryz.func111 (by kernel_rfl) (fun _ => lsNil) (fun x => by kernel_rfl))
def n_nat_trim_C : Callee := ⟨[.val (.sl (.int .u32))], [.val (.sl (.int .u32))], fun x => n_nat_trim x.1⟩
def l12 : FL := (203, none, n_nat_trim_C) :: l11
theorem g12 {V : Env} (h0 : Fs Tryz.prog V l0) : Fs Tryz.prog V l12 :=
  have h := g11 h0
  h.cons (gd [.lp 2 ⟨21, [0, 3], [.val (.sl (.int .u32)), .val (.int .i64)], [], []⟩ [.exit 0] n_nat_trim_s2] [] [] h tiAll bkNil Tryz.func203 (by kernel_rfl) (fun _ => (lsLp (fun x => by kernel_rfl) lsNil)) (fun x => by kernel_rfl))
def n_natOf_C : Callee := ⟨[.val .str], [.val (.sl (.int .u32))], fun x => n_natOf x.1⟩
def l13 : FL := (163, none, n_natOf_C) :: l12
theorem g13 {V : Env} (h0 : Fs Tryz.prog V l0) : Fs Tryz.prog V l13 :=
  have h := g12 h0
  h.cons (gd [.lp 7 ⟨39, [0, 3, 4, 5, 20, 21, 22], [.val .str, .row (.int .u32), .val (.int .i64), .val (.int .u32), .val (.sl (.int .u8)), .val (.int .i64), .val (.int .i64)], [], []⟩ [.exit 2] n_natOf_s7, .lp 3 ⟨39, [0, 3, 4], [.val .str, .own (.int .u32), .val (.int .i64)], [], []⟩ [.exit 0] n_natOf_s3] [] [] h tiAll bkNil Tryz.func163 (by kernel_rfl) (fun _ => (lsLp (fun x => by kernel_rfl) (lsLp (fun x => by kernel_rfl) lsNil))) (fun x => by kernel_rfl))
def n_nat_cmp_C : Callee := ⟨[.val (.sl (.int .u32)), .val (.sl (.int .u32))], [.val (.int .i64)], fun x => n_nat_cmp x.1 x.2.1⟩
def l14 : FL := (199, none, n_nat_cmp_C) :: l13
theorem g14 {V : Env} (h0 : Fs Tryz.prog V l0) : Fs Tryz.prog V l14 :=
  have h := g13 h0
  h.cons (gd [.lp 4 ⟨43, [0, 1, 4, 5], [.val (.sl (.int .u32)), .val (.sl (.int .u32)), .val (.int .i64), .val (.int .i64)], [], []⟩ [.exit 0, .ret] n_nat_cmp_s4] [] [] h tiAll bkNil Tryz.func199 (by kernel_rfl) (fun _ => (lsLp (fun x => by kernel_rfl) lsNil)) (fun x => by kernel_rfl))
def n_nat_quoLimb_C : Callee := ⟨[.val (.sl (.int .u32)), .val (.int .u32)], [.val (.sl (.int .u32)), .val (.sl (.int .u32))], fun x => n_nat_quoLimb x.1 x.2.1⟩
def l15 : FL := (257, none, n_nat_quoLimb_C) :: l14
theorem g15 {V : Env} (h0 : Fs Tryz.prog V l0) : Fs Tryz.prog V l15 :=
  have h := g14 h0
  h.cons (gd [.lp 4 ⟨46, [0, 1, 6, 7, 8], [.val (.sl (.int .u32)), .val (.int .u32), .row (.int .u32), .val (.int .u64), .val (.int .i64)], [], []⟩ [.exit 0] n_nat_quoLimb_s4] [] [] h tiAll bkNil Tryz.func257 (by kernel_rfl) (fun _ => (lsLp (fun x => by kernel_rfl) lsNil)) (fun x => by kernel_rfl))
def n_nat_trim_v_C : Callee := ⟨[.row (.int .u32)], [.view 0], fun x => n_nat_trim_v x.1⟩
theorem n_nat_trim_v_sd {V : Env} (h0 : Fs Tryz.prog V l0) : Good V 203 n_nat_trim_v_C :=
  have h := g15 h0
  gd [.lp 2 ⟨21, [0, 3], [.row (.int .u32), .val (.int .i64)], [0], []⟩ [.exit 0] n_nat_trim_v_s2] [] [] h tiAll bkNil Tryz.func203 (by kernel_rfl) (fun _ => (lsLp (fun x => by kernel_rfl) lsNil)) (fun x => by kernel_rfl)
def n_nat_mul_r_C : Callee := ⟨[.val (.sl (.int .u32)), .val (.sl (.int .u32))], [.own (.int .u32)], fun x => n_nat_mul_r x.1 x.2.1⟩
theorem n_nat_mul_r_sd {V : Env} (h0 : Fs Tryz.prog V l0) : Good V 147 n_nat_mul_r_C :=
  have h := g15 h0
  gd [.lp 7 ⟨69, [1, 5, 6, 7, 8, 18, 19, 20, 25, 26, 27], [.val (.sl (.int .u32)), .row (.int .u32), .val (.int .i64), .val (.int .u32), .val (.int .u64), .val (.sl (.int .u32)), .val (.int .i64), .val (.int .i64), .val (.sl (.int .u32)), .val (.int .i64), .val (.int .i64)], [], []⟩ [.exit 2] n_nat_mul_r_s7, .lp 3 ⟨69, [1, 5, 18, 19, 20], [.val (.sl (.int .u32)), .row (.int .u32), .val (.sl (.int .u32)), .val (.int .i64), .val (.int .i64)], [], []⟩ [.exit 0] n_nat_mul_r_s3] [] [] (Fs.cons (s := none) h (n_nat_trim_v_sd h0)) tiAll bkNil Tryz.func147 (by kernel_rfl) (fun _ => (lsLp (fun x => by kernel_rfl) (lsLp (fun x => by kernel_rfl) lsNil))) (fun x => by kernel_rfl)
def n_subtract_C : Callee := ⟨[.row (.int .u32), .val (.sl (.int .u32)), .val (.int .u64)], [.val .bool], fun x => n_subtract x.1 x.2.1 x.2.2.1⟩
def l16 : FL := (306, none, n_subtract_C) :: l15
theorem g16 {V : Env} (h0 : Fs Tryz.prog V l0) : Fs Tryz.prog V l16 :=
  have h := g15 h0
  h.cons (gd [.lp 3 ⟨54, [0, 1, 2, 7, 8, 12, 13], [.row (.int .u32), .val (.sl (.int .u32)), .val (.int .u64), .val (.int .u64), .val (.int .i64), .val (.int .i64), .val (.int .i64)], [0], []⟩ [.exit 0] n_subtract_s3] [] [] h tiAll bkNil Tryz.func306 (by kernel_rfl) (fun _ => (lsLp (fun x => by kernel_rfl) lsNil)) (fun x => by kernel_rfl))
def n_nat_at_C : Callee := ⟨[.val (.sl (.int .u32)), .val (.int .i64)], [.val (.int .u32)], fun x => n_nat_at x.1 x.2.1⟩
def l17 : FL := (252, none, n_nat_at_C) :: l16
theorem g17 {V : Env} (h0 : Fs Tryz.prog V l0) : Fs Tryz.prog V l17 :=
  have h := g16 h0
  h.cons (gd [] [] [] h tiAll bkNil Tryz.func252 (by kernel_rfl) (fun _ => lsNil) (fun x => by kernel_rfl))
def n_restore_C : Callee := ⟨[.row (.int .u32), .val (.sl (.int .u32))], [], fun x => n_restore x.1 x.2.1⟩
def l18 : FL := (307, none, n_restore_C) :: l17
theorem g18 {V : Env} (h0 : Fs Tryz.prog V l0) : Fs Tryz.prog V l18 :=
  have h := g17 h0
  h.cons (gd [.lp 2 ⟨30, [0, 1, 4, 8, 9], [.row (.int .u32), .val (.sl (.int .u32)), .val (.int .u32), .val (.int .i64), .val (.int .i64)], [0], []⟩ [.exit 0] n_restore_s2] [] [] h tiAll bkNil Tryz.func307 (by kernel_rfl) (fun _ => (lsLp (fun x => by kernel_rfl) lsNil)) (fun x => by kernel_rfl))
def n_reduce_C : Callee := ⟨[.row (.int .u32), .val (.sl (.int .u32))], [.val (.int .u32)], fun x => n_reduce x.1 x.2.1⟩
def l19 : FL := (258, none, n_reduce_C) :: l18
theorem g19 {V : Env} (h0 : Fs Tryz.prog V l0) : Fs Tryz.prog V l19 :=
  have h := g18 h0
  h.cons (gd [.lp 4 ⟨77, [0, 1, 5, 7, 8, 9], [.row (.int .u32), .val (.sl (.int .u32)), .val (.int .i64), .val (.int .u64), .val (.int .u64), .val (.int .u64)], [0], []⟩ [.exit 0] n_reduce_s4] [] [] h tiAll bkNil Tryz.func258 (by kernel_rfl) (fun _ => (lsLp (fun x => by kernel_rfl) lsNil)) (fun x => by kernel_rfl))
def n_nat_quoRem_C : Callee := ⟨[.val (.sl (.int .u32)), .val (.sl (.int .u32))], [.val (.sl (.int .u32)), .val (.sl (.int .u32))], fun x => n_nat_quoRem x.1 x.2.1⟩
def l20 : FL := (202, none, n_nat_quoRem_C) :: l19
theorem g20 {V : Env} (h0 : Fs Tryz.prog V l0) : Fs Tryz.prog V l20 :=
  have h := g19 h0
  h.cons (gd [.lp 7 ⟨93, [0, 6, 7, 8], [.val (.sl (.int .u32)), .val (.sl (.int .u32)), .row (.int .u32), .row (.int .u32)], [], []⟩ [.exit 1] n_nat_quoRem_s7, .lp 11 ⟨93, [6, 7, 8, 9, 10], [.val (.sl (.int .u32)), .row (.int .u32), .row (.int .u32), .row (.int .u32), .val (.int .i64)], [], [7]⟩ [.exit 3] n_nat_quoRem_s11] [] [] (Fs.cons (s := none) h (n_nat_mul_r_sd h0)) tiAll bkNil Tryz.func202 (by kernel_rfl) (fun _ => (lsLp (fun x => by kernel_rfl) (lsLp (fun x => by kernel_rfl) lsNil))) (fun x => by kernel_rfl))
def n_gcd_C : Callee := ⟨[.val (.sl (.int .u32)), .val (.sl (.int .u32))], [.val (.sl (.int .u32))], fun x => n_gcd x.1 x.2.1⟩
def l21 : FL := (164, none, n_gcd_C) :: l20
theorem g21 {V : Env} (h0 : Fs Tryz.prog V l0) : Fs Tryz.prog V l21 :=
  have h := g20 h0
  h.cons (gd [.lp 1 ⟨19, [0, 1], [.val (.sl (.int .u32)), .val (.sl (.int .u32))], [], []⟩ [.exit 0] n_gcd_s1] [] [] h tiAll bkNil Tryz.func164 (by kernel_rfl) (fun _ => (lsLp (fun x => by kernel_rfl) lsNil)) (fun x => by kernel_rfl))
def n_nat_one_C : Callee := ⟨[.val (.sl (.int .u32))], [.val .bool], fun x => n_nat_one x.1⟩
def l22 : FL := (149, none, n_nat_one_C) :: l21
theorem g22 {V : Env} (h0 : Fs Tryz.prog V l0) : Fs Tryz.prog V l22 :=
  have h := g21 h0
  h.cons (gd [] [] [] h tiAll bkNil Tryz.func149 (by kernel_rfl) (fun _ => lsNil) (fun x => by kernel_rfl))
def n_read_C : Callee := ⟨[.val .str], [.val gRt, .val .bool], fun x => n_read x.1⟩
def l23 : FL := (112, none, n_read_C) :: l22
theorem g23 {V : Env} (h0 : Fs Tryz.prog V l0) : Fs Tryz.prog V l23 :=
  have h := g22 h0
  h.cons (gd [] [] [] h tiAll bkNil Tryz.func112 (by kernel_rfl) (fun _ => lsNil) (fun x => by kernel_rfl))
def n_Valid_C : Callee := ⟨[.val .str], [.val .bool], fun x => n_Valid x.1⟩
def l24 : FL := (64, none, n_Valid_C) :: l23
theorem g24 {V : Env} (h0 : Fs Tryz.prog V l0) : Fs Tryz.prog V l24 :=
  have h := g23 h0
  h.cons (gd [] [] [] h tiAll bkNil Tryz.func64 (by kernel_rfl) (fun _ => lsNil) (fun x => by kernel_rfl))
def n_Sign_C : Callee := ⟨[.val .str], [.val (.int .i64)], fun x => n_Sign x.1⟩
def l25 : FL := (104, none, n_Sign_C) :: l24
theorem g25 {V : Env} (h0 : Fs Tryz.prog V l0) : Fs Tryz.prog V l25 :=
  have h := g24 h0
  h.cons (gd [] [] [] h tiAll bkNil Tryz.func104 (by kernel_rfl) (fun _ => lsNil) (fun x => by kernel_rfl))
def n_Neg_C : Callee := ⟨[.val .str], [.val .str], fun x => n_Neg x.1⟩
def l26 : FL := (151, none, n_Neg_C) :: l25
theorem g26 {V : Env} (h0 : Fs Tryz.prog V l0) : Fs Tryz.prog V l26 :=
  have h := g25 h0
  h.cons (gd [] [] [] h tiAll bkNil Tryz.func151 (by kernel_rfl) (fun _ => lsNil) (fun x => by kernel_rfl))
def n_fraction_C : Callee := ⟨[.val (.int .i64), .val (.int .i64)], [.val .str], fun x => n_fraction x.1 x.2.1⟩
def l27 : FL := (99, none, n_fraction_C) :: l26
theorem g27 {V : Env} (h0 : Fs Tryz.prog V l0) : Fs Tryz.prog V l27 :=
  have h := g26 h0
  h.cons (gd [] [] [] h tiAll bkNil Tryz.func99 (by kernel_rfl) (fun _ => lsNil) (fun x => by kernel_rfl))
def n_Add_1_C : Callee := ⟨[.val gSml, .val gSml], [.val .str], fun x => n_Add_1 x.1 x.2.1⟩
def l28 : FL := (141, none, n_Add_1_C) :: l27
theorem g28 {V : Env} (h0 : Fs Tryz.prog V l0) : Fs Tryz.prog V l28 :=
  have h := g27 h0
  h.cons (gd [] [] [] h tiAll bkNil Tryz.func141 (by kernel_rfl) (fun _ => lsNil) (fun x => by kernel_rfl))
def n_nat_mul_C : Callee := ⟨[.val (.sl (.int .u32)), .val (.sl (.int .u32))], [.val (.sl (.int .u32))], fun x => n_nat_mul x.1 x.2.1⟩
def l29 : FL := (147, none, n_nat_mul_C) :: l28
theorem g29 {V : Env} (h0 : Fs Tryz.prog V l0) : Fs Tryz.prog V l29 :=
  have h := g28 h0
  h.cons (gd [.lp 7 ⟨69, [1, 5, 6, 7, 8, 18, 19, 20, 25, 26, 27], [.val (.sl (.int .u32)), .row (.int .u32), .val (.int .i64), .val (.int .u32), .val (.int .u64), .val (.sl (.int .u32)), .val (.int .i64), .val (.int .i64), .val (.sl (.int .u32)), .val (.int .i64), .val (.int .i64)], [], []⟩ [.exit 2] n_nat_mul_s7, .lp 3 ⟨69, [1, 5, 18, 19, 20], [.val (.sl (.int .u32)), .row (.int .u32), .val (.sl (.int .u32)), .val (.int .i64), .val (.int .i64)], [], []⟩ [.exit 0] n_nat_mul_s3] [] [] h tiAll bkNil Tryz.func147 (by kernel_rfl) (fun _ => (lsLp (fun x => by kernel_rfl) (lsLp (fun x => by kernel_rfl) lsNil))) (fun x => by kernel_rfl))
def n_nat_add_C : Callee := ⟨[.val (.sl (.int .u32)), .val (.sl (.int .u32))], [.val (.sl (.int .u32))], fun x => n_nat_add x.1 x.2.1⟩
def l30 : FL := (198, none, n_nat_add_C) :: l29
theorem g30 {V : Env} (h0 : Fs Tryz.prog V l0) : Fs Tryz.prog V l30 :=
  have h := g29 h0
  h.cons (gd [.lp 4 ⟨46, [0, 1, 5, 6, 20, 21], [.val (.sl (.int .u32)), .val (.sl (.int .u32)), .row (.int .u32), .val (.int .u32), .val (.int .i64), .val (.int .i64)], [], []⟩ [.exit 0] n_nat_add_s4] [] [] h tiAll bkNil Tryz.func198 (by kernel_rfl) (fun _ => (lsLp (fun x => by kernel_rfl) lsNil)) (fun x => by kernel_rfl))
def n_lowest_C : Callee := ⟨[.val .bool, .val (.sl (.int .u32)), .val (.sl (.int .u32))], [.val gRt], fun x => n_lowest x.1 x.2.1 x.2.2.1⟩
def l31 : FL := (146, none, n_lowest_C) :: l30
theorem g31 {V : Env} (h0 : Fs Tryz.prog V l0) : Fs Tryz.prog V l31 :=
  have h := g30 h0
  h.cons (gd [] [] [] h tiAll bkNil Tryz.func146 (by kernel_rfl) (fun _ => lsNil) (fun x => by kernel_rfl))
def n_nat_sub_C : Callee := ⟨[.val (.sl (.int .u32)), .val (.sl (.int .u32))], [.val (.sl (.int .u32))], fun x => n_nat_sub x.1 x.2.1⟩
def l32 : FL := (200, none, n_nat_sub_C) :: l31
theorem g32 {V : Env} (h0 : Fs Tryz.prog V l0) : Fs Tryz.prog V l32 :=
  have h := g31 h0
  h.cons (gd [.lp 4 ⟨41, [0, 1, 5, 6, 13, 14], [.val (.sl (.int .u32)), .val (.sl (.int .u32)), .row (.int .u32), .val (.int .i64), .val (.int .i64), .val (.int .i64)], [], []⟩ [.exit 0] n_nat_sub_s4] [] [] h tiAll bkNil Tryz.func200 (by kernel_rfl) (fun _ => (lsLp (fun x => by kernel_rfl) lsNil)) (fun x => by kernel_rfl))
def n_rat_add_C : Callee := ⟨[.val gRt, .val gRt], [.val gRt], fun x => n_rat_add x.1 x.2.1⟩
def l33 : FL := (143, none, n_rat_add_C) :: l32
theorem g33 {V : Env} (h0 : Fs Tryz.prog V l0) : Fs Tryz.prog V l33 :=
  have h := g32 h0
  h.cons (gd [] [] [] h tiAll bkNil Tryz.func143 (by kernel_rfl) (fun _ => lsNil) (fun x => by kernel_rfl))
def strings_Builder_WriteString_C : Callee := ⟨[.box (.pair .slf (.own (.int .u8))), .val .str], [.val (.int .i64), .val .err], fun x => strings_Builder_WriteString x.1 x.2.1⟩
def l34 : FL := (169, none, strings_Builder_WriteString_C) :: l33
theorem g34 {V : Env} (h0 : Fs Tryz.prog V l0) : Fs Tryz.prog V l34 :=
  have h := g33 h0
  h.cons (gd [] [] [] h tiAll bkNil Tryz.func169 (by kernel_rfl) (fun _ => lsNil) (fun x => by kernel_rfl))
def n_nat_text_s6_A : Ann := ⟨37, [3], [.box (.pair .slf (.own (.int .u8)))], [0], []⟩
def n_nat_text_C : Callee := ⟨[.val (.sl (.int .u32))], [.val .str], fun x => n_nat_text x.1⟩
def l35 : FL := (148, none, n_nat_text_C) :: l34
theorem g35 {V : Env} (h0 : Fs Tryz.prog V l0) : Fs Tryz.prog V l35 :=
  have h := g34 h0
  h.cons (gd [.raw 6 (rangeF n_nat_text_s6_A 260 .u32 (.tmp 24) (fun v i y => (n_nat_text_s6 v i y).bind fun o => some (n_nat_text_s6_M y o)) n_nat_text_s6_O)] [] [] h tiAll (bkCons backCall_205 bkNil) Tryz.func148 (by kernel_rfl) (fun hE => (lsRaw (rg_ok (A := n_nat_text_s6_A) (merge := n_nat_text_s6_M) (outs := n_nat_text_s6_O) (t1 := 25) (t2 := 26) (s := 26) (d := 5) (round := n_nat_text_s6) hE (h.prog ▸ backOK_260) (show pick 6 (allLoops (fb Tryz.f148)) = bb (sr (sl (sr (sr (sr (sr (fb Tryz.f148))))))) from by kernel_rfl) rfl rfl rfl (fun v i y => by kernel_rfl) (fun y o => by kernel_rfl) (fun y => by kernel_rfl) (fun y => by kernel_rfl) rfl (fun y => by kernel_rfl)) lsNil)) (fun x => by kernel_rfl))
def n_rat_text_C : Callee := ⟨[.val gRt], [.val .str], fun x => n_rat_text x.1⟩
def l36 : FL := (102, none, n_rat_text_C) :: l35
theorem g36 {V : Env} (h0 : Fs Tryz.prog V l0) : Fs Tryz.prog V l36 :=
  have h := g35 h0
  h.cons (gd [] [] [] h tiAll bkNil Tryz.func102 (by kernel_rfl) (fun _ => lsNil) (fun x => by kernel_rfl))
def n_Add_2_C : Callee := ⟨[.val gRt, .val gRt], [.val .str], fun x => n_Add_2 x.1 x.2.1⟩
def l37 : FL := (142, none, n_Add_2_C) :: l36
theorem g37 {V : Env} (h0 : Fs Tryz.prog V l0) : Fs Tryz.prog V l37 :=
  have h := g36 h0
  h.cons (gd [] [] [] h tiAll bkNil Tryz.func142 (by kernel_rfl) (fun _ => lsNil) (fun x => by kernel_rfl))
def n_two_n_Add_1_n_Add_2_C : Callee := ⟨[.val .str, .val .str, .val (.fnv 141 .unit), .val (.fnv 142 .unit)], [.val .str], fun x => n_two_n_Add_1_n_Add_2 x.1 x.2.1 x.2.2.1 x.2.2.2.1⟩
def l38 : FL := (97, some 141, n_two_n_Add_1_n_Add_2_C) :: l37
theorem g38 {V : Env} (h0 : Fs Tryz.prog V l0) : Fs Tryz.prog V l38 :=
  have h := g37 h0
  h.cons (gd [] [] [] h tiAll bkNil Tryz.func97 (by kernel_rfl) (fun _ => lsNil) (fun x => by kernel_rfl))
def n_Add_C : Callee := ⟨[.val .str, .val .str], [.val .str], fun x => n_Add x.1 x.2.1⟩
def l39 : FL := (96, none, n_Add_C) :: l38
theorem g39 {V : Env} (h0 : Fs Tryz.prog V l0) : Fs Tryz.prog V l39 :=
  have h := g38 h0
  h.cons (gd [] [] [] h tiAll bkNil Tryz.func96 (by kernel_rfl) (fun _ => lsNil) (fun x => by kernel_rfl))
def n_Sub_C : Callee := ⟨[.val .str, .val .str], [.val .str], fun x => n_Sub x.1 x.2.1⟩
def l40 : FL := (105, none, n_Sub_C) :: l39
theorem g40 {V : Env} (h0 : Fs Tryz.prog V l0) : Fs Tryz.prog V l40 :=
  have h := g39 h0
  h.cons (gd [] [] [] h tiAll bkNil Tryz.func105 (by kernel_rfl) (fun _ => lsNil) (fun x => by kernel_rfl))
def n_Cmp_C : Callee := ⟨[.val .str, .val .str], [.val (.int .i64)], fun x => n_Cmp x.1 x.2.1⟩
def l41 : FL := (55, none, n_Cmp_C) :: l40
theorem g41 {V : Env} (h0 : Fs Tryz.prog V l0) : Fs Tryz.prog V l41 :=
  have h := g40 h0
  h.cons (gd [] [] [] h tiAll bkNil Tryz.func55 (by kernel_rfl) (fun _ => lsNil) (fun x => by kernel_rfl))
def v_elements_C : Callee := ⟨[.val gVal], [.val .bool], fun x => v_elements x.1⟩
def l42 : FL := (65, none, v_elements_C) :: l41
theorem g42 {V : Env} (h0 : Fs Tryz.prog V l0) : Fs Tryz.prog V l42 :=
  have h := g41 h0
  h.cons (gd [.lp 4 ⟨58, [1, 2, 13, 14, 15], [.box (.dat gVal), .val .bool, .val (.sl .str), .val (.int .i64), .val (.int .i64)], [], []⟩ [.exit 0, .ret] v_elements_s4] [] [] h tiAll bkNil Tryz.func65 (by kernel_rfl) (fun _ => (lsLp (fun x => by kernel_rfl) lsNil)) (fun x => by kernel_rfl))
def v_Valid_C : Callee := ⟨[.val gVal], [.val .bool], fun x => v_Valid x.1⟩
def l43 : FL := (21, none, v_Valid_C) :: l42
theorem g43 {V : Env} (h0 : Fs Tryz.prog V l0) : Fs Tryz.prog V l43 :=
  have h := g42 h0
  h.cons (gd [] [] [] h tiAll bkNil Tryz.func21 (by kernel_rfl) (fun _ => lsNil) (fun x => by kernel_rfl))
def v_array_C : Callee := ⟨[.val gVal], [.val .bool], fun x => v_array x.1⟩
def l44 : FL := (88, none, v_array_C) :: l43
theorem g44 {V : Env} (h0 : Fs Tryz.prog V l0) : Fs Tryz.prog V l44 :=
  have h := g43 h0
  h.cons (gd [] [] [] h tiAll bkNil Tryz.func88 (by kernel_rfl) (fun _ => lsNil) (fun x => by kernel_rfl))
def v_clone_C : Callee := ⟨[.val gVal], [.obj (.pair (.dat (.int .i64)) (.pair (.dat .bool) (.pair (.dat .str) (.pair (.own .str) (.own .str)))))], fun x => v_clone x.1⟩
def l45 : FL := (94, none, v_clone_C) :: l44
theorem g45 {V : Env} (h0 : Fs Tryz.prog V l0) : Fs Tryz.prog V l45 :=
  have h := g44 h0
  h.cons (gd [] [] [(1, [1], [4, 8, 100009, 100010])] h tiAll bkNil Tryz.func94 (by kernel_rfl) (fun _ => lsNil) (fun x => by kernel_rfl))
def slices_BinarySearchFunc_string_string_string_n_Cmp_C : Callee := ⟨[.val (.sl .str), .val .str, .val (.fnv 55 .unit)], [.val (.int .i64), .val .bool], fun x => slices_BinarySearchFunc_string_string_string_n_Cmp x.1 x.2.1 x.2.2.1⟩
def l46 : FL := (180, some 55, slices_BinarySearchFunc_string_string_string_n_Cmp_C) :: l45
theorem g46 {V : Env} (h0 : Fs Tryz.prog V l0) : Fs Tryz.prog V l46 :=
  have h := g45 h0
  h.cons (gd [.lp 3 ⟨49, [0, 1, 2, 8, 9, 10], [.val (.sl .str), .val .str, .val (.fnv 55 .unit), .val (.int .i64), .val (.int .i64), .val (.int .i64)], [], []⟩ [.exit 0] slices_BinarySearchFunc_string_string_string_n_Cmp_s3] [] [] h tiAll bkNil Tryz.func180 (by kernel_rfl) (fun _ => (lsLp (fun x => by kernel_rfl) lsNil)) (fun x => by kernel_rfl))
def v_place_C : Callee := ⟨[.val gVal, .val .str], [.val (.int .i64), .val .bool], fun x => v_place x.1 x.2.1⟩
def l47 : FL := (128, none, v_place_C) :: l46
theorem g47 {V : Env} (h0 : Fs Tryz.prog V l0) : Fs Tryz.prog V l47 :=
  have h := g46 h0
  h.cons (gd [] [] [] h tiAll bkNil Tryz.func128 (by kernel_rfl) (fun _ => lsNil) (fun x => by kernel_rfl))
def v_store_C : Callee := ⟨[.val gVal, .val .str, .val .str], [.val gVal], fun x => v_store x.1 x.2.1 x.2.2.1⟩
def l48 : FL := (89, none, v_store_C) :: l47
theorem g48 {V : Env} (h0 : Fs Tryz.prog V l0) : Fs Tryz.prog V l48 :=
  have h := g47 h0
  h.cons (gd [] [] [(4, [3], [26, 36, 100037, 100038]), (8, [3], [52, 55, 62, 100063, 100064])] h tiAll bkNil Tryz.func89 (by kernel_rfl) (fun _ => lsNil) (fun x => by kernel_rfl))
def v_Store_C : Callee := ⟨[.val gVal, .val .str, .val .str], [.val gVal, .val (.int .i64)], fun x => v_Store x.1 x.2.1 x.2.2.1⟩
def l49 : FL := (44, none, v_Store_C) :: l48
theorem g49 {V : Env} (h0 : Fs Tryz.prog V l0) : Fs Tryz.prog V l49 :=
  have h := g48 h0
  h.cons (gd [] [] [] h tiAll bkNil Tryz.func44 (by kernel_rfl) (fun _ => lsNil) (fun x => by kernel_rfl))
def r_Num1_C : Callee := ⟨[.val (.int .i64), .val .str], [.val (.sl gNod)], fun x => r_Num1 x.1 x.2.1⟩
def l50 : FL := (37, none, r_Num1_C) :: l49
theorem g50 {V : Env} (h0 : Fs Tryz.prog V l0) : Fs Tryz.prog V l50 :=
  have h := g49 h0
  h.cons (gd [] [] [] h tiAll bkNil Tryz.func37 (by kernel_rfl) (fun _ => lsNil) (fun x => by kernel_rfl))
def r_Join_C : Callee := ⟨[.val gNod, .val (.sl (.sl gNod))], [.val (.sl gNod)], fun x => r_Join x.1 x.2.1⟩
def l51 : FL := (36, none, r_Join_C) :: l50
theorem g51 {V : Env} (h0 : Fs Tryz.prog V l0) : Fs Tryz.prog V l51 :=
  have h := g50 h0
  h.cons (gd [.lp 4 ⟨25, [1, 5, 6], [.val (.sl (.sl gNod)), .row gNod, .val (.int .i64)], [], []⟩ [.exit 0] r_Join_s4] [11] [] h tiAll bkNil Tryz.func36 (by kernel_rfl) (fun _ => (lsLp (fun x => by kernel_rfl) lsNil)) (fun x => by kernel_rfl))
def v_bindings_C : Callee := ⟨[.val (.sl gBind)], [.val (.map gVal), .val .bool], fun x => v_bindings x.1⟩
def l52 : FL := (91, none, v_bindings_C) :: l51
theorem g52 {V : Env} (h0 : Fs Tryz.prog V l0) : Fs Tryz.prog V l52 :=
  have h := g51 h0
  h.cons (gd [.lp 3 ⟨36, [2, 3, 4, 10, 11, 12], [.val (.map gVal), .val .bool, .mp gVal, .val (.sl gBind), .val (.int .i64), .val (.int .i64)], [], []⟩ [.exit 0, .ret] v_bindings_s3] [] [] h tiAll bkNil Tryz.func91 (by kernel_rfl) (fun _ => (lsLp (fun x => by kernel_rfl) lsNil)) (fun x => by kernel_rfl))
def v_allValid_1_C : Callee := ⟨[.val gVal], [.val .bool], fun x => v_allValid_1 x.1⟩
def l53 : FL := (184, none, v_allValid_1_C) :: l52
theorem g53 {V : Env} (h0 : Fs Tryz.prog V l0) : Fs Tryz.prog V l53 :=
  have h := g52 h0
  h.cons (gd [] [] [] h tiAll bkNil Tryz.func184 (by kernel_rfl) (fun _ => lsNil) (fun x => by kernel_rfl))
def slices_IndexFunc_Value_Value_v_allValid_1_C : Callee := ⟨[.val (.sl gVal), .val (.fnv 184 .unit)], [.val (.int .i64)], fun x => slices_IndexFunc_Value_Value_v_allValid_1 x.1 x.2.1⟩
def l54 : FL := (242, some 184, slices_IndexFunc_Value_Value_v_allValid_1_C) :: l53
theorem g54 {V : Env} (h0 : Fs Tryz.prog V l0) : Fs Tryz.prog V l54 :=
  have h := g53 h0
  h.cons (gd [.lp 2 ⟨19, [0, 1, 4, 7, 8], [.val (.sl gVal), .val (.fnv 184 .unit), .val (.int .i64), .val (.int .i64), .val (.int .i64)], [], []⟩ [.exit 0, .ret] slices_IndexFunc_Value_Value_v_allValid_1_s2] [] [] h tiAll bkNil Tryz.func242 (by kernel_rfl) (fun _ => (lsLp (fun x => by kernel_rfl) lsNil)) (fun x => by kernel_rfl))
def slices_ContainsFunc_Value_Value_v_allValid_1_C : Callee := ⟨[.val (.sl gVal), .val (.fnv 184 .unit)], [.val .bool], fun x => slices_ContainsFunc_Value_Value_v_allValid_1 x.1 x.2.1⟩
def l55 : FL := (183, some 184, slices_ContainsFunc_Value_Value_v_allValid_1_C) :: l54
theorem g55 {V : Env} (h0 : Fs Tryz.prog V l0) : Fs Tryz.prog V l55 :=
  have h := g54 h0
  h.cons (gd [] [] [] h tiAll bkNil Tryz.func183 (by kernel_rfl) (fun _ => lsNil) (fun x => by kernel_rfl))
def v_allValid_C : Callee := ⟨[.val (.sl gVal)], [.val .bool], fun x => v_allValid x.1⟩
def l56 : FL := (131, none, v_allValid_C) :: l55
theorem g56 {V : Env} (h0 : Fs Tryz.prog V l0) : Fs Tryz.prog V l56 :=
  have h := g55 h0
  h.cons (gd [] [] [] h tiAll bkNil Tryz.func131 (by kernel_rfl) (fun _ => lsNil) (fun x => by kernel_rfl))
def v_meanings_1_C : Callee := ⟨[.val (.sl gVal)], [.val .bool], fun x => v_meanings_1 x.1⟩
def l57 : FL := (133, none, v_meanings_1_C) :: l56
theorem g57 {V : Env} (h0 : Fs Tryz.prog V l0) : Fs Tryz.prog V l57 :=
  have h := g56 h0
  h.cons (gd [] [] [] h tiAll bkNil Tryz.func133 (by kernel_rfl) (fun _ => lsNil) (fun x => by kernel_rfl))
def slices_IndexFunc_Value_Value_v_meanings_1_C : Callee := ⟨[.val (.sl (.sl gVal)), .val (.fnv 133 .unit)], [.val (.int .i64)], fun x => slices_IndexFunc_Value_Value_v_meanings_1 x.1 x.2.1⟩
def l58 : FL := (185, some 133, slices_IndexFunc_Value_Value_v_meanings_1_C) :: l57
theorem g58 {V : Env} (h0 : Fs Tryz.prog V l0) : Fs Tryz.prog V l58 :=
  have h := g57 h0
  h.cons (gd [.lp 2 ⟨19, [0, 1, 4, 7, 8], [.val (.sl (.sl gVal)), .val (.fnv 133 .unit), .val (.int .i64), .val (.int .i64), .val (.int .i64)], [], []⟩ [.exit 0, .ret] slices_IndexFunc_Value_Value_v_meanings_1_s2] [] [] h tiAll bkNil Tryz.func185 (by kernel_rfl) (fun _ => (lsLp (fun x => by kernel_rfl) lsNil)) (fun x => by kernel_rfl))
def slices_ContainsFunc_Value_Value_v_meanings_1_C : Callee := ⟨[.val (.sl (.sl gVal)), .val (.fnv 133 .unit)], [.val .bool], fun x => slices_ContainsFunc_Value_Value_v_meanings_1 x.1 x.2.1⟩
def l59 : FL := (132, some 133, slices_ContainsFunc_Value_Value_v_meanings_1_C) :: l58
theorem g59 {V : Env} (h0 : Fs Tryz.prog V l0) : Fs Tryz.prog V l59 :=
  have h := g58 h0
  h.cons (gd [] [] [] h tiAll bkNil Tryz.func132 (by kernel_rfl) (fun _ => lsNil) (fun x => by kernel_rfl))
def v_meanings_C : Callee := ⟨[.val (.sl gInterp)], [.val (.map gInterp), .val .bool], fun x => v_meanings x.1⟩
def l60 : FL := (92, none, v_meanings_C) :: l59
theorem g60 {V : Env} (h0 : Fs Tryz.prog V l0) : Fs Tryz.prog V l60 :=
  have h := g59 h0
  h.cons (gd [.lp 3 ⟨53, [2, 3, 4, 10, 11, 12], [.val (.map gInterp), .val .bool, .mp gInterp, .val (.sl gInterp), .val (.int .i64), .val (.int .i64)], [], []⟩ [.exit 0, .ret] v_meanings_s3] [] [] h tiAll bkNil Tryz.func92 (by kernel_rfl) (fun _ => (lsLp (fun x => by kernel_rfl) lsNil)) (fun x => by kernel_rfl))
def t_numbered_C : Callee := ⟨[.val (.int .i64), .val .str], [.val .bool], fun x => t_numbered x.1 x.2.1⟩
def l61 : FL := (244, none, t_numbered_C) :: l60
theorem g61 {V : Env} (h0 : Fs Tryz.prog V l0) : Fs Tryz.prog V l61 :=
  have h := g60 h0
  h.cons (gd [] [] [] h tiAll bkNil Tryz.func244 (by kernel_rfl) (fun _ => lsNil) (fun x => by kernel_rfl))
def t_isSort_C : Callee := ⟨[.val (.int .i64)], [.val .bool], fun x => t_isSort x.1⟩
def l62 : FL := (245, none, t_isSort_C) :: l61
theorem g62 {V : Env} (h0 : Fs Tryz.prog V l0) : Fs Tryz.prog V l62 :=
  have h := g61 h0
  h.cons (gd [] [] [] h tiAll bkNil Tryz.func245 (by kernel_rfl) (fun _ => lsNil) (fun x => by kernel_rfl))
def t_letter_C : Callee := ⟨[.val (.int .u8)], [.val .bool], fun x => t_letter x.1⟩
def l63 : FL := (297, none, t_letter_C) :: l62
theorem g63 {V : Env} (h0 : Fs Tryz.prog V l0) : Fs Tryz.prog V l63 :=
  have h := g62 h0
  h.cons (gd [] [] [] h tiAll bkNil Tryz.func297 (by kernel_rfl) (fun _ => lsNil) (fun x => by kernel_rfl))
def t_word_C : Callee := ⟨[.val .str], [.val .bool], fun x => t_word x.1⟩
def l64 : FL := (298, none, t_word_C) :: l63
theorem g64 {V : Env} (h0 : Fs Tryz.prog V l0) : Fs Tryz.prog V l64 :=
  have h := g63 h0
  h.cons (gd [] [] [] h tiAll bkNil Tryz.func298 (by kernel_rfl) (fun _ => lsNil) (fun x => by kernel_rfl))
def t_IsName_C : Callee := ⟨[.val .str], [.val .bool], fun x => t_IsName x.1⟩
def l65 : FL := (246, none, t_IsName_C) :: l64
theorem g65 {V : Env} (h0 : Fs Tryz.prog V l0) : Fs Tryz.prog V l65 :=
  have h := g64 h0
  h.cons (gd [.lp 4 ⟨51, [0, 2, 23, 24], [.val .str, .val .bool, .val (.int .i64), .val (.int .i64)], [], []⟩ [.exit 0, .ret] t_IsName_s4] [] [] h tiAll bkNil Tryz.func246 (by kernel_rfl) (fun _ => (lsLp (fun x => by kernel_rfl) lsNil)) (fun x => by kernel_rfl))
def t_fields_C : Callee := ⟨[.val gNod], [.val .bool], fun x => t_fields x.1⟩
def l66 : FL := (192, none, t_fields_C) :: l65
theorem g66 {V : Env} (h0 : Fs Tryz.prog V l0) : Fs Tryz.prog V l66 :=
  have h := g65 h0
  h.cons (gd [] [] [] h tiAll bkNil Tryz.func192 (by kernel_rfl) (fun _ => lsNil) (fun x => by kernel_rfl))
def t_count_C : Callee := ⟨[.val (.int .i64), .val (.int .i64)], [.val .bool], fun x => t_count x.1 x.2.1⟩
def l67 : FL := (193, none, t_count_C) :: l66
theorem g67 {V : Env} (h0 : Fs Tryz.prog V l0) : Fs Tryz.prog V l67 :=
  have h := g66 h0
  h.cons (gd [] [] [] h tiAll bkNil Tryz.func193 (by kernel_rfl) (fun _ => lsNil) (fun x => by kernel_rfl))
def t_all_1_C : Callee := ⟨[.val (.int .i64), .val (.ptr (.int .i64))], [.val .bool], fun x => t_all_1 x.1 x.2.1⟩
def l68 : FL := (300, none, t_all_1_C) :: l67
theorem g68 {V : Env} (h0 : Fs Tryz.prog V l0) : Fs Tryz.prog V l68 :=
  have h := g67 h0
  h.cons (gd [] [] [] h tiAll bkNil Tryz.func300 (by kernel_rfl) (fun _ => lsNil) (fun x => by kernel_rfl))
def slices_IndexFunc_int_int_t_all_1_C : Callee := ⟨[.val (.sl (.int .i64)), .val (.fnv 300 (.ptr (.int .i64)))], [.val (.int .i64)], fun x => slices_IndexFunc_int_int_t_all_1 x.1 x.2.1⟩
def l69 : FL := (337, some 300, slices_IndexFunc_int_int_t_all_1_C) :: l68
theorem g69 {V : Env} (h0 : Fs Tryz.prog V l0) : Fs Tryz.prog V l69 :=
  have h := g68 h0
  h.cons (gd [.lp 2 ⟨19, [0, 1, 4, 7, 8], [.val (.sl (.int .i64)), .val (.fnv 300 (.ptr (.int .i64))), .val (.int .i64), .val (.int .i64), .val (.int .i64)], [], []⟩ [.exit 0, .ret] slices_IndexFunc_int_int_t_all_1_s2] [] [] h tiAll bkNil Tryz.func337 (by kernel_rfl) (fun _ => (lsLp (fun x => by kernel_rfl) lsNil)) (fun x => by kernel_rfl))
def slices_ContainsFunc_int_int_t_all_1_C : Callee := ⟨[.val (.sl (.int .i64)), .val (.fnv 300 (.ptr (.int .i64)))], [.val .bool], fun x => slices_ContainsFunc_int_int_t_all_1 x.1 x.2.1⟩
def l70 : FL := (299, some 300, slices_ContainsFunc_int_int_t_all_1_C) :: l69
theorem g70 {V : Env} (h0 : Fs Tryz.prog V l0) : Fs Tryz.prog V l70 :=
  have h := g69 h0
  h.cons (gd [] [] [] h tiAll bkNil Tryz.func299 (by kernel_rfl) (fun _ => lsNil) (fun x => by kernel_rfl))
def t_all_C : Callee := ⟨[.val (.sl (.int .i64)), .val (.int .i64)], [.val .bool], fun x => t_all x.1 x.2.1⟩
def l71 : FL := (249, none, t_all_C) :: l70
theorem g71 {V : Env} (h0 : Fs Tryz.prog V l0) : Fs Tryz.prog V l71 :=
  have h := g70 h0
  h.cons (gd [] [] [] h tiAll bkNil Tryz.func249 (by kernel_rfl) (fun _ => lsNil) (fun x => by kernel_rfl))
def t_when_C : Callee := ⟨[.val .bool, .val (.int .i64)], [.val (.int .i64)], fun x => t_when x.1 x.2.1⟩
def l72 : FL := (248, none, t_when_C) :: l71
theorem g72 {V : Env} (h0 : Fs Tryz.prog V l0) : Fs Tryz.prog V l72 :=
  have h := g71 h0
  h.cons (gd [] [] [] h tiAll bkNil Tryz.func248 (by kernel_rfl) (fun _ => lsNil) (fun x => by kernel_rfl))
def t_numeric_C : Callee := ⟨[.val (.int .i64)], [.val .bool], fun x => t_numeric x.1⟩
def l73 : FL := (250, none, t_numeric_C) :: l72
theorem g73 {V : Env} (h0 : Fs Tryz.prog V l0) : Fs Tryz.prog V l73 :=
  have h := g72 h0
  h.cons (gd [] [] [] h tiAll bkNil Tryz.func250 (by kernel_rfl) (fun _ => lsNil) (fun x => by kernel_rfl))
def t_sortOf_C : Callee := ⟨[.val gNod, .val (.sl (.int .i64))], [.val (.int .i64)], fun x => t_sortOf x.1 x.2.1⟩
def l74 : FL := (195, none, t_sortOf_C) :: l73
theorem g74 {V : Env} (h0 : Fs Tryz.prog V l0) : Fs Tryz.prog V l74 :=
  have h := g73 h0
  h.cons (gd [] [] [] h tiAll bkNil Tryz.func195 (by kernel_rfl) (fun _ => lsNil) (fun x => by kernel_rfl))
def t_look_s13_A : Ann := ⟨142, [4, 9, 10], [.box (.box (.pair (.dat (.sl gNod)) (.own (.pair (.int .i64) gSml)))), .box (.dat (.pair (.int .i64) gSml)), .box (.own (.int .i64))], [0, 1, 2], []⟩
def t_look_C : Callee := ⟨[.val (.sl gNod)], [.val (.ptr gView), .val .bool], fun x => t_look x.1⟩
def l75 : FL := (138, none, t_look_C) :: l74
theorem g75 {V : Env} (h0 : Fs Tryz.prog V l0) : Fs Tryz.prog V l75 :=
  have h := g74 h0
  h.cons (gd [.raw 13 (rangeF t_look_s13_A 247 .i64 (.tmp 64) (fun v i y => (t_look_s13 v i y).bind fun o => some (t_look_s13_M y o)) t_look_s13_O), .lp 4 ⟨142, [0, 2, 3, 4, 5, 6], [.val (.sl gNod), .val (.ptr gView), .val .bool, .box (.box (.pair (.dat (.sl gNod)) (.own (.pair (.int .i64) gSml)))), .own (.int .i64), .val (.int .i64)], [], []⟩ [.exit 0, .ret] t_look_s4] [] [] h tiAll (bkCons backCall_194 bkNil) Tryz.func138 (by kernel_rfl) (fun hE => (lsRaw (rg_ok (A := t_look_s13_A) (merge := t_look_s13_M) (outs := t_look_s13_O) (t1 := 65) (t2 := 66) (s := 66) (d := 12) (round := t_look_s13) hE (h.prog ▸ backOK_247) (show pick 13 (allLoops (fb Tryz.f138)) = bb (sr (sl (sr (sr (sr (sr (sr (bb (sl (sr (lb (bb (sr (sl (sr (sr (sr (fb Tryz.f138)))))))))))))))))) from by kernel_rfl) rfl rfl rfl (fun v i y => by kernel_rfl) (fun y o => by kernel_rfl) (fun y => by kernel_rfl) (fun y => by kernel_rfl) rfl (fun y => by kernel_rfl)) (lsLp (fun x => by kernel_rfl) lsNil))) (fun x => by kernel_rfl))
def t_view_large_C : Callee := ⟨[.val (.ptr gView)], [.val .bool], fun x => t_view_large x.1⟩
def l76 : FL := (139, none, t_view_large_C) :: l75
theorem g76 {V : Env} (h0 : Fs Tryz.prog V l0) : Fs Tryz.prog V l76 :=
  have h := g75 h0
  h.cons (gd [] [] [] h tiAll bkNil Tryz.func139 (by kernel_rfl) (fun _ => lsNil) (fun x => by kernel_rfl))
def t_view_kids_C : Callee := ⟨[.val (.ptr gView), .val (.int .i64)], [.val (.sl (.int .i64))], fun x => t_view_kids x.1 x.2.1⟩
def l77 : FL := (172, none, t_view_kids_C) :: l76
theorem g77 {V : Env} (h0 : Fs Tryz.prog V l0) : Fs Tryz.prog V l77 :=
  have h := g76 h0
  h.cons (gd [.lp 4 ⟨33, [0, 5, 6, 16, 17], [.val (.ptr gView), .own (.int .i64), .val (.int .i64), .val (.int .i64), .val (.int .i64)], [], []⟩ [.exit 0] t_view_kids_s4] [] [] h tiAll bkNil Tryz.func172 (by kernel_rfl) (fun _ => (lsLp (fun x => by kernel_rfl) lsNil)) (fun x => by kernel_rfl))
def t_view_signature_C : Callee := ⟨[.val (.ptr gView), .val (.int .i64)], [.val (.pair .str gChoices)], fun x => t_view_signature x.1 x.2.1⟩
def l78 : FL := (196, none, t_view_signature_C) :: l77
theorem g78 {V : Env} (h0 : Fs Tryz.prog V l0) : Fs Tryz.prog V l78 :=
  have h := g77 h0
  h.cons (gd [.lp 3 ⟨48, [0, 4, 5, 27, 28, 29], [.val (.ptr gView), .box (.dat (.pair .str gChoices)), .box (.pair (.dat .str) (.pair (.own (.int .i64)) (.dat (.int .i64)))), .val (.sl (.int .i64)), .val (.int .i64), .val (.int .i64)], [], []⟩ [.exit 0] t_view_signature_s3] [] [(1, [0, 11, 19], [100005])] h tiAll bkNil Tryz.func196 (by kernel_rfl) (fun _ => (lsLp (fun x => by kernel_rfl) lsNil)) (fun x => by kernel_rfl))
def slices_Equal_int_int_C : Callee := ⟨[.val (.sl (.int .i64)), .val (.sl (.int .i64))], [.val .bool], fun x => slices_Equal_int_int x.1 x.2.1⟩
def l79 : FL := (251, none, slices_Equal_int_int_C) :: l78
theorem g79 {V : Env} (h0 : Fs Tryz.prog V l0) : Fs Tryz.prog V l79 :=
  have h := g78 h0
  h.cons (gd [.lp 4 ⟨26, [0, 1, 4, 12, 13], [.val (.sl (.int .i64)), .val (.sl (.int .i64)), .val .bool, .val (.int .i64), .val (.int .i64)], [], []⟩ [.exit 0, .ret] slices_Equal_int_int_s4] [] [] h tiAll bkNil Tryz.func251 (by kernel_rfl) (fun _ => (lsLp (fun x => by kernel_rfl) lsNil)) (fun x => by kernel_rfl))
def t_same_C : Callee := ⟨[.val (.pair .str gChoices), .val (.pair .str gChoices)], [.val .bool], fun x => t_same x.1 x.2.1⟩
def l80 : FL := (197, none, t_same_C) :: l79
theorem g80 {V : Env} (h0 : Fs Tryz.prog V l0) : Fs Tryz.prog V l80 :=
  have h := g79 h0
  h.cons (gd [] [] [] h tiAll bkNil Tryz.func197 (by kernel_rfl) (fun _ => lsNil) (fun x => by kernel_rfl))
def t_view_names_C : Callee := ⟨[.val (.ptr gView)], [.val (.sl gVr), .val (.sl (.pair .str gChoices)), .val .bool], fun x => t_view_names x.1⟩
def l81 : FL := (140, none, t_view_names_C) :: l80
theorem g81 {V : Env} (h0 : Fs Tryz.prog V l0) : Fs Tryz.prog V l81 :=
  have h := g80 h0
  h.cons (gd [.lp 5 ⟨113, [0, 2, 3, 4, 5, 6, 7, 8, 25, 26, 27], [.val (.ptr gView), .val (.sl gVr), .val (.sl (.pair .str gChoices)), .val .bool, .mp gVr, .mp (.pair .str gChoices), .own gVr, .own (.pair .str gChoices), .val (.sl gNod), .val (.int .i64), .val (.int .i64)], [], []⟩ [.exit 0, .ret] t_view_names_s5] [] [] h tiAll bkNil Tryz.func140 (by kernel_rfl) (fun _ => (lsLp (fun x => by kernel_rfl) lsNil)) (fun x => by kernel_rfl))
def t_known_C : Callee := ⟨[.val (.sl gNod)], [.val (.ptr gView), .val .bool], fun x => t_known x.1⟩
def l82 : FL := (95, none, t_known_C) :: l81
theorem g82 {V : Env} (h0 : Fs Tryz.prog V l0) : Fs Tryz.prog V l82 :=
  have h := g81 h0
  h.cons (gd [] [] [] h tiAll bkNil Tryz.func95 (by kernel_rfl) (fun _ => lsNil) (fun x => by kernel_rfl))
def t_Valid_C : Callee := ⟨[.val (.sl gNod)], [.val .bool], fun x => t_Valid x.1⟩
def l83 : FL := (59, none, t_Valid_C) :: l82
theorem g83 {V : Env} (h0 : Fs Tryz.prog V l0) : Fs Tryz.prog V l83 :=
  have h := g82 h0
  h.cons (gd [] [] [] h tiAll bkNil Tryz.func59 (by kernel_rfl) (fun _ => lsNil) (fun x => by kernel_rfl))
def v_evaluator_variable_C : Callee := ⟨[.box (.dat gEvl), .val gNod], [.val gVal, .val (.int .i64)], fun x => v_evaluator_variable x.1 x.2.1⟩
def l84 : FL := (134, none, v_evaluator_variable_C) :: l83
theorem g84 {V : Env} (h0 : Fs Tryz.prog V l0) : Fs Tryz.prog V l84 :=
  have h := g83 h0
  h.cons (gd [] [] [(1, [0, 3, 12], [100006])] h tiAll bkNil Tryz.func134 (by kernel_rfl) (fun _ => lsNil) (fun x => by kernel_rfl))
def slices_Equal_string_string_C : Callee := ⟨[.val (.sl .str), .val (.sl .str)], [.val .bool], fun x => slices_Equal_string_string x.1 x.2.1⟩
def l85 : FL := (72, none, slices_Equal_string_string_C) :: l84
theorem g85 {V : Env} (h0 : Fs Tryz.prog V l0) : Fs Tryz.prog V l85 :=
  have h := g84 h0
  h.cons (gd [.lp 4 ⟨26, [0, 1, 4, 12, 13], [.val (.sl .str), .val (.sl .str), .val .bool, .val (.int .i64), .val (.int .i64)], [], []⟩ [.exit 0, .ret] slices_Equal_string_string_s4] [] [] h tiAll bkNil Tryz.func72 (by kernel_rfl) (fun _ => (lsLp (fun x => by kernel_rfl) lsNil)) (fun x => by kernel_rfl))
def v_Equal_C : Callee := ⟨[.val gVal, .val gVal], [.val .bool], fun x => v_Equal x.1 x.2.1⟩
def l86 : FL := (26, none, v_Equal_C) :: l85
theorem g86 {V : Env} (h0 : Fs Tryz.prog V l0) : Fs Tryz.prog V l86 :=
  have h := g85 h0
  h.cons (gd [] [] [] h tiAll bkNil Tryz.func26 (by kernel_rfl) (fun _ => lsNil) (fun x => by kernel_rfl))
def slices_EqualFunc_Value_Value_Value_Value_v_Equal_C : Callee := ⟨[.val (.sl gVal), .val (.sl gVal), .val (.fnv 26 .unit)], [.val .bool], fun x => slices_EqualFunc_Value_Value_Value_Value_v_Equal x.1 x.2.1 x.2.2.1⟩
def l87 : FL := (187, some 26, slices_EqualFunc_Value_Value_Value_Value_v_Equal_C) :: l86
theorem g87 {V : Env} (h0 : Fs Tryz.prog V l0) : Fs Tryz.prog V l87 :=
  have h := g86 h0
  h.cons (gd [.lp 4 ⟨32, [1, 2, 6, 15, 16, 17], [.val (.sl gVal), .val (.fnv 26 .unit), .val .bool, .val (.sl gVal), .val (.int .i64), .val (.int .i64)], [], []⟩ [.exit 0, .ret] slices_EqualFunc_Value_Value_Value_Value_v_Equal_s4] [] [] h tiAll bkNil Tryz.func187 (by kernel_rfl) (fun _ => (lsLp (fun x => by kernel_rfl) lsNil)) (fun x => by kernel_rfl))
def v_evaluator_call_1_C : Callee := ⟨[.val (.sl gVal), .val (.ptr (.sl gVal))], [.val .bool], fun x => v_evaluator_call_1 x.1 x.2.1⟩
def l88 : FL := (186, none, v_evaluator_call_1_C) :: l87
theorem g88 {V : Env} (h0 : Fs Tryz.prog V l0) : Fs Tryz.prog V l88 :=
  have h := g87 h0
  h.cons (gd [] [] [] h tiAll bkNil Tryz.func186 (by kernel_rfl) (fun _ => lsNil) (fun x => by kernel_rfl))
def slices_IndexFunc_Value_Value_v_evaluator_call_1_C : Callee := ⟨[.val (.sl (.sl gVal)), .val (.fnv 186 (.ptr (.sl gVal)))], [.val (.int .i64)], fun x => slices_IndexFunc_Value_Value_v_evaluator_call_1 x.1 x.2.1⟩
def l89 : FL := (185, some 186, slices_IndexFunc_Value_Value_v_evaluator_call_1_C) :: l88
theorem g89 {V : Env} (h0 : Fs Tryz.prog V l0) : Fs Tryz.prog V l89 :=
  have h := g88 h0
  h.cons (gd [.lp 2 ⟨19, [0, 1, 4, 7, 8], [.val (.sl (.sl gVal)), .val (.fnv 186 (.ptr (.sl gVal))), .val (.int .i64), .val (.int .i64), .val (.int .i64)], [], []⟩ [.exit 0, .ret] slices_IndexFunc_Value_Value_v_evaluator_call_1_s2] [] [] h tiAll bkNil Tryz.func185 (by kernel_rfl) (fun _ => (lsLp (fun x => by kernel_rfl) lsNil)) (fun x => by kernel_rfl))
def v_evaluator_call_C : Callee := ⟨[.box (.dat gEvl), .val gNod, .val (.sl gVal)], [.val gVal, .val (.int .i64)], fun x => v_evaluator_call x.1 x.2.1 x.2.2.1⟩
def l90 : FL := (135, none, v_evaluator_call_C) :: l89
theorem g90 {V : Env} (h0 : Fs Tryz.prog V l0) : Fs Tryz.prog V l90 :=
  have h := g89 h0
  h.cons (gd [] [] [(1, [0, 4, 16], [100008])] h tiAll bkNil Tryz.func135 (by kernel_rfl) (fun _ => lsNil) (fun x => by kernel_rfl))
def v_not_C : Callee := ⟨[.val gVal], [.val .bool], fun x => v_not x.1⟩
def l91 : FL := (189, none, v_not_C) :: l90
theorem g91 {V : Env} (h0 : Fs Tryz.prog V l0) : Fs Tryz.prog V l91 :=
  have h := g90 h0
  h.cons (gd [] [] [] h tiAll bkNil Tryz.func189 (by kernel_rfl) (fun _ => lsNil) (fun x => by kernel_rfl))
def slices_IndexFunc_Value_Value_v_not_C : Callee := ⟨[.val (.sl gVal), .val (.fnv 189 .unit)], [.val (.int .i64)], fun x => slices_IndexFunc_Value_Value_v_not x.1 x.2.1⟩
def l92 : FL := (242, some 189, slices_IndexFunc_Value_Value_v_not_C) :: l91
theorem g92 {V : Env} (h0 : Fs Tryz.prog V l0) : Fs Tryz.prog V l92 :=
  have h := g91 h0
  h.cons (gd [.lp 2 ⟨19, [0, 1, 4, 7, 8], [.val (.sl gVal), .val (.fnv 189 .unit), .val (.int .i64), .val (.int .i64), .val (.int .i64)], [], []⟩ [.exit 0, .ret] slices_IndexFunc_Value_Value_v_not_s2] [] [] h tiAll bkNil Tryz.func242 (by kernel_rfl) (fun _ => (lsLp (fun x => by kernel_rfl) lsNil)) (fun x => by kernel_rfl))
def slices_ContainsFunc_Value_Value_v_not_C : Callee := ⟨[.val (.sl gVal), .val (.fnv 189 .unit)], [.val .bool], fun x => slices_ContainsFunc_Value_Value_v_not x.1 x.2.1⟩
def l93 : FL := (183, some 189, slices_ContainsFunc_Value_Value_v_not_C) :: l92
theorem g93 {V : Env} (h0 : Fs Tryz.prog V l0) : Fs Tryz.prog V l93 :=
  have h := g92 h0
  h.cons (gd [] [] [] h tiAll bkNil Tryz.func183 (by kernel_rfl) (fun _ => lsNil) (fun x => by kernel_rfl))
def v_truth_C : Callee := ⟨[.val .bool], [.val gVal], fun x => v_truth x.1⟩
def l94 : FL := (188, none, v_truth_C) :: l93
theorem g94 {V : Env} (h0 : Fs Tryz.prog V l0) : Fs Tryz.prog V l94 :=
  have h := g93 h0
  h.cons (gd [] [] [] h tiAll bkNil Tryz.func188 (by kernel_rfl) (fun _ => lsNil) (fun x => by kernel_rfl))
def v_is_C : Callee := ⟨[.val gVal], [.val .bool], fun x => v_is x.1⟩
def l95 : FL := (190, none, v_is_C) :: l94
theorem g95 {V : Env} (h0 : Fs Tryz.prog V l0) : Fs Tryz.prog V l95 :=
  have h := g94 h0
  h.cons (gd [] [] [] h tiAll bkNil Tryz.func190 (by kernel_rfl) (fun _ => lsNil) (fun x => by kernel_rfl))
def slices_IndexFunc_Value_Value_v_is_C : Callee := ⟨[.val (.sl gVal), .val (.fnv 190 .unit)], [.val (.int .i64)], fun x => slices_IndexFunc_Value_Value_v_is x.1 x.2.1⟩
def l96 : FL := (242, some 190, slices_IndexFunc_Value_Value_v_is_C) :: l95
theorem g96 {V : Env} (h0 : Fs Tryz.prog V l0) : Fs Tryz.prog V l96 :=
  have h := g95 h0
  h.cons (gd [.lp 2 ⟨19, [0, 1, 4, 7, 8], [.val (.sl gVal), .val (.fnv 190 .unit), .val (.int .i64), .val (.int .i64), .val (.int .i64)], [], []⟩ [.exit 0, .ret] slices_IndexFunc_Value_Value_v_is_s2] [] [] h tiAll bkNil Tryz.func242 (by kernel_rfl) (fun _ => (lsLp (fun x => by kernel_rfl) lsNil)) (fun x => by kernel_rfl))
def slices_ContainsFunc_Value_Value_v_is_C : Callee := ⟨[.val (.sl gVal), .val (.fnv 190 .unit)], [.val .bool], fun x => slices_ContainsFunc_Value_Value_v_is x.1 x.2.1⟩
def l97 : FL := (183, some 190, slices_ContainsFunc_Value_Value_v_is_C) :: l96
theorem g97 {V : Env} (h0 : Fs Tryz.prog V l0) : Fs Tryz.prog V l97 :=
  have h := g96 h0
  h.cons (gd [] [] [] h tiAll bkNil Tryz.func183 (by kernel_rfl) (fun _ => lsNil) (fun x => by kernel_rfl))
def v_numberOf_C : Callee := ⟨[.val (.int .i64), .val .str], [.val gVal], fun x => v_numberOf x.1 x.2.1⟩
def l98 : FL := (243, none, v_numberOf_C) :: l97
theorem g98 {V : Env} (h0 : Fs Tryz.prog V l0) : Fs Tryz.prog V l98 :=
  have h := g97 h0
  h.cons (gd [] [] [] h tiAll bkNil Tryz.func243 (by kernel_rfl) (fun _ => lsNil) (fun x => by kernel_rfl))
def n_Mul_1_C : Callee := ⟨[.val gSml, .val gSml], [.val .str], fun x => n_Mul_1 x.1 x.2.1⟩
def l99 : FL := (98, none, n_Mul_1_C) :: l98
theorem g99 {V : Env} (h0 : Fs Tryz.prog V l0) : Fs Tryz.prog V l99 :=
  have h := g98 h0
  h.cons (gd [] [] [] h tiAll bkNil Tryz.func98 (by kernel_rfl) (fun _ => lsNil) (fun x => by kernel_rfl))
def n_rat_mul_C : Callee := ⟨[.val gRt, .val gRt], [.val gRt], fun x => n_rat_mul x.1 x.2.1⟩
def l100 : FL := (101, none, n_rat_mul_C) :: l99
theorem g100 {V : Env} (h0 : Fs Tryz.prog V l0) : Fs Tryz.prog V l100 :=
  have h := g99 h0
  h.cons (gd [] [] [] h tiAll bkNil Tryz.func101 (by kernel_rfl) (fun _ => lsNil) (fun x => by kernel_rfl))
def n_Mul_2_C : Callee := ⟨[.val gRt, .val gRt], [.val .str], fun x => n_Mul_2 x.1 x.2.1⟩
def l101 : FL := (100, none, n_Mul_2_C) :: l100
theorem g101 {V : Env} (h0 : Fs Tryz.prog V l0) : Fs Tryz.prog V l101 :=
  have h := g100 h0
  h.cons (gd [] [] [] h tiAll bkNil Tryz.func100 (by kernel_rfl) (fun _ => lsNil) (fun x => by kernel_rfl))
def n_two_n_Mul_1_n_Mul_2_C : Callee := ⟨[.val .str, .val .str, .val (.fnv 98 .unit), .val (.fnv 100 .unit)], [.val .str], fun x => n_two_n_Mul_1_n_Mul_2 x.1 x.2.1 x.2.2.1 x.2.2.2.1⟩
def l102 : FL := (97, some 98, n_two_n_Mul_1_n_Mul_2_C) :: l101
theorem g102 {V : Env} (h0 : Fs Tryz.prog V l0) : Fs Tryz.prog V l102 :=
  have h := g101 h0
  h.cons (gd [] [] [] h tiAll bkNil Tryz.func97 (by kernel_rfl) (fun _ => lsNil) (fun x => by kernel_rfl))
def n_Mul_C : Callee := ⟨[.val .str, .val .str], [.val .str], fun x => n_Mul x.1 x.2.1⟩
def l103 : FL := (52, none, n_Mul_C) :: l102
theorem g103 {V : Env} (h0 : Fs Tryz.prog V l0) : Fs Tryz.prog V l103 :=
  have h := g102 h0
  h.cons (gd [] [] [] h tiAll bkNil Tryz.func52 (by kernel_rfl) (fun _ => lsNil) (fun x => by kernel_rfl))
def n_rat_quoRem_C : Callee := ⟨[.val gRt, .val gRt], [.val gRt, .val gRt], fun x => n_rat_quoRem x.1 x.2.1⟩
def l104 : FL := (150, none, n_rat_quoRem_C) :: l103
theorem g104 {V : Env} (h0 : Fs Tryz.prog V l0) : Fs Tryz.prog V l104 :=
  have h := g103 h0
  h.cons (gd [] [] [] h tiAll bkNil Tryz.func150 (by kernel_rfl) (fun _ => lsNil) (fun x => by kernel_rfl))
def n_quoRem_C : Callee := ⟨[.val .str, .val .str], [.val .str, .val .str], fun x => n_quoRem x.1 x.2.1⟩
def l105 : FL := (103, none, n_quoRem_C) :: l104
theorem g105 {V : Env} (h0 : Fs Tryz.prog V l0) : Fs Tryz.prog V l105 :=
  have h := g104 h0
  h.cons (gd [] [] [] h tiAll bkNil Tryz.func103 (by kernel_rfl) (fun _ => lsNil) (fun x => by kernel_rfl))
def n_Quo_C : Callee := ⟨[.val .str, .val .str], [.val .str], fun x => n_Quo x.1 x.2.1⟩
def l106 : FL := (53, none, n_Quo_C) :: l105
theorem g106 {V : Env} (h0 : Fs Tryz.prog V l0) : Fs Tryz.prog V l106 :=
  have h := g105 h0
  h.cons (gd [] [] [] h tiAll bkNil Tryz.func53 (by kernel_rfl) (fun _ => lsNil) (fun x => by kernel_rfl))
def n_Rem_C : Callee := ⟨[.val .str, .val .str], [.val .str], fun x => n_Rem x.1 x.2.1⟩
def l107 : FL := (54, none, n_Rem_C) :: l106
theorem g107 {V : Env} (h0 : Fs Tryz.prog V l0) : Fs Tryz.prog V l107 :=
  have h := g106 h0
  h.cons (gd [] [] [] h tiAll bkNil Tryz.func54 (by kernel_rfl) (fun _ => lsNil) (fun x => by kernel_rfl))
def v_at_C : Callee := ⟨[.val gVal, .val .str], [.val .str], fun x => v_at x.1 x.2.1⟩
def l108 : FL := (90, none, v_at_C) :: l107
theorem g108 {V : Env} (h0 : Fs Tryz.prog V l0) : Fs Tryz.prog V l108 :=
  have h := g107 h0
  h.cons (gd [] [] [] h tiAll bkNil Tryz.func90 (by kernel_rfl) (fun _ => lsNil) (fun x => by kernel_rfl))
def v_compute_C : Callee := ⟨[.val gNod, .val (.sl gVal)], [.val gVal], fun x => v_compute x.1 x.2.1⟩
def l109 : FL := (191, none, v_compute_C) :: l108
theorem g109 {V : Env} (h0 : Fs Tryz.prog V l0) : Fs Tryz.prog V l109 :=
  have h := g108 h0
  h.cons (gd [.lp 7 ⟨102, [1, 4, 5, 19, 20, 21], [.val (.sl gVal), .box (.dat gVal), .val .str, .val (.sl gVal), .val (.int .i64), .val (.int .i64)], [], []⟩ [.exit 1] v_compute_s7] [] [] h tiAll bkNil Tryz.func191 (by kernel_rfl) (fun _ => (lsLp (fun x => by kernel_rfl) lsNil)) (fun x => by kernel_rfl))
def v_operate_C : Callee := ⟨[.val gNod, .val (.sl gVal)], [.val gVal], fun x => v_operate x.1 x.2.1⟩
def l110 : FL := (136, none, v_operate_C) :: l109
theorem g110 {V : Env} (h0 : Fs Tryz.prog V l0) : Fs Tryz.prog V l110 :=
  have h := g109 h0
  h.cons (gd [] [] [] h tiAll bkNil Tryz.func136 (by kernel_rfl) (fun _ => lsNil) (fun x => by kernel_rfl))
def v_evaluator_next_Cr (g : Evl → Option ((Val × Int × Unit) × (Evl × Unit))) : Callee := ⟨[.box (.dat gEvl)], [.val gVal, .val (.int .i64)], fun x => g x.1⟩
def v_evaluator_next_C : Callee := v_evaluator_next_Cr (v_evaluator_next big)
theorem v_evaluator_next_gF {V : Env} (h0 : Fs Tryz.prog V l0) (v_evaluator_nextᵣ : Evl → Option ((Val × Int × Unit) × (Evl × Unit))) (r0 : Good V 93 (v_evaluator_next_Cr v_evaluator_nextᵣ)) : Good V 93 (v_evaluator_next_Cr (v_evaluator_next_F v_evaluator_nextᵣ)) :=
  have h := g110 h0
  gd [.lp 5 ⟨63, [0, 2, 3, 4, 5, 26, 27], [.box (.dat gEvl), .box (.dat gVal), .val (.int .i64), .box (.dat gNod), .own gVal, .val (.int .i64), .val (.int .i64)], [0], []⟩ [.exit 0, .ret] (v_evaluator_next_s5 v_evaluator_nextᵣ)] [] [(1, [0, 11], [100004])] (Fs.cons (s := none) h r0) tiAll bkNil Tryz.func93 (by kernel_rfl) (fun _ => (lsLp (fun x => by kernel_rfl) lsNil)) (fun x => by kernel_rfl)
theorem v_evaluator_next_gN {V : Env} (h0 : Fs Tryz.prog V l0) (n : Nat) : Good V 93 (v_evaluator_next_Cr (v_evaluator_next n)) := by
  induction n with
  | zero => exact good_none ⟨_, h0.prog ▸ Tryz.func93, by decide, rfl⟩ (fun _ => rfl)
  | succ n ih => exact v_evaluator_next_gF h0 (v_evaluator_next n) ih
def l111 : FL := (93, none, v_evaluator_next_C) :: l110
theorem g111 {V : Env} (h0 : Fs Tryz.prog V l0) : Fs Tryz.prog V l111 := (Fs.cons (s := none) (g110 h0) (v_evaluator_next_gN h0 big))
def v_Eval_C : Callee := ⟨[.val (.sl gNod), .val (.sl gBind), .val (.sl gInterp)], [.val gVal, .val (.int .i64)], fun x => v_Eval x.1 x.2.1 x.2.2.1⟩
def l112 : FL := (48, none, v_Eval_C) :: l111
theorem g112 {V : Env} (h0 : Fs Tryz.prog V l0) : Fs Tryz.prog V l112 :=
  have h := g111 h0
  h.cons (gd [] [] [] h tiAll bkNil Tryz.func48 (by kernel_rfl) (fun _ => lsNil) (fun x => by kernel_rfl))
def v_integer_C : Callee := ⟨[.val .str], [.val gNod], fun x => v_integer x.1⟩
def l113 : FL := (58, none, v_integer_C) :: l112
theorem g113 {V : Env} (h0 : Fs Tryz.prog V l0) : Fs Tryz.prog V l113 :=
  have h := g112 h0
  h.cons (gd [] [] [] h tiAll bkNil Tryz.func58 (by kernel_rfl) (fun _ => lsNil) (fun x => by kernel_rfl))
def v_Term_C : Callee := ⟨[.val gVal], [.val (.sl gNod), .val (.int .i64)], fun x => v_Term x.1⟩
def l114 : FL := (19, none, v_Term_C) :: l113
theorem g114 {V : Env} (h0 : Fs Tryz.prog V l0) : Fs Tryz.prog V l114 :=
  have h := g113 h0
  h.cons (gd [.lp 13 ⟨70, [1, 4, 31, 32], [.box (.dat gVal), .own gNod, .val (.int .i64), .val (.int .i64)], [], []⟩ [.exit 1] v_Term_s13, .lp 18 ⟨70, [1, 4, 47, 48, 49], [.box (.dat gVal), .row gNod, .val (.sl .str), .val (.int .i64), .val (.int .i64)], [], []⟩ [.exit 3] v_Term_s18] [] [] h tiAll bkNil Tryz.func19 (by kernel_rfl) (fun _ => (lsLp (fun x => by kernel_rfl) (lsLp (fun x => by kernel_rfl) lsNil))) (fun x => by kernel_rfl))
def n_Num_C : Callee := ⟨[.val .str], [.val .str], fun x => n_Num x.1⟩
def l115 : FL := (232, none, n_Num_C) :: l114
theorem g115 {V : Env} (h0 : Fs Tryz.prog V l0) : Fs Tryz.prog V l115 :=
  have h := g114 h0
  h.cons (gd [] [] [] h tiAll bkNil Tryz.func232 (by kernel_rfl) (fun _ => lsNil) (fun x => by kernel_rfl))
def n_Den_C : Callee := ⟨[.val .str], [.val .str], fun x => n_Den x.1⟩
def l116 : FL := (233, none, n_Den_C) :: l115
theorem g116 {V : Env} (h0 : Fs Tryz.prog V l0) : Fs Tryz.prog V l116 :=
  have h := g115 h0
  h.cons (gd [] [] [] h tiAll bkNil Tryz.func233 (by kernel_rfl) (fun _ => lsNil) (fun x => by kernel_rfl))
def t_numeralOf_Cr (g : Int → List UInt8 → Option (((List UInt8) × Unit) × Unit)) : Callee := ⟨[.val (.int .i64), .val .str], [.val .str], fun x => g x.1 x.2.1⟩
def t_numeralOf_C : Callee := t_numeralOf_Cr (t_numeralOf big)
theorem t_numeralOf_gF {V : Env} (h0 : Fs Tryz.prog V l0) (t_numeralOfᵣ : Int → List UInt8 → Option (((List UInt8) × Unit) × Unit)) (r0 : Good V 170 (t_numeralOf_Cr t_numeralOfᵣ)) : Good V 170 (t_numeralOf_Cr (t_numeralOf_F t_numeralOfᵣ)) :=
  have h := g116 h0
  gd [] [] [] (Fs.cons (s := none) h r0) tiAll bkNil Tryz.func170 (by kernel_rfl) (fun _ => lsNil) (fun x => by kernel_rfl)
theorem t_numeralOf_gN {V : Env} (h0 : Fs Tryz.prog V l0) (n : Nat) : Good V 170 (t_numeralOf_Cr (t_numeralOf n)) := by
  induction n with
  | zero => exact good_none ⟨_, h0.prog ▸ Tryz.func170, by decide, rfl⟩ (fun _ => rfl)
  | succ n ih => exact t_numeralOf_gF h0 (t_numeralOf n) ih
def l117 : FL := (170, none, t_numeralOf_C) :: l116
theorem g117 {V : Env} (h0 : Fs Tryz.prog V l0) : Fs Tryz.prog V l117 := (Fs.cons (s := none) (g116 h0) (t_numeralOf_gN h0 big))
def t_symbol_C : Callee := ⟨[.val gNod], [.val .str], fun x => t_symbol x.1⟩
def l118 : FL := (171, none, t_symbol_C) :: l117
theorem g118 {V : Env} (h0 : Fs Tryz.prog V l0) : Fs Tryz.prog V l118 :=
  have h := g117 h0
  h.cons (gd [] [] [] h tiAll bkNil Tryz.func171 (by kernel_rfl) (fun _ => lsNil) (fun x => by kernel_rfl))
def strings_Builder_WriteByte_C : Callee := ⟨[.box (.pair .slf (.own (.int .u8))), .val (.int .u8)], [.val .err], fun x => strings_Builder_WriteByte x.1 x.2.1⟩
def l119 : FL := (173, none, strings_Builder_WriteByte_C) :: l118
theorem g119 {V : Env} (h0 : Fs Tryz.prog V l0) : Fs Tryz.prog V l119 :=
  have h := g118 h0
  h.cons (gd [] [] [] h tiAll bkNil Tryz.func173 (by kernel_rfl) (fun _ => lsNil) (fun x => by kernel_rfl))
def t_view_write_Cr (g : Option View → (Unit × List Int) → Int → Option ((Unit) × ((Unit × List Int) × Unit))) : Callee := ⟨[.val (.ptr gView), .box (.pair .slf (.own (.int .u8))), .val (.int .i64)], [], fun x => g x.1 x.2.1 x.2.2.1⟩
def t_view_write_C : Callee := t_view_write_Cr (t_view_write big)
theorem t_view_write_gF {V : Env} (h0 : Fs Tryz.prog V l0) (t_view_writeᵣ : Option View → (Unit × List Int) → Int → Option ((Unit) × ((Unit × List Int) × Unit))) (r0 : Good V 118 (t_view_write_Cr t_view_writeᵣ)) : Good V 118 (t_view_write_Cr (t_view_write_F t_view_writeᵣ)) :=
  have h := g119 h0
  gd [.lp 4 ⟨71, [0, 1, 6, 25, 26, 27], [.val (.ptr gView), .box (.pair .slf (.own (.int .u8))), .box (.dat gNod), .val (.sl (.int .i64)), .val (.int .i64), .val (.int .i64)], [0], []⟩ [.exit 1] (t_view_write_s4 t_view_writeᵣ)] [] [] (Fs.cons (s := none) h r0) tiAll bkNil Tryz.func118 (by kernel_rfl) (fun _ => (lsLp (fun x => by kernel_rfl) lsNil)) (fun x => by kernel_rfl)
theorem t_view_write_gN {V : Env} (h0 : Fs Tryz.prog V l0) (n : Nat) : Good V 118 (t_view_write_Cr (t_view_write n)) := by
  induction n with
  | zero => exact good_none ⟨_, h0.prog ▸ Tryz.func118, by decide, rfl⟩ (fun _ => rfl)
  | succ n ih => exact t_view_write_gF h0 (t_view_write n) ih
def l120 : FL := (118, none, t_view_write_C) :: l119
theorem g120 {V : Env} (h0 : Fs Tryz.prog V l0) : Fs Tryz.prog V l120 := (Fs.cons (s := none) (g119 h0) (t_view_write_gN h0 big))
def t_Format_C : Callee := ⟨[.val (.sl gNod)], [.val .str], fun x => t_Format x.1⟩
def l121 : FL := (70, none, t_Format_C) :: l120
theorem g121 {V : Env} (h0 : Fs Tryz.prog V l0) : Fs Tryz.prog V l121 :=
  have h := g120 h0
  h.cons (gd [] [] [] h tiAll bkNil Tryz.func70 (by kernel_rfl) (fun _ => lsNil) (fun x => by kernel_rfl))
def v_Format_C : Callee := ⟨[.val gVal], [.val .str], fun x => v_Format x.1⟩
def l122 : FL := (24, none, v_Format_C) :: l121
theorem g122 {V : Env} (h0 : Fs Tryz.prog V l0) : Fs Tryz.prog V l122 :=
  have h := g121 h0
  h.cons (gd [] [] [] h tiAll bkNil Tryz.func24 (by kernel_rfl) (fun _ => lsNil) (fun x => by kernel_rfl))
def l_awake_C : Callee := ⟨[], [.val .bool], fun _ => l_awake⟩
def l123 : FL := (16, none, l_awake_C) :: l122
theorem g123 {V : Env} (h0 : Fs Tryz.prog V l0) : Fs Tryz.prog V l123 :=
  have h := g122 h0
  h.cons (gd [] [] [] h tiAll bkNil Tryz.func16 (by kernel_rfl) (fun _ => lsNil) (fun x => by kernel_rfl))
def l_ValueZero_C : Callee := ⟨[.val (.int .i64)], [.val .bool], fun x => l_ValueZero x.1⟩
def l124 : FL := (4, none, l_ValueZero_C) :: l123
theorem g124 {V : Env} (h0 : Fs Tryz.prog V l0) : Fs Tryz.prog V l124 :=
  have h := g123 h0
  h.cons (gd [] [] [] h tiAll bkNil Tryz.func4 (by kernel_rfl) (fun _ => lsNil) (fun x => by kernel_rfl))
end
end Go.AM.Num
end
section
namespace Go.AM
open Go.RowKit (Below)
theorem size_data' (s : ByteArray) : s.size = s.data.toList.length := by rw [← ByteArray.size_data, Array.length_toList]

theorem good_sc {V : Env} {k : FuncId} {C : Callee} (hen : ∃ fn, V.P.funcs[k]? = some fn ∧ (fn.name == "runtime.NumGoroutine") = false ∧ fn.body.isNone = false) (hin : ∀ x, rowsIn C.ps x = []) (hout : ∀ o y, rowsOut C.ps C.rk o y = []) (hk : cntK C.ps = 0)
    (h : ∀ x y o, C.g x = some (y, o) → ∀ (w : World) (rd : Nat → Nat → Option Value) (I : Nat → Prop) (β : Nat → Option Place) (vs : Array Value), V.G w → RelL rd I β (encVals C.ps x 0 (cntK C.ps)) vs.toList →
      Calls V.P k vs w fun e w' => ∃ us, e = .returned (valOf us) ∧ Ext w w' ∧ ∀ rd I' β', RelL rd I' β' (valsOut C.ps C.rk y) us) : Good V k C := by
  refine ⟨hen, fun x y o hx w I β vs hG hgb hctx hargs => Calls.mono (h x y o hx w _ I β vs hG hargs) ?_⟩
  rintro e w' ⟨us, rfl, hext, hres⟩
  rw [hin] at hctx ⊢
  have hn : ∀ B, ¬ live [] β B := fun B => live_nil B
  refine ⟨us, fun B => I B ∨ (w.heap.size ≤ B ∧ B < w'.heap.size), β, rfl, ⟨hext.os, hext.tape, hext.output, hext.size, fun B hB _ => hext.block B hB⟩, ⟨?_, ?_, ?_, ?_⟩, hres _ _ _⟩
  · rw [hout]
    refine ⟨fun b r hb => by simp at hb, fun b b' r r' p p' hb => by simp at hb, fun B hB => ⟨?_, live_nil B⟩, hctx.dom⟩
    rcases hB with hB | hB
    · exact Nat.lt_of_lt_of_le (hctx.imm B hB).1 hext.size
    · exact hB.2
  · rintro B (hB | hB)
    · exact .inl hB
    · exact .inr (.inr hB.1)
  · intro b r q hb; rw [hout] at hb; simp at hb
  · intro i hi; rw [hk] at hi; cases hi
end Go.AM
namespace Go.AM.Num
open Go.Proofs

structure GN (w : World) : Prop where
  maxLen : ∃ m, w.cell? ⟨1, 0, none⟩ = some (.int .i64 m)
  pow10 : Lib.TabIs Tryz.prog w "internal/strconv.uint64pow10" .u64 Lib.pow10Tab
section
variable {rd : Nat → Nat → Option Value} {I : Nat → Prop} {β : Nat → Option Place}
theorem rel_str {x : List UInt8} {v : Value} (h : RelV rd I β (.str x) v) : ∃ s : ByteArray, v = .string s ∧ s.data.toList = x := by simpa only [RelV] using h
theorem rel_int {k : IntKind} {n : Int} {v : Value} (h : RelV rd I β (.int k n) v) : v = .int k n := by simpa only [RelV] using h
theorem rel1 {a : AV} {vs : Array Value} (h : RelL rd I β [a] vs.toList) : ∃ v, vs = #[v] ∧ RelV rd I β a v := by
  simp only [RelL] at h
  obtain ⟨v, vs', h1, h2, rfl⟩ := h
  exact ⟨v, by apply Array.ext'; simpa using h1, h2⟩
theorem rel2 {a b : AV} {vs : Array Value} (h : RelL rd I β [a, b] vs.toList) : ∃ v v', vs = #[v, v'] ∧ RelV rd I β a v ∧ RelV rd I β b v' := by
  simp only [RelL] at h
  obtain ⟨v, vs', h1, h2, v', vs2, rfl, h3, rfl⟩ := h
  exact ⟨v, v', by apply Array.ext'; simpa using h1, h2, h3⟩
theorem rel3 {a b c : AV} {vs : Array Value} (h : RelL rd I β [a, b, c] vs.toList) : ∃ v v' v2, vs = #[v, v', v2] ∧ RelV rd I β a v ∧ RelV rd I β b v' ∧ RelV rd I β c v2 := by
  simp only [RelL] at h
  obtain ⟨v, vs', h1, h2, v', vs2, rfl, h3, v2, vs3, rfl, h4, rfl⟩ := h
  exact ⟨v, v', v2, by apply Array.ext'; simpa using h1, h2, h3, h4⟩
theorem str_rel (l : List UInt8) : RelV rd I β (.str l) (.string ⟨l.toArray⟩) := by simp only [RelV]; exact ⟨_, rfl, by simp⟩
end
theorem ext_drewN (w : World) (n : Nat) : Ext w (w.drewN n) := ⟨rfl, rfl, rfl, Nat.le_refl _, fun _ _ => rfl⟩
theorem ext_grow (w : World) (k : Nat) (os : Array Obj) : Ext w (Sort.grow (w.drewN k) os) := by
  refine ⟨rfl, rfl, rfl, ?_, fun B hB => ?_⟩
  · show w.heap.size ≤ (w.heap ++ os).size
    simp
  · show (w.heap ++ os)[B]? = w.heap[B]?
    rw [Array.getElem?_append_left hB]
theorem ext_bytes (w : World) (t : ByteArray) : Ext w (Lib.bytesWorld w 5 t) := ⟨rfl, rfl, rfl, by rw [Lib.bytesWorld_size]; omega, fun B hB => Lib.bytesWorld_at_old w 5 t B hB⟩

section
variable {V : Env} (hP : V.P = Tryz.prog)
include hP
theorem strings_CutPrefix_good : Good V 109 strings_CutPrefix_C :=
  good_sc ⟨_, hP ▸ Tryz.func109, by decide, by rfl⟩ (fun _ => rfl) (fun _ _ => rfl) rfl (fun x y o hx w rd I β vs hG ha => by
    obtain ⟨v, v', rfl, h1, h2⟩ := rel2 ha
    obtain ⟨s, rfl, hs⟩ := rel_str h1
    obtain ⟨p, rfl, hp⟩ := rel_str h2
    rw [hP]
    refine Calls.mono (Tryz.strings_CutPrefix s p w) ?_
    rintro e w' ⟨rfl, rfl⟩
    refine ⟨[_, _], rfl, Ext.refl _, fun rd I' β' => ?_⟩
    simp only [strings_CutPrefix_C, strings_CutPrefix, Option.some.injEq] at hx
    cases hx
    show RelL rd I' β' [.str _, .bool _] _
    simp only [RelL]
    exact ⟨_, _, rfl, by rw [hs, hp]; exact str_rel _, _, _, rfl, by simp only [RelV]; rw [hs, hp], rfl⟩)
theorem strings_Cut_good (hV : ∀ w, V.G w → GN w) : Good V 161 strings_Cut_C :=
  good_sc ⟨_, hP ▸ Tryz.func161, by decide, by rfl⟩ (fun _ => rfl) (fun _ _ => rfl) rfl (fun x y o hx w rd I β vs hG ha => by
    obtain ⟨v, v', rfl, h1, h2⟩ := rel2 ha
    obtain ⟨s, rfl, hs⟩ := rel_str h1
    obtain ⟨p, rfl, hp⟩ := rel_str h2
    simp only [strings_Cut_C, strings_Cut] at hx
    split at hx
    case isFalse => cases hx
    rename_i hlen
    cases hx
    obtain ⟨m, hm⟩ := (hV w hG).maxLen
    rw [hP]
    refine Calls.mono (Tryz.strings_Cut s p m w (by rw [size_data', hs]; exact hlen) hm) ?_
    rintro e w' ⟨rfl, n, rfl⟩
    refine ⟨[_, _, _], rfl, ext_drewN w n, fun rd I' β' => ?_⟩
    show RelL rd I' β' [.str _, .str _, .bool _] _
    simp only [RelL]
    exact ⟨_, _, rfl, by rw [hs, hp]; exact str_rel _, _, _, rfl, by rw [hs, hp]; exact str_rel _, _, _, rfl, by simp only [RelV]; rw [hs, hp], rfl⟩)
theorem strconv_FormatInt_good (hV : ∀ w, V.G w → GN w) : Good V 145 strconv_FormatInt_C :=
  good_sc ⟨_, hP ▸ Tryz.func145, by decide, by rfl⟩ (fun _ => rfl) (fun _ _ => rfl) rfl (fun x y o hx w rd I β vs hG ha => by
    obtain ⟨v, v', rfl, h1, h2⟩ := rel2 ha
    obtain rfl := rel_int h1
    obtain rfl := rel_int h2
    simp only [strconv_FormatInt_C, strconv_FormatInt] at hx
    split at hx
    case isFalse => cases hx
    rename_i hc
    cases hx
    rw [hP, hc.2]
    refine Calls.mono (Tryz.strconv_FormatInt_10 x.1 hc.1.1 hc.1.2 w (hV w hG).pow10) ?_
    rintro e w' ⟨rfl, k, os, rfl⟩
    refine ⟨[_], rfl, ext_grow w k os, fun rd I' β' => ?_⟩
    show RelL rd I' β' [.str _] _
    simp only [RelL]
    exact ⟨_, _, rfl, str_rel _, rfl⟩)
theorem strconv_ParseInt_good : Good V 162 strconv_ParseInt_C :=
  good_sc ⟨_, hP ▸ Tryz.func162, by decide, by rfl⟩ (fun _ => rfl) (fun _ _ => rfl) rfl (fun x y o hx w rd I β vs hG ha => by
    obtain ⟨v, v', v2, rfl, h1, h2, h3⟩ := rel3 ha
    obtain ⟨s, rfl, hs⟩ := rel_str h1
    obtain rfl := rel_int h2
    obtain rfl := rel_int h3
    simp only [strconv_ParseInt_C, strconv_ParseInt] at hx
    split at hx
    case isFalse => cases hx
    rename_i hc
    split at hx
    case h_2 => cases hx
    rename_i n hn
    cases hx
    rw [hP, hc.1, hc.2.1]
    refine Calls.mono (Tryz.strconv_ParseInt_10_at64_ok s (by rw [size_data', hs]; have := hc.2.2; omega) n (by rw [hs]; exact hn) w) ?_
    rintro e w' ⟨rfl, hw⟩
    have hext : Ext w w' := by
      rcases hw with rfl | ⟨t, rfl⟩
      · exact Ext.refl _
      · exact ext_bytes w t
    refine ⟨[_, _], rfl, hext, fun rd I' β' => ?_⟩
    show RelL rd I' β' [.int .i64 _, .err _] _
    simp only [RelL]
    exact ⟨_, _, rfl, by simp only [RelV], _, _, rfl, by simp [RelV], rfl⟩)
end
end Go.AM.Num
namespace Go.Proofs
open Go.Shelf Go.RowKit Go.Sort Go.Lib

theorem holds_zero0 (w : World) (T : TypeId) (nd : Nat) (hs : nd ≤ 24) : Holds (fun (b : UInt8) => Value.int .u8 (b.toNat : Int)) (w.alloc (.cells zeros24 T)) w.heap.size 0 (Array.replicate nd (0 : UInt8)) := fun j hj => by
  have hj' : j < nd := by simpa using hj
  refine ⟨?_, World.frozen?_alloc_new _ _ _ _⟩
  rw [World.cell?_alloc_new, zeros24_at _ (by omega), getElem!_pos _ j hj]
  simp

set_option maxHeartbeats 6400000 in
set_option maxRecDepth 100000 in
theorem Tryz.internal_strconv_FormatUint_10 (u : Nat) (hu64 : u < 18446744073709551616) (w : World) (htab : Lib.TabIs Tryz.prog w "internal/strconv.uint64pow10" .u64 Lib.pow10Tab) :
    Calls Tryz.prog 259 #[.int .u64 u, .int .i64 10] w fun e w' => e = .returned (.string ⟨(Lib.decDigits u).toArray⟩) ∧ ∃ k os, w' = grow (w.drewN k) os := by
  by_cases hs : u < 100
  · go_enter Tryz.func259, Tryz.ntmps259
    go_wp2_with (go_at_call 253; refine (Tryz.internal_strconv_small u hs _).mono ?_; rintro e w' ⟨rfl, rfl⟩)
    go_ret
    exact ⟨rfl, 0, #[], by simp [World.drewN_zero]⟩
  · have hu1 : 1 ≤ u := by omega
    have hnd20 : Lib.nDigits u ≤ 20 := by have := Lib.numDigits_eq u hu1 hu64; split at this <;> omega
    have hsl1 : ∀ W, (Instr.sliceAt 275 (.pointer (some ⟨w.heap.size, 0, none⟩)) none (some (.int .i64 (Lib.nDigits u : Int))) none).run Tryz.prog W = .ok (.slice (some ⟨w.heap.size, 0, none⟩) (Lib.nDigits u) 24) W := fun W => by
      have hal : Tryz.prog.arrayLen 275 = 24 := by kernel_rfl
      rw [run_sliceAt_array_h W 275 ⟨w.heap.size, 0, none⟩ Tryz.underlying275 .i64 (Lib.nDigits u : Int) (by omega) (by rw [hal]; omega)]
      rw [hal]
      go_simp
    have hH0 := holds_zero0 w 275 (Lib.nDigits u) (by omega)
    have hfmt := Tryz.internal_strconv_formatBase10 w.heap.size 0 24 u (Array.replicate (Lib.nDigits u) 0) (w.alloc (.cells Lib.zeros24 275)) hH0 (by rw [Array.size_replicate]; exact Lib.lt_pow_nDigits u) hu64 (by rw [Array.size_replicate]; omega)
    rw [Array.size_replicate] at hfmt
    have HH0 := Lib.hid hH0
    clear hH0
    go_enter Tryz.func259, Tryz.ntmps259
    go_wp2_with (first
      | (go_at_call 254; refine (Tryz.internal_strconv_numDigits u hu1 hu64 _ (Lib.tabIs_alloc htab _)).mono ?_; rintro e w' ⟨rfl, rfl⟩))
    go_at_call 255
    refine hfmt.mono ?_
    rintro e w' ⟨rfl, k, v', dk, rfl, hF⟩
    have hcv : (convert 120 9 (.slice (some ⟨w.heap.size, 0, none⟩) (Lib.nDigits u) 24)).run Tryz.prog ((putRow (fun (b : UInt8) => Value.int .u8 (b.toNat : Int)) (w.alloc (.cells Lib.zeros24 275)) w.heap.size 0 dk).drewN k) = .ok (.string ⟨(Lib.decDigits u).toArray⟩) ((putRow (fun (b : UInt8) => Value.int .u8 (b.toNat : Int)) (w.alloc (.cells Lib.zeros24 275)) w.heap.size 0 dk).drewN k) := by
      have h := run_convert_bytes_back (P := Tryz.prog) ((putRow (fun (b : UInt8) => Value.int .u8 (b.toNat : Int)) (w.alloc (.cells Lib.zeros24 275)) w.heap.size 0 dk).drewN k) 120 9 5 ⟨w.heap.size, 0, none⟩ 24 (Lib.decDigits u) Tryz.underlying120 Tryz.underlying5 Tryz.underlying9 (fun j hj => by
        rw [Lib.row_is_numeral hF j hj, Lib.add_plain, World.cell?_drewN]
        exact cell?_putRow (fun (b : UInt8) => Value.int .u8 (b.toNat : Int)) _ w.heap.size 0 _ dk HH0.out (by rw [hF.size, Array.size_replicate]) j (by rw [hF.size]; rw [Lib.decDigits_length] at hj; exact hj))
      rw [Lib.decDigits_length] at h
      exact h
    go_wp2
    go_ret
    obtain ⟨os', _, e⟩ := putRow_grow_new (fun (b : UInt8) => Value.int .u8 (b.toNat : Int)) w #[.cells Lib.zeros24 275] w.heap.size 0 dk (Nat.le_refl _)
    refine ⟨rfl, k, os', ?_⟩
    rw [alloc_eq_grow, e]
    rfl

theorem Tryz.strconv_FormatUint_10 (u : Nat) (hu64 : u < 18446744073709551616) (w : World) (htab : Lib.TabIs Tryz.prog w "internal/strconv.uint64pow10" .u64 Lib.pow10Tab) :
    Calls Tryz.prog 204 #[.int .u64 u, .int .i64 10] w fun e w' => e = .returned (.string ⟨(Lib.decDigits u).toArray⟩) ∧ ∃ k os, w' = grow (w.drewN k) os := by
  go_enter Tryz.func204, Tryz.ntmps204
  go_wp2_with (go_at_call 259; refine (Tryz.internal_strconv_FormatUint_10 u hu64 _ htab).mono ?_; rintro e w' ⟨rfl, k, os, rfl⟩)
  go_ret
  exact ⟨rfl, k, os, rfl⟩
end Go.Proofs
namespace Go.AM.Num
open Go.Proofs
theorem strconv_FormatUint_good {V : Env} (hP : V.P = Tryz.prog) (hV : ∀ w, V.G w → GN w) : Good V 204 strconv_FormatUint_C :=
  good_sc ⟨_, hP ▸ Tryz.func204, by decide, by rfl⟩ (fun _ => rfl) (fun _ _ => rfl) rfl (fun x y o hx w rd I β vs hG ha => by
    obtain ⟨v, v', rfl, h1, h2⟩ := rel2 ha
    obtain rfl := rel_int h1
    obtain rfl := rel_int h2
    simp only [strconv_FormatUint_C, strconv_FormatUint] at hx
    split at hx
    case isFalse => cases hx
    rename_i hc
    cases hx
    have hn : (x.1.toNat : Int) = x.1 := Int.toNat_of_nonneg hc.1
    have hcall := Tryz.strconv_FormatUint_10 x.1.toNat (by have := hc.2.1; omega) w (hV w hG).pow10
    rw [hn] at hcall
    rw [hP, hc.2.2]
    refine Calls.mono hcall ?_
    rintro e w' ⟨rfl, k, os, rfl⟩
    refine ⟨[_], rfl, ext_grow w k os, fun rd I' β' => ?_⟩
    show RelL rd I' β' [.str _] _
    simp only [RelL]
    exact ⟨_, _, rfl, str_rel _, rfl⟩)
end Go.AM.Num
end
section
namespace Go.AM
open Go.RowKit (Below)
open Go


theorem setCells_row : ∀ (vs : List Value) (b o : Nat) (w : World) {cs : Array Value} {ty : TypeId} {fr : Nat × Nat}, w.heap[b]? = some (.cells cs ty fr) → o + vs.length ≤ cs.size →
    ∃ cs', (w.setCells b o vs).heap[b]? = some (.cells cs' ty fr) ∧ cs'.size = cs.size ∧ (∀ k, cs'[k]? = if o ≤ k ∧ k < o + vs.length then vs[k - o]? else cs[k]?) ∧
      (∀ B, B ≠ b → (w.setCells b o vs).heap[B]? = w.heap[B]?) ∧ (w.setCells b o vs).heap.size = w.heap.size ∧ (w.setCells b o vs).os = w.os ∧ (w.setCells b o vs).tape = w.tape ∧ (w.setCells b o vs).output = w.output
  | [], b, o, w, cs, ty, fr, h, hl => ⟨cs, h, rfl, fun k => by rw [if_neg (by simp only [List.length_nil]; omega)], fun _ _ => rfl, rfl, rfl, rfl, rfl⟩
  | v :: r, b, o, w, cs, ty, fr, h, hl => by
    simp only [List.length_cons] at hl
    have hb : b < w.heap.size := (Array.getElem?_eq_some_iff.1 h).1
    have h1 : (w.setCell ⟨b, o, none⟩ v).heap[b]? = some (.cells (cs.setIfInBounds o v) ty fr) := by
      simp only [World.setCell, Array.getElem?_modify, h]
      simp
    obtain ⟨cs', g1, g2, g3, g4, g5, g6, g7, g8⟩ := setCells_row r b (o + 1) (w.setCell ⟨b, o, none⟩ v) h1 (by simp; omega)
    refine ⟨cs', g1, by rw [g2]; simp, fun k => ?_, fun B hB => ?_, by rw [World.setCells, g5]; simp [World.setCell], g6, g7, g8⟩
    · rw [g3 k]
      simp only [List.length_cons]
      by_cases e : k = o
      · subst e
        rw [if_neg (by omega), if_pos (by omega), Array.getElem?_setIfInBounds]
        simp; omega
      · by_cases e2 : o + 1 ≤ k ∧ k < o + 1 + r.length
        · rw [if_pos e2, if_pos (by omega), show k - o = (k - (o + 1)) + 1 from by omega]; rfl
        · rw [if_neg e2, if_neg (by omega), Array.getElem?_setIfInBounds, if_neg (fun h => e h.symm)]
    · rw [World.setCells, g4 B hB]
      simp only [World.setCell, Array.getElem?_modify]
      rw [if_neg (fun h => hB h.symm)]

abbrev sv (s : List UInt8) : Value := .string ⟨s.toArray⟩
theorem sv_of {s : ByteArray} {x : List UInt8} (h : s.data.toList = x) : Value.string s = sv x := by subst h; cases s; simp [sv]
theorem sv_plain (l : List (List UInt8)) : ∀ v ∈ l.map sv, v.oneCell' = true := fun v hv => by obtain ⟨x, _, rfl⟩ := List.mem_map.1 hv; rfl
theorem rel_sv {rd : Nat → Nat → Option Value} {I : Nat → Prop} {x : List UInt8} {us : List Value} (h : RelC rd I .str x us) : us = [sv x] := by
  simp only [RelC] at h
  obtain ⟨b, rfl, hb⟩ := h
  rw [sv_of hb]
theorem sv_rel {rd : Nat → Nat → Option Value} {I : Nat → Prop} (x : List UInt8) : RelC rd I .str x [sv x] := by simp only [RelC]; exact ⟨_, rfl, by simp⟩


theorem row_sv {w : World} {I : Nat → Prop} {β : Nat → Option Place} {p : Place} {l : List (List UInt8)} (h : RowRel w I β p (.typed .str l)) (hb : p.backed = true) : p.s = 1 ∧ p.n = l.length ∧ ∃ cs ty, w.heap[p.B]? = some (.cells cs ty (0, 0)) ∧ p.O + p.n ≤ cs.size ∧ cs.size = p.z ∧ cs.size ≤ capMax ∧ ∀ (i : Nat) x, l[i]? = some x → cs[p.O + i]? = some (sv x) := by
  obtain ⟨h1, h2, _, h4⟩ := h
  obtain ⟨cs, ty, g1, ⟨g2, g3, _, gm⟩, g4⟩ := h4 hb
  have hs : p.s = 1 := h1
  refine ⟨hs, h2, cs, ty, g1, by rw [hs] at g2; simpa using g2, g3, by simpa [GT.cells] using gm, fun i x hi => ?_⟩
  obtain ⟨us, u1, u2, u3⟩ := g4 i x hi
  have := u2 0 (by decide)
  rw [rel_sv u3] at this
  simpa [GT.cells] using this
theorem row_of_sv {w : World} {I : Nat → Prop} {β : Nat → Option Place} {p : Place} {l : List (List UInt8)} {cs : Array Value} {ty : TypeId} (hs : p.s = 1) (hn : p.n = l.length) (hh : w.heap[p.B]? = some (.cells cs ty (0, 0))) (h1 : p.O + p.n ≤ cs.size) (h2 : cs.size = p.z) (h3 : cs.size ≤ capMax) (hc : ∀ (i : Nat) x, l[i]? = some x → cs[p.O + i]? = some (sv x)) (hb : p.backed = true) : RowRel w I β p (.typed .str l) := by
  refine ⟨hs, hn, fun h => (by rw [hb] at h; cases h), fun _ => ⟨cs, ty, hh, ⟨by rw [hs]; simpa using h1, h2, fun h => (by cases h), by simpa [GT.cells] using h3⟩, fun i x hi => ⟨[sv x], rfl, fun j hj => ?_, sv_rel x⟩⟩⟩
  have : j = 0 := by simp [GT.cells] at hj; omega
  subst this
  have := hc i x hi
  simpa [GT.cells] using this


theorem own_new {gb : Nat} {w w' : World} {I : Nat → Prop} {β : Nat → Option Place} {Hin : Heap} (hI : ∀ B, I B → B < w.heap.size) {l : List (List UInt8)} {v : Value} (hgb : gb ≤ w.heap.size) (hsz : w.heap.size ≤ w'.heap.size)
    (h : v = .slice none 0 0 ∧ l = [] ∨ ∃ g cap cur ty, v = .slice (some ⟨g, 0, none⟩) l.length cap ∧ w.heap.size ≤ g ∧ w'.heap[g]? = some (.cells cur ty (0, 0)) ∧ l.length ≤ cap ∧ cap ≤ cur.size ∧ cur.size ≤ capMax ∧ ∀ (i : Nat) x, l[i]? = some x → cur[i]? = some (sv x)) :
    ∃ I' β', OutOK w w' gb I β Hin [some (.typed .str l)] 0 I' β' ∧ RelL (rdW w') I' β' [.vw 0] [v] := by
  have main : ∀ p : Place, (p.backed = true → w.heap.size ≤ p.B ∧ p.B < w'.heap.size) → (∀ β', RowRel w' I β' p (.typed .str l)) → (∀ β' : Nat → Option Place, β' 0 = some p → RelV (rdW w') I β' (.vw 0) v) → ∃ I' β', OutOK w w' gb I β Hin [some (.typed .str l)] 0 I' β' ∧ RelL (rdW w') I' β' [.vw 0] [v] := by
    intro p h1 h2 h3
    refine ⟨I, fun i => if i = 0 then some p else none, ⟨⟨?_, ?_, ?_, ?_⟩, ?_, ?_, ?_⟩, ?_⟩
    · intro b r hb
      cases b with
      | zero => cases hb; exact ⟨p, rfl, fun hk => ⟨Nat.le_trans hgb (h1 hk).1, (h1 hk).2⟩, h2 _⟩
      | succ b => simp at hb
    · intro b b' r r' p p' hb hb'
      cases b <;> cases b' <;> simp at hb hb' ⊢
    · intro B hB
      refine ⟨Nat.lt_of_lt_of_le (hI B hB) hsz, ?_⟩
      rintro ⟨b, r, q, hb, hq, hk, rfl⟩
      cases b with
      | zero => cases hq; have := (h1 hk).1; have := hI _ hB; omega
      | succ b => simp at hb
    · intro b hb
      simp at hb
      exact if_neg (by omega)
    · exact fun B hB => .inl hB
    · intro b r q hb hq hk
      cases b with
      | zero => cases hq; exact .inr (h1 hk).1
      | succ b => simp at hb
    · intro i hi; cases hi
    · simp only [RelL]
      exact ⟨v, [], rfl, h3 _ rfl, rfl⟩
  rcases h with ⟨rfl, rfl⟩ | ⟨g, cap, cur, ty, rfl, hg, hh, hc, hcap, hcm, hx⟩
  · refine main ⟨0, 0, 1, 0, 0, false⟩ (fun h => by cases h) (fun β' => ⟨rfl, rfl, fun _ => rfl, fun h => by cases h⟩) (fun β' hb => ?_)
    simp only [RelV]
    exact ⟨_, hb, none, 0, rfl, Nat.le_refl _, .inl rfl⟩
  · refine main ⟨g, 0, 1, l.length, cur.size, true⟩ (fun _ => ⟨hg, (Array.getElem?_eq_some_iff.1 hh).1⟩) (fun β' => row_of_sv rfl rfl hh (by simp; omega) rfl hcm (fun i x hi => by simpa using hx i x hi) rfl) (fun β' hb => ?_)
    simp only [RelV]
    exact ⟨_, hb, _, cap, rfl, hc, .inr ⟨rfl, rfl, by simp; omega⟩⟩


theorem sl_sv {rd : Nat → Nat → Option Value} {I : Nat → Prop} {l : List (List UInt8)} {v : Value} (h : RelC rd I (.sl .str) l [v]) : ∃ a c, v = .slice a l.length c ∧ l.length ≤ c ∧ (l ≠ [] → ∃ B o, a = some ⟨B, o, none⟩ ∧ I B ∧ ∀ (i : Nat) x, l[i]? = some x → rd B (o + i) = some (sv x)) := by
  simp only [RelC] at h
  obtain ⟨a, c, h1, h2, h3⟩ := h
  refine ⟨a, c, by simpa using h1, h2, fun hne => ?_⟩
  obtain ⟨B, o, rfl, hI, hx⟩ := h3 hne
  refine ⟨B, o, rfl, hI, fun i x hi => ?_⟩
  obtain ⟨us, u1, u2, u3⟩ := hx i x hi
  have := u2 0 (by decide)
  obtain ⟨b, rfl, hb⟩ := u3
  rw [sv_of hb] at this
  simpa [GT.cells] using this
end Go.AM
namespace Go.Proofs
open Go.Shelf Go.RowKit Go.Lib
def Tryz.laysIns_ren : Go.Shelf.Ren := ⟨fun | 17 => 296 | 22 => 130 | 29 => 181 | 30 => 182 | 36 => 241 | n => n, fun | 24 => 22 | n => n, fun | n => n⟩
theorem Tryz.laysIns : Go.Proofs.Lays2.n22 Tryz.prog Tryz.laysIns_ren := {
  mixed := by kernel_rfl
  f17 := Tryz.func296.trans (congrArg some (by kernel_rfl))
  f22 := Tryz.func130.trans (congrArg some (by kernel_rfl))
  f29 := Tryz.func181.trans (congrArg some (by kernel_rfl))
  f30 := Tryz.func182.trans (congrArg some (by kernel_rfl))
  f36 := Tryz.func241.trans (congrArg some (by kernel_rfl))
  t0 := Tryz.underlying0
  a0 := Tryz.isAgg0
  z0 := Tryz.sizeOf0
  v0 := Tryz.zeroValue0
  t3 := Tryz.underlying3
  a3 := Tryz.isAgg3
  z3 := Tryz.sizeOf3
  v3 := Tryz.zeroValue3
  t4 := Tryz.underlying4
  a4 := Tryz.isAgg4
  z4 := Tryz.sizeOf4
  v4 := Tryz.zeroValue4
  t9 := Tryz.underlying9
  a9 := Tryz.isAgg9
  z9 := Tryz.sizeOf9
  v9 := Tryz.zeroValue9
  t24 := Tryz.underlying22
  a24 := Tryz.isAgg22
  z24 := Tryz.sizeOf22
  v24 := Tryz.zeroValue22
  i9 := by kernel_rfl }
end Go.Proofs
end
section
namespace Go.Lib
open Go

theorem run_overlaps_apart2 {P : Program} (w : World) (tS tR e : TypeId) (ht : P.underlying tS = some (.slice e)) (size : Nat) (hz : ∀ w, (Go.sizeOf e).run P w = .ok size w)
    (a b : Addr) (la ca lb cb : Nat) (hne : a.block ≠ b.block) (tA tB : TypeId) (kA kB : Nat)
    (hsa : w.shape? a.block = some (tA, kA + 1)) (hsb : w.shape? b.block = some (tB, kB)) (hfb : w.frozen? b = false) (hfe : w.frozen? { block := b.block, off := kB } = false) :
    (Extern.SlicesOverlaps.overlaps #[tS, tS] #[tR] #[.slice (some a) la ca, .slice (some b) lb cb]).run P w = .ok (.bool false) w := by
  have hnb : (a.block != b.block) = true := by simpa using hne
  have hnb' : (a.block == b.block) = false := by simpa using hne
  change Sem.run P (α := Value) (do
    let some t := (#[tS, tS] : Array TypeId)[0]? | stuck "slices.overlaps: no parameter types"
    let .slice elem ← underlying t | stuck "slices.overlaps: slice type expected"
    let size ← sizeOf elem
    match (some a : Option Addr), (some b : Option Addr) with
    | some a, some b =>
      if la = 0 ∨ lb = 0 ∨ size = 0 then pure (Value.bool false)
      else if a.block != b.block && (← frozen a) && (← frozen b) then unsupported .addressObserved
      else do
        if a.block != b.block then do
          noView a; noView b
          if ← mayBeOne a b then return Value.bool ((← choose (.extern "sameAddr.stringBytes" 2)) == 1)
        pure (Value.bool (a.block == b.block && a.off < b.off + lb * size && b.off < a.off + la * size))
    | _, _ => pure (Value.bool false)) w = _
  by_cases h0 : la = 0 ∨ lb = 0 ∨ size = 0
  · simp [run_underlying ht, hz, h0]
  · cases h1 : w.frozen? a <;> cases h2 : w.frozen? { block := a.block, off := kA + 1 } <;>
      simp [run_underlying ht, hz, h0, hnb, hnb', frozen, noView, viewAt, mayBeOne, stringish, shape, Sem.run, hsa, hsb, hfb, hfe, h1, h2]
end Go.Lib
namespace Go.Proofs
open Go.Shelf Go.RowKit Go.Lib
set_option maxHeartbeats 4000000 in
set_option maxRecDepth 100000 in

theorem Tryz.Insert_shift (b off n c i vb voff m vc : Nat) (cs vs : List Value) (w : World) (hi : i < n) (hm : 0 < m) (hroom : n + m ≤ c) (hc63 : c ≤ 9223372036854775807) (hvb : vb ≠ b) (hcl : cs.length = n) (hvl : vs.length = m)
    (hcs : ∀ j v, cs[j]? = some v → w.cell? ⟨b, off + j, none⟩ = some v) (hsp : ∀ j, j < n + m → (w.cell? ⟨b, off + j, none⟩).isSome = true) (hfz : ∀ j, w.frozen? ⟨b, j, none⟩ = false)
    (hvs : ∀ j v, vs[j]? = some v → w.cell? ⟨vb, voff + j, none⟩ = some v) (h1c : ∀ v ∈ cs, v.oneCell' = true) (h1v : ∀ v ∈ vs, v.oneCell' = true)
    (tA tB : TypeId) (kA kB : Nat) (hsa : w.shape? vb = some (tA, kA + 1)) (hsb : w.shape? b = some (tB, kB)) :
    Calls Tryz.prog 130 #[.slice (some ⟨b, off, none⟩) n c, .int .i64 i, .slice (some ⟨vb, voff, none⟩) m vc] w fun e w' =>
      e = .returned (.slice (some ⟨b, off, none⟩) (n + m) c) ∧ w' = (w.drew.setCells b (off + (i + m)) (cs.drop i)).setCells b (off + i) vs := by
  have hz1 : ¬ ((m : Int) = 0) := by omega
  have hz2 : ¬ ((i : Int) = (n : Int)) := by omega
  have hsz : (Tryz.prog.info? 9).map (·.size) = some 1 := by
    obtain ⟨i0, hi0, h0, h1, h2⟩ := info_parts Tryz.laysIns.i9
    exact (congrArg _ hi0).trans (by simp [h1])
  have hov : ∀ lb cb, (callFunc 181 #[.slice (some ⟨vb, voff, none⟩) m vc, .slice (some ⟨b, off + (i + m), none⟩) lb cb]).run Tryz.prog w = .ok (.value (.bool false)) w := fun lb cb => by
    rw [run_callFunc_extern Tryz.func181 (by kernel_rfl) (by kernel_rfl) (by kernel_rfl) (e := Extern.SlicesOverlaps.overlaps #[22, 22] #[4]) (by kernel_rfl),
      Lib.run_overlaps_apart2 w 22 4 9 Tryz.underlying22 1 Tryz.sizeOf9 ⟨vb, voff, none⟩ ⟨b, off + (i + m), none⟩ m vc lb cb hvb tA tB kA kB hsa hsb (hfz _) (hfz _)]
    rfl
  have hdl : (cs.drop i).length = n - i := by rw [List.length_drop, hcl]
  have hw1 : IntKind.i64.wrap ((i : Int) + (m : Int)) = (i : Int) + (m : Int) := by rw [IntKind.wrap_i64]; omega
  have hb1 : (0 : Int) ≤ (i : Int) + (m : Int) := by omega
  have hin : i ≤ n := by omega
  have htn : ((i : Int) + (m : Int)).toNat = i + m := by omega
  have hb2 : ¬ (c = i + m) := by omega
  have hb3 : (i : Int) ≤ (n : Int) + (m : Int) := by omega
  have hb4 : ¬ (c = i) := by omega
  have hcp1 : ∀ ty dc sc, (Builtin.copy_ #[22, 22] ty #[.slice (some ⟨b, off + (i + m), none⟩) (n + m - (i + m)) dc, .slice (some ⟨b, off + i, none⟩) (n + m - i) sc]).run Tryz.prog w.drew = .ok (goInt (cs.drop i).length) (w.drew.setCells b (off + (i + m)) (cs.drop i)) := fun ty dc sc =>
    run_copy_cells w.drew _ _ ty 9 b (off + (i + m)) (n + m - (i + m)) dc ⟨b, off + i, none⟩ (n + m - i) sc (cs.drop i) Tryz.underlying22 hsz (by rw [hdl]; simp only [Nat.min_def]; split <;> omega)
      (fun j v hj => by rw [Addr.add_lit, Nat.add_assoc]; exact hcs (i + j) v (by rwa [List.getElem?_drop] at hj))
      (fun j hj => by rw [Nat.add_assoc]; exact hsp _ (by omega)) (fun j hj => hfz _) (fun v hv => h1c v (List.mem_of_mem_drop hv))
  obtain ⟨W1, hW1⟩ : ∃ W1, W1 = w.drew.setCells b (off + (i + m)) (cs.drop i) := ⟨_, rfl⟩
  have hsp1 : ∀ k, k < n + m → (W1.cell? ⟨b, off + k, none⟩).isSome = true := fun k hk => by
    rw [hW1]
    exact isSome_setCells b _ _ _ (fun j hj => by rw [Nat.add_assoc]; exact hsp _ (by omega)) _ (hsp k hk)
  have hcp2 : ∀ (W : World), (∀ x, W.cell? x = W1.cell? x) → (∀ x, W.frozen? x = W1.frozen? x) → ∀ ty dc, (Builtin.copy_ #[22, 22] ty #[.slice (some ⟨b, off + i, none⟩) (n + m - i) dc, .slice (some ⟨vb, voff, none⟩) m vc]).run Tryz.prog W = .ok (goInt vs.length) (W.setCells b (off + i) vs) := fun W hWc hWf ty dc =>
    run_copy_cells W _ _ ty 9 b (off + i) (n + m - i) dc ⟨vb, voff, none⟩ m vc vs Tryz.underlying22 hsz (by rw [hvl]; simp only [Nat.min_def]; split <;> omega)
      (fun j v hj => by
        rw [Addr.add_lit, hWc, hW1, World.cell?_setCells_out b _ _ _ _ (fun h _ => absurd h hvb)]
        exact hvs j v hj)
      (fun j hj => by rw [hWc, Nat.add_assoc]; exact hsp1 _ (by omega)) (fun j hj => by rw [hWf, hW1, World.frozen?_setCells]; exact hfz _) h1v
  rw [← hW1] at hcp1
  have mixed := Tryz.laysIns.mixed
  go_enter Tryz.func130, Tryz.ntmps130
  go_wp2_with (simp only [hov])
  go_region_law_o (refine step_copy_runI rfl _ _ 22 22 rfl _ _ (by simp [Act.eval, Act.put]) (by simp [Act.eval, Act.put]) (hcp1 _ _ _) ?_)
  go_wp2_with (at_builtin; refine wpList_copy_runI _ rfl _ _ 22 22 rfl _ _ rfl rfl (hcp2 _ (fun _ => rfl) (fun _ => rfl) _ _) ?_)
  go_ret
  first | exact ⟨rfl, rfl⟩ | exact ⟨rfl, by rw [hW1]⟩
end Go.Proofs
end
section
namespace Go.AM
open Go.RowKit (Below)

theorem out_own {V : Env} {ps : List PK} {w w' : World} {I : Nat → Prop} {β : Nat → Option Place} {x : tysP ps} (hk : cntK ps = 0) (hctx : Ctx V.gb w I β (rowsIn ps x)) (hgb : V.gb ≤ w.heap.size) (hext : Ext w w') {l : List (List UInt8)} {v : Value}
    (h : v = .slice none 0 0 ∧ l = [] ∨ ∃ g cap cur ty, v = .slice (some ⟨g, 0, none⟩) l.length cap ∧ w.heap.size ≤ g ∧ w'.heap[g]? = some (.cells cur ty (0, 0)) ∧ l.length ≤ cap ∧ cap ≤ cur.size ∧ cur.size ≤ capMax ∧ ∀ (i : Nat) x, l[i]? = some x → cur[i]? = some (sv x)) :
    ∃ (us : List Value) (I' : Nat → Prop) (β' : Nat → Option Place), Ending.returned v = .returned (valOf us) ∧ FrmC w w' (live (rowsIn ps x) β) ∧ OutOK w w' V.gb I β (rowsIn ps x) [some (.typed .str l)] (cntK ps) I' β' ∧ RelL (rdW w') I' β' [.vw 0] us := by
  obtain ⟨I', β', h1, h2⟩ := own_new (Hin := rowsIn ps x) (β := β) (fun B hB => (hctx.imm B hB).1) hgb hext.size h
  exact ⟨[v], I', β', rfl, ⟨hext.os, hext.tape, hext.output, hext.size, fun B hB _ => hext.block B hB⟩, by rw [hk]; exact h1, h2⟩
theorem owns_sv {w' : World} {base n : Nat} {e : TypeId} {v : Value} {l : List (List UInt8)} (hn : n = l.length) (h : w'.ownsRow base e 1 v n (l.map sv)) :
    v = .slice none 0 0 ∧ l = [] ∨ ∃ g cap cur ty, v = .slice (some ⟨g, 0, none⟩) l.length cap ∧ base ≤ g ∧ w'.heap[g]? = some (.cells cur ty (0, 0)) ∧ l.length ≤ cap ∧ cap ≤ cur.size ∧ cur.size ≤ capMax ∧ ∀ (i : Nat) x, l[i]? = some x → cur[i]? = some (sv x) := by
  subst hn
  rcases h.2 with ⟨rfl, h0⟩ | ⟨g, cap, cur, rfl, hg, hh, hc, hmx, hsz, ht⟩
  · exact .inl ⟨rfl, List.eq_nil_of_length_eq_zero h0⟩
  · refine .inr ⟨g, cap, cur, e, rfl, hg, hh, hc, by omega, by unfold maxLen at hmx; unfold capMax; omega, fun i x hi => ?_⟩
    have hlt := (List.getElem?_eq_some_iff.1 hi).1
    have : (cur.toList.take (l.length * 1))[i]? = some (sv x) := by rw [ht]; simp [hi]
    rw [List.getElem?_take, if_pos (by omega), Array.getElem?_toList] at this
    exact this
theorem sv_reads {w : World} {I : Nat → Prop} {B o : Nat} {l : List (List UInt8)} (h : ∀ (i : Nat) x, l[i]? = some x → rdW w B (o + i) = some (sv x)) : ∀ (i : Nat) x, l[i]? = some x → w.cell? ⟨B, o + i, none⟩ = some (sv x) := fun i x hi => rdW_cell (h i x hi) rfl
end Go.AM
namespace Go.AM.Num
open Go.Proofs Go.RowKit Go.Lib
section
variable {V : Env} (hP : V.P = Tryz.prog)
include hP
theorem slices_Clone_good : Good V 137 slices_Clone_string_string_C :=
  ⟨⟨_, hP ▸ Tryz.func137, by decide, rfl⟩, fun x y o hx w I β vs hG hgb hctx hargs => by
    obtain ⟨v, rfl, h1⟩ := rel1 hargs
    replace h1 : RelV (rdW w) I β (.sl .str false x.1) v := h1
    simp only [RelV] at h1
    obtain ⟨a, c, rfl, hc, hx1⟩ := sl_sv h1.1
    obtain ⟨hm, hx⟩ := grd_some' hx
    cases hx
    simp only [decide_eq_true_eq] at hm
    replace hm : x.1.length ≤ 68719476736 := hm
    rw [hP]
    cases a with
    | none =>
      have h0 : x.1 = [] := Classical.byContradiction fun hne => by obtain ⟨B, o, h, _⟩ := hx1 hne; cases h
      refine Calls.mono (Tryz.slices_Clone_string_nil _ c w) ?_
      rintro e w' ⟨rfl, rfl⟩
      exact out_own rfl hctx hgb (Ext.refl _) (.inl ⟨rfl, h0⟩)
    | some ad =>
      by_cases h0 : x.1 = []
      · have hl0 : x.1.length = 0 := by rw [h0]; rfl
        rw [hl0]
        refine Calls.mono (Tryz.slices_Clone_string_zero ad c w) ?_
        rintro e w' ⟨v', rfl, ho, _, hb⟩
        exact out_own rfl hctx hgb (Ext.of_below hb) (owns_sv (l := x.1) hl0.symm (by rw [h0]; exact ho))
      · obtain ⟨B, o, he, _, hrd⟩ := hx1 h0
        cases he
        have hcell := sv_reads (I := I) hrd
        refine Calls.mono (Tryz.slices_Clone_string B o x.1.length c (x.1.map fun s => ⟨s.toArray⟩) w (by simp) (by omega) (fun j hj => by
          simp only [List.length_map] at hj
          rw [hcell j _ (List.getElem?_eq_getElem hj)]
          simp [List.getD, List.getElem?_eq_getElem hj])) ?_
        rintro e w' ⟨v', rfl, ho, _, hb⟩
        exact out_own rfl hctx hgb (Ext.of_below hb) (owns_sv rfl (by simpa [List.map_map, Function.comp_def, List.take_of_length_le] using ho))⟩
theorem slices_Delete_good : Good V 129 slices_Delete_string_string_C :=
  ⟨⟨_, hP ▸ Tryz.func129, by decide, rfl⟩, fun (x : List (List UInt8) × Int × Int × Unit) y o hx w I β vs hG hgb hctx hargs => by
    obtain ⟨v, v', v2, rfl, h1, h2, h3⟩ := rel3 hargs
    obtain rfl := rel_int h2
    obtain rfl := rel_int h3
    obtain ⟨l, i, j, u⟩ := x
    obtain ⟨hm, hx⟩ := grd_some' hx
    cases hx
    simp only [Bool.and_eq_true, decide_eq_true_eq] at hm
    obtain ⟨⟨hi0, hij⟩, hjl⟩ := hm
    replace hjl : j ≤ (l.length : Int) := hjl
    replace h1 : RelV (rdW w) I β (.vw 0) v := h1
    simp only [RelV] at h1
    obtain ⟨p, hp, a, c, rfl, hpc, ha⟩ := h1
    obtain ⟨p', hp', hbk, hrow⟩ := hctx.rows 0 (.typed .str l) rfl
    rw [hp] at hp'; cases hp'
    have hpn : p.n = l.length := hrow.2.1
    obtain ⟨l', hl'⟩ : ∃ l', l' = l.take i.toNat ++ l.drop j.toNat ++ List.replicate (j.toNat - i.toNat) ([] : List UInt8) := ⟨_, rfl⟩
    have hll : l'.length = l.length := by rw [hl']; simp; omega
    have fin : ∀ w' : World, w'.os = w.os → w'.tape = w.tape → w'.output = w.output → w'.heap.size = w.heap.size → (∀ B, (p.backed = true → B ≠ p.B) → w'.heap[B]? = w.heap[B]?) → RowRel w' I β p (.typed .str l') → (p.backed = true → SameOut w w' p) →
        ∃ (us : List Value) (I' : Nat → Prop) (β' : Nat → Option Place), Ending.returned (.slice a (l.length - (j.toNat - i.toNat)) c) = .returned (valOf us) ∧ FrmC w w' (live (rowsIn [.row .str, .val (.int .i64), .val (.int .i64)] (l, i, j, u)) β) ∧
          OutOK w w' V.gb I β (rowsIn [.row .str, .val (.int .i64), .val (.int .i64)] (l, i, j, u)) [some (.typed .str l')] 1 I' β' ∧ RelL (rdW w') I' β' [.pre 0 (l.length - (j.toNat - i.toNat))] us := by
      intro w' e1 e2 e3 e4 e5 hrow' hso
      have hlive : ∀ B, live [some (.typed .str l')] β B ↔ live (rowsIn [.row .str, .val (.int .i64), .val (.int .i64)] (l, i, j, u)) β B := fun B => by
        constructor <;> rintro ⟨b, r, q, hb, hq, hk, e⟩
        · cases b with
          | zero => exact ⟨0, .typed .str l, q, rfl, hq, hk, e⟩
          | succ b => simp at hb
        · cases b with
          | zero => exact ⟨0, .typed .str l', q, rfl, hq, hk, e⟩
          | succ b => change ([] : Heap)[b]? = _ at hb; simp at hb
      refine ⟨[_], I, β, rfl, ⟨e1, e2, e3, Nat.le_of_eq e4.symm, fun B hB hnl => e5 B fun hk e => hnl ⟨0, .typed .str l, p, rfl, hp, hk, e.symm⟩⟩, ⟨⟨fun b r hb => ?_, fun b b' r r' q q' hb hb' => ?_, fun B hB => ⟨by rw [e4]; exact (hctx.imm B hB).1, fun h => (hctx.imm B hB).2 ((hlive B).1 h)⟩, fun b hb => hctx.dom b hb⟩, fun B hB => .inl hB, fun b r q hb hq hk => .inl ((hlive q.B).1 ⟨b, r, q, hb, hq, hk, rfl⟩), fun i hi => ⟨rfl, fun q hq hk => ?_⟩⟩, ?_⟩
      · cases b with
        | zero => cases hb; exact ⟨p, hp, fun hk => by rw [e4]; exact hbk hk, hrow'⟩
        | succ b => simp at hb
      · cases b <;> cases b' <;> simp at hb hb' ⊢
      · obtain rfl : i = 0 := by omega
        rw [hp] at hq; cases hq
        exact hso hk
      · simp only [RelL, RelV]
        exact ⟨_, [], rfl, ⟨p, hp, by omega, a, c, rfl, hpc, ha⟩, rfl⟩
    rw [hP]
    by_cases hl0 : l.length = 0
    · have hl : l = [] := List.eq_nil_of_length_eq_zero hl0
      have hj0 : j = 0 := by omega
      have hi0' : i = 0 := by omega
      subst hj0; subst hi0'
      have : (Value.slice a p.n c) = .slice a 0 c := by rw [hpn, hl0]
      rw [this]
      refine Calls.mono (Tryz.slices_Delete_string_empty a c w) ?_
      rintro e w' ⟨rfl, rfl⟩
      have := fin w' rfl rfl rfl rfl (fun _ _ => rfl) (by rw [hl']; subst hl; simpa using hrow) (fun hk => by
        obtain ⟨_, _, cs, ty, g1, _⟩ := row_sv hrow hk
        exact .inr ⟨cs, cs, ty, g1, g1, rfl, fun _ _ => rfl⟩)
      rw [hl0] at this
      have e : (0 : Nat) - ((0 : Int).toNat - (0 : Int).toNat) = 0 := rfl
      rw [e] at this
      rw [hl'] at this
      subst hl
      exact this
    · have hcz : c ≠ 0 := by omega
      obtain ⟨hk, rfl, hcap⟩ := ha.resolve_left hcz
      obtain ⟨hs, hn, cs, ty, g1, g2, g3, gm, g4⟩ := row_sv hrow hk
      have hij' : i.toNat ≤ j.toNat := by omega
      have hi' : (i.toNat : Int) = i := Int.toNat_of_nonneg hi0
      have hj' : (j.toNat : Int) = j := Int.toNat_of_nonneg (by omega)
      have hcell : ∀ q, q < l.length → w.cell? ⟨p.B, p.O + q, none⟩ = some (.string ⟨(l.getD q []).toArray⟩) := fun q hq => by
        have := g4 q _ (List.getElem?_eq_getElem hq)
        simp [World.cell?, g1, this, List.getD, List.getElem?_eq_getElem hq]
      have hso : Lib.strsOf (fun q => ⟨(l.getD q []).toArray⟩) l.length = l := by
        unfold Lib.strsOf
        apply List.ext_getElem (by simp)
        intro q h1 h2
        simp [List.getD, List.getElem?_eq_getElem h2]
      have hcall := Tryz.slices_Delete_string_cells p.B p.O l.length c i.toNat j.toNat (fun q => ⟨(l.getD q []).toArray⟩) w (by omega) (by rw [hs] at hcap; unfold capMax at gm; omega) hij' (by omega) hcell (fun q hq => by simp [World.frozen?, g1])
      rw [hi', hj', hso] at hcall
      rw [hpn]
      refine Calls.mono hcall ?_
      rintro e w' ⟨rfl, q, rfl⟩
      have g1' : (w.drewN q).heap[p.B]? = some (.cells cs ty (0, 0)) := g1
      obtain ⟨cs', k1, k2, k3, k4, k5, k6, k7, k8⟩ := setCells_row (l'.map sv) p.B p.O (w.drewN q) g1' (by simp [hll]; omega)
      have he : (l.take i.toNat ++ l.drop j.toNat ++ List.replicate (j.toNat - i.toNat) []).map encStr = l'.map sv := by rw [hl']
      rw [he]
      have := fin ((w.drewN q).setCells p.B p.O (l'.map sv)) k6 k7 k8 k5 (fun B hB => k4 B (hB hk)) (row_of_sv hs (by rw [hn, hll]) k1 (by rw [k2]; exact g2) (by rw [k2]; exact g3) (by rw [k2]; exact gm) (fun r x hr => by
        have hrl := (List.getElem?_eq_some_iff.1 hr).1
        rw [k3, if_pos (by simp; omega), show p.O + r - p.O = r from by omega]
        simp [hr]) hk) (fun _ => .inr ⟨cs, cs', ty, g1, k1, k2, fun o ho => by rw [k3, if_neg (by simp [hll]; rw [hs] at ho; omega)]⟩)
      subst hl'
      exact this⟩
theorem slices_Insert_good : Good V 130 slices_Insert_string_string_C :=
  ⟨⟨_, hP ▸ Tryz.func130, by decide, rfl⟩, fun (x : List (List UInt8) × Int × List (List UInt8) × Unit) y o hx w I β vs hG hgb hctx hargs => by
    obtain ⟨v, v', v2, rfl, h1, h2, h3⟩ := rel3 hargs
    obtain rfl := rel_int h2
    obtain ⟨l, i, vl, u⟩ := x
    obtain ⟨hm, hx⟩ := grd_some' hx
    cases hx
    simp only [Bool.and_eq_true, decide_eq_true_eq] at hm
    obtain ⟨⟨⟨hi0, hil⟩, hmx⟩, hv0⟩ := hm
    replace hil : i ≤ (l.length : Int) := hil
    replace hmx : l.length + vl.length ≤ 68719476736 := hmx
    replace hv0 : 0 < vl.length := hv0
    replace h1 : RelV (rdW w) I β (.vw 0) v := h1
    simp only [RelV] at h1
    obtain ⟨p, hp, a, c, rfl, hpc, ha⟩ := h1
    obtain ⟨p', hp', hbk, hrow⟩ := hctx.rows 0 (.typed .str l) rfl
    rw [hp] at hp'; cases hp'
    have hpn : p.n = l.length := hrow.2.1
    replace h3 : RelV (rdW w) I β (.sl .str false vl) v2 := h3
    simp only [RelV] at h3
    obtain ⟨va, vc, rfl, hvc, hv1⟩ := sl_sv h3.1
    obtain ⟨vb, voff, rfl, hIv, hrd⟩ := hv1 (by intro e; rw [e] at hv0; simp at hv0)
    have hvcell := sv_reads (I := I) hrd
    have hvs : ∀ (j : Nat) v, (vl.map sv)[j]? = some v → w.cell? ⟨vb, voff + j, none⟩ = some v := fun j v hj => by
      simp only [List.getElem?_map, Option.map_eq_some_iff] at hj
      obtain ⟨x, hx, rfl⟩ := hj
      exact hvcell j x hx
    obtain ⟨n, hn⟩ : ∃ n, n = l.length := ⟨_, rfl⟩
    obtain ⟨k, hk⟩ : ∃ k, k = i.toNat := ⟨_, rfl⟩
    have hki : i = (k : Int) := by omega
    obtain ⟨l', hl'⟩ : ∃ l', l' = l.take i.toNat ++ vl ++ l.drop i.toNat := ⟨_, rfl⟩
    have hll : l'.length = l.length + vl.length := by rw [hl']; simp; omega
    show Calls V.P _ _ _ fun e w' => ∃ (us : List Value) (I' : Nat → Prop) (β' : Nat → Option Place), e = .returned (valOf us) ∧ FrmC w w' (live (rowsIn [.own .str, .val (.int .i64), .val (.sl .str)] (l, i, vl, u)) β) ∧
          OutOK w w' V.gb I β (rowsIn [.own .str, .val (.int .i64), .val (.sl .str)] (l, i, vl, u)) [some (.typed .str (l.take i.toNat ++ vl ++ l.drop i.toNat))] 0 I' β' ∧ RelL (rdW w') I' β' [.vw 0] us
    rw [← hl']
    have fresh : ∀ (w' : World) (cap : Nat) (cur : Array Value) (ty : TypeId), Ext w w' → w'.heap[w.heap.size]? = some (.cells cur ty (0, 0)) → l'.length ≤ cap → cap ≤ cur.size → cur.size ≤ capMax → (∀ (r : Nat) x, l'[r]? = some x → cur[r]? = some (sv x)) →
        ∃ (us : List Value) (I' : Nat → Prop) (β' : Nat → Option Place), Ending.returned (.slice (some ⟨w.heap.size, 0, none⟩) (l.length + vl.length) cap) = .returned (valOf us) ∧ FrmC w w' (live (rowsIn [.own .str, .val (.int .i64), .val (.sl .str)] (l, i, vl, u)) β) ∧
          OutOK w w' V.gb I β (rowsIn [.own .str, .val (.int .i64), .val (.sl .str)] (l, i, vl, u)) [some (.typed .str l')] 0 I' β' ∧ RelL (rdW w') I' β' [.vw 0] us := fun w' cap cur ty hext hh h1 h2 h3 h4 =>
      out_own (ps := [.own .str, .val (.int .i64), .val (.sl .str)]) (x := (l, i, vl, u)) rfl hctx hgb hext (.inr ⟨_, cap, cur, ty, by rw [hll], Nat.le_refl _, hh, h1, h2, h3, h4⟩)
    have place : ∀ (w' : World) (cs' : Array Value) (ty : TypeId), p.backed = true → p.s = 1 → w'.os = w.os → w'.tape = w.tape → w'.output = w.output → w'.heap.size = w.heap.size → (∀ B, B ≠ p.B → w'.heap[B]? = w.heap[B]?) → w'.heap[p.B]? = some (.cells cs' ty (0, 0)) → cs'.size = p.z → cs'.size ≤ capMax → a = some ⟨p.B, p.O, none⟩ → l'.length ≤ c → p.O + c ≤ p.z →
        (∀ (r : Nat) x, l'[r]? = some x → cs'[p.O + r]? = some (sv x)) →
        ∃ (us : List Value) (I' : Nat → Prop) (β' : Nat → Option Place), Ending.returned (.slice a (l.length + vl.length) c) = .returned (valOf us) ∧ FrmC w w' (live (rowsIn [.own .str, .val (.int .i64), .val (.sl .str)] (l, i, vl, u)) β) ∧
          OutOK w w' V.gb I β (rowsIn [.own .str, .val (.int .i64), .val (.sl .str)] (l, i, vl, u)) [some (.typed .str l')] 0 I' β' ∧ RelL (rdW w') I' β' [.vw 0] us := by
      intro w' cs' ty hb hs e1 e2 e3 e4 e5 hh hz hcm ha' hlc hcz hx
      have hlive : live (rowsIn [.own .str, .val (.int .i64), .val (.sl .str)] (l, i, vl, u)) β p.B := ⟨0, .typed .str l, p, rfl, hp, hb, rfl⟩
      refine ⟨[_], I, fun j => if j = 0 then some { p with n := l'.length } else none, rfl, ⟨e1, e2, e3, Nat.le_of_eq e4.symm, fun B hB hnl => e5 B fun e => hnl (e ▸ hlive)⟩, ⟨⟨fun b r hb' => ?_, fun b b' r r' q q' hb hb' => ?_, fun B hB => ⟨by rw [e4]; exact (hctx.imm B hB).1, ?_⟩, fun b hb' => ?_⟩, fun B hB => .inl hB, fun b r q hb' hq hk => ?_, fun i hi => by cases hi⟩, ?_⟩
      · cases b with
        | zero => cases hb'; exact ⟨_, rfl, fun _ => by rw [e4]; exact hbk hb, row_of_sv hs rfl hh (by simp only; omega) hz hcm hx hb⟩
        | succ b => simp at hb'
      · cases b <;> cases b' <;> simp at hb hb' ⊢
      · rintro ⟨b, r, q, hb', hq, hk, rfl⟩
        cases b with
        | zero => cases hq; exact (hctx.imm _ hB).2 hlive
        | succ b => simp at hb'
      · simp at hb'
        exact if_neg (by omega)
      · cases b with
        | zero => cases hq; exact .inl hlive
        | succ b => simp at hb'
      · simp only [RelL, RelV]
        exact ⟨_, [], rfl, ⟨_, rfl, a, c, by rw [hll], hlc, .inr ⟨hb, ha', by simp only [hs]; omega⟩⟩, rfl⟩
    have bigv : (l.length + vl.length) * 16 ≤ 140737488355328 := by omega
    have hlsv : ∀ (r : Nat) v, (l.map sv)[r]? = some v → p.backed = true → w.cell? ⟨p.B, p.O + r, none⟩ = some v := fun r v hr hb => by
      obtain ⟨hs, hn, cs, ty, g1, g2, g3, gm, g4⟩ := row_sv hrow hb
      simp only [List.getElem?_map, Option.map_eq_some_iff] at hr
      obtain ⟨x, hx, rfl⟩ := hr
      simp [World.cell?, g1, g4 r x hx]
    have hgc := fun n => grownCap_le_maxLen w (l.length + vl.length) c n (by unfold maxLen; omega)
    have hgg := fun n => grownCap_ge w (l.length + vl.length) c n
    rw [hP, hpn]
    subst hki
    by_cases hend : k = l.length
    · subst hend
      have hl2 : l' = l ++ vl := by rw [hl']; simp
      by_cases hroom : l.length + vl.length ≤ c
      · obtain ⟨hb, rfl, hcap⟩ := ha.resolve_left (by omega)
        obtain ⟨hs, hn', cs, ty, g1, g2, g3, gm, g4⟩ := row_sv hrow hb
        rw [hs] at hcap
        have hcall := Any2.slices_Insert_string_end_room Tryz.laysIns p.B p.O l.length c vb voff vl.length vc (vl.map sv) w hv0 hroom (by unfold capMax at gm; omega) (by simp) (fun j hj => by simp [World.cell?, g1]; omega) (fun j hj => by simp [World.frozen?, g1]) hvs (sv_plain _)
        refine Calls.mono hcall ?_
        rintro e w' ⟨rfl, rfl⟩
        obtain ⟨cs', k1, k2, k3, k4, k5, k6, k7, k8⟩ := setCells_row (vl.map sv) p.B (p.O + l.length) w g1 (by simp; omega)
        refine place _ cs' ty hb hs k6 k7 k8 k5 k4 k1 (by rw [k2]; exact g3) (by rw [k2]; exact gm) rfl (by rw [hll]; exact hroom) (by omega) fun r x hr => ?_
        rw [k3]
        rw [hl2] at hr
        by_cases hrl : r < l.length
        · rw [if_neg (by omega)]
          rw [List.getElem?_append_left hrl] at hr
          exact g4 r x hr
        · have hr2 := (List.getElem?_eq_some_iff.1 hr).1
          rw [List.getElem?_append_right (by omega)] at hr
          rw [if_pos (by simp at hr2 ⊢; omega), show p.O + r - (p.O + l.length) = r - l.length from by omega]
          simp [hr]
      · have hcall := Any2.slices_Insert_string_end_grow Tryz.laysIns a l.length c vb voff vl.length vc (l.map sv) (vl.map sv) w hv0 (by omega) (by omega) bigv (by simp) (by simp) (fun e => by
          rcases ha with h0 | ⟨_, h0, _⟩
          · omega
          · rw [e] at h0; cases h0) (fun ad e r v hr => by
          rcases ha with h0 | ⟨hb, h0, _⟩
          · have := (List.getElem?_eq_some_iff.1 hr).1; simp at this; omega
          · rw [e] at h0; cases h0; rw [Addr.add_lit]; exact hlsv r v hr hb) hvs (sv_plain _)
        refine Calls.mono hcall ?_
        rintro e w' ⟨rfl, rfl⟩
        have hgl := hgg (Tryz.laysIns_ren.t 9)
        have hgm := hgc (Tryz.laysIns_ren.t 9)
        unfold maxLen at hgm
        refine fresh _ _ _ _ ((Ext.drew w).trans (Ext.alloc _ _)) (World.alloc_heap_new w.drew _) (by rw [hll]; exact hgl) (by simp [Builtin.zeroCells, Value.cells]; omega) (by simp [Builtin.zeroCells, Value.cells]; unfold capMax; omega) fun r x hr => ?_
        rw [hl2] at hr
        have hr2 := (List.getElem?_eq_some_iff.1 hr).1
        rw [Array.getElem?_append_left (by simp at hr2 ⊢; omega), List.getElem?_toArray, ← List.map_append, List.getElem?_map, hr]
        rfl
    · have hkl : k < l.length := by omega
      have hl2 : ∀ (r : Nat) x, l'[r]? = some x → if r < k then l[r]? = some x else if r < k + vl.length then vl[r - k]? = some x else l[r - vl.length]? = some x := fun r x hr => by
        rw [hl', Int.toNat_natCast, List.append_assoc] at hr
        split
        · rename_i h; rw [List.getElem?_append_left (by simp; omega), List.getElem?_take, if_pos h] at hr; exact hr
        · rename_i h
          rw [List.getElem?_append_right (by simp; omega)] at hr
          have hmk : min k l.length = k := by omega
          simp only [List.length_take, hmk] at hr
          split
          · rename_i h'; rw [List.getElem?_append_left (by omega)] at hr; exact hr
          · rename_i h'
            rw [List.getElem?_append_right (by omega), List.getElem?_drop, show k + (r - k - vl.length) = r - vl.length from by omega] at hr
            exact hr
      obtain ⟨hb, rfl, hcap⟩ := ha.resolve_left (by omega)
      obtain ⟨hs, hn', cs, ty, g1, g2, g3, gm, g4⟩ := row_sv hrow hb
      rw [hs] at hcap
      by_cases hroom : l.length + vl.length ≤ c
      · obtain ⟨csv, hcsv⟩ : ∃ x, w.cell? ⟨vb, voff + 0, none⟩ = some x := ⟨_, hvcell 0 _ (List.getElem?_eq_getElem hv0)⟩
        obtain ⟨tA, kA, hsA⟩ : ∃ tA kA, w.shape? vb = some (tA, kA + 1) := by
          unfold World.cell? at hcsv
          split at hcsv
          · rename_i c0 ty0 fr0 hh
            have : voff + 0 < c0.size := by
              have := hcsv
              simp at this
              exact (Array.getElem?_eq_some_iff.1 this).1
            exact ⟨ty0, c0.size - 1, by simp [World.shape?, hh]; omega⟩
          · cases hcsv
        have hvne : vb ≠ p.B := fun e => (hctx.imm vb hIv).2 ⟨0, .typed .str l, p, rfl, hp, hb, e.symm⟩
        have hcall := Tryz.Insert_shift p.B p.O l.length c k vb voff vl.length vc (l.map sv) (vl.map sv) w hkl hv0 hroom (by unfold capMax at gm; omega) hvne (by simp) (by simp) (fun j v hj => hlsv j v hj hb) (fun j hj => by simp [World.cell?, g1]; omega) (fun j => by simp [World.frozen?, g1]) hvs (sv_plain _) (sv_plain _) tA ty kA cs.size hsA (by simp [World.shape?, g1])
        refine Calls.mono hcall ?_
        rintro e w' ⟨rfl, rfl⟩
        have g1' : w.drew.heap[p.B]? = some (.cells cs ty (0, 0)) := g1
        obtain ⟨cs1, k1, k2, k3, k4, k5, k6, k7, k8⟩ := setCells_row ((l.map sv).drop k) p.B (p.O + (k + vl.length)) w.drew g1' (by simp; omega)
        obtain ⟨cs2, j1, j2, j3, j4, j5, j6, j7, j8⟩ := setCells_row (vl.map sv) p.B (p.O + k) _ k1 (by rw [k2]; simp; omega)
        refine place _ cs2 ty hb hs (j6.trans k6) (j7.trans k7) (j8.trans k8) (j5.trans k5) (fun B hB => (j4 B hB).trans (k4 B hB)) j1 (by rw [j2, k2]; exact g3) (by rw [j2, k2]; exact gm) rfl (by rw [hll]; exact hroom) (by omega) fun r x hr => ?_
        have hr2 := (List.getElem?_eq_some_iff.1 hr).1
        rw [hll] at hr2
        have h := hl2 r x hr
        rw [j3, k3]
        split at h
        · rw [if_neg (by omega), if_neg (by omega)]; exact g4 r x h
        · split at h
          · rw [if_pos (by simp; omega), show p.O + r - (p.O + k) = r - k from by omega]; simp [h]
          · rw [if_neg (by simp; omega), if_pos (by simp; omega), List.getElem?_drop, show k + (p.O + r - (p.O + (k + vl.length))) = r - vl.length from by omega]; simp [h]
      · have hcall := Any2.slices_Insert_string_grow Tryz.laysIns p.B p.O l.length c k vb voff vl.length vc (l.map sv) (vl.map sv) w hkl hv0 (by omega) (by omega) bigv (by simp) (by simp) (fun j v hj => hlsv j v hj hb) hvs (sv_plain _) (sv_plain _)
        refine Calls.mono hcall ?_
        rintro e w' ⟨rfl, rfl⟩
        have hgl := hgg (Tryz.laysIns_ren.t 9)
        have hgm := hgc (Tryz.laysIns_ren.t 9)
        unfold maxLen at hgm
        obtain ⟨W0, hW0⟩ : ∃ W0, W0 = (w.alloc (.cells (((l.map sv).take k).toArray ++ Builtin.zeroCells (Value.string ⟨#[]⟩).cells (l.length + vl.length - k) ++ Builtin.zeroCells (Value.string ⟨#[]⟩).cells (grownCap w (l.length + vl.length) c (Tryz.laysIns_ren.t 9) - (l.length + vl.length))) (Tryz.laysIns_ren.t 9))).drew := ⟨_, rfl⟩
        have hh0 : W0.heap[w.heap.size]? = some (.cells (((l.map sv).take k).toArray ++ Builtin.zeroCells (Value.string ⟨#[]⟩).cells (l.length + vl.length - k) ++ Builtin.zeroCells (Value.string ⟨#[]⟩).cells (grownCap w (l.length + vl.length) c (Tryz.laysIns_ren.t 9) - (l.length + vl.length))) (Tryz.laysIns_ren.t 9) (0, 0)) := by rw [hW0]; exact World.alloc_heap_new w _
        rw [← hW0]
        have hsz0 : (((l.map sv).take k).toArray ++ Builtin.zeroCells (Value.string ⟨#[]⟩).cells (l.length + vl.length - k) ++ Builtin.zeroCells (Value.string ⟨#[]⟩).cells (grownCap w (l.length + vl.length) c (Tryz.laysIns_ren.t 9) - (l.length + vl.length))).size = grownCap w (l.length + vl.length) c (Tryz.laysIns_ren.t 9) := by
          simp [Builtin.zeroCells, Value.cells]; omega
        obtain ⟨cs1, k1, k2, k3, k4, k5, k6, k7, k8⟩ := setCells_row (vl.map sv) w.heap.size k W0 hh0 (by rw [hsz0]; simp; omega)
        obtain ⟨cs2, j1, j2, j3, j4, j5, j6, j7, j8⟩ := setCells_row ((l.map sv).drop k) w.heap.size (k + vl.length) (W0.setCells w.heap.size k (vl.map sv)).drew k1 (by rw [k2, hsz0]; simp; omega)
        have hextW : Ext w W0 := by rw [hW0]; exact (Ext.alloc w _).trans (Ext.drew _)
        refine fresh _ _ cs2 _ ⟨j6.trans (k6.trans hextW.os), j7.trans (k7.trans hextW.tape), j8.trans (k8.trans hextW.output), by
          have := hextW.size
          have e1 : (W0.setCells w.heap.size k (vl.map sv)).drew.heap.size = (W0.setCells w.heap.size k (vl.map sv)).heap.size := rfl
          omega, fun B hB => (j4 B (by omega)).trans ((k4 B (by omega)).trans (hextW.block B hB))⟩ j1 (by rw [hll]; exact hgl) (by rw [j2, k2, hsz0]; exact Nat.le_refl _) (by rw [j2, k2, hsz0]; unfold capMax; omega) fun r x hr => ?_
        have hr2 := (List.getElem?_eq_some_iff.1 hr).1
        rw [hll] at hr2
        have h := hl2 r x hr
        rw [j3, k3]
        split at h
        · rw [if_neg (by omega), if_neg (by omega), Array.append_assoc, Array.getElem?_append_left (by simp; omega), List.getElem?_toArray, List.getElem?_take, if_pos (by assumption)]; simp [h]
        · split at h
          · rw [if_neg (by simp; omega), if_pos (by simp; omega)]; simp [h]
          · rw [if_pos (by simp; omega), List.getElem?_drop, show k + (r - (k + vl.length)) = r - vl.length from by omega]; simp [h]⟩
end
end Go.AM.Num
end
section
namespace Go.Lib
open Go
variable {P : Program} (w : World)
theorem liesAt_off {e : TypeId} (hc : P.cellsOf e = 1) (count off n : Nat) (hn : off + n ≤ count) : liesAt P P.depth e count off e n = true := by
  have hd : P.depth = (2 * (P.types.size + Made.depth) + 1) + 1 := rfl
  rw [hd]
  simp only [liesAt, Bool.or_eq_true]
  left
  rw [hd]
  simp [rowAt, hc, hn, sameLayout, Nat.mod_one]
theorem run_loadBytes2 : ∀ (l : List Int) (a : Addr) (acc : ByteArray), (∀ (j : Nat) x, l[j]? = some x → w.cell? (a.add j) = some (.int .u8 x)) →
    (loadBytes a acc l.length).run P w = .ok ⟨acc.data ++ (l.map fun n => UInt8.ofNat n.toNat).toArray⟩ w
  | [], a, acc, _ => by simp [loadBytes]
  | x :: l, a, acc, h => by
    have h0 : w.cell? a = some (.int .u8 x) := by
      have := h 0 x rfl
      simpa [Addr.add] using this
    have ih := run_loadBytes2 l (a.add 1) (acc.push (UInt8.ofNat x.toNat)) (fun j y hy => by
      have := h (j + 1) y (by simpa using hy)
      have e : (a.add 1).add j = a.add (j + 1) := by
        unfold Addr.add
        by_cases hj : j = 0
        · subst hj; simp
        · simp [hj]; omega
      rw [e]; exact this)
    have hx : (x.toNat).toUInt8 = UInt8.ofNat x.toNat := rfl
    simp only [List.length_cons, loadBytes, Sem.run_bind, run_load, h0, Result.andThen, hx]
    rw [ih]
    congr 1
    apply ByteArray.ext
    simp [ByteArray.push]

theorem run_unsafeString_at (pt it ty e : TypeId) (hp : P.underlying pt = some (.pointer e)) (hc : P.cellsOf e = 1) (g off cells : Nat) (hsh : w.shape? g = some (e, cells)) (l : List Int) (h0 : l ≠ []) (hn : off + l.length ≤ cells) (h63 : l.length ≤ 9223372036854775807)
    (hcell : ∀ (j : Nat) x, l[j]? = some x → w.cell? ((⟨g, off, none⟩ : Addr).add j) = some (.int .u8 x)) :
    (Builtin.unsafeString_ #[pt, it] ty #[.pointer (some ⟨g, off, none⟩), .int .i64 l.length]).run P w = .ok (.string ⟨(l.map fun n => UInt8.ofNat n.toNat).toArray⟩) (w.freeze ⟨g, off, none⟩ l.length) := by
  have hl : l.length ≠ 0 := by simpa using h0
  have hlb := run_loadBytes2 (P := P) w l ⟨g, off, none⟩ .empty hcell
  have hlies := liesAt_off (P := P) hc (cells / P.cellsOf e) off l.length (by rw [hc]; simpa using hn)
  have h63' : ¬ (9223372036854775807 : Int) < (l.length : Int) := by omega
  have hdef : Builtin.unsafeString_ #[pt, it] ty #[.pointer (some ⟨g, off, none⟩), .int .i64 l.length] =
      (do
        let n ← asInt (.int .i64 l.length)
        if n < 0 then runtimePanic (.error "unsafe.String: len out of range")
        if n > IntKind.i64.max then unsupported (.unsafePointer "String: a length above the largest int")
        if n = 0 then pure (.string .empty)
        else if ← variablesAt ⟨g, off, none⟩ (← elemOf pt) n.toNat then do
          let s ← loadBytes ⟨g, off, none⟩ .empty n.toNat
          freeze ⟨g, off, none⟩ n.toNat
          pure (.string s)
        else unsupported (.unsafePointer "String: not so many bytes at ptr")) := rfl
  rw [hdef]
  have hmax : IntKind.i64.max = 9223372036854775807 := rfl
  have hneg : ¬ (l.length : Int) < 0 := by omega
  simp [asInt, asIntOf, hmax, h63', hneg, hl, variablesAt, hsh, elemOf, run_underlying hp, hlies, hlb]
end Go.Lib
namespace Go.Proofs
open Go.Shelf Go.RowKit Go.Lib
set_option maxHeartbeats 2000000 in
set_option maxRecDepth 100000 in
theorem Tryz.Builder_String_at (b g off cap : Nat) (p : Value) (cur : Array Value) (l : List Int) (w : World) (h0 : l ≠ []) (hbk : w.heap[b]? = some (.cells #[p, .slice (some ⟨g, off, none⟩) l.length cap] 150 (0, 0))) (hg : w.heap[g]? = some (.cells cur 5 (0, 0))) (hfit : off + l.length ≤ cur.size) (hcap : l.length ≤ cap) (hsm : l.length ≤ 9223372036854775807)
    (hc : ∀ (j : Nat) x, l[j]? = some x → cur[off + j]? = some (.int .u8 x)) :
    Calls Tryz.prog 119 #[.pointer (some ⟨b, 0, none⟩)] w fun e w' => e = .returned (.string ⟨(l.map fun n => UInt8.ofNat n.toNat).toArray⟩) ∧ ∃ W : World, W.heap = w.heap ∧ W.os = w.os ∧ W.tape = w.tape ∧ W.output = w.output ∧ w' = W.freeze ⟨g, off, none⟩ l.length := by
  have hl0 : l.length ≠ 0 := by simpa using h0
  have c1 : w.drew.cell? ⟨b, 1, none⟩ = some (.slice (some ⟨g, off, none⟩) l.length cap) := by
    have : w.drew.heap[b]? = some (.cells #[p, .slice (some ⟨g, off, none⟩) l.length cap] 150 (0, 0)) := hbk
    rw [Lib.cell_of_heap this]; rfl
  have hSD : (Builtin.unsafeSliceData_ #[120] 206 #[.slice (some ⟨g, off, none⟩) l.length cap]).run Tryz.prog w.drew = .ok (.pointer (some ⟨g, off, none⟩)) w.drew :=
    Lib.run_unsafeSliceData_row _ _ _ _ _ _ (by omega)
  have hUS : (Builtin.unsafeString_ #[206, 3] 9 #[.pointer (some ⟨g, off, none⟩), .int .i64 l.length]).run Tryz.prog w.drew = .ok (.string ⟨(l.map fun n => UInt8.ofNat n.toNat).toArray⟩) (w.drew.freeze ⟨g, off, none⟩ l.length) := by
    have hg' : w.drew.heap[g]? = some (.cells cur 5 (0, 0)) := hg
    refine Lib.run_unsafeString_at w.drew 206 3 9 5 Tryz.underlying206 (by kernel_rfl) g off cur.size (by simp [World.shape?, hg']) l h0 hfit hsm ?_
    intro j x hx
    rw [Addr.add_lit, Lib.cell_of_heap hg']
    exact hc j x hx
  have mixed : Tryz.prog.follows .mixedOrders = true := by kernel_rfl
  go_enter Tryz.func119, Tryz.ntmps119
  go_wp2
  go_region_o
  all_goals (go_wp2; go_ret; exact ⟨rfl, w.drew, rfl, rfl, rfl, rfl, rfl⟩)

theorem Tryz.layB : (∃ j, Tryz.prog.info? 150 = some j ∧ j.size = 2) := Option.map_eq_some_iff.1 (show (Tryz.prog.info? 150).map (·.size) = some 2 by kernel_rfl)
set_option maxHeartbeats 1000000 in
set_option maxRecDepth 100000 in
theorem Tryz.copyCheck_used (b : Nat) (w : World) (h0 : w.cell? ⟨b, 0, none⟩ = some (.pointer (some ⟨b, 0, none⟩))) :
    Calls Tryz.prog 231 #[.pointer (some ⟨b, 0, none⟩)] w fun e w' => e = .returned (.tuple #[]) ∧ w' = w := by
  obtain ⟨j, hj, _⟩ := Tryz.layB
  have mixed : Tryz.prog.follows .mixedOrders = true := by kernel_rfl
  go_enter Tryz.func231, Tryz.ntmps231
  go_wp2
  rw [Lib.run_neq_ptr_same w _ Tryz.underlying148 hj]
  go_wp2
  go_end0
  exact ⟨rfl, rfl⟩
set_option maxHeartbeats 1000000 in
set_option maxRecDepth 100000 in
theorem Tryz.copyCheck_fresh (b : Nat) (w : World) (h0 : w.cell? ⟨b, 0, none⟩ = some (.pointer none)) (hsh : w.shape? b = some (150, 2)) (hfz : w.frozen? ⟨b, 0, none⟩ = false) :
    Calls Tryz.prog 231 #[.pointer (some ⟨b, 0, none⟩)] w fun e w' => e = .returned (.tuple #[]) ∧ w' = w.setCell ⟨b, 0, none⟩ (.pointer (some ⟨b, 0, none⟩)) := by
  obtain ⟨j, hj, hjs⟩ := Tryz.layB
  have mixed : Tryz.prog.follows .mixedOrders = true := by kernel_rfl
  go_enter Tryz.func231, Tryz.ntmps231
  go_wp2
  rw [Lib.run_to_unsafe w ⟨b, 0, none⟩ Tryz.underlying148 Tryz.underlying307 hj (by rw [hjs]; decide) hsh (Nat.zero_lt_succ 1)]
  simp only [Result.andThen]
  rw [Oper.upon_value]
  go_wp2
  rw [run_callFunc_extern Tryz.func292 (by kernel_rfl) (by kernel_rfl) (by kernel_rfl) (e := Extern.AbiNoEscape.same) (by kernel_rfl)]
  rw [Lib.run_noEscape]
  simp only [Result.andThen]
  rw [Oper.upon_value]
  go_wp2
  rw [Lib.run_from_unsafe w ⟨b, 0, none⟩ Tryz.underlying307 Tryz.underlying148 hj hsh (by kernel_rfl)]
  simp only [Result.andThen]
  rw [Oper.upon_value]
  go_wp2
  go_end0
  exact ⟨rfl, rfl⟩
end Go.Proofs
end
section
namespace Go.AM.Num
open Go.Proofs Go.RowKit Go.Lib
theorem cells2 {cs : Array Value} {u0 u1 : Value} (hs : cs.size = 2) (h0 : cs[0]? = some u0) (h1 : cs[1]? = some u1) : cs = #[u0, u1] := by
  obtain ⟨l⟩ := cs
  match l, hs with
  | [a, b], _ => simp at h0 h1; rw [h0, h1]

theorem bld_row {w : World} {I : Nat → Prop} {β : Nat → Option Place} {p : Place} {k j : Nat} (hp : β k = some p) (h : RowRel w I β p (.cells [.selfp k, .vw j])) :
    p.backed = true ∧ p.O = 0 ∧ ∃ u0 u1, w.heap[p.B]? = some (.cells #[u0, u1] bldT (0, 0)) ∧ (u0 = .pointer none ∨ u0 = .pointer (some ⟨p.B, 0, none⟩)) ∧ RelV (rdW w) I β (.vw j) u1 ∧ p.s = 2 ∧ p.n = 1 ∧ p.z = 2 := by
  obtain ⟨h1, h2, h3, cs, ty, g1, ⟨g2, g3, g4⟩, us, g5, g6, g7, g8⟩ := h
  obtain ⟨rfl, hO, hsz⟩ := g4 rfl
  simp only [RelL] at g7
  obtain ⟨u0, us', rfl, r0, u1, us2, rfl, r1, rfl⟩ := g7
  have e0 := g6 0 (by simp)
  have e1 := g6 1 (by simp)
  rw [hO] at e0 e1
  obtain rfl := cells2 hsz (by simpa using e0) (by simpa using e1)
  refine ⟨h3, hO, u0, u1, g1, ?_, r1, h1, h2, by rw [← g3]; exact hsz⟩
  simp only [RelV] at r0
  rcases r0 with r0 | ⟨q, hq, _, r0⟩
  · exact .inl r0
  · rw [hp] at hq; cases hq; rw [hO] at r0; exact .inr r0
theorem bld_row_mk {w : World} {I : Nat → Prop} {β : Nat → Option Place} {p : Place} {k j : Nat} {u0 u1 : Value} (hp : β k = some p) (hb : p.backed = true) (hO : p.O = 0) (hs : p.s = 2) (hn : p.n = 1) (hz : p.z = 2) (hh : w.heap[p.B]? = some (.cells #[u0, u1] bldT (0, 0))) (h0 : u0 = .pointer none ∨ u0 = .pointer (some ⟨p.B, 0, none⟩)) (h1 : RelV (rdW w) I β (.vw j) u1) : RowRel w I β p (.cells [.selfp k, .vw j]) := by
  have hu0 : u0.oneCell' = true := by rcases h0 with rfl | rfl <;> rfl
  have hu1 : u1.oneCell' = true := by simp only [RelV] at h1; obtain ⟨_, _, _, _, rfl, _⟩ := h1; rfl
  refine ⟨hs, hn, hb, #[u0, u1], bldT, hh, ⟨by rw [hO]; simp, by rw [hz]; rfl, fun _ => ⟨rfl, hO, rfl⟩⟩, [u0, u1], rfl, fun i hi => ?_, ?_, by simp [hu0, hu1]⟩
  · rw [hO]; simp
  · simp only [RelL]
    refine ⟨u0, _, rfl, ?_, u1, _, rfl, h1, rfl⟩
    simp only [RelV]
    exact h0.imp id fun h => ⟨p, hp, hb, by rw [hO]; exact h⟩
theorem u8_row {w w' : World} {I : Nat → Prop} {β β' : Nat → Option Place} {p : Place} {l : List Int} (h : RowRel w I β p (.typed (.int .u8) l)) (hh : p.backed = true → w'.heap[p.B]? = w.heap[p.B]?) : RowRel w' I β' p (.typed (.int .u8) l) := by
  obtain ⟨h1, h2, h3, h4⟩ := h
  refine ⟨h1, h2, h3, fun hb => ?_⟩
  obtain ⟨cs, ty, g1, g2, g3⟩ := h4 hb
  refine ⟨cs, ty, (hh hb).trans g1, g2, fun i x hi => ?_⟩
  obtain ⟨us, u1, u2, u3⟩ := g3 i x hi
  exact ⟨us, u1, u2, by simpa only [RelC] using u3⟩
section
variable {V : Env} (hP : V.P = Tryz.prog)
include hP
theorem Builder_copyCheck_good : Good V 231 strings_Builder_copyCheck_C :=
  ⟨⟨_, hP ▸ Tryz.func231, by decide, rfl⟩, fun (x : (Unit × List Int) × Unit) y o hx w I β vs hG hgb hctx hargs => by
    obtain ⟨v, rfl, h1⟩ := rel1 hargs
    obtain ⟨⟨u, l⟩, u2⟩ := x
    cases hx
    replace h1 : RelV (rdW w) I β (.ptr 0 0 0) v := h1
    simp only [RelV] at h1
    obtain ⟨p, hp, hpb, rfl⟩ := h1
    obtain ⟨p', hp', hbk, hrow⟩ := hctx.rows 0 (.cells [.selfp 0, .vw 1]) rfl
    rw [hp] at hp'; cases hp'
    obtain ⟨hb, hO, u0, u1, hh, h0, hu1, hs, hn, hz⟩ := bld_row hp hrow
    have hc0 : w.cell? ⟨p.B, 0, none⟩ = some u0 := by simp [World.cell?, hh]
    rw [hP, show (⟨p.B, p.O + 0 * p.s + 0, none⟩ : Addr) = ⟨p.B, 0, none⟩ by rw [hO]; simp]
    let H : Heap := [some (.cells [.selfp 0, .vw 1]), some (.typed (.int .u8) l)]
    show Calls Tryz.prog _ _ _ fun e w' => ∃ (us : List Value) (I' : Nat → Prop) (β' : Nat → Option Place), e = .returned (valOf us) ∧ FrmC w w' (live H β) ∧ OutOK w w' V.gb I β H H 1 I' β' ∧ RelL (rdW w') I' β' [] us
    have hctx : Ctx V.gb w I β H := hctx
    have same : ∀ i, i < 1 → β i = β i ∧ ∀ q, β i = some q → q.backed = true → SameOut w w q := fun i hi => ⟨rfl, fun q hq hk => by
      obtain rfl : i = 0 := by omega
      rw [hp] at hq; cases hq
      exact .inr ⟨_, _, _, hh, hh, rfl, fun _ _ => rfl⟩⟩
    rcases h0 with rfl | rfl
    · refine Calls.mono (Tryz.copyCheck_fresh p.B w hc0 (by simp [World.shape?, hh]; rfl) (by simp [World.frozen?, hh])) ?_
      rintro e w' ⟨rfl, rfl⟩
      have hh' : (w.setCell ⟨p.B, 0, none⟩ (.pointer (some ⟨p.B, 0, none⟩))).heap[p.B]? = some (.cells #[.pointer (some ⟨p.B, 0, none⟩), u1] bldT (0, 0)) := by
        simp only [World.setCell, Array.getElem?_modify, hh]
        simp
      have hoth : ∀ B, B ≠ p.B → (w.setCell ⟨p.B, 0, none⟩ (.pointer (some ⟨p.B, 0, none⟩))).heap[B]? = w.heap[B]? := fun B hB => by
        simp only [World.setCell, Array.getElem?_modify]
        rw [if_neg (fun h => hB h.symm)]
      have hsz : (w.setCell ⟨p.B, 0, none⟩ (.pointer (some ⟨p.B, 0, none⟩))).heap.size = w.heap.size := by simp [World.setCell]
      refine ⟨[], I, β, rfl, ⟨rfl, rfl, rfl, Nat.le_of_eq hsz.symm, fun B hB hnl => hoth B fun e => hnl ⟨0, _, p, rfl, hp, hb, e.symm⟩⟩, ⟨⟨fun b r hbr => ?_, hctx.apart, fun B hB => ⟨by rw [hsz]; exact (hctx.imm B hB).1, (hctx.imm B hB).2⟩, hctx.dom⟩, fun B hB => .inl hB, fun b r q hbr hq hk => .inl ⟨b, r, q, hbr, hq, hk, rfl⟩, fun i hi => ⟨rfl, fun q hq hk => ?_⟩⟩, by simp only [RelL]⟩
      · cases b with
        | zero => cases hbr; exact ⟨p, hp, fun hk => by rw [hsz]; exact hbk hk, bld_row_mk hp hb hO hs hn hz hh' (.inr rfl) (by simpa only [RelV] using hu1)⟩
        | succ b => cases b with
          | zero =>
            cases hbr
            obtain ⟨q, hq, hqk, hqr⟩ := hctx.rows 1 _ rfl
            exact ⟨q, hq, fun hk => by rw [hsz]; exact hqk hk, u8_row hqr fun hk => hoth q.B fun e => by have := hctx.apart 1 0 _ _ q p rfl rfl hq hp hk hb e; cases this⟩
          | succ b => simp [H] at hbr
      · obtain rfl : i = 0 := by omega
        rw [hp] at hq; cases hq
        refine .inr ⟨_, _, _, hh, hh', rfl, fun o ho => ?_⟩
        rw [hO, hn, hs] at ho
        rw [Array.getElem?_eq_none (by simp; omega), Array.getElem?_eq_none (by simp; omega)]
    · refine Calls.mono (Tryz.copyCheck_used p.B w hc0) ?_
      rintro e w' ⟨rfl, rfl⟩
      exact ⟨[], I, β, rfl, ⟨rfl, rfl, rfl, Nat.le_refl _, fun _ _ _ => rfl⟩, ⟨hctx, fun B hB => .inl hB, fun b r q hbr hq hk => .inl ⟨b, r, q, hbr, hq, hk, rfl⟩, same⟩, by simp only [RelL]⟩⟩
theorem Builder_String_good : Good V 119 strings_Builder_String_C :=
  ⟨⟨_, hP ▸ Tryz.func119, by decide, rfl⟩, fun (x : (Unit × List Int) × Unit) y o hx w I β vs hG hgb hctx hargs => by
    obtain ⟨v, rfl, h1⟩ := rel1 hargs
    obtain ⟨⟨u, l⟩, u2⟩ := x
    obtain ⟨hm, hx⟩ := grd_some' hx
    cases hx
    simp only [decide_eq_true_eq] at hm
    replace hm : 0 < l.length := hm
    replace h1 : RelV (rdW w) I β (.ptr 0 0 0) v := h1
    simp only [RelV] at h1
    obtain ⟨p, hp, hpb, rfl⟩ := h1
    obtain ⟨p', hp', hbk, hrow⟩ := hctx.rows 0 (.cells [.selfp 0, .vw 1]) rfl
    rw [hp] at hp'; cases hp'
    obtain ⟨hb, hO, u0, u1, hh, h0, hu1, hs, hn, hz⟩ := bld_row hp hrow
    obtain ⟨q, hq, hqk, hqr⟩ := hctx.rows 1 (.typed (.int .u8) l) rfl
    simp only [RelV] at hu1
    obtain ⟨q', hq', a, c, rfl, hqc, ha⟩ := hu1
    rw [hq] at hq'; cases hq'
    obtain ⟨q1, q2, _, q4⟩ := hqr
    obtain ⟨hqb, rfl, _⟩ := ha.resolve_left (by omega)
    obtain ⟨cs, ty, g1, ⟨g2, g3, g4, g5⟩, g6⟩ := q4 hqb
    obtain rfl := g4 rfl
    have q1 : q.s = 1 := q1
    rw [q1, q2] at g2
    rw [hP, show (⟨p.B, p.O + 0 * p.s + 0, none⟩ : Addr) = ⟨p.B, 0, none⟩ by rw [hO]; simp]
    let H : Heap := [some (.cells [.selfp 0, .vw 1]), some (.typed (.int .u8) l)]
    show Calls Tryz.prog _ _ _ fun e w' => ∃ (us : List Value) (I' : Nat → Prop) (β' : Nat → Option Place), e = .returned (valOf us) ∧ FrmC w w' (live H β) ∧ OutOK w w' V.gb I β H [] 0 I' β' ∧ RelL (rdW w') I' β' [.str (l.map fun n => UInt8.ofNat n.toNat)] us
    have hcall := Tryz.Builder_String_at p.B q.B q.O c u0 cs l w (by intro e; rw [e] at hm; simp at hm) (by rw [← q2]; exact hh) g1 (by simpa using g2) (by rw [← q2]; exact hqc) (by have : cs.size ≤ capMax * 1 := g5; unfold capMax at this; omega) (fun j x hx => by
      obtain ⟨us, e1, e2, e3⟩ := g6 j x hx
      have := e2 0 (by decide)
      simp only [RelC] at e3
      subst e3
      simpa [GT.cells] using this)
    refine Calls.mono hcall ?_
    rintro e w' ⟨rfl, W, w1, w2, w3, w4, rfl⟩
    have hfz : ∀ B, B ≠ q.B → (W.freeze ⟨q.B, q.O, none⟩ l.length).heap[B]? = w.heap[B]? := fun B hB => by
      rw [← w1]
      unfold World.freeze
      split
      · rfl
      · simp only [Array.getElem?_modify]; rw [if_neg (fun h => hB h.symm)]
    have hfs : (W.freeze ⟨q.B, q.O, none⟩ l.length).heap.size = w.heap.size := by
      rw [← w1]; unfold World.freeze; split <;> simp
    have hfo : (W.freeze ⟨q.B, q.O, none⟩ l.length).os = w.os ∧ (W.freeze ⟨q.B, q.O, none⟩ l.length).tape = w.tape ∧ (W.freeze ⟨q.B, q.O, none⟩ l.length).output = w.output := by
      unfold World.freeze; split <;> exact ⟨w2, w3, w4⟩
    have hctx : Ctx V.gb w I β H := hctx
    refine ⟨[_], I, fun _ => none, rfl, ⟨hfo.1, hfo.2.1, hfo.2.2, Nat.le_of_eq hfs.symm, fun B hB hnl => hfz B fun e => hnl ⟨1, _, q, rfl, hq, hqb, e.symm⟩⟩, ⟨⟨fun b r hbr => by simp at hbr, fun b b' r r' q q' hb => by simp at hb, fun B hB => ⟨by rw [hfs]; exact (hctx.imm B hB).1, live_nil B⟩, fun _ _ => rfl⟩, fun B hB => .inl hB, fun b r q hbr => by simp at hbr, fun i hi => by cases hi⟩, ?_⟩
    simp only [RelL]
    exact ⟨_, [], rfl, str_rel _, rfl⟩⟩
end
end Go.AM.Num
end
section
namespace Go.AM.Num

section
variable {ρ : Type}
theorem grd_ne {x y : Int} (h : x ≠ y) (k : Option ρ) : grd (x != y) k = k := by
  have : (x != y) = true := by simpa using h
  rw [this]; rfl
theorem cond_t {α : Type} (a b : α) : cond true a b = a := rfl
theorem cond_dt {α : Type} {p : Prop} {_ : Decidable p} (h : p) (a b : α) : cond (decide p) a b = a := by rw [decide_eq_true h]; rfl
theorem cond_df {α : Type} {p : Prop} {_ : Decidable p} (h : ¬ p) (a b : α) : cond (decide p) a b = b := by rw [decide_eq_false h]; rfl
theorem cond_ef {α : Type} {x y : Int} (h : x ≠ y) (a b : α) : cond (x == y) a b = b := by
  have : (x == y) = false := by simpa using h
  rw [this]; rfl
theorem bind_some' {α β : Type} (x : α) (f : α → Option β) : (some x).bind f = f x := rfl
end

theorem w64 {x : Int} (h : -9223372036854775808 ≤ x ∧ x ≤ 9223372036854775807) : IntKind.i64.wrap x = x := IntWalk.i64_in x h
theorem wu64 {x : Int} (h : 0 ≤ x ∧ x ≤ 18446744073709551615) : IntKind.u64.wrap x = x := IntWalk.u64_in x h
theorem tm {x y : Int} (h : 0 ≤ x) : x.tmod y = x % y := Int.tmod_eq_emod_of_nonneg h
def lv : List Int → Int
  | [] => 0
  | x :: r => x + 1000000000 * lv r
def Wf (l : List Int) : Prop := ∀ x ∈ l, 0 ≤ x ∧ x < 1000000000
theorem Wf.nil : Wf [] := by simp [Wf]
theorem Wf.cons {x : Int} {l : List Int} (h : 0 ≤ x ∧ x < 1000000000) (hl : Wf l) : Wf (x :: l) := by
  intro y hy
  rcases List.mem_cons.1 hy with rfl | hy
  · exact h
  · exact hl y hy
theorem Wf.app {a b : List Int} (ha : Wf a) (hb : Wf b) : Wf (a ++ b) := by
  intro y hy
  rcases List.mem_append.1 hy with hy | hy
  · exact ha y hy
  · exact hb y hy
theorem Wf.one {x : Int} (h : 0 ≤ x ∧ x < 1000000000) : Wf [x] := Wf.cons h Wf.nil
theorem Wf.take {l : List Int} (h : Wf l) (n : Nat) : Wf (l.take n) := fun x hx => h x (List.mem_of_mem_take hx)
theorem Wf.drop {l : List Int} (h : Wf l) (n : Nat) : Wf (l.drop n) := fun x hx => h x (List.mem_of_mem_drop hx)
theorem Wf.set {l : List Int} (h : Wf l) (i : Nat) {x : Int} (hx : 0 ≤ x ∧ x < 1000000000) : Wf (l.set i x) := by
  intro y hy
  rcases List.mem_or_eq_of_mem_set hy with hy | rfl
  · exact h y hy
  · exact hx
theorem Wf.at {l : List Int} (h : Wf l) (i : Nat) : 0 ≤ l.getD i 0 ∧ l.getD i 0 < 1000000000 := by
  by_cases hi : i < l.length
  · rw [List.getD_eq_getElem?_getD, List.getElem?_eq_getElem hi]
    exact h _ (List.getElem_mem hi)
  · rw [List.getD_eq_getElem?_getD, List.getElem?_eq_none (by omega)]
    decide
theorem Wf.zeros (n : Nat) : Wf (List.replicate n (0 : Int)) := by
  intro x hx
  rw [List.eq_of_mem_replicate hx]
  decide
theorem getD_lt {l : List Int} {i : Nat} (h : i < l.length) : l.getD i 0 = l[i] := by
  rw [List.getD_eq_getElem?_getD, List.getElem?_eq_getElem h]; rfl
theorem getD_ge {l : List Int} {i : Nat} (h : l.length ≤ i) : l.getD i 0 = 0 := by
  rw [List.getD_eq_getElem?_getD, List.getElem?_eq_none h]; rfl
end Go.AM.Num
end
section
set_option linter.unusedSimpArgs false
set_option linter.unusedVariables false
namespace Go.AM.Num

def dig (c : UInt8) : Nat := c.toNat - 48
def isD (c : UInt8) : Prop := 48 ≤ c.toNat ∧ c.toNat ≤ 57
def AllD (s : List UInt8) : Prop := ∀ c ∈ s, isD c
theorem AllD.app {a b : List UInt8} (ha : AllD a) (hb : AllD b) : AllD (a ++ b) := fun c hc => (List.mem_append.1 hc).elim (ha c) (hb c)
theorem AllD.take {s : List UInt8} (h : AllD s) (n : Nat) : AllD (s.take n) := fun c hc => h c (List.mem_of_mem_take hc)
theorem AllD.drop {s : List UInt8} (h : AllD s) (n : Nat) : AllD (s.drop n) := fun c hc => h c (List.mem_of_mem_drop hc)
end Go.AM.Num
end
section
set_option linter.unusedSimpArgs false
set_option linter.unusedVariables false
namespace Go.AM.Num
abbrev dd (n : Nat) : List UInt8 := Lib.decDigits n
theorem dd_small {n : Nat} (h : n < 10) : dd n = [UInt8.ofNat (48 + n)] := by unfold dd; rw [Lib.decDigits, dif_pos h]
theorem dd_big {n : Nat} (h : ¬ n < 10) : dd n = dd (n / 10) ++ [UInt8.ofNat (48 + n % 10)] := by unfold dd; rw [Lib.decDigits, dif_neg h]
theorem dig_of {k : Nat} (h : k < 10) : dig (UInt8.ofNat (48 + k)) = k ∧ isD (UInt8.ofNat (48 + k)) := by
  have : (UInt8.ofNat (48 + k)).toNat = 48 + k := by simp [UInt8.toNat_ofNat]; omega
  exact ⟨by unfold dig; omega, by unfold isD; omega⟩
theorem dd_ne (n : Nat) : dd n ≠ [] := by
  by_cases h : n < 10
  · rw [dd_small h]; simp
  · rw [dd_big h]; simp
theorem dd_D (n : Nat) : AllD (dd n) := by
  induction n using Nat.strongRecOn with
  | _ n ih =>
    by_cases h : n < 10
    · rw [dd_small h]; intro c hc; rw [List.mem_singleton.1 hc]; exact (dig_of h).2
    · rw [dd_big h]
      refine (ih (n / 10) (by omega)).app fun c hc => ?_
      rw [List.mem_singleton.1 hc]; exact (dig_of (by omega)).2
theorem dd_zero : dd 0 = [48] := by rw [dd_small (by decide)]; rfl
theorem dd_one : dd 1 = [49] := by rw [dd_small (by decide)]; rfl
end Go.AM.Num
end
section
set_option linter.unusedSimpArgs false
set_option linter.unusedVariables false
namespace Go.AM.Num

def txt (q : Rat) : List UInt8 := (if q.num < 0 then [45] else []) ++ dd q.num.natAbs ++ (if q.den = 1 then [] else 47 :: dd q.den)

def tx (neg : Bool) (m d : Nat) : List UInt8 := (if neg = true ∧ m ≠ 0 then [45] else []) ++ dd m ++ (if d = 1 then [] else 47 :: dd d)
theorem not_45 {n : Nat} : (45 : UInt8) ∉ dd n := fun h => by have := (dd_D n _ h).1; simp at this
theorem dd_not45 (n : Nat) (r : List UInt8) (s : List UInt8) : dd n ++ r ≠ 45 :: s := by
  intro h
  cases e : dd n with
  | nil => exact dd_ne n e
  | cons c t =>
    rw [e] at h
    simp only [List.cons_append, List.cons.injEq] at h
    have : (45 : UInt8) ∈ dd n := by rw [e, h.1]; simp
    exact not_45 this
open Classical in

noncomputable def rd (a : List UInt8) : Option Rat := if h : ∃ q, a = txt q then some h.choose else none
def D (q : Rat) : Nat := (dd q.num.natAbs).length + (dd q.den).length
end Go.AM.Num
end
section
set_option linter.unusedSimpArgs false
set_option linter.unusedVariables false
namespace Go.AM.Num

def sgn (neg : Bool) : List UInt8 := if neg then [45] else []
theorem shape {neg : Bool} {s : List UInt8} {q : Rat} (hs : neg = false → ∀ r, s ≠ 45 :: r) (h : sgn neg ++ s = txt q) : neg = decide (q.num < 0) ∧ s = dd q.num.natAbs ++ (if q.den = 1 then [] else 47 :: dd q.den) := by
  unfold txt sgn at h
  cases neg with
  | true =>
    by_cases hq : q.num < 0
    · rw [if_pos hq] at h
      simp only [if_true, List.singleton_append, List.cons_append, List.append_assoc, List.nil_append, List.cons.injEq, true_and] at h
      exact ⟨(decide_eq_true hq).symm, h⟩
    · rw [if_neg hq] at h
      simp only [if_true, List.singleton_append, List.nil_append] at h
      exact absurd h.symm (dd_not45 _ _ _)
  | false =>
    by_cases hq : q.num < 0
    · rw [if_pos hq] at h
      simp only [Bool.false_eq_true, if_false, List.nil_append, List.cons_append, List.append_assoc] at h
      exact absurd h (hs rfl _)
    · rw [if_neg hq] at h
      simp only [Bool.false_eq_true, if_false, List.nil_append] at h
      exact ⟨(decide_eq_false hq).symm, h⟩

end Go.AM.Num
end
section
set_option linter.unusedSimpArgs false
set_option linter.unusedVariables false
namespace Go.AM.Num

section
variable {a b : List UInt8}
theorem txt_zero : txt 0 = [48] := by unfold txt; simp [dd_zero]
end

noncomputable def un (f : Rat → List UInt8) (a : List UInt8) : List UInt8 := match rd a with | some q => f q | none => []
end Go.AM.Num
end
section
set_option linter.unusedSimpArgs false
set_option linter.unusedVariables false
namespace Go.AM.Num
theorem txt_int (n : Int) : txt (n : Rat) = (if n < 0 then [45] else []) ++ dd n.natAbs := by
  unfold txt
  rw [Rat.num_intCast, Rat.den_intCast]; simp
end Go.AM.Num
end
section
set_option linter.unusedSimpArgs false
set_option linter.unusedVariables false
namespace Go.AM.Num
def figs (s : List UInt8) : Prop := s ≠ [] ∧ AllD s
instance (s : List UInt8) : Decidable (AllD s) := by unfold AllD isD; infer_instance
instance (s : List UInt8) : Decidable (figs s) := by unfold figs; infer_instance
inductive DecParts : List UInt8 → Bool → List UInt8 → Option (List UInt8) → Prop
  | mk {a s : List UInt8} {neg : Bool} (h : a = sgn neg ++ s) (hs : neg = false → ∀ r, s ≠ 45 :: r) {x : List UInt8} {y : Option (List UInt8)}
      (hxy : (y = none ∧ s = x ∧ (46 : UInt8) ∉ s) ∨ (∃ z, y = some z ∧ s = x ++ 46 :: z ∧ (46 : UInt8) ∉ x)) : DecParts a neg x y
end Go.AM.Num
end
section
set_option linter.unusedSimpArgs false
set_option linter.unusedVariables false
namespace Go.AM.Num


theorem AllD.cons {c : UInt8} {s : List UInt8} (h : isD c) (hs : AllD s) : AllD (c :: s) := fun x hx => (List.mem_cons.1 hx).elim (fun e => e ▸ h) (hs x)
end Go.AM.Num
end
section
set_option linter.unusedSimpArgs false
set_option linter.unusedVariables false
namespace Go.AM.Num


def Bd (l : List Int) (B : Int) : Prop := ∀ x ∈ l, 0 ≤ x ∧ x ≤ B
theorem Bd.at {l : List Int} {B : Int} (h : Bd l B) (hB : 0 ≤ B) (k : Nat) : 0 ≤ l.getD k 0 ∧ l.getD k 0 ≤ B := by
  by_cases hk : k < l.length
  · rw [getD_lt hk]; exact h _ (List.getElem_mem hk)
  · rw [getD_ge (by omega)]; omega
theorem Bd.set {l : List Int} {B B' : Int} (h : Bd l B) (hB : B ≤ B') {k : Nat} {x : Int} (hx : 0 ≤ x ∧ x ≤ B') : Bd (l.set k x) B' := by
  intro y hy
  rcases List.mem_or_eq_of_mem_set hy with hy | rfl
  · have := h y hy; omega
  · exact hx
end Go.AM.Num
end
section
set_option linter.unusedSimpArgs false
set_option linter.unusedVariables false
namespace Go.AM.Num
def bad : Bool × List UInt8 × List UInt8 := (false, [], [])
end Go.AM.Num
end
section
set_option linter.unusedSimpArgs false
set_option linter.unusedVariables false
namespace Go.AM.Num
theorem u64_range (x : Int) : 0 ≤ IntKind.u64.wrap x ∧ IntKind.u64.wrap x ≤ 18446744073709551615 := by
  simp [IntKind.wrap, IntKind.bits, IntKind.signed]; omega

theorem g_mod_eq (v : Int) {n : Int} (h : 0 < n ∧ n ≤ 9223372036854775807) : ∃ r, g_Mod v n = some ((r, ()), ()) ∧ 0 ≤ r ∧ r < n := by
  have hu := u64_range v
  unfold g_Mod
  rw [wu64 (x := n) (by omega), grd_ne (by omega), tm hu.1]
  have h1 := Int.emod_nonneg (IntKind.u64.wrap v) (show n ≠ 0 by omega)
  have h2 := Int.emod_lt_of_pos (IntKind.u64.wrap v) h.1
  exact ⟨_, by rw [w64 (by omega)], h1, h2⟩

end Go.AM.Num
end
section
set_option linter.unusedSimpArgs false
set_option linter.unusedVariables false
namespace Go.AM.Num

theorem t0 : ([48] : List UInt8) = txt ((0 : Int) : Rat) := txt_zero.symm
theorem t1 : ([49] : List UInt8) = txt ((1 : Int) : Rat) := by rw [txt_int]; simp [dd_one]
end Go.AM.Num
end
section
namespace Go.AM.Num

structure Short (N : Nat) (v : Val) : Prop where
  num : v.2.2.1.length ≤ N
  keys : ∀ s ∈ v.2.2.2.1, s.length ≤ N
  vals : ∀ s ∈ v.2.2.2.2, s.length ≤ N
  few : v.2.2.2.1.length ≤ 1000000000 ∧ v.2.2.2.2.length ≤ 1000000000
end Go.AM.Num
end
section
namespace Go.AM.Num
theorem v_awake_eq : l_awake = some ((true, ()), ()) := by kernel_rfl
end Go.AM.Num
end
section
namespace Go.AM.Num
open Go.Proofs Go.Proofs.YtmckcoeongfmhaaGreatDoor
theorem gPow : Tryz.prog.globalNamed "internal/strconv.uint64pow10" = some 0 := by kernel_rfl
theorem tPow : (Tryz.prog.globals[0]?).map (·.type) = some 313 := by kernel_rfl
theorem max_of {W : World} (h : W.ShapedOpen Tryz.prog) : ∃ m, W.cell? ⟨1, 0, none⟩ = some (.int .i64 m) :=
  cell_of_shapedOpen_int (t := 3) (zero := #[.int .i64 0]) h (of_decide_eq_true (by kernel_rfl)) (by kernel_rfl) rfl (by kernel_rfl) (by kernel_rfl) Tryz.underlying3
theorem gn_of {W : World} (hL : laidMetH Tryz.prog Rows.valueZeroRow.laid W) (hsh : W.ShapedOpen Tryz.prog) : GN W := by
  rw [MakeChecks.laidMetH_plain _ _ _ (by kernel_rfl)] at hL
  obtain ⟨ps, ⟨g0, t0, cs0, f0, p0, q0, hg0, ht0, hv0, hd0, ⟨g1, t1, cs1, f1, p1, q1, hg1, ht1, hv1, hd1, ⟨g2, t2, cs2, f2, p2, q2, hg2, ht2, hv2, hd2, _⟩, _⟩, _⟩, _⟩ := hL
  obtain rfl := Option.some.inj (gPow.symm.trans hg2)
  obtain rfl := Option.some.inj (tPow.symm.trans ht2)
  refine ⟨max_of hsh, ?_⟩
  have e : (Rows.laid_internal_strconv_uint64pow10 : DataW Unit) = Lib.tabData .u64 Lib.pow10Tab := by kernel_rfl
  rw [e] at hd2
  unfold Lib.TabIs
  rw [hv2, ← Lib.cells_of_tab Tryz.underlying313 Tryz.underlying231 (by kernel_rfl) (by kernel_rfl) hd2]
theorem gn_keep {w w' : World} (h : GN w) (hb : ∀ B, B < 2 → w'.heap[B]? = w.heap[B]?) : GN w' := by
  have hc : ∀ B o, B < 2 → w'.cell? ⟨B, o, none⟩ = w.cell? ⟨B, o, none⟩ := fun B o hB => by simp [World.cell?, hb B hB]
  refine ⟨?_, ?_⟩
  · rw [hc _ 0 (by decide)]; exact h.maxLen
  · have := h.pow10
    unfold Lib.TabIs World.var? at this ⊢
    rw [gPow] at this ⊢
    simp only [Option.bind_some] at this ⊢
    rw [hb _ (by decide)]
    exact this
theorem gn_size {w : World} (h : GN w) : 2 ≤ w.heap.size := by
  obtain ⟨m, hm⟩ := h.maxLen
  exact World.block_lt_of_cell? w ⟨1, 0, none⟩ hm
end Go.AM.Num
end
section
namespace Go.AM.Num
open Go.Proofs

noncomputable def VN : Env where
  P := Tryz.prog
  gb := 2
  G := GN
  keep := fun w w' h _ hb => gn_keep h hb
  mixed := by kernel_rfl
theorem f0 : Fs Tryz.prog VN l0 :=
  (((((((((((⟨rfl, fnNil⟩ : Fs Tryz.prog VN []).cons (Builder_copyCheck_good rfl)).cons (strconv_FormatUint_good rfl (fun _ h => h))).cons (strconv_ParseInt_good rfl)).cons (strings_Cut_good rfl (fun _ h => h))).cons (strconv_FormatInt_good rfl (fun _ h => h))).cons (slices_Clone_good rfl)).cons (slices_Insert_good rfl)).cons (slices_Delete_good rfl)).cons (Builder_String_good rfl)).cons (strings_CutPrefix_good rfl))
end Go.AM.Num
end
section
namespace Go.AM.Num
open Go.Proofs Go.Proofs.YtmckcoeongfmhaaGreatDoor Go.RowKit Go.ChangeShapes Go.WideShapes Go.ChangeAt

theorem law_calls {k : FuncId} {ps : List PK} {g : tysP ps → Option (tysP [.val .bool] × tysO ps)} (hG : Good VN k ⟨ps, [.val .bool], g⟩) (x : tysP ps) (hin : rowsIn ps x = []) (hk : cntK ps = 0) (o : tysO ps) (hx : g x = some ((true, ()), o))
    (W : World) (hW : GN W) (vs : Array Value) (ha : RelL (rdW W) (fun B => B < W.heap.size) (fun _ => none) (encVals ps x 0 0) vs.toList) :
    Calls Tryz.prog k vs W fun e w' => e = .returned (.bool true) ∧ Below W.heap.size W w' := by
  refine Calls.mono (hG.spec x _ o hx W (fun B => B < W.heap.size) (fun _ => none) vs hW (gn_size hW) ?_ ?_) ?_
  · rw [hin]; exact ctx_nil fun _ h => h
  · rw [hk]; exact ha
  · rintro e w' ⟨us, I', β', rfl, hf, _, hr⟩
    obtain rfl : us = [.bool true] := by
      have : valsOut ps [.val .bool] (true, ()) = [.bool true] := rfl
      rw [this] at hr
      simp only [RelL, RelV] at hr
      obtain ⟨u, us', rfl, rfl, rfl⟩ := hr
      rfl
    refine ⟨rfl, hf.os, hf.tape, hf.output, hf.size, fun B hB => hf.block B hB ?_⟩
    rw [hin]
    exact live_nil B

theorem in64_of {n : Int} (h : (Lit.int .i64 n).wf = true) : in64 n := by
  simp only [Lit.wf, Bool.and_eq_true, decide_eq_true_eq] at h
  exact h
section
variable {H : Type} {enc : TypeId × Value → H} {W : World} {I : Nat → Prop} {rd : Nat → Nat → Option Value} {β : Nat → Option Place}
theorem int_rv (n : Int) : RelV rd I β (Go.AM.enc (.int .i64) n) (.int .i64 n) := by
  have e : Go.AM.enc (.int .i64) n = .int .i64 n := rfl
  rw [e]; simp only [RelV]
theorem rl_nil : RelL rd I β (encVals [] () 0 0) [] := by simp only [encVals, RelL]
theorem rl_cons {t : GT} {ps : List PK} {x : t.ty} {y : tysP ps} {v : Value} {vs : List Value} (h : RelV rd I β (Go.AM.enc t x) v) (r : RelL rd I β (encVals ps y 0 0) vs) : RelL rd I β (encVals (.val t :: ps) (x, y) 0 0) (v :: vs) := by
  simp only [encVals, RelL]
  exact ⟨v, vs, rfl, h, r⟩
end
end Go.AM.Num
end
section
namespace Go.AM.Num
open Go.Proofs Go.Proofs.YtmckcoeongfmhaaGreatDoor Go.RowKit Go.ChangeShapes Go.WideShapes Go.ChangeAt

noncomputable def laidWorld (os : Os) : World :=
  { World.doorLaid Tryz.prog 400 os with heap := (World.doorLaid Tryz.prog 400 os).heap.modify 6 fun
      | .cells _ t frozen => .cells (Go.Pinned.utf8FirstZ.map fun n => Value.int .u8 (n : Nat)).toArray t frozen
      | o => o }
set_option maxRecDepth 100000 in
theorem laid_met (os : Os) (args : Array Value) : laidMet Tryz.prog Rows.valueZeroRow.laid ((laidWorld os).forCall (fun _ _ => 0) ⟨#[], args, []⟩).memory :=
  laidMet_of_run' 8 (by kernel_rfl) (by kernel_rfl)
theorem laid_var (os : Os) (args : Array Value) : (((laidWorld os).forCall (fun _ _ => 0) ⟨#[], args, []⟩).variablesRefB Tryz.prog) = true := by kernel_rfl
theorem laid_drop (os : Os) (args : Array Value) : ((((laidWorld os).forCall (fun _ _ => 0) ⟨#[], args, []⟩).heap.toList.drop Tryz.prog.globals.size).take ((begin Tryz.prog (fun _ _ => 0) default).world.heap.size - Tryz.prog.globals.size) =
      (begin Tryz.prog (fun _ _ => 0) default).world.heap.toList.drop Tryz.prog.globals.size) := by kernel_rfl
theorem own : ownKnob Tryz.prog.godebug = none := by kernel_rfl
end Go.AM.Num
end
section
set_option maxRecDepth 100000
namespace Go.AM.Num
theorem zeros : ∀ k, (0 : Int) ≤ k → k < 4 → ∃ v : Val, v_Zero (IntKind.i64.wrap (1 + k)) = some ((v, 0, ()), ()) ∧ v_Valid v = some ((true, ()), ()) ∧ v.1 = IntKind.i64.wrap (1 + k) := by
  intro k h0 h4
  obtain rfl | rfl | rfl | rfl : k = 0 ∨ k = 1 ∨ k = 2 ∨ k = 3 := by omega
  · exact ⟨(1, false, [], [], []), by kernel_rfl, by kernel_rfl, by kernel_rfl⟩
  · exact ⟨(2, false, [48], [], []), by kernel_rfl, by kernel_rfl, by kernel_rfl⟩
  · exact ⟨(3, false, [48], [], []), by kernel_rfl, by kernel_rfl, by kernel_rfl⟩
  · exact ⟨(4, false, [48], [], []), by kernel_rfl, by kernel_rfl, by kernel_rfl⟩
theorem zeros_same (s : Int) : ∃ (v w : Val) (e : Int), v_Zero s = some ((v, e, ()), ()) ∧ r_Zero s = some ((w, e, ()), ()) ∧ r_EqualValue v w = some ((true, ()), ()) := by
  by_cases h : 1 ≤ s ∧ s ≤ 4
  · obtain rfl | rfl | rfl | rfl : s = 1 ∨ s = 2 ∨ s = 3 ∨ s = 4 := by omega
    · exact ⟨(1, false, [], [], []), (1, false, [], [], []), 0, by kernel_rfl, by kernel_rfl, by kernel_rfl⟩
    · exact ⟨(2, false, [48], [], []), (2, false, [48], [], []), 0, by kernel_rfl, by kernel_rfl, by kernel_rfl⟩
    · exact ⟨(3, false, [48], [], []), (3, false, [48], [], []), 0, by kernel_rfl, by kernel_rfl, by kernel_rfl⟩
    · exact ⟨(4, false, [48], [], []), (4, false, [48], [], []), 0, by kernel_rfl, by kernel_rfl, by kernel_rfl⟩
  · refine ⟨(0, false, [], [], []), (0, false, [], [], []), 1, ?_, ?_, by kernel_rfl⟩
    · unfold v_Zero
      rw [cond_ef (by omega), cond_ef (by omega), cond_ef (by omega), cond_ef (by omega)]
    · unfold r_Zero r_sorted
      by_cases h1 : s ≥ 1
      · rw [cond_dt h1, decide_eq_false (by omega)]; rfl
      · rw [cond_df h1]; rfl
theorem P_ValueZero (s : Int) (hs : in64 s) : l_ValueZero s = some ((true, ()), ()) := by
  obtain ⟨v, w, e, h1, h2, h3⟩ := zeros_same s
  obtain ⟨k, hk, k0, k4⟩ := g_mod_eq s (n := 4) (by omega)
  obtain ⟨z, z1, z2, z3⟩ := zeros k k0 k4
  unfold l_ValueZero
  simp only [h1, h2, hk, bind_some', z1, beq_self_eq_true, cond_t, h3, z2, z3, v_awake_eq]
end Go.AM.Num
end
