/- Law ValueExtensional of the values: a machine of plain values, what the program's functions compute in it, and what that is. No condition beyond what the statement says. -/
import Derived.Test.YtmckcoeongfmhaaGreatDoorValueExtensional3
import Derived.Test.YtmckcoeongfmhaaGreatDoorValueExtensional4
import Derived.Test.YtmckcoeongfmhaaGreatDoorProg
import Derived.Test.YtmckcoeongfmhaaGreatDoorShelf
import Derived.Lib.ItoaMem
import Derived.Lib.Walk
import Derived.WalkKit
import Derived.BigCall
import Derived.BigGuard
import Derived.Shelf.Spec.SlicesInsert
import Derived.Shelf.Spec.SlicesInsertGrow
import Derived.Shelf.Strings.Builder1
import Derived.IntWalk
import Derived.Lib.ItoaNum
set_option linter.unusedSimpArgs false
set_option linter.unusedVariables false
section
namespace Go.AM.Num
open Go.Proofs
set_option maxRecDepth 100000
noncomputable section
def tiL : List (Nat × TI) := [(9, ⟨.str, 1, 16, some .str⟩), (3, ⟨.int .i64, 1, 8, some (.int .i64)⟩), (24, ⟨.struct [(0, 3), (1, 4), (2, 9), (3, 22), (4, 22)], 5, 80, some gVal⟩), (4, ⟨.bool, 1, 1, some .bool⟩), (22, ⟨.slice 9, 1, 24, some (.sl .str)⟩), (127, ⟨.slice 198, 1, 24, some (.sl (.int .u32))⟩), (198, ⟨.int .u32, 1, 4, some (.int .u32)⟩), (54, ⟨.struct [(0, 3), (1, 3), (2, 9), (3, 9), (4, 3)], 5, 56, some gNod⟩), (31, ⟨.slice 54, 1, 24, some (.sl gNod)⟩), (25, ⟨.slice 3, 1, 24, some (.sl (.int .i64))⟩), (129, ⟨.struct [(0, 4), (1, 127), (2, 127)], 3, 56, some gRt⟩), (30, ⟨.slice 24, 1, 24, some (.sl gVal)⟩), (144, ⟨.struct [(0, 4), (1, 9), (2, 9)], 3, 40, some gRatio⟩), (120, ⟨.slice 5, 1, 24, some (.sl (.int .u8))⟩), (5, ⟨.int .u8, 1, 1, some (.int .u8)⟩), (231, ⟨.int .u64, 1, 8, some (.int .u64)⟩), (123, ⟨.struct [(0, 2), (1, 2)], 2, 16, some gSml⟩), (119, ⟨.struct [(0, 31), (1, 117)], 2, 48, some gView⟩), (2, ⟨.int .i64, 1, 8, some (.int .i64)⟩), (150, ⟨.struct [(0, 148), (1, 120)], 2, 32, some (.pair (.ptr .unit) (.sl (.int .u8)))⟩), (63, ⟨.slice 30, 1, 24, some (.sl (.sl gVal))⟩), (116, ⟨.struct [(0, 3), (1, 3), (2, 3)], 3, 24, some (.pair (.int .i64) gSml)⟩), (117, ⟨.slice 116, 1, 24, some (.sl (.pair (.int .i64) gSml))⟩), (109, ⟨.struct [(0, 31), (1, 3), (2, 101), (3, 104)], 4, 48, some gEvl⟩), (101, ⟨.map 9 24, 1, 8, some (.map gVal)⟩), (104, ⟨.map 9 65, 1, 8, some (.map gInterp)⟩), (224, ⟨.struct [(0, 9), (1, 25), (2, 3)], 3, 48, some (.pair .str gChoices)⟩), (93, ⟨.struct [(0, 25), (1, 3)], 2, 32, some gChoices⟩), (84, ⟨.int .u64, 1, 8, some (.int .u64)⟩), (67, ⟨.slice 31, 1, 24, some (.sl (.sl gNod))⟩), (65, ⟨.struct [(0, 9), (1, 63), (2, 30), (3, 24)], 8, 144, some gInterp⟩), (47, ⟨.slice 50, 1, 24, some (.sl gBind)⟩), (50, ⟨.struct [(0, 9), (1, 24)], 6, 96, some gBind⟩), (60, ⟨.slice 65, 1, 24, some (.sl gInterp)⟩), (112, ⟨.pointer 119, 1, 8, some (.ptr gView)⟩), (96, ⟨.struct [(0, 9), (1, 3)], 2, 24, some gVr⟩), (172, ⟨.slice 224, 1, 24, some (.sl (.pair .str gChoices))⟩), (45, ⟨.slice 96, 1, 24, some (.sl gVr)⟩), (220, ⟨.map 9 96, 1, 8, some (.map gVr)⟩), (221, ⟨.map 9 224, 1, 8, some (.map (.pair .str gChoices))⟩)]
theorem tiAll : TiAll Tryz.prog tiL :=
  (tiCons (tok_of Tryz.underlying9 Tryz.type9 rfl rfl rfl (fun g hg => by cases hg; exact ⟨rfl, rfl, rfl⟩))
  (tiCons (tok_of Tryz.underlying3 Tryz.type3 rfl rfl rfl (fun g hg => by cases hg; exact ⟨rfl, rfl, rfl⟩))
  (tiCons (tok_of Tryz.underlying24 Tryz.type24 rfl rfl rfl (fun g hg => by cases hg; exact ⟨rfl, rfl, rfl⟩))
  (tiCons (tok_of Tryz.underlying4 Tryz.type4 rfl rfl rfl (fun g hg => by cases hg; exact ⟨rfl, rfl, rfl⟩))
  (tiCons (tok_of Tryz.underlying22 Tryz.type22 rfl rfl rfl (fun g hg => by cases hg; exact ⟨rfl, rfl, rfl⟩))
  (tiCons (tok_of Tryz.underlying127 Tryz.type127 rfl rfl rfl (fun g hg => by cases hg; exact ⟨rfl, rfl, rfl⟩))
  (tiCons (tok_of Tryz.underlying198 Tryz.type198 rfl rfl rfl (fun g hg => by cases hg; exact ⟨rfl, rfl, rfl⟩))
  (tiCons (tok_of Tryz.underlying54 Tryz.type54 rfl rfl rfl (fun g hg => by cases hg; exact ⟨rfl, rfl, rfl⟩))
  (tiCons (tok_of Tryz.underlying31 Tryz.type31 rfl rfl rfl (fun g hg => by cases hg; exact ⟨rfl, rfl, rfl⟩))
  (tiCons (tok_of Tryz.underlying25 Tryz.type25 rfl rfl rfl (fun g hg => by cases hg; exact ⟨rfl, rfl, rfl⟩))
  (tiCons (tok_of Tryz.underlying129 Tryz.type129 rfl rfl rfl (fun g hg => by cases hg; exact ⟨rfl, rfl, rfl⟩))
  (tiCons (tok_of Tryz.underlying30 Tryz.type30 rfl rfl rfl (fun g hg => by cases hg; exact ⟨rfl, rfl, rfl⟩))
  (tiCons (tok_of Tryz.underlying144 Tryz.type144 rfl rfl rfl (fun g hg => by cases hg; exact ⟨rfl, rfl, rfl⟩))
  (tiCons (tok_of Tryz.underlying120 Tryz.type120 rfl rfl rfl (fun g hg => by cases hg; exact ⟨rfl, rfl, rfl⟩))
  (tiCons (tok_of Tryz.underlying5 Tryz.type5 rfl rfl rfl (fun g hg => by cases hg; exact ⟨rfl, rfl, rfl⟩))
  (tiCons (tok_of Tryz.underlying231 Tryz.type231 rfl rfl rfl (fun g hg => by cases hg; exact ⟨rfl, rfl, rfl⟩))
  (tiCons (tok_of Tryz.underlying123 Tryz.type123 rfl rfl rfl (fun g hg => by cases hg; exact ⟨rfl, rfl, rfl⟩))
  (tiCons (tok_of Tryz.underlying119 Tryz.type119 rfl rfl rfl (fun g hg => by cases hg; exact ⟨rfl, rfl, rfl⟩))
  (tiCons (tok_of Tryz.underlying2 Tryz.type2 rfl rfl rfl (fun g hg => by cases hg; exact ⟨rfl, rfl, rfl⟩))
  (tiCons (tok_of Tryz.underlying150 Tryz.type150 rfl rfl rfl (fun g hg => by cases hg; exact ⟨rfl, rfl, rfl⟩))
  (tiCons (tok_of Tryz.underlying63 Tryz.type63 rfl rfl rfl (fun g hg => by cases hg; exact ⟨rfl, rfl, rfl⟩))
  (tiCons (tok_of Tryz.underlying116 Tryz.type116 rfl rfl rfl (fun g hg => by cases hg; exact ⟨rfl, rfl, rfl⟩))
  (tiCons (tok_of Tryz.underlying117 Tryz.type117 rfl rfl rfl (fun g hg => by cases hg; exact ⟨rfl, rfl, rfl⟩))
  (tiCons (tok_of Tryz.underlying109 Tryz.type109 rfl rfl rfl (fun g hg => by cases hg; exact ⟨rfl, rfl, rfl⟩))
  (tiCons (tok_of Tryz.underlying101 Tryz.type101 rfl rfl rfl (fun g hg => by cases hg; exact ⟨rfl, rfl, rfl⟩))
  (tiCons (tok_of Tryz.underlying104 Tryz.type104 rfl rfl rfl (fun g hg => by cases hg; exact ⟨rfl, rfl, rfl⟩))
  (tiCons (tok_of Tryz.underlying224 Tryz.type224 rfl rfl rfl (fun g hg => by cases hg; exact ⟨rfl, rfl, rfl⟩))
  (tiCons (tok_of Tryz.underlying93 Tryz.type93 rfl rfl rfl (fun g hg => by cases hg; exact ⟨rfl, rfl, rfl⟩))
  (tiCons (tok_of Tryz.underlying84 Tryz.type84 rfl rfl rfl (fun g hg => by cases hg; exact ⟨rfl, rfl, rfl⟩))
  (tiCons (tok_of Tryz.underlying67 Tryz.type67 rfl rfl rfl (fun g hg => by cases hg; exact ⟨rfl, rfl, rfl⟩))
  (tiCons (tok_of Tryz.underlying65 Tryz.type65 rfl rfl rfl (fun g hg => by cases hg; exact ⟨rfl, rfl, rfl⟩))
  (tiCons (tok_of Tryz.underlying47 Tryz.type47 rfl rfl rfl (fun g hg => by cases hg; exact ⟨rfl, rfl, rfl⟩))
  (tiCons (tok_of Tryz.underlying50 Tryz.type50 rfl rfl rfl (fun g hg => by cases hg; exact ⟨rfl, rfl, rfl⟩))
  (tiCons (tok_of Tryz.underlying60 Tryz.type60 rfl rfl rfl (fun g hg => by cases hg; exact ⟨rfl, rfl, rfl⟩))
  (tiCons (tok_of Tryz.underlying112 Tryz.type112 rfl rfl rfl (fun g hg => by cases hg; exact ⟨rfl, rfl, rfl⟩))
  (tiCons (tok_of Tryz.underlying96 Tryz.type96 rfl rfl rfl (fun g hg => by cases hg; exact ⟨rfl, rfl, rfl⟩))
  (tiCons (tok_of Tryz.underlying172 Tryz.type172 rfl rfl rfl (fun g hg => by cases hg; exact ⟨rfl, rfl, rfl⟩))
  (tiCons (tok_of Tryz.underlying45 Tryz.type45 rfl rfl rfl (fun g hg => by cases hg; exact ⟨rfl, rfl, rfl⟩))
  (tiCons (tok_of Tryz.underlying220 Tryz.type220 rfl rfl rfl (fun g hg => by cases hg; exact ⟨rfl, rfl, rfl⟩))
  (tiCons (tok_of Tryz.underlying221 Tryz.type221 rfl rfl rfl (fun g hg => by cases hg; exact ⟨rfl, rfl, rfl⟩))
  tiNil))))))))))))))))))))))))))))))))))))))))
def l0 : FL := [(109, none, strings_CutPrefix_C), (119, none, strings_Builder_String_C), (129, none, slices_Delete_string_string_C), (130, none, slices_Insert_string_string_C), (137, none, slices_Clone_string_string_C), (145, none, strconv_FormatInt_C), (161, none, strings_Cut_C), (162, none, strconv_ParseInt_C), (204, none, strconv_FormatUint_C), (231, none, strings_Builder_copyCheck_C)]
theorem g0 {V : Env} (h0 : Fs Tryz.prog V l0) : Fs Tryz.prog V l0 := h0
def g_New_C : Callee := ⟨[.val (.sl (.int .i64))], [.box (.dat gChoices)], fun x => g_New x.1⟩
def l1 : FL := (30, none, g_New_C) :: l0
theorem g1 {V : Env} (h0 : Fs Tryz.prog V l0) : Fs Tryz.prog V l1 :=
  have h := g0 h0
  h.cons (gd [] [] [] h tiAll bkNil Tryz.func30 (by kernel_rfl) (fun _ => lsNil) (fun x => by kernel_rfl))
def g_Mod_C : Callee := ⟨[.val (.int .i64), .val (.int .i64)], [.val (.int .i64)], fun x => g_Mod x.1 x.2.1⟩
def l2 : FL := (18, none, g_Mod_C) :: l1
theorem g2 {V : Env} (h0 : Fs Tryz.prog V l0) : Fs Tryz.prog V l2 :=
  have h := g1 h0
  h.cons (gd [] [] [] h tiAll bkNil Tryz.func18 (by kernel_rfl) (fun _ => lsNil) (fun x => by kernel_rfl))
def g_Choices_Next_C : Callee := ⟨[.box (.dat gChoices), .val (.int .i64)], [.val (.int .i64)], fun x => g_Choices_Next x.1 x.2.1⟩
def l3 : FL := (39, none, g_Choices_Next_C) :: l2
theorem g3 {V : Env} (h0 : Fs Tryz.prog V l0) : Fs Tryz.prog V l3 :=
  have h := g2 h0
  h.cons (gd [] [] [] h tiAll bkNil Tryz.func39 (by kernel_rfl) (fun _ => lsNil) (fun x => by kernel_rfl))
def r_FromInt_C : Callee := ⟨[.val (.int .i64)], [.val .str], fun x => r_FromInt x.1⟩
def l4 : FL := (50, none, r_FromInt_C) :: l3
theorem g4 {V : Env} (h0 : Fs Tryz.prog V l0) : Fs Tryz.prog V l4 :=
  have h := g3 h0
  h.cons (gd [.lp 3 ⟨33, [0, 3, 4], [.val (.int .i64), .val .str, .val (.int .i64)], [], []⟩ [.exit 0] r_FromInt_s3] [] [] h tiAll bkNil Tryz.func50 (by kernel_rfl) (fun _ => (lsLp (fun x => by kernel_rfl) lsNil)) (fun x => by kernel_rfl))
def r_digits_C : Callee := ⟨[.val .str], [.val .bool], fun x => r_digits x.1⟩
def l5 : FL := (165, none, r_digits_C) :: l4
theorem g5 {V : Env} (h0 : Fs Tryz.prog V l0) : Fs Tryz.prog V l5 :=
  have h := g4 h0
  h.cons (gd [.lp 2 ⟨22, [0, 2, 3], [.val .str, .val .bool, .val (.int .i64)], [], []⟩ [.exit 0, .ret] r_digits_s2] [] [] h tiAll bkNil Tryz.func165 (by kernel_rfl) (fun _ => (lsLp (fun x => by kernel_rfl) lsNil)) (fun x => by kernel_rfl))
def r_trim_C : Callee := ⟨[.val .str], [.val .str], fun x => r_trim x.1⟩
def l6 : FL := (166, none, r_trim_C) :: l5
theorem g6 {V : Env} (h0 : Fs Tryz.prog V l0) : Fs Tryz.prog V l6 :=
  have h := g5 h0
  h.cons (gd [.lp 1 ⟨14, [0], [.val .str], [], []⟩ [.exit 0] r_trim_s1] [] [] h tiAll bkNil Tryz.func166 (by kernel_rfl) (fun _ => (lsLp (fun x => by kernel_rfl) lsNil)) (fun x => by kernel_rfl))
def r_cmpMag_C : Callee := ⟨[.val .str, .val .str], [.val (.int .i64)], fun x => r_cmpMag x.1 x.2.1⟩
def l7 : FL := (229, none, r_cmpMag_C) :: l6
theorem g7 {V : Env} (h0 : Fs Tryz.prog V l0) : Fs Tryz.prog V l7 :=
  have h := g6 h0
  h.cons (gd [] [] [] h tiAll bkNil Tryz.func229 (by kernel_rfl) (fun _ => lsNil) (fun x => by kernel_rfl))
def r_subMag_C : Callee := ⟨[.val .str, .val .str], [.val .str], fun x => r_subMag x.1 x.2.1⟩
def l8 : FL := (230, none, r_subMag_C) :: l7
theorem g8 {V : Env} (h0 : Fs Tryz.prog V l0) : Fs Tryz.prog V l8 :=
  have h := g7 h0
  h.cons (gd [.lp 4 ⟨61, [0, 1, 5, 6, 7], [.val .str, .val .str, .row (.int .u8), .val (.int .i64), .val (.int .i64)], [], []⟩ [.exit 0] r_subMag_s4] [] [] h tiAll bkNil Tryz.func230 (by kernel_rfl) (fun _ => (lsLp (fun x => by kernel_rfl) lsNil)) (fun x => by kernel_rfl))
def r_divMag_C : Callee := ⟨[.val .str, .val .str], [.val .str, .val .str], fun x => r_divMag x.1 x.2.1⟩
def l9 : FL := (178, none, r_divMag_C) :: l8
theorem g9 {V : Env} (h0 : Fs Tryz.prog V l0) : Fs Tryz.prog V l9 :=
  have h := g8 h0
  h.cons (gd [.lp 8 ⟨44, [0, 1, 6, 7, 8, 9], [.val .str, .val .str, .row (.int .u8), .val .str, .val (.int .i64), .val (.int .u8)], [], []⟩ [.exit 2] r_divMag_s8, .lp 4 ⟨44, [0, 1, 6, 7, 8], [.val .str, .val .str, .row (.int .u8), .val .str, .val (.int .i64)], [], []⟩ [.exit 0] r_divMag_s4] [] [] h tiAll bkNil Tryz.func178 (by kernel_rfl) (fun _ => (lsLp (fun x => by kernel_rfl) (lsLp (fun x => by kernel_rfl) lsNil))) (fun x => by kernel_rfl))
def r_gcdMag_C : Callee := ⟨[.val .str, .val .str], [.val .str], fun x => r_gcdMag x.1 x.2.1⟩
def l10 : FL := (177, none, r_gcdMag_C) :: l9
theorem g10 {V : Env} (h0 : Fs Tryz.prog V l0) : Fs Tryz.prog V l10 :=
  have h := g9 h0
  h.cons (gd [.lp 1 ⟨18, [0, 1], [.val .str, .val .str], [], []⟩ [.exit 0] r_gcdMag_s1] [] [] h tiAll bkNil Tryz.func177 (by kernel_rfl) (fun _ => (lsLp (fun x => by kernel_rfl) lsNil)) (fun x => by kernel_rfl))
def r_reduce_C : Callee := ⟨[.val .bool, .val .str, .val .str], [.val gRatio], fun x => r_reduce x.1 x.2.1 x.2.2.1⟩
def l11 : FL := (124, none, r_reduce_C) :: l10
theorem g11 {V : Env} (h0 : Fs Tryz.prog V l0) : Fs Tryz.prog V l11 :=
  have h := g10 h0
  h.cons (gd [] [] [] h tiAll bkNil Tryz.func124 (by kernel_rfl) (fun _ => lsNil) (fun x => by kernel_rfl))
def r_ratio_text_C : Callee := ⟨[.val gRatio], [.val .str], fun x => r_ratio_text x.1⟩
def l12 : FL := (126, none, r_ratio_text_C) :: l11
theorem g12 {V : Env} (h0 : Fs Tryz.prog V l0) : Fs Tryz.prog V l12 :=
  have h := g11 h0
  h.cons (gd [] [] [] h tiAll bkNil Tryz.func126 (by kernel_rfl) (fun _ => lsNil) (fun x => by kernel_rfl))
def r_parse_C : Callee := ⟨[.val .str], [.val gRatio, .val .bool], fun x => r_parse x.1⟩
def l13 : FL := (113, none, r_parse_C) :: l12
theorem g13 {V : Env} (h0 : Fs Tryz.prog V l0) : Fs Tryz.prog V l13 :=
  have h := g12 h0
  h.cons (gd [.lp 6 ⟨84, [0, 2, 4, 5, 6], [.val .str, .box (.dat gRatio), .box (.dat gRatio), .val .str, .val (.int .i64)], [], []⟩ [.exit 0] r_parse_s6] [] [] h tiAll bkNil Tryz.func113 (by kernel_rfl) (fun _ => (lsLp (fun x => by kernel_rfl) lsNil)) (fun x => by kernel_rfl))
def r_mulMag_C : Callee := ⟨[.val .str, .val .str], [.val .str], fun x => r_mulMag x.1 x.2.1⟩
def l14 : FL := (125, none, r_mulMag_C) :: l13
theorem g14 {V : Env} (h0 : Fs Tryz.prog V l0) : Fs Tryz.prog V l14 :=
  have h := g13 h0
  h.cons (gd [.lp 6 ⟨78, [0, 1, 5, 6, 7], [.val .str, .val .str, .row (.int .i64), .val (.int .i64), .val (.int .i64)], [], []⟩ [.exit 2] r_mulMag_s6, .lp 3 ⟨78, [0, 1, 5, 6], [.val .str, .val .str, .row (.int .i64), .val (.int .i64)], [], []⟩ [.exit 0] r_mulMag_s3, .lp 12 ⟨78, [5, 8, 9, 10], [.row (.int .i64), .row (.int .u8), .val (.int .i64), .val (.int .i64)], [], []⟩ [.exit 4] r_mulMag_s12] [] [] h tiAll bkNil Tryz.func125 (by kernel_rfl) (fun _ => (lsLp (fun x => by kernel_rfl) (lsLp (fun x => by kernel_rfl) (lsLp (fun x => by kernel_rfl) lsNil)))) (fun x => by kernel_rfl))
def r_Mul_C : Callee := ⟨[.val .str, .val .str], [.val .str], fun x => r_Mul x.1 x.2.1⟩
def l15 : FL := (85, none, r_Mul_C) :: l14
theorem g15 {V : Env} (h0 : Fs Tryz.prog V l0) : Fs Tryz.prog V l15 :=
  have h := g14 h0
  h.cons (gd [] [] [] h tiAll bkNil Tryz.func85 (by kernel_rfl) (fun _ => lsNil) (fun x => by kernel_rfl))
def g_Choices_Integer_C : Callee := ⟨[.box (.dat gChoices)], [.val .str], fun x => g_Choices_Integer x.1⟩
def l16 : FL := (38, none, g_Choices_Integer_C) :: l15
theorem g16 {V : Env} (h0 : Fs Tryz.prog V l0) : Fs Tryz.prog V l16 :=
  have h := g15 h0
  h.cons (gd [] [] [] h tiAll bkNil Tryz.func38 (by kernel_rfl) (fun _ => lsNil) (fun x => by kernel_rfl))
def r_IsInt_C : Callee := ⟨[.val .str], [.val .bool], fun x => r_IsInt x.1⟩
def l17 : FL := (66, none, r_IsInt_C) :: l16
theorem g17 {V : Env} (h0 : Fs Tryz.prog V l0) : Fs Tryz.prog V l17 :=
  have h := g16 h0
  h.cons (gd [] [] [] h tiAll bkNil Tryz.func66 (by kernel_rfl) (fun _ => lsNil) (fun x => by kernel_rfl))
def r_Valid_C : Callee := ⟨[.val .str], [.val .bool], fun x => r_Valid x.1⟩
def l18 : FL := (67, none, r_Valid_C) :: l17
theorem g18 {V : Env} (h0 : Fs Tryz.prog V l0) : Fs Tryz.prog V l18 :=
  have h := g17 h0
  h.cons (gd [] [] [] h tiAll bkNil Tryz.func67 (by kernel_rfl) (fun _ => lsNil) (fun x => by kernel_rfl))
def r_Neg_C : Callee := ⟨[.val .str], [.val .str], fun x => r_Neg x.1⟩
def l19 : FL := (168, none, r_Neg_C) :: l18
theorem g19 {V : Env} (h0 : Fs Tryz.prog V l0) : Fs Tryz.prog V l19 :=
  have h := g18 h0
  h.cons (gd [] [] [] h tiAll bkNil Tryz.func168 (by kernel_rfl) (fun _ => lsNil) (fun x => by kernel_rfl))
def r_addMag_C : Callee := ⟨[.val .str, .val .str], [.val .str], fun x => r_addMag x.1 x.2.1⟩
def l20 : FL := (228, none, r_addMag_C) :: l19
theorem g20 {V : Env} (h0 : Fs Tryz.prog V l0) : Fs Tryz.prog V l20 :=
  have h := g19 h0
  h.cons (gd [.lp 5 ⟨69, [0, 1, 5, 6, 7, 8], [.val .str, .val .str, .val (.int .i64), .row (.int .u8), .val (.int .i64), .val (.int .i64)], [], []⟩ [.exit 0] r_addMag_s5] [] [] h tiAll bkNil Tryz.func228 (by kernel_rfl) (fun _ => (lsLp (fun x => by kernel_rfl) lsNil)) (fun x => by kernel_rfl))
def r_Add_C : Callee := ⟨[.val .str, .val .str], [.val .str], fun x => r_Add x.1 x.2.1⟩
def l21 : FL := (167, none, r_Add_C) :: l20
theorem g21 {V : Env} (h0 : Fs Tryz.prog V l0) : Fs Tryz.prog V l21 :=
  have h := g20 h0
  h.cons (gd [] [] [] h tiAll bkNil Tryz.func167 (by kernel_rfl) (fun _ => lsNil) (fun x => by kernel_rfl))
def r_Sub_C : Callee := ⟨[.val .str, .val .str], [.val .str], fun x => r_Sub x.1 x.2.1⟩
def l22 : FL := (115, none, r_Sub_C) :: l21
theorem g22 {V : Env} (h0 : Fs Tryz.prog V l0) : Fs Tryz.prog V l22 :=
  have h := g21 h0
  h.cons (gd [] [] [] h tiAll bkNil Tryz.func115 (by kernel_rfl) (fun _ => lsNil) (fun x => by kernel_rfl))
def r_Sign_C : Callee := ⟨[.val .str], [.val (.int .i64)], fun x => r_Sign x.1⟩
def l23 : FL := (114, none, r_Sign_C) :: l22
theorem g23 {V : Env} (h0 : Fs Tryz.prog V l0) : Fs Tryz.prog V l23 :=
  have h := g22 h0
  h.cons (gd [] [] [] h tiAll bkNil Tryz.func114 (by kernel_rfl) (fun _ => lsNil) (fun x => by kernel_rfl))
def r_Cmp_C : Callee := ⟨[.val .str, .val .str], [.val (.int .i64)], fun x => r_Cmp x.1 x.2.1⟩
def l24 : FL := (68, none, r_Cmp_C) :: l23
theorem g24 {V : Env} (h0 : Fs Tryz.prog V l0) : Fs Tryz.prog V l24 :=
  have h := g23 h0
  h.cons (gd [] [] [] h tiAll bkNil Tryz.func68 (by kernel_rfl) (fun _ => lsNil) (fun x => by kernel_rfl))
def r_ValidValue_C : Callee := ⟨[.val gVal], [.val .bool], fun x => r_ValidValue x.1⟩
def l25 : FL := (22, none, r_ValidValue_C) :: l24
theorem g25 {V : Env} (h0 : Fs Tryz.prog V l0) : Fs Tryz.prog V l25 :=
  have h := g24 h0
  h.cons (gd [.lp 14 ⟨112, [1, 2, 3], [.box (.dat gVal), .val .bool, .val (.int .i64)], [], []⟩ [.exit 1, .ret] r_ValidValue_s14] [] [] h tiAll bkNil Tryz.func22 (by kernel_rfl) (fun _ => (lsLp (fun x => by kernel_rfl) lsNil)) (fun x => by kernel_rfl))
def r_Store_C : Callee := ⟨[.val gVal, .val .str, .val .str], [.val gVal, .val (.int .i64)], fun x => r_Store x.1 x.2.1 x.2.2.1⟩
def l26 : FL := (45, none, r_Store_C) :: l25
theorem g26 {V : Env} (h0 : Fs Tryz.prog V l0) : Fs Tryz.prog V l26 :=
  have h := g25 h0
  h.cons (gd [.lp 6 ⟨112, [1, 2, 3, 6, 8, 9, 10], [.val .str, .val .str, .box (.dat gVal), .box (.dat gVal), .box (.pair (.dat (.int .i64)) (.pair (.dat .bool) (.pair (.dat .str) (.pair (.own .str) (.own .str))))), .val .bool, .val (.int .i64)], [], []⟩ [.exit 0] r_Store_s6] [] [(11, [8], [66, 68, 74, 100075, 100076]), (13, [8, 3, 103], [92, 94, 96, 97, 98, 108, 100109, 100110])] h tiAll bkNil Tryz.func45 (by kernel_rfl) (fun _ => (lsLp (fun x => by kernel_rfl) lsNil)) (fun x => by kernel_rfl))
def r_Div_C : Callee := ⟨[.val .str, .val .str], [.val .str], fun x => r_Div x.1 x.2.1⟩
def l27 : FL := (179, none, r_Div_C) :: l26
theorem g27 {V : Env} (h0 : Fs Tryz.prog V l0) : Fs Tryz.prog V l27 :=
  have h := g26 h0
  h.cons (gd [] [] [] h tiAll bkNil Tryz.func179 (by kernel_rfl) (fun _ => lsNil) (fun x => by kernel_rfl))
def g_Choices_Number_C : Callee := ⟨[.box (.dat gChoices)], [.val .str], fun x => g_Choices_Number x.1⟩
def l28 : FL := (127, none, g_Choices_Number_C) :: l27
theorem g28 {V : Env} (h0 : Fs Tryz.prog V l0) : Fs Tryz.prog V l28 :=
  have h := g27 h0
  h.cons (gd [] [] [] h tiAll bkNil Tryz.func127 (by kernel_rfl) (fun _ => lsNil) (fun x => by kernel_rfl))
def g_Choices_Num_C : Callee := ⟨[.box (.dat gChoices), .val (.int .i64)], [.val .str], fun x => g_Choices_Num x.1 x.2.1⟩
def l29 : FL := (87, none, g_Choices_Num_C) :: l28
theorem g29 {V : Env} (h0 : Fs Tryz.prog V l0) : Fs Tryz.prog V l29 :=
  have h := g28 h0
  h.cons (gd [] [] [] h tiAll bkNil Tryz.func87 (by kernel_rfl) (fun _ => lsNil) (fun x => by kernel_rfl))
def g_Choices_Value_C : Callee := ⟨[.box (.dat gChoices), .val (.int .i64)], [.val gVal], fun x => g_Choices_Value x.1 x.2.1⟩
def l30 : FL := (43, none, g_Choices_Value_C) :: l29
theorem g30 {V : Env} (h0 : Fs Tryz.prog V l0) : Fs Tryz.prog V l30 :=
  have h := g29 h0
  h.cons (gd [.lp 7 ⟨42, [0, 4, 5, 6], [.box (.dat gChoices), .box (.dat gVal), .box (.dat gVal), .val (.int .i64)], [0], []⟩ [.exit 1] g_Choices_Value_s7] [] [(9, [5], [33, 100005])] h tiAll bkNil Tryz.func43 (by kernel_rfl) (fun _ => (lsLp (fun x => by kernel_rfl) lsNil)) (fun x => by kernel_rfl))
def v_simple_C : Callee := ⟨[.val gVal], [.val .bool], fun x => v_simple x.1⟩
def l31 : FL := (62, none, v_simple_C) :: l30
theorem g31 {V : Env} (h0 : Fs Tryz.prog V l0) : Fs Tryz.prog V l31 :=
  have h := g30 h0
  h.cons (gd [] [] [] h tiAll bkNil Tryz.func62 (by kernel_rfl) (fun _ => lsNil) (fun x => by kernel_rfl))
def n_numeral_C : Callee := ⟨[.val .str], [.val .bool], fun x => n_numeral x.1⟩
def l32 : FL := (110, none, n_numeral_C) :: l31
theorem g32 {V : Env} (h0 : Fs Tryz.prog V l0) : Fs Tryz.prog V l32 :=
  have h := g31 h0
  h.cons (gd [.lp 2 ⟨30, [0, 2, 6, 7, 8], [.val .str, .val .bool, .val (.sl (.int .u8)), .val (.int .i64), .val (.int .i64)], [], []⟩ [.exit 0, .ret] n_numeral_s2] [] [] h tiAll bkNil Tryz.func110 (by kernel_rfl) (fun _ => (lsLp (fun x => by kernel_rfl) lsNil)) (fun x => by kernel_rfl))
def n_IsInt_C : Callee := ⟨[.val .str], [.val .bool], fun x => n_IsInt x.1⟩
def l33 : FL := (63, none, n_IsInt_C) :: l32
theorem g33 {V : Env} (h0 : Fs Tryz.prog V l0) : Fs Tryz.prog V l33 :=
  have h := g32 h0
  h.cons (gd [] [] [] h tiAll bkNil Tryz.func63 (by kernel_rfl) (fun _ => lsNil) (fun x => by kernel_rfl))
def n_divisor_C : Callee := ⟨[.val (.int .i64), .val (.int .i64)], [.val (.int .i64)], fun x => n_divisor x.1 x.2.1⟩
def l34 : FL := (144, none, n_divisor_C) :: l33
theorem g34 {V : Env} (h0 : Fs Tryz.prog V l0) : Fs Tryz.prog V l34 :=
  have h := g33 h0
  h.cons (gd [.lp 1 ⟨12, [0, 1], [.val (.int .i64), .val (.int .i64)], [], []⟩ [.exit 0] n_divisor_s1] [] [] h tiAll bkNil Tryz.func144 (by kernel_rfl) (fun _ => (lsLp (fun x => by kernel_rfl) lsNil)) (fun x => by kernel_rfl))
def n_smallOf_C : Callee := ⟨[.val .str], [.val gSml, .val .bool], fun x => n_smallOf x.1⟩
def l35 : FL := (111, none, n_smallOf_C) :: l34
theorem g35 {V : Env} (h0 : Fs Tryz.prog V l0) : Fs Tryz.prog V l35 :=
  have h := g34 h0
  h.cons (gd [] [] [] h tiAll bkNil Tryz.func111 (by kernel_rfl) (fun _ => lsNil) (fun x => by kernel_rfl))
def n_nat_trim_C : Callee := ⟨[.val (.sl (.int .u32))], [.val (.sl (.int .u32))], fun x => n_nat_trim x.1⟩
def l36 : FL := (203, none, n_nat_trim_C) :: l35
theorem g36 {V : Env} (h0 : Fs Tryz.prog V l0) : Fs Tryz.prog V l36 :=
  have h := g35 h0
  h.cons (gd [.lp 2 ⟨21, [0, 3], [.val (.sl (.int .u32)), .val (.int .i64)], [], []⟩ [.exit 0] n_nat_trim_s2] [] [] h tiAll bkNil Tryz.func203 (by kernel_rfl) (fun _ => (lsLp (fun x => by kernel_rfl) lsNil)) (fun x => by kernel_rfl))
def n_natOf_C : Callee := ⟨[.val .str], [.val (.sl (.int .u32))], fun x => n_natOf x.1⟩
def l37 : FL := (163, none, n_natOf_C) :: l36
theorem g37 {V : Env} (h0 : Fs Tryz.prog V l0) : Fs Tryz.prog V l37 :=
  have h := g36 h0
  h.cons (gd [.lp 7 ⟨39, [0, 3, 4, 5, 20, 21, 22], [.val .str, .row (.int .u32), .val (.int .i64), .val (.int .u32), .val (.sl (.int .u8)), .val (.int .i64), .val (.int .i64)], [], []⟩ [.exit 2] n_natOf_s7, .lp 3 ⟨39, [0, 3, 4], [.val .str, .own (.int .u32), .val (.int .i64)], [], []⟩ [.exit 0] n_natOf_s3] [] [] h tiAll bkNil Tryz.func163 (by kernel_rfl) (fun _ => (lsLp (fun x => by kernel_rfl) (lsLp (fun x => by kernel_rfl) lsNil))) (fun x => by kernel_rfl))
def n_nat_cmp_C : Callee := ⟨[.val (.sl (.int .u32)), .val (.sl (.int .u32))], [.val (.int .i64)], fun x => n_nat_cmp x.1 x.2.1⟩
def l38 : FL := (199, none, n_nat_cmp_C) :: l37
theorem g38 {V : Env} (h0 : Fs Tryz.prog V l0) : Fs Tryz.prog V l38 :=
  have h := g37 h0
  h.cons (gd [.lp 4 ⟨43, [0, 1, 4, 5], [.val (.sl (.int .u32)), .val (.sl (.int .u32)), .val (.int .i64), .val (.int .i64)], [], []⟩ [.exit 0, .ret] n_nat_cmp_s4] [] [] h tiAll bkNil Tryz.func199 (by kernel_rfl) (fun _ => (lsLp (fun x => by kernel_rfl) lsNil)) (fun x => by kernel_rfl))
def n_nat_quoLimb_C : Callee := ⟨[.val (.sl (.int .u32)), .val (.int .u32)], [.val (.sl (.int .u32)), .val (.sl (.int .u32))], fun x => n_nat_quoLimb x.1 x.2.1⟩
def l39 : FL := (257, none, n_nat_quoLimb_C) :: l38
theorem g39 {V : Env} (h0 : Fs Tryz.prog V l0) : Fs Tryz.prog V l39 :=
  have h := g38 h0
  h.cons (gd [.lp 4 ⟨46, [0, 1, 6, 7, 8], [.val (.sl (.int .u32)), .val (.int .u32), .row (.int .u32), .val (.int .u64), .val (.int .i64)], [], []⟩ [.exit 0] n_nat_quoLimb_s4] [] [] h tiAll bkNil Tryz.func257 (by kernel_rfl) (fun _ => (lsLp (fun x => by kernel_rfl) lsNil)) (fun x => by kernel_rfl))
def n_nat_trim_v_C : Callee := ⟨[.row (.int .u32)], [.view 0], fun x => n_nat_trim_v x.1⟩
theorem n_nat_trim_v_sd {V : Env} (h0 : Fs Tryz.prog V l0) : Good V 203 n_nat_trim_v_C :=
  have h := g39 h0
  gd [.lp 2 ⟨21, [0, 3], [.row (.int .u32), .val (.int .i64)], [0], []⟩ [.exit 0] n_nat_trim_v_s2] [] [] h tiAll bkNil Tryz.func203 (by kernel_rfl) (fun _ => (lsLp (fun x => by kernel_rfl) lsNil)) (fun x => by kernel_rfl)
def n_nat_mul_r_C : Callee := ⟨[.val (.sl (.int .u32)), .val (.sl (.int .u32))], [.own (.int .u32)], fun x => n_nat_mul_r x.1 x.2.1⟩
theorem n_nat_mul_r_sd {V : Env} (h0 : Fs Tryz.prog V l0) : Good V 147 n_nat_mul_r_C :=
  have h := g39 h0
  gd [.lp 7 ⟨69, [1, 5, 6, 7, 8, 18, 19, 20, 25, 26, 27], [.val (.sl (.int .u32)), .row (.int .u32), .val (.int .i64), .val (.int .u32), .val (.int .u64), .val (.sl (.int .u32)), .val (.int .i64), .val (.int .i64), .val (.sl (.int .u32)), .val (.int .i64), .val (.int .i64)], [], []⟩ [.exit 2] n_nat_mul_r_s7, .lp 3 ⟨69, [1, 5, 18, 19, 20], [.val (.sl (.int .u32)), .row (.int .u32), .val (.sl (.int .u32)), .val (.int .i64), .val (.int .i64)], [], []⟩ [.exit 0] n_nat_mul_r_s3] [] [] (Fs.cons (s := none) h (n_nat_trim_v_sd h0)) tiAll bkNil Tryz.func147 (by kernel_rfl) (fun _ => (lsLp (fun x => by kernel_rfl) (lsLp (fun x => by kernel_rfl) lsNil))) (fun x => by kernel_rfl)
def n_subtract_C : Callee := ⟨[.row (.int .u32), .val (.sl (.int .u32)), .val (.int .u64)], [.val .bool], fun x => n_subtract x.1 x.2.1 x.2.2.1⟩
def l40 : FL := (306, none, n_subtract_C) :: l39
theorem g40 {V : Env} (h0 : Fs Tryz.prog V l0) : Fs Tryz.prog V l40 :=
  have h := g39 h0
  h.cons (gd [.lp 3 ⟨54, [0, 1, 2, 7, 8, 12, 13], [.row (.int .u32), .val (.sl (.int .u32)), .val (.int .u64), .val (.int .u64), .val (.int .i64), .val (.int .i64), .val (.int .i64)], [0], []⟩ [.exit 0] n_subtract_s3] [] [] h tiAll bkNil Tryz.func306 (by kernel_rfl) (fun _ => (lsLp (fun x => by kernel_rfl) lsNil)) (fun x => by kernel_rfl))
def n_nat_at_C : Callee := ⟨[.val (.sl (.int .u32)), .val (.int .i64)], [.val (.int .u32)], fun x => n_nat_at x.1 x.2.1⟩
def l41 : FL := (252, none, n_nat_at_C) :: l40
theorem g41 {V : Env} (h0 : Fs Tryz.prog V l0) : Fs Tryz.prog V l41 :=
  have h := g40 h0
  h.cons (gd [] [] [] h tiAll bkNil Tryz.func252 (by kernel_rfl) (fun _ => lsNil) (fun x => by kernel_rfl))
def n_restore_C : Callee := ⟨[.row (.int .u32), .val (.sl (.int .u32))], [], fun x => n_restore x.1 x.2.1⟩
def l42 : FL := (307, none, n_restore_C) :: l41
theorem g42 {V : Env} (h0 : Fs Tryz.prog V l0) : Fs Tryz.prog V l42 :=
  have h := g41 h0
  h.cons (gd [.lp 2 ⟨30, [0, 1, 4, 8, 9], [.row (.int .u32), .val (.sl (.int .u32)), .val (.int .u32), .val (.int .i64), .val (.int .i64)], [0], []⟩ [.exit 0] n_restore_s2] [] [] h tiAll bkNil Tryz.func307 (by kernel_rfl) (fun _ => (lsLp (fun x => by kernel_rfl) lsNil)) (fun x => by kernel_rfl))
def n_reduce_C : Callee := ⟨[.row (.int .u32), .val (.sl (.int .u32))], [.val (.int .u32)], fun x => n_reduce x.1 x.2.1⟩
def l43 : FL := (258, none, n_reduce_C) :: l42
theorem g43 {V : Env} (h0 : Fs Tryz.prog V l0) : Fs Tryz.prog V l43 :=
  have h := g42 h0
  h.cons (gd [.lp 4 ⟨77, [0, 1, 5, 7, 8, 9], [.row (.int .u32), .val (.sl (.int .u32)), .val (.int .i64), .val (.int .u64), .val (.int .u64), .val (.int .u64)], [0], []⟩ [.exit 0] n_reduce_s4] [] [] h tiAll bkNil Tryz.func258 (by kernel_rfl) (fun _ => (lsLp (fun x => by kernel_rfl) lsNil)) (fun x => by kernel_rfl))
def n_nat_quoRem_C : Callee := ⟨[.val (.sl (.int .u32)), .val (.sl (.int .u32))], [.val (.sl (.int .u32)), .val (.sl (.int .u32))], fun x => n_nat_quoRem x.1 x.2.1⟩
def l44 : FL := (202, none, n_nat_quoRem_C) :: l43
theorem g44 {V : Env} (h0 : Fs Tryz.prog V l0) : Fs Tryz.prog V l44 :=
  have h := g43 h0
  h.cons (gd [.lp 7 ⟨93, [0, 6, 7, 8], [.val (.sl (.int .u32)), .val (.sl (.int .u32)), .row (.int .u32), .row (.int .u32)], [], []⟩ [.exit 1] n_nat_quoRem_s7, .lp 11 ⟨93, [6, 7, 8, 9, 10], [.val (.sl (.int .u32)), .row (.int .u32), .row (.int .u32), .row (.int .u32), .val (.int .i64)], [], [7]⟩ [.exit 3] n_nat_quoRem_s11] [] [] (Fs.cons (s := none) h (n_nat_mul_r_sd h0)) tiAll bkNil Tryz.func202 (by kernel_rfl) (fun _ => (lsLp (fun x => by kernel_rfl) (lsLp (fun x => by kernel_rfl) lsNil))) (fun x => by kernel_rfl))
def n_gcd_C : Callee := ⟨[.val (.sl (.int .u32)), .val (.sl (.int .u32))], [.val (.sl (.int .u32))], fun x => n_gcd x.1 x.2.1⟩
def l45 : FL := (164, none, n_gcd_C) :: l44
theorem g45 {V : Env} (h0 : Fs Tryz.prog V l0) : Fs Tryz.prog V l45 :=
  have h := g44 h0
  h.cons (gd [.lp 1 ⟨19, [0, 1], [.val (.sl (.int .u32)), .val (.sl (.int .u32))], [], []⟩ [.exit 0] n_gcd_s1] [] [] h tiAll bkNil Tryz.func164 (by kernel_rfl) (fun _ => (lsLp (fun x => by kernel_rfl) lsNil)) (fun x => by kernel_rfl))
def n_nat_one_C : Callee := ⟨[.val (.sl (.int .u32))], [.val .bool], fun x => n_nat_one x.1⟩
def l46 : FL := (149, none, n_nat_one_C) :: l45
theorem g46 {V : Env} (h0 : Fs Tryz.prog V l0) : Fs Tryz.prog V l46 :=
  have h := g45 h0
  h.cons (gd [] [] [] h tiAll bkNil Tryz.func149 (by kernel_rfl) (fun _ => lsNil) (fun x => by kernel_rfl))
def n_read_C : Callee := ⟨[.val .str], [.val gRt, .val .bool], fun x => n_read x.1⟩
def l47 : FL := (112, none, n_read_C) :: l46
theorem g47 {V : Env} (h0 : Fs Tryz.prog V l0) : Fs Tryz.prog V l47 :=
  have h := g46 h0
  h.cons (gd [] [] [] h tiAll bkNil Tryz.func112 (by kernel_rfl) (fun _ => lsNil) (fun x => by kernel_rfl))
def n_Valid_C : Callee := ⟨[.val .str], [.val .bool], fun x => n_Valid x.1⟩
def l48 : FL := (64, none, n_Valid_C) :: l47
theorem g48 {V : Env} (h0 : Fs Tryz.prog V l0) : Fs Tryz.prog V l48 :=
  have h := g47 h0
  h.cons (gd [] [] [] h tiAll bkNil Tryz.func64 (by kernel_rfl) (fun _ => lsNil) (fun x => by kernel_rfl))
def n_Sign_C : Callee := ⟨[.val .str], [.val (.int .i64)], fun x => n_Sign x.1⟩
def l49 : FL := (104, none, n_Sign_C) :: l48
theorem g49 {V : Env} (h0 : Fs Tryz.prog V l0) : Fs Tryz.prog V l49 :=
  have h := g48 h0
  h.cons (gd [] [] [] h tiAll bkNil Tryz.func104 (by kernel_rfl) (fun _ => lsNil) (fun x => by kernel_rfl))
def n_Neg_C : Callee := ⟨[.val .str], [.val .str], fun x => n_Neg x.1⟩
def l50 : FL := (151, none, n_Neg_C) :: l49
theorem g50 {V : Env} (h0 : Fs Tryz.prog V l0) : Fs Tryz.prog V l50 :=
  have h := g49 h0
  h.cons (gd [] [] [] h tiAll bkNil Tryz.func151 (by kernel_rfl) (fun _ => lsNil) (fun x => by kernel_rfl))
def n_fraction_C : Callee := ⟨[.val (.int .i64), .val (.int .i64)], [.val .str], fun x => n_fraction x.1 x.2.1⟩
def l51 : FL := (99, none, n_fraction_C) :: l50
theorem g51 {V : Env} (h0 : Fs Tryz.prog V l0) : Fs Tryz.prog V l51 :=
  have h := g50 h0
  h.cons (gd [] [] [] h tiAll bkNil Tryz.func99 (by kernel_rfl) (fun _ => lsNil) (fun x => by kernel_rfl))
def n_Add_1_C : Callee := ⟨[.val gSml, .val gSml], [.val .str], fun x => n_Add_1 x.1 x.2.1⟩
def l52 : FL := (141, none, n_Add_1_C) :: l51
theorem g52 {V : Env} (h0 : Fs Tryz.prog V l0) : Fs Tryz.prog V l52 :=
  have h := g51 h0
  h.cons (gd [] [] [] h tiAll bkNil Tryz.func141 (by kernel_rfl) (fun _ => lsNil) (fun x => by kernel_rfl))
def n_nat_mul_C : Callee := ⟨[.val (.sl (.int .u32)), .val (.sl (.int .u32))], [.val (.sl (.int .u32))], fun x => n_nat_mul x.1 x.2.1⟩
def l53 : FL := (147, none, n_nat_mul_C) :: l52
theorem g53 {V : Env} (h0 : Fs Tryz.prog V l0) : Fs Tryz.prog V l53 :=
  have h := g52 h0
  h.cons (gd [.lp 7 ⟨69, [1, 5, 6, 7, 8, 18, 19, 20, 25, 26, 27], [.val (.sl (.int .u32)), .row (.int .u32), .val (.int .i64), .val (.int .u32), .val (.int .u64), .val (.sl (.int .u32)), .val (.int .i64), .val (.int .i64), .val (.sl (.int .u32)), .val (.int .i64), .val (.int .i64)], [], []⟩ [.exit 2] n_nat_mul_s7, .lp 3 ⟨69, [1, 5, 18, 19, 20], [.val (.sl (.int .u32)), .row (.int .u32), .val (.sl (.int .u32)), .val (.int .i64), .val (.int .i64)], [], []⟩ [.exit 0] n_nat_mul_s3] [] [] h tiAll bkNil Tryz.func147 (by kernel_rfl) (fun _ => (lsLp (fun x => by kernel_rfl) (lsLp (fun x => by kernel_rfl) lsNil))) (fun x => by kernel_rfl))
def n_nat_add_C : Callee := ⟨[.val (.sl (.int .u32)), .val (.sl (.int .u32))], [.val (.sl (.int .u32))], fun x => n_nat_add x.1 x.2.1⟩
def l54 : FL := (198, none, n_nat_add_C) :: l53
theorem g54 {V : Env} (h0 : Fs Tryz.prog V l0) : Fs Tryz.prog V l54 :=
  have h := g53 h0
  h.cons (gd [.lp 4 ⟨46, [0, 1, 5, 6, 20, 21], [.val (.sl (.int .u32)), .val (.sl (.int .u32)), .row (.int .u32), .val (.int .u32), .val (.int .i64), .val (.int .i64)], [], []⟩ [.exit 0] n_nat_add_s4] [] [] h tiAll bkNil Tryz.func198 (by kernel_rfl) (fun _ => (lsLp (fun x => by kernel_rfl) lsNil)) (fun x => by kernel_rfl))
def n_lowest_C : Callee := ⟨[.val .bool, .val (.sl (.int .u32)), .val (.sl (.int .u32))], [.val gRt], fun x => n_lowest x.1 x.2.1 x.2.2.1⟩
def l55 : FL := (146, none, n_lowest_C) :: l54
theorem g55 {V : Env} (h0 : Fs Tryz.prog V l0) : Fs Tryz.prog V l55 :=
  have h := g54 h0
  h.cons (gd [] [] [] h tiAll bkNil Tryz.func146 (by kernel_rfl) (fun _ => lsNil) (fun x => by kernel_rfl))
def n_nat_sub_C : Callee := ⟨[.val (.sl (.int .u32)), .val (.sl (.int .u32))], [.val (.sl (.int .u32))], fun x => n_nat_sub x.1 x.2.1⟩
def l56 : FL := (200, none, n_nat_sub_C) :: l55
theorem g56 {V : Env} (h0 : Fs Tryz.prog V l0) : Fs Tryz.prog V l56 :=
  have h := g55 h0
  h.cons (gd [.lp 4 ⟨41, [0, 1, 5, 6, 13, 14], [.val (.sl (.int .u32)), .val (.sl (.int .u32)), .row (.int .u32), .val (.int .i64), .val (.int .i64), .val (.int .i64)], [], []⟩ [.exit 0] n_nat_sub_s4] [] [] h tiAll bkNil Tryz.func200 (by kernel_rfl) (fun _ => (lsLp (fun x => by kernel_rfl) lsNil)) (fun x => by kernel_rfl))
def n_rat_add_C : Callee := ⟨[.val gRt, .val gRt], [.val gRt], fun x => n_rat_add x.1 x.2.1⟩
def l57 : FL := (143, none, n_rat_add_C) :: l56
theorem g57 {V : Env} (h0 : Fs Tryz.prog V l0) : Fs Tryz.prog V l57 :=
  have h := g56 h0
  h.cons (gd [] [] [] h tiAll bkNil Tryz.func143 (by kernel_rfl) (fun _ => lsNil) (fun x => by kernel_rfl))
def strings_Builder_WriteString_C : Callee := ⟨[.box (.pair .slf (.own (.int .u8))), .val .str], [.val (.int .i64), .val .err], fun x => strings_Builder_WriteString x.1 x.2.1⟩
def l58 : FL := (169, none, strings_Builder_WriteString_C) :: l57
theorem g58 {V : Env} (h0 : Fs Tryz.prog V l0) : Fs Tryz.prog V l58 :=
  have h := g57 h0
  h.cons (gd [] [] [] h tiAll bkNil Tryz.func169 (by kernel_rfl) (fun _ => lsNil) (fun x => by kernel_rfl))
def n_nat_text_s6_A : Ann := ⟨37, [3], [.box (.pair .slf (.own (.int .u8)))], [0], []⟩
def n_nat_text_C : Callee := ⟨[.val (.sl (.int .u32))], [.val .str], fun x => n_nat_text x.1⟩
def l59 : FL := (148, none, n_nat_text_C) :: l58
theorem g59 {V : Env} (h0 : Fs Tryz.prog V l0) : Fs Tryz.prog V l59 :=
  have h := g58 h0
  h.cons (gd [.raw 6 (rangeF n_nat_text_s6_A 260 .u32 (.tmp 24) (fun v i y => (n_nat_text_s6 v i y).bind fun o => some (n_nat_text_s6_M y o)) n_nat_text_s6_O)] [] [] h tiAll (bkCons backCall_205 bkNil) Tryz.func148 (by kernel_rfl) (fun hE => (lsRaw (rg_ok (A := n_nat_text_s6_A) (merge := n_nat_text_s6_M) (outs := n_nat_text_s6_O) (t1 := 25) (t2 := 26) (s := 26) (d := 5) (round := n_nat_text_s6) hE (h.prog ▸ backOK_260) (show pick 6 (allLoops (fb Tryz.f148)) = bb (sr (sl (sr (sr (sr (sr (fb Tryz.f148))))))) from by kernel_rfl) rfl rfl rfl (fun v i y => by kernel_rfl) (fun y o => by kernel_rfl) (fun y => by kernel_rfl) (fun y => by kernel_rfl) rfl (fun y => by kernel_rfl)) lsNil)) (fun x => by kernel_rfl))
def n_rat_text_C : Callee := ⟨[.val gRt], [.val .str], fun x => n_rat_text x.1⟩
def l60 : FL := (102, none, n_rat_text_C) :: l59
theorem g60 {V : Env} (h0 : Fs Tryz.prog V l0) : Fs Tryz.prog V l60 :=
  have h := g59 h0
  h.cons (gd [] [] [] h tiAll bkNil Tryz.func102 (by kernel_rfl) (fun _ => lsNil) (fun x => by kernel_rfl))
def n_Add_2_C : Callee := ⟨[.val gRt, .val gRt], [.val .str], fun x => n_Add_2 x.1 x.2.1⟩
def l61 : FL := (142, none, n_Add_2_C) :: l60
theorem g61 {V : Env} (h0 : Fs Tryz.prog V l0) : Fs Tryz.prog V l61 :=
  have h := g60 h0
  h.cons (gd [] [] [] h tiAll bkNil Tryz.func142 (by kernel_rfl) (fun _ => lsNil) (fun x => by kernel_rfl))
def n_two_n_Add_1_n_Add_2_C : Callee := ⟨[.val .str, .val .str, .val (.fnv 141 .unit), .val (.fnv 142 .unit)], [.val .str], fun x => n_two_n_Add_1_n_Add_2 x.1 x.2.1 x.2.2.1 x.2.2.2.1⟩
def l62 : FL := (97, some 141, n_two_n_Add_1_n_Add_2_C) :: l61
theorem g62 {V : Env} (h0 : Fs Tryz.prog V l0) : Fs Tryz.prog V l62 :=
  have h := g61 h0
  h.cons (gd [] [] [] h tiAll bkNil Tryz.func97 (by kernel_rfl) (fun _ => lsNil) (fun x => by kernel_rfl))
def n_Add_C : Callee := ⟨[.val .str, .val .str], [.val .str], fun x => n_Add x.1 x.2.1⟩
def l63 : FL := (96, none, n_Add_C) :: l62
theorem g63 {V : Env} (h0 : Fs Tryz.prog V l0) : Fs Tryz.prog V l63 :=
  have h := g62 h0
  h.cons (gd [] [] [] h tiAll bkNil Tryz.func96 (by kernel_rfl) (fun _ => lsNil) (fun x => by kernel_rfl))
def n_Sub_C : Callee := ⟨[.val .str, .val .str], [.val .str], fun x => n_Sub x.1 x.2.1⟩
def l64 : FL := (105, none, n_Sub_C) :: l63
theorem g64 {V : Env} (h0 : Fs Tryz.prog V l0) : Fs Tryz.prog V l64 :=
  have h := g63 h0
  h.cons (gd [] [] [] h tiAll bkNil Tryz.func105 (by kernel_rfl) (fun _ => lsNil) (fun x => by kernel_rfl))
def n_Cmp_C : Callee := ⟨[.val .str, .val .str], [.val (.int .i64)], fun x => n_Cmp x.1 x.2.1⟩
def l65 : FL := (55, none, n_Cmp_C) :: l64
theorem g65 {V : Env} (h0 : Fs Tryz.prog V l0) : Fs Tryz.prog V l65 :=
  have h := g64 h0
  h.cons (gd [] [] [] h tiAll bkNil Tryz.func55 (by kernel_rfl) (fun _ => lsNil) (fun x => by kernel_rfl))
def v_elements_C : Callee := ⟨[.val gVal], [.val .bool], fun x => v_elements x.1⟩
def l66 : FL := (65, none, v_elements_C) :: l65
theorem g66 {V : Env} (h0 : Fs Tryz.prog V l0) : Fs Tryz.prog V l66 :=
  have h := g65 h0
  h.cons (gd [.lp 4 ⟨58, [1, 2, 13, 14, 15], [.box (.dat gVal), .val .bool, .val (.sl .str), .val (.int .i64), .val (.int .i64)], [], []⟩ [.exit 0, .ret] v_elements_s4] [] [] h tiAll bkNil Tryz.func65 (by kernel_rfl) (fun _ => (lsLp (fun x => by kernel_rfl) lsNil)) (fun x => by kernel_rfl))
def v_Valid_C : Callee := ⟨[.val gVal], [.val .bool], fun x => v_Valid x.1⟩
def l67 : FL := (21, none, v_Valid_C) :: l66
theorem g67 {V : Env} (h0 : Fs Tryz.prog V l0) : Fs Tryz.prog V l67 :=
  have h := g66 h0
  h.cons (gd [] [] [] h tiAll bkNil Tryz.func21 (by kernel_rfl) (fun _ => lsNil) (fun x => by kernel_rfl))
def v_array_C : Callee := ⟨[.val gVal], [.val .bool], fun x => v_array x.1⟩
def l68 : FL := (88, none, v_array_C) :: l67
theorem g68 {V : Env} (h0 : Fs Tryz.prog V l0) : Fs Tryz.prog V l68 :=
  have h := g67 h0
  h.cons (gd [] [] [] h tiAll bkNil Tryz.func88 (by kernel_rfl) (fun _ => lsNil) (fun x => by kernel_rfl))
def slices_BinarySearchFunc_string_string_string_n_Cmp_C : Callee := ⟨[.val (.sl .str), .val .str, .val (.fnv 55 .unit)], [.val (.int .i64), .val .bool], fun x => slices_BinarySearchFunc_string_string_string_n_Cmp x.1 x.2.1 x.2.2.1⟩
def l69 : FL := (180, some 55, slices_BinarySearchFunc_string_string_string_n_Cmp_C) :: l68
theorem g69 {V : Env} (h0 : Fs Tryz.prog V l0) : Fs Tryz.prog V l69 :=
  have h := g68 h0
  h.cons (gd [.lp 3 ⟨49, [0, 1, 2, 8, 9, 10], [.val (.sl .str), .val .str, .val (.fnv 55 .unit), .val (.int .i64), .val (.int .i64), .val (.int .i64)], [], []⟩ [.exit 0] slices_BinarySearchFunc_string_string_string_n_Cmp_s3] [] [] h tiAll bkNil Tryz.func180 (by kernel_rfl) (fun _ => (lsLp (fun x => by kernel_rfl) lsNil)) (fun x => by kernel_rfl))
def v_place_C : Callee := ⟨[.val gVal, .val .str], [.val (.int .i64), .val .bool], fun x => v_place x.1 x.2.1⟩
def l70 : FL := (128, none, v_place_C) :: l69
theorem g70 {V : Env} (h0 : Fs Tryz.prog V l0) : Fs Tryz.prog V l70 :=
  have h := g69 h0
  h.cons (gd [] [] [] h tiAll bkNil Tryz.func128 (by kernel_rfl) (fun _ => lsNil) (fun x => by kernel_rfl))
def v_at_C : Callee := ⟨[.val gVal, .val .str], [.val .str], fun x => v_at x.1 x.2.1⟩
def l71 : FL := (90, none, v_at_C) :: l70
theorem g71 {V : Env} (h0 : Fs Tryz.prog V l0) : Fs Tryz.prog V l71 :=
  have h := g70 h0
  h.cons (gd [] [] [] h tiAll bkNil Tryz.func90 (by kernel_rfl) (fun _ => lsNil) (fun x => by kernel_rfl))
def v_At_C : Callee := ⟨[.val gVal, .val .str], [.val .str], fun x => v_At x.1 x.2.1⟩
def l72 : FL := (46, none, v_At_C) :: l71
theorem g72 {V : Env} (h0 : Fs Tryz.prog V l0) : Fs Tryz.prog V l72 :=
  have h := g71 h0
  h.cons (gd [] [] [] h tiAll bkNil Tryz.func46 (by kernel_rfl) (fun _ => lsNil) (fun x => by kernel_rfl))
def slices_Equal_string_string_C : Callee := ⟨[.val (.sl .str), .val (.sl .str)], [.val .bool], fun x => slices_Equal_string_string x.1 x.2.1⟩
def l73 : FL := (72, none, slices_Equal_string_string_C) :: l72
theorem g73 {V : Env} (h0 : Fs Tryz.prog V l0) : Fs Tryz.prog V l73 :=
  have h := g72 h0
  h.cons (gd [.lp 4 ⟨26, [0, 1, 4, 12, 13], [.val (.sl .str), .val (.sl .str), .val .bool, .val (.int .i64), .val (.int .i64)], [], []⟩ [.exit 0, .ret] slices_Equal_string_string_s4] [] [] h tiAll bkNil Tryz.func72 (by kernel_rfl) (fun _ => (lsLp (fun x => by kernel_rfl) lsNil)) (fun x => by kernel_rfl))
def v_Equal_C : Callee := ⟨[.val gVal, .val gVal], [.val .bool], fun x => v_Equal x.1 x.2.1⟩
def l74 : FL := (26, none, v_Equal_C) :: l73
theorem g74 {V : Env} (h0 : Fs Tryz.prog V l0) : Fs Tryz.prog V l74 :=
  have h := g73 h0
  h.cons (gd [] [] [] h tiAll bkNil Tryz.func26 (by kernel_rfl) (fun _ => lsNil) (fun x => by kernel_rfl))
def v_Zero_C : Callee := ⟨[.val (.int .i64)], [.val gVal, .val (.int .i64)], fun x => v_Zero x.1⟩
def l75 : FL := (28, none, v_Zero_C) :: l74
theorem g75 {V : Env} (h0 : Fs Tryz.prog V l0) : Fs Tryz.prog V l75 :=
  have h := g74 h0
  h.cons (gd [] [] [] h tiAll bkNil Tryz.func28 (by kernel_rfl) (fun _ => lsNil) (fun x => by kernel_rfl))
def v_clone_C : Callee := ⟨[.val gVal], [.obj (.pair (.dat (.int .i64)) (.pair (.dat .bool) (.pair (.dat .str) (.pair (.own .str) (.own .str)))))], fun x => v_clone x.1⟩
def l76 : FL := (94, none, v_clone_C) :: l75
theorem g76 {V : Env} (h0 : Fs Tryz.prog V l0) : Fs Tryz.prog V l76 :=
  have h := g75 h0
  h.cons (gd [] [] [(1, [1], [4, 8, 100009, 100010])] h tiAll bkNil Tryz.func94 (by kernel_rfl) (fun _ => lsNil) (fun x => by kernel_rfl))
def v_store_C : Callee := ⟨[.val gVal, .val .str, .val .str], [.val gVal], fun x => v_store x.1 x.2.1 x.2.2.1⟩
def l77 : FL := (89, none, v_store_C) :: l76
theorem g77 {V : Env} (h0 : Fs Tryz.prog V l0) : Fs Tryz.prog V l77 :=
  have h := g76 h0
  h.cons (gd [] [] [(4, [3], [26, 36, 100037, 100038]), (8, [3], [52, 55, 62, 100063, 100064])] h tiAll bkNil Tryz.func89 (by kernel_rfl) (fun _ => lsNil) (fun x => by kernel_rfl))
def v_Store_C : Callee := ⟨[.val gVal, .val .str, .val .str], [.val gVal, .val (.int .i64)], fun x => v_Store x.1 x.2.1 x.2.2.1⟩
def l78 : FL := (44, none, v_Store_C) :: l77
theorem g78 {V : Env} (h0 : Fs Tryz.prog V l0) : Fs Tryz.prog V l78 :=
  have h := g77 h0
  h.cons (gd [] [] [] h tiAll bkNil Tryz.func44 (by kernel_rfl) (fun _ => lsNil) (fun x => by kernel_rfl))
def r_Num1_C : Callee := ⟨[.val (.int .i64), .val .str], [.val (.sl gNod)], fun x => r_Num1 x.1 x.2.1⟩
def l79 : FL := (37, none, r_Num1_C) :: l78
theorem g79 {V : Env} (h0 : Fs Tryz.prog V l0) : Fs Tryz.prog V l79 :=
  have h := g78 h0
  h.cons (gd [] [] [] h tiAll bkNil Tryz.func37 (by kernel_rfl) (fun _ => lsNil) (fun x => by kernel_rfl))
def r_Join_C : Callee := ⟨[.val gNod, .val (.sl (.sl gNod))], [.val (.sl gNod)], fun x => r_Join x.1 x.2.1⟩
def l80 : FL := (36, none, r_Join_C) :: l79
theorem g80 {V : Env} (h0 : Fs Tryz.prog V l0) : Fs Tryz.prog V l80 :=
  have h := g79 h0
  h.cons (gd [.lp 4 ⟨25, [1, 5, 6], [.val (.sl (.sl gNod)), .row gNod, .val (.int .i64)], [], []⟩ [.exit 0] r_Join_s4] [11] [] h tiAll bkNil Tryz.func36 (by kernel_rfl) (fun _ => (lsLp (fun x => by kernel_rfl) lsNil)) (fun x => by kernel_rfl))
def v_bindings_C : Callee := ⟨[.val (.sl gBind)], [.val (.map gVal), .val .bool], fun x => v_bindings x.1⟩
def l81 : FL := (91, none, v_bindings_C) :: l80
theorem g81 {V : Env} (h0 : Fs Tryz.prog V l0) : Fs Tryz.prog V l81 :=
  have h := g80 h0
  h.cons (gd [.lp 3 ⟨36, [2, 3, 4, 10, 11, 12], [.val (.map gVal), .val .bool, .mp gVal, .val (.sl gBind), .val (.int .i64), .val (.int .i64)], [], []⟩ [.exit 0, .ret] v_bindings_s3] [] [] h tiAll bkNil Tryz.func91 (by kernel_rfl) (fun _ => (lsLp (fun x => by kernel_rfl) lsNil)) (fun x => by kernel_rfl))
def v_allValid_1_C : Callee := ⟨[.val gVal], [.val .bool], fun x => v_allValid_1 x.1⟩
def l82 : FL := (184, none, v_allValid_1_C) :: l81
theorem g82 {V : Env} (h0 : Fs Tryz.prog V l0) : Fs Tryz.prog V l82 :=
  have h := g81 h0
  h.cons (gd [] [] [] h tiAll bkNil Tryz.func184 (by kernel_rfl) (fun _ => lsNil) (fun x => by kernel_rfl))
def slices_IndexFunc_Value_Value_v_allValid_1_C : Callee := ⟨[.val (.sl gVal), .val (.fnv 184 .unit)], [.val (.int .i64)], fun x => slices_IndexFunc_Value_Value_v_allValid_1 x.1 x.2.1⟩
def l83 : FL := (242, some 184, slices_IndexFunc_Value_Value_v_allValid_1_C) :: l82
theorem g83 {V : Env} (h0 : Fs Tryz.prog V l0) : Fs Tryz.prog V l83 :=
  have h := g82 h0
  h.cons (gd [.lp 2 ⟨19, [0, 1, 4, 7, 8], [.val (.sl gVal), .val (.fnv 184 .unit), .val (.int .i64), .val (.int .i64), .val (.int .i64)], [], []⟩ [.exit 0, .ret] slices_IndexFunc_Value_Value_v_allValid_1_s2] [] [] h tiAll bkNil Tryz.func242 (by kernel_rfl) (fun _ => (lsLp (fun x => by kernel_rfl) lsNil)) (fun x => by kernel_rfl))
def slices_ContainsFunc_Value_Value_v_allValid_1_C : Callee := ⟨[.val (.sl gVal), .val (.fnv 184 .unit)], [.val .bool], fun x => slices_ContainsFunc_Value_Value_v_allValid_1 x.1 x.2.1⟩
def l84 : FL := (183, some 184, slices_ContainsFunc_Value_Value_v_allValid_1_C) :: l83
theorem g84 {V : Env} (h0 : Fs Tryz.prog V l0) : Fs Tryz.prog V l84 :=
  have h := g83 h0
  h.cons (gd [] [] [] h tiAll bkNil Tryz.func183 (by kernel_rfl) (fun _ => lsNil) (fun x => by kernel_rfl))
def v_allValid_C : Callee := ⟨[.val (.sl gVal)], [.val .bool], fun x => v_allValid x.1⟩
def l85 : FL := (131, none, v_allValid_C) :: l84
theorem g85 {V : Env} (h0 : Fs Tryz.prog V l0) : Fs Tryz.prog V l85 :=
  have h := g84 h0
  h.cons (gd [] [] [] h tiAll bkNil Tryz.func131 (by kernel_rfl) (fun _ => lsNil) (fun x => by kernel_rfl))
def v_meanings_1_C : Callee := ⟨[.val (.sl gVal)], [.val .bool], fun x => v_meanings_1 x.1⟩
def l86 : FL := (133, none, v_meanings_1_C) :: l85
theorem g86 {V : Env} (h0 : Fs Tryz.prog V l0) : Fs Tryz.prog V l86 :=
  have h := g85 h0
  h.cons (gd [] [] [] h tiAll bkNil Tryz.func133 (by kernel_rfl) (fun _ => lsNil) (fun x => by kernel_rfl))
def slices_IndexFunc_Value_Value_v_meanings_1_C : Callee := ⟨[.val (.sl (.sl gVal)), .val (.fnv 133 .unit)], [.val (.int .i64)], fun x => slices_IndexFunc_Value_Value_v_meanings_1 x.1 x.2.1⟩
def l87 : FL := (185, some 133, slices_IndexFunc_Value_Value_v_meanings_1_C) :: l86
theorem g87 {V : Env} (h0 : Fs Tryz.prog V l0) : Fs Tryz.prog V l87 :=
  have h := g86 h0
  h.cons (gd [.lp 2 ⟨19, [0, 1, 4, 7, 8], [.val (.sl (.sl gVal)), .val (.fnv 133 .unit), .val (.int .i64), .val (.int .i64), .val (.int .i64)], [], []⟩ [.exit 0, .ret] slices_IndexFunc_Value_Value_v_meanings_1_s2] [] [] h tiAll bkNil Tryz.func185 (by kernel_rfl) (fun _ => (lsLp (fun x => by kernel_rfl) lsNil)) (fun x => by kernel_rfl))
def slices_ContainsFunc_Value_Value_v_meanings_1_C : Callee := ⟨[.val (.sl (.sl gVal)), .val (.fnv 133 .unit)], [.val .bool], fun x => slices_ContainsFunc_Value_Value_v_meanings_1 x.1 x.2.1⟩
def l88 : FL := (132, some 133, slices_ContainsFunc_Value_Value_v_meanings_1_C) :: l87
theorem g88 {V : Env} (h0 : Fs Tryz.prog V l0) : Fs Tryz.prog V l88 :=
  have h := g87 h0
  h.cons (gd [] [] [] h tiAll bkNil Tryz.func132 (by kernel_rfl) (fun _ => lsNil) (fun x => by kernel_rfl))
def v_meanings_C : Callee := ⟨[.val (.sl gInterp)], [.val (.map gInterp), .val .bool], fun x => v_meanings x.1⟩
def l89 : FL := (92, none, v_meanings_C) :: l88
theorem g89 {V : Env} (h0 : Fs Tryz.prog V l0) : Fs Tryz.prog V l89 :=
  have h := g88 h0
  h.cons (gd [.lp 3 ⟨53, [2, 3, 4, 10, 11, 12], [.val (.map gInterp), .val .bool, .mp gInterp, .val (.sl gInterp), .val (.int .i64), .val (.int .i64)], [], []⟩ [.exit 0, .ret] v_meanings_s3] [] [] h tiAll bkNil Tryz.func92 (by kernel_rfl) (fun _ => (lsLp (fun x => by kernel_rfl) lsNil)) (fun x => by kernel_rfl))
def t_numbered_C : Callee := ⟨[.val (.int .i64), .val .str], [.val .bool], fun x => t_numbered x.1 x.2.1⟩
def l90 : FL := (244, none, t_numbered_C) :: l89
theorem g90 {V : Env} (h0 : Fs Tryz.prog V l0) : Fs Tryz.prog V l90 :=
  have h := g89 h0
  h.cons (gd [] [] [] h tiAll bkNil Tryz.func244 (by kernel_rfl) (fun _ => lsNil) (fun x => by kernel_rfl))
def t_isSort_C : Callee := ⟨[.val (.int .i64)], [.val .bool], fun x => t_isSort x.1⟩
def l91 : FL := (245, none, t_isSort_C) :: l90
theorem g91 {V : Env} (h0 : Fs Tryz.prog V l0) : Fs Tryz.prog V l91 :=
  have h := g90 h0
  h.cons (gd [] [] [] h tiAll bkNil Tryz.func245 (by kernel_rfl) (fun _ => lsNil) (fun x => by kernel_rfl))
def t_letter_C : Callee := ⟨[.val (.int .u8)], [.val .bool], fun x => t_letter x.1⟩
def l92 : FL := (297, none, t_letter_C) :: l91
theorem g92 {V : Env} (h0 : Fs Tryz.prog V l0) : Fs Tryz.prog V l92 :=
  have h := g91 h0
  h.cons (gd [] [] [] h tiAll bkNil Tryz.func297 (by kernel_rfl) (fun _ => lsNil) (fun x => by kernel_rfl))
def t_word_C : Callee := ⟨[.val .str], [.val .bool], fun x => t_word x.1⟩
def l93 : FL := (298, none, t_word_C) :: l92
theorem g93 {V : Env} (h0 : Fs Tryz.prog V l0) : Fs Tryz.prog V l93 :=
  have h := g92 h0
  h.cons (gd [] [] [] h tiAll bkNil Tryz.func298 (by kernel_rfl) (fun _ => lsNil) (fun x => by kernel_rfl))
def t_IsName_C : Callee := ⟨[.val .str], [.val .bool], fun x => t_IsName x.1⟩
def l94 : FL := (246, none, t_IsName_C) :: l93
theorem g94 {V : Env} (h0 : Fs Tryz.prog V l0) : Fs Tryz.prog V l94 :=
  have h := g93 h0
  h.cons (gd [.lp 4 ⟨51, [0, 2, 23, 24], [.val .str, .val .bool, .val (.int .i64), .val (.int .i64)], [], []⟩ [.exit 0, .ret] t_IsName_s4] [] [] h tiAll bkNil Tryz.func246 (by kernel_rfl) (fun _ => (lsLp (fun x => by kernel_rfl) lsNil)) (fun x => by kernel_rfl))
def t_fields_C : Callee := ⟨[.val gNod], [.val .bool], fun x => t_fields x.1⟩
def l95 : FL := (192, none, t_fields_C) :: l94
theorem g95 {V : Env} (h0 : Fs Tryz.prog V l0) : Fs Tryz.prog V l95 :=
  have h := g94 h0
  h.cons (gd [] [] [] h tiAll bkNil Tryz.func192 (by kernel_rfl) (fun _ => lsNil) (fun x => by kernel_rfl))
def t_count_C : Callee := ⟨[.val (.int .i64), .val (.int .i64)], [.val .bool], fun x => t_count x.1 x.2.1⟩
def l96 : FL := (193, none, t_count_C) :: l95
theorem g96 {V : Env} (h0 : Fs Tryz.prog V l0) : Fs Tryz.prog V l96 :=
  have h := g95 h0
  h.cons (gd [] [] [] h tiAll bkNil Tryz.func193 (by kernel_rfl) (fun _ => lsNil) (fun x => by kernel_rfl))
def t_all_1_C : Callee := ⟨[.val (.int .i64), .val (.ptr (.int .i64))], [.val .bool], fun x => t_all_1 x.1 x.2.1⟩
def l97 : FL := (300, none, t_all_1_C) :: l96
theorem g97 {V : Env} (h0 : Fs Tryz.prog V l0) : Fs Tryz.prog V l97 :=
  have h := g96 h0
  h.cons (gd [] [] [] h tiAll bkNil Tryz.func300 (by kernel_rfl) (fun _ => lsNil) (fun x => by kernel_rfl))
def slices_IndexFunc_int_int_t_all_1_C : Callee := ⟨[.val (.sl (.int .i64)), .val (.fnv 300 (.ptr (.int .i64)))], [.val (.int .i64)], fun x => slices_IndexFunc_int_int_t_all_1 x.1 x.2.1⟩
def l98 : FL := (337, some 300, slices_IndexFunc_int_int_t_all_1_C) :: l97
theorem g98 {V : Env} (h0 : Fs Tryz.prog V l0) : Fs Tryz.prog V l98 :=
  have h := g97 h0
  h.cons (gd [.lp 2 ⟨19, [0, 1, 4, 7, 8], [.val (.sl (.int .i64)), .val (.fnv 300 (.ptr (.int .i64))), .val (.int .i64), .val (.int .i64), .val (.int .i64)], [], []⟩ [.exit 0, .ret] slices_IndexFunc_int_int_t_all_1_s2] [] [] h tiAll bkNil Tryz.func337 (by kernel_rfl) (fun _ => (lsLp (fun x => by kernel_rfl) lsNil)) (fun x => by kernel_rfl))
def slices_ContainsFunc_int_int_t_all_1_C : Callee := ⟨[.val (.sl (.int .i64)), .val (.fnv 300 (.ptr (.int .i64)))], [.val .bool], fun x => slices_ContainsFunc_int_int_t_all_1 x.1 x.2.1⟩
def l99 : FL := (299, some 300, slices_ContainsFunc_int_int_t_all_1_C) :: l98
theorem g99 {V : Env} (h0 : Fs Tryz.prog V l0) : Fs Tryz.prog V l99 :=
  have h := g98 h0
  h.cons (gd [] [] [] h tiAll bkNil Tryz.func299 (by kernel_rfl) (fun _ => lsNil) (fun x => by kernel_rfl))
def t_all_C : Callee := ⟨[.val (.sl (.int .i64)), .val (.int .i64)], [.val .bool], fun x => t_all x.1 x.2.1⟩
def l100 : FL := (249, none, t_all_C) :: l99
theorem g100 {V : Env} (h0 : Fs Tryz.prog V l0) : Fs Tryz.prog V l100 :=
  have h := g99 h0
  h.cons (gd [] [] [] h tiAll bkNil Tryz.func249 (by kernel_rfl) (fun _ => lsNil) (fun x => by kernel_rfl))
def t_when_C : Callee := ⟨[.val .bool, .val (.int .i64)], [.val (.int .i64)], fun x => t_when x.1 x.2.1⟩
def l101 : FL := (248, none, t_when_C) :: l100
theorem g101 {V : Env} (h0 : Fs Tryz.prog V l0) : Fs Tryz.prog V l101 :=
  have h := g100 h0
  h.cons (gd [] [] [] h tiAll bkNil Tryz.func248 (by kernel_rfl) (fun _ => lsNil) (fun x => by kernel_rfl))
def t_numeric_C : Callee := ⟨[.val (.int .i64)], [.val .bool], fun x => t_numeric x.1⟩
def l102 : FL := (250, none, t_numeric_C) :: l101
theorem g102 {V : Env} (h0 : Fs Tryz.prog V l0) : Fs Tryz.prog V l102 :=
  have h := g101 h0
  h.cons (gd [] [] [] h tiAll bkNil Tryz.func250 (by kernel_rfl) (fun _ => lsNil) (fun x => by kernel_rfl))
def t_sortOf_C : Callee := ⟨[.val gNod, .val (.sl (.int .i64))], [.val (.int .i64)], fun x => t_sortOf x.1 x.2.1⟩
def l103 : FL := (195, none, t_sortOf_C) :: l102
theorem g103 {V : Env} (h0 : Fs Tryz.prog V l0) : Fs Tryz.prog V l103 :=
  have h := g102 h0
  h.cons (gd [] [] [] h tiAll bkNil Tryz.func195 (by kernel_rfl) (fun _ => lsNil) (fun x => by kernel_rfl))
def t_look_s13_A : Ann := ⟨142, [4, 9, 10], [.box (.box (.pair (.dat (.sl gNod)) (.own (.pair (.int .i64) gSml)))), .box (.dat (.pair (.int .i64) gSml)), .box (.own (.int .i64))], [0, 1, 2], []⟩
def t_look_C : Callee := ⟨[.val (.sl gNod)], [.val (.ptr gView), .val .bool], fun x => t_look x.1⟩
def l104 : FL := (138, none, t_look_C) :: l103
theorem g104 {V : Env} (h0 : Fs Tryz.prog V l0) : Fs Tryz.prog V l104 :=
  have h := g103 h0
  h.cons (gd [.raw 13 (rangeF t_look_s13_A 247 .i64 (.tmp 64) (fun v i y => (t_look_s13 v i y).bind fun o => some (t_look_s13_M y o)) t_look_s13_O), .lp 4 ⟨142, [0, 2, 3, 4, 5, 6], [.val (.sl gNod), .val (.ptr gView), .val .bool, .box (.box (.pair (.dat (.sl gNod)) (.own (.pair (.int .i64) gSml)))), .own (.int .i64), .val (.int .i64)], [], []⟩ [.exit 0, .ret] t_look_s4] [] [] h tiAll (bkCons backCall_194 bkNil) Tryz.func138 (by kernel_rfl) (fun hE => (lsRaw (rg_ok (A := t_look_s13_A) (merge := t_look_s13_M) (outs := t_look_s13_O) (t1 := 65) (t2 := 66) (s := 66) (d := 12) (round := t_look_s13) hE (h.prog ▸ backOK_247) (show pick 13 (allLoops (fb Tryz.f138)) = bb (sr (sl (sr (sr (sr (sr (sr (bb (sl (sr (lb (bb (sr (sl (sr (sr (sr (fb Tryz.f138)))))))))))))))))) from by kernel_rfl) rfl rfl rfl (fun v i y => by kernel_rfl) (fun y o => by kernel_rfl) (fun y => by kernel_rfl) (fun y => by kernel_rfl) rfl (fun y => by kernel_rfl)) (lsLp (fun x => by kernel_rfl) lsNil))) (fun x => by kernel_rfl))
def t_view_large_C : Callee := ⟨[.val (.ptr gView)], [.val .bool], fun x => t_view_large x.1⟩
def l105 : FL := (139, none, t_view_large_C) :: l104
theorem g105 {V : Env} (h0 : Fs Tryz.prog V l0) : Fs Tryz.prog V l105 :=
  have h := g104 h0
  h.cons (gd [] [] [] h tiAll bkNil Tryz.func139 (by kernel_rfl) (fun _ => lsNil) (fun x => by kernel_rfl))
def t_view_kids_C : Callee := ⟨[.val (.ptr gView), .val (.int .i64)], [.val (.sl (.int .i64))], fun x => t_view_kids x.1 x.2.1⟩
def l106 : FL := (172, none, t_view_kids_C) :: l105
theorem g106 {V : Env} (h0 : Fs Tryz.prog V l0) : Fs Tryz.prog V l106 :=
  have h := g105 h0
  h.cons (gd [.lp 4 ⟨33, [0, 5, 6, 16, 17], [.val (.ptr gView), .own (.int .i64), .val (.int .i64), .val (.int .i64), .val (.int .i64)], [], []⟩ [.exit 0] t_view_kids_s4] [] [] h tiAll bkNil Tryz.func172 (by kernel_rfl) (fun _ => (lsLp (fun x => by kernel_rfl) lsNil)) (fun x => by kernel_rfl))
def t_view_signature_C : Callee := ⟨[.val (.ptr gView), .val (.int .i64)], [.val (.pair .str gChoices)], fun x => t_view_signature x.1 x.2.1⟩
def l107 : FL := (196, none, t_view_signature_C) :: l106
theorem g107 {V : Env} (h0 : Fs Tryz.prog V l0) : Fs Tryz.prog V l107 :=
  have h := g106 h0
  h.cons (gd [.lp 3 ⟨48, [0, 4, 5, 27, 28, 29], [.val (.ptr gView), .box (.dat (.pair .str gChoices)), .box (.pair (.dat .str) (.pair (.own (.int .i64)) (.dat (.int .i64)))), .val (.sl (.int .i64)), .val (.int .i64), .val (.int .i64)], [], []⟩ [.exit 0] t_view_signature_s3] [] [(1, [0, 11, 19], [100005])] h tiAll bkNil Tryz.func196 (by kernel_rfl) (fun _ => (lsLp (fun x => by kernel_rfl) lsNil)) (fun x => by kernel_rfl))
def slices_Equal_int_int_C : Callee := ⟨[.val (.sl (.int .i64)), .val (.sl (.int .i64))], [.val .bool], fun x => slices_Equal_int_int x.1 x.2.1⟩
def l108 : FL := (251, none, slices_Equal_int_int_C) :: l107
theorem g108 {V : Env} (h0 : Fs Tryz.prog V l0) : Fs Tryz.prog V l108 :=
  have h := g107 h0
  h.cons (gd [.lp 4 ⟨26, [0, 1, 4, 12, 13], [.val (.sl (.int .i64)), .val (.sl (.int .i64)), .val .bool, .val (.int .i64), .val (.int .i64)], [], []⟩ [.exit 0, .ret] slices_Equal_int_int_s4] [] [] h tiAll bkNil Tryz.func251 (by kernel_rfl) (fun _ => (lsLp (fun x => by kernel_rfl) lsNil)) (fun x => by kernel_rfl))
def t_same_C : Callee := ⟨[.val (.pair .str gChoices), .val (.pair .str gChoices)], [.val .bool], fun x => t_same x.1 x.2.1⟩
def l109 : FL := (197, none, t_same_C) :: l108
theorem g109 {V : Env} (h0 : Fs Tryz.prog V l0) : Fs Tryz.prog V l109 :=
  have h := g108 h0
  h.cons (gd [] [] [] h tiAll bkNil Tryz.func197 (by kernel_rfl) (fun _ => lsNil) (fun x => by kernel_rfl))
def t_view_names_C : Callee := ⟨[.val (.ptr gView)], [.val (.sl gVr), .val (.sl (.pair .str gChoices)), .val .bool], fun x => t_view_names x.1⟩
def l110 : FL := (140, none, t_view_names_C) :: l109
theorem g110 {V : Env} (h0 : Fs Tryz.prog V l0) : Fs Tryz.prog V l110 :=
  have h := g109 h0
  h.cons (gd [.lp 5 ⟨113, [0, 2, 3, 4, 5, 6, 7, 8, 25, 26, 27], [.val (.ptr gView), .val (.sl gVr), .val (.sl (.pair .str gChoices)), .val .bool, .mp gVr, .mp (.pair .str gChoices), .own gVr, .own (.pair .str gChoices), .val (.sl gNod), .val (.int .i64), .val (.int .i64)], [], []⟩ [.exit 0, .ret] t_view_names_s5] [] [] h tiAll bkNil Tryz.func140 (by kernel_rfl) (fun _ => (lsLp (fun x => by kernel_rfl) lsNil)) (fun x => by kernel_rfl))
def t_known_C : Callee := ⟨[.val (.sl gNod)], [.val (.ptr gView), .val .bool], fun x => t_known x.1⟩
def l111 : FL := (95, none, t_known_C) :: l110
theorem g111 {V : Env} (h0 : Fs Tryz.prog V l0) : Fs Tryz.prog V l111 :=
  have h := g110 h0
  h.cons (gd [] [] [] h tiAll bkNil Tryz.func95 (by kernel_rfl) (fun _ => lsNil) (fun x => by kernel_rfl))
def t_Valid_C : Callee := ⟨[.val (.sl gNod)], [.val .bool], fun x => t_Valid x.1⟩
def l112 : FL := (59, none, t_Valid_C) :: l111
theorem g112 {V : Env} (h0 : Fs Tryz.prog V l0) : Fs Tryz.prog V l112 :=
  have h := g111 h0
  h.cons (gd [] [] [] h tiAll bkNil Tryz.func59 (by kernel_rfl) (fun _ => lsNil) (fun x => by kernel_rfl))
def v_evaluator_variable_C : Callee := ⟨[.box (.dat gEvl), .val gNod], [.val gVal, .val (.int .i64)], fun x => v_evaluator_variable x.1 x.2.1⟩
def l113 : FL := (134, none, v_evaluator_variable_C) :: l112
theorem g113 {V : Env} (h0 : Fs Tryz.prog V l0) : Fs Tryz.prog V l113 :=
  have h := g112 h0
  h.cons (gd [] [] [(1, [0, 3, 12], [100006])] h tiAll bkNil Tryz.func134 (by kernel_rfl) (fun _ => lsNil) (fun x => by kernel_rfl))
def slices_EqualFunc_Value_Value_Value_Value_v_Equal_C : Callee := ⟨[.val (.sl gVal), .val (.sl gVal), .val (.fnv 26 .unit)], [.val .bool], fun x => slices_EqualFunc_Value_Value_Value_Value_v_Equal x.1 x.2.1 x.2.2.1⟩
def l114 : FL := (187, some 26, slices_EqualFunc_Value_Value_Value_Value_v_Equal_C) :: l113
theorem g114 {V : Env} (h0 : Fs Tryz.prog V l0) : Fs Tryz.prog V l114 :=
  have h := g113 h0
  h.cons (gd [.lp 4 ⟨32, [1, 2, 6, 15, 16, 17], [.val (.sl gVal), .val (.fnv 26 .unit), .val .bool, .val (.sl gVal), .val (.int .i64), .val (.int .i64)], [], []⟩ [.exit 0, .ret] slices_EqualFunc_Value_Value_Value_Value_v_Equal_s4] [] [] h tiAll bkNil Tryz.func187 (by kernel_rfl) (fun _ => (lsLp (fun x => by kernel_rfl) lsNil)) (fun x => by kernel_rfl))
def v_evaluator_call_1_C : Callee := ⟨[.val (.sl gVal), .val (.ptr (.sl gVal))], [.val .bool], fun x => v_evaluator_call_1 x.1 x.2.1⟩
def l115 : FL := (186, none, v_evaluator_call_1_C) :: l114
theorem g115 {V : Env} (h0 : Fs Tryz.prog V l0) : Fs Tryz.prog V l115 :=
  have h := g114 h0
  h.cons (gd [] [] [] h tiAll bkNil Tryz.func186 (by kernel_rfl) (fun _ => lsNil) (fun x => by kernel_rfl))
def slices_IndexFunc_Value_Value_v_evaluator_call_1_C : Callee := ⟨[.val (.sl (.sl gVal)), .val (.fnv 186 (.ptr (.sl gVal)))], [.val (.int .i64)], fun x => slices_IndexFunc_Value_Value_v_evaluator_call_1 x.1 x.2.1⟩
def l116 : FL := (185, some 186, slices_IndexFunc_Value_Value_v_evaluator_call_1_C) :: l115
theorem g116 {V : Env} (h0 : Fs Tryz.prog V l0) : Fs Tryz.prog V l116 :=
  have h := g115 h0
  h.cons (gd [.lp 2 ⟨19, [0, 1, 4, 7, 8], [.val (.sl (.sl gVal)), .val (.fnv 186 (.ptr (.sl gVal))), .val (.int .i64), .val (.int .i64), .val (.int .i64)], [], []⟩ [.exit 0, .ret] slices_IndexFunc_Value_Value_v_evaluator_call_1_s2] [] [] h tiAll bkNil Tryz.func185 (by kernel_rfl) (fun _ => (lsLp (fun x => by kernel_rfl) lsNil)) (fun x => by kernel_rfl))
def v_evaluator_call_C : Callee := ⟨[.box (.dat gEvl), .val gNod, .val (.sl gVal)], [.val gVal, .val (.int .i64)], fun x => v_evaluator_call x.1 x.2.1 x.2.2.1⟩
def l117 : FL := (135, none, v_evaluator_call_C) :: l116
theorem g117 {V : Env} (h0 : Fs Tryz.prog V l0) : Fs Tryz.prog V l117 :=
  have h := g116 h0
  h.cons (gd [] [] [(1, [0, 4, 16], [100008])] h tiAll bkNil Tryz.func135 (by kernel_rfl) (fun _ => lsNil) (fun x => by kernel_rfl))
def v_not_C : Callee := ⟨[.val gVal], [.val .bool], fun x => v_not x.1⟩
def l118 : FL := (189, none, v_not_C) :: l117
theorem g118 {V : Env} (h0 : Fs Tryz.prog V l0) : Fs Tryz.prog V l118 :=
  have h := g117 h0
  h.cons (gd [] [] [] h tiAll bkNil Tryz.func189 (by kernel_rfl) (fun _ => lsNil) (fun x => by kernel_rfl))
def slices_IndexFunc_Value_Value_v_not_C : Callee := ⟨[.val (.sl gVal), .val (.fnv 189 .unit)], [.val (.int .i64)], fun x => slices_IndexFunc_Value_Value_v_not x.1 x.2.1⟩
def l119 : FL := (242, some 189, slices_IndexFunc_Value_Value_v_not_C) :: l118
theorem g119 {V : Env} (h0 : Fs Tryz.prog V l0) : Fs Tryz.prog V l119 :=
  have h := g118 h0
  h.cons (gd [.lp 2 ⟨19, [0, 1, 4, 7, 8], [.val (.sl gVal), .val (.fnv 189 .unit), .val (.int .i64), .val (.int .i64), .val (.int .i64)], [], []⟩ [.exit 0, .ret] slices_IndexFunc_Value_Value_v_not_s2] [] [] h tiAll bkNil Tryz.func242 (by kernel_rfl) (fun _ => (lsLp (fun x => by kernel_rfl) lsNil)) (fun x => by kernel_rfl))
def slices_ContainsFunc_Value_Value_v_not_C : Callee := ⟨[.val (.sl gVal), .val (.fnv 189 .unit)], [.val .bool], fun x => slices_ContainsFunc_Value_Value_v_not x.1 x.2.1⟩
def l120 : FL := (183, some 189, slices_ContainsFunc_Value_Value_v_not_C) :: l119
theorem g120 {V : Env} (h0 : Fs Tryz.prog V l0) : Fs Tryz.prog V l120 :=
  have h := g119 h0
  h.cons (gd [] [] [] h tiAll bkNil Tryz.func183 (by kernel_rfl) (fun _ => lsNil) (fun x => by kernel_rfl))
def v_truth_C : Callee := ⟨[.val .bool], [.val gVal], fun x => v_truth x.1⟩
def l121 : FL := (188, none, v_truth_C) :: l120
theorem g121 {V : Env} (h0 : Fs Tryz.prog V l0) : Fs Tryz.prog V l121 :=
  have h := g120 h0
  h.cons (gd [] [] [] h tiAll bkNil Tryz.func188 (by kernel_rfl) (fun _ => lsNil) (fun x => by kernel_rfl))
def v_is_C : Callee := ⟨[.val gVal], [.val .bool], fun x => v_is x.1⟩
def l122 : FL := (190, none, v_is_C) :: l121
theorem g122 {V : Env} (h0 : Fs Tryz.prog V l0) : Fs Tryz.prog V l122 :=
  have h := g121 h0
  h.cons (gd [] [] [] h tiAll bkNil Tryz.func190 (by kernel_rfl) (fun _ => lsNil) (fun x => by kernel_rfl))
def slices_IndexFunc_Value_Value_v_is_C : Callee := ⟨[.val (.sl gVal), .val (.fnv 190 .unit)], [.val (.int .i64)], fun x => slices_IndexFunc_Value_Value_v_is x.1 x.2.1⟩
def l123 : FL := (242, some 190, slices_IndexFunc_Value_Value_v_is_C) :: l122
theorem g123 {V : Env} (h0 : Fs Tryz.prog V l0) : Fs Tryz.prog V l123 :=
  have h := g122 h0
  h.cons (gd [.lp 2 ⟨19, [0, 1, 4, 7, 8], [.val (.sl gVal), .val (.fnv 190 .unit), .val (.int .i64), .val (.int .i64), .val (.int .i64)], [], []⟩ [.exit 0, .ret] slices_IndexFunc_Value_Value_v_is_s2] [] [] h tiAll bkNil Tryz.func242 (by kernel_rfl) (fun _ => (lsLp (fun x => by kernel_rfl) lsNil)) (fun x => by kernel_rfl))
def slices_ContainsFunc_Value_Value_v_is_C : Callee := ⟨[.val (.sl gVal), .val (.fnv 190 .unit)], [.val .bool], fun x => slices_ContainsFunc_Value_Value_v_is x.1 x.2.1⟩
def l124 : FL := (183, some 190, slices_ContainsFunc_Value_Value_v_is_C) :: l123
theorem g124 {V : Env} (h0 : Fs Tryz.prog V l0) : Fs Tryz.prog V l124 :=
  have h := g123 h0
  h.cons (gd [] [] [] h tiAll bkNil Tryz.func183 (by kernel_rfl) (fun _ => lsNil) (fun x => by kernel_rfl))
def v_numberOf_C : Callee := ⟨[.val (.int .i64), .val .str], [.val gVal], fun x => v_numberOf x.1 x.2.1⟩
def l125 : FL := (243, none, v_numberOf_C) :: l124
theorem g125 {V : Env} (h0 : Fs Tryz.prog V l0) : Fs Tryz.prog V l125 :=
  have h := g124 h0
  h.cons (gd [] [] [] h tiAll bkNil Tryz.func243 (by kernel_rfl) (fun _ => lsNil) (fun x => by kernel_rfl))
def n_Mul_1_C : Callee := ⟨[.val gSml, .val gSml], [.val .str], fun x => n_Mul_1 x.1 x.2.1⟩
def l126 : FL := (98, none, n_Mul_1_C) :: l125
theorem g126 {V : Env} (h0 : Fs Tryz.prog V l0) : Fs Tryz.prog V l126 :=
  have h := g125 h0
  h.cons (gd [] [] [] h tiAll bkNil Tryz.func98 (by kernel_rfl) (fun _ => lsNil) (fun x => by kernel_rfl))
def n_rat_mul_C : Callee := ⟨[.val gRt, .val gRt], [.val gRt], fun x => n_rat_mul x.1 x.2.1⟩
def l127 : FL := (101, none, n_rat_mul_C) :: l126
theorem g127 {V : Env} (h0 : Fs Tryz.prog V l0) : Fs Tryz.prog V l127 :=
  have h := g126 h0
  h.cons (gd [] [] [] h tiAll bkNil Tryz.func101 (by kernel_rfl) (fun _ => lsNil) (fun x => by kernel_rfl))
def n_Mul_2_C : Callee := ⟨[.val gRt, .val gRt], [.val .str], fun x => n_Mul_2 x.1 x.2.1⟩
def l128 : FL := (100, none, n_Mul_2_C) :: l127
theorem g128 {V : Env} (h0 : Fs Tryz.prog V l0) : Fs Tryz.prog V l128 :=
  have h := g127 h0
  h.cons (gd [] [] [] h tiAll bkNil Tryz.func100 (by kernel_rfl) (fun _ => lsNil) (fun x => by kernel_rfl))
def n_two_n_Mul_1_n_Mul_2_C : Callee := ⟨[.val .str, .val .str, .val (.fnv 98 .unit), .val (.fnv 100 .unit)], [.val .str], fun x => n_two_n_Mul_1_n_Mul_2 x.1 x.2.1 x.2.2.1 x.2.2.2.1⟩
def l129 : FL := (97, some 98, n_two_n_Mul_1_n_Mul_2_C) :: l128
theorem g129 {V : Env} (h0 : Fs Tryz.prog V l0) : Fs Tryz.prog V l129 :=
  have h := g128 h0
  h.cons (gd [] [] [] h tiAll bkNil Tryz.func97 (by kernel_rfl) (fun _ => lsNil) (fun x => by kernel_rfl))
def n_Mul_C : Callee := ⟨[.val .str, .val .str], [.val .str], fun x => n_Mul x.1 x.2.1⟩
def l130 : FL := (52, none, n_Mul_C) :: l129
theorem g130 {V : Env} (h0 : Fs Tryz.prog V l0) : Fs Tryz.prog V l130 :=
  have h := g129 h0
  h.cons (gd [] [] [] h tiAll bkNil Tryz.func52 (by kernel_rfl) (fun _ => lsNil) (fun x => by kernel_rfl))
def n_rat_quoRem_C : Callee := ⟨[.val gRt, .val gRt], [.val gRt, .val gRt], fun x => n_rat_quoRem x.1 x.2.1⟩
def l131 : FL := (150, none, n_rat_quoRem_C) :: l130
theorem g131 {V : Env} (h0 : Fs Tryz.prog V l0) : Fs Tryz.prog V l131 :=
  have h := g130 h0
  h.cons (gd [] [] [] h tiAll bkNil Tryz.func150 (by kernel_rfl) (fun _ => lsNil) (fun x => by kernel_rfl))
def n_quoRem_C : Callee := ⟨[.val .str, .val .str], [.val .str, .val .str], fun x => n_quoRem x.1 x.2.1⟩
def l132 : FL := (103, none, n_quoRem_C) :: l131
theorem g132 {V : Env} (h0 : Fs Tryz.prog V l0) : Fs Tryz.prog V l132 :=
  have h := g131 h0
  h.cons (gd [] [] [] h tiAll bkNil Tryz.func103 (by kernel_rfl) (fun _ => lsNil) (fun x => by kernel_rfl))
def n_Quo_C : Callee := ⟨[.val .str, .val .str], [.val .str], fun x => n_Quo x.1 x.2.1⟩
def l133 : FL := (53, none, n_Quo_C) :: l132
theorem g133 {V : Env} (h0 : Fs Tryz.prog V l0) : Fs Tryz.prog V l133 :=
  have h := g132 h0
  h.cons (gd [] [] [] h tiAll bkNil Tryz.func53 (by kernel_rfl) (fun _ => lsNil) (fun x => by kernel_rfl))
def n_Rem_C : Callee := ⟨[.val .str, .val .str], [.val .str], fun x => n_Rem x.1 x.2.1⟩
def l134 : FL := (54, none, n_Rem_C) :: l133
theorem g134 {V : Env} (h0 : Fs Tryz.prog V l0) : Fs Tryz.prog V l134 :=
  have h := g133 h0
  h.cons (gd [] [] [] h tiAll bkNil Tryz.func54 (by kernel_rfl) (fun _ => lsNil) (fun x => by kernel_rfl))
def v_compute_C : Callee := ⟨[.val gNod, .val (.sl gVal)], [.val gVal], fun x => v_compute x.1 x.2.1⟩
def l135 : FL := (191, none, v_compute_C) :: l134
theorem g135 {V : Env} (h0 : Fs Tryz.prog V l0) : Fs Tryz.prog V l135 :=
  have h := g134 h0
  h.cons (gd [.lp 7 ⟨102, [1, 4, 5, 19, 20, 21], [.val (.sl gVal), .box (.dat gVal), .val .str, .val (.sl gVal), .val (.int .i64), .val (.int .i64)], [], []⟩ [.exit 1] v_compute_s7] [] [] h tiAll bkNil Tryz.func191 (by kernel_rfl) (fun _ => (lsLp (fun x => by kernel_rfl) lsNil)) (fun x => by kernel_rfl))
def v_operate_C : Callee := ⟨[.val gNod, .val (.sl gVal)], [.val gVal], fun x => v_operate x.1 x.2.1⟩
def l136 : FL := (136, none, v_operate_C) :: l135
theorem g136 {V : Env} (h0 : Fs Tryz.prog V l0) : Fs Tryz.prog V l136 :=
  have h := g135 h0
  h.cons (gd [] [] [] h tiAll bkNil Tryz.func136 (by kernel_rfl) (fun _ => lsNil) (fun x => by kernel_rfl))
def v_evaluator_next_Cr (g : Evl → Option ((Val × Int × Unit) × (Evl × Unit))) : Callee := ⟨[.box (.dat gEvl)], [.val gVal, .val (.int .i64)], fun x => g x.1⟩
def v_evaluator_next_C : Callee := v_evaluator_next_Cr (v_evaluator_next big)
theorem v_evaluator_next_gF {V : Env} (h0 : Fs Tryz.prog V l0) (v_evaluator_nextᵣ : Evl → Option ((Val × Int × Unit) × (Evl × Unit))) (r0 : Good V 93 (v_evaluator_next_Cr v_evaluator_nextᵣ)) : Good V 93 (v_evaluator_next_Cr (v_evaluator_next_F v_evaluator_nextᵣ)) :=
  have h := g136 h0
  gd [.lp 5 ⟨63, [0, 2, 3, 4, 5, 26, 27], [.box (.dat gEvl), .box (.dat gVal), .val (.int .i64), .box (.dat gNod), .own gVal, .val (.int .i64), .val (.int .i64)], [0], []⟩ [.exit 0, .ret] (v_evaluator_next_s5 v_evaluator_nextᵣ)] [] [(1, [0, 11], [100004])] (Fs.cons (s := none) h r0) tiAll bkNil Tryz.func93 (by kernel_rfl) (fun _ => (lsLp (fun x => by kernel_rfl) lsNil)) (fun x => by kernel_rfl)
theorem v_evaluator_next_gN {V : Env} (h0 : Fs Tryz.prog V l0) (n : Nat) : Good V 93 (v_evaluator_next_Cr (v_evaluator_next n)) := by
  induction n with
  | zero => exact good_none ⟨_, h0.prog ▸ Tryz.func93, by decide, rfl⟩ (fun _ => rfl)
  | succ n ih => exact v_evaluator_next_gF h0 (v_evaluator_next n) ih
def l137 : FL := (93, none, v_evaluator_next_C) :: l136
theorem g137 {V : Env} (h0 : Fs Tryz.prog V l0) : Fs Tryz.prog V l137 := (Fs.cons (s := none) (g136 h0) (v_evaluator_next_gN h0 big))
def v_Eval_C : Callee := ⟨[.val (.sl gNod), .val (.sl gBind), .val (.sl gInterp)], [.val gVal, .val (.int .i64)], fun x => v_Eval x.1 x.2.1 x.2.2.1⟩
def l138 : FL := (48, none, v_Eval_C) :: l137
theorem g138 {V : Env} (h0 : Fs Tryz.prog V l0) : Fs Tryz.prog V l138 :=
  have h := g137 h0
  h.cons (gd [] [] [] h tiAll bkNil Tryz.func48 (by kernel_rfl) (fun _ => lsNil) (fun x => by kernel_rfl))
def v_integer_C : Callee := ⟨[.val .str], [.val gNod], fun x => v_integer x.1⟩
def l139 : FL := (58, none, v_integer_C) :: l138
theorem g139 {V : Env} (h0 : Fs Tryz.prog V l0) : Fs Tryz.prog V l139 :=
  have h := g138 h0
  h.cons (gd [] [] [] h tiAll bkNil Tryz.func58 (by kernel_rfl) (fun _ => lsNil) (fun x => by kernel_rfl))
def v_Term_C : Callee := ⟨[.val gVal], [.val (.sl gNod), .val (.int .i64)], fun x => v_Term x.1⟩
def l140 : FL := (19, none, v_Term_C) :: l139
theorem g140 {V : Env} (h0 : Fs Tryz.prog V l0) : Fs Tryz.prog V l140 :=
  have h := g139 h0
  h.cons (gd [.lp 13 ⟨70, [1, 4, 31, 32], [.box (.dat gVal), .own gNod, .val (.int .i64), .val (.int .i64)], [], []⟩ [.exit 1] v_Term_s13, .lp 18 ⟨70, [1, 4, 47, 48, 49], [.box (.dat gVal), .row gNod, .val (.sl .str), .val (.int .i64), .val (.int .i64)], [], []⟩ [.exit 3] v_Term_s18] [] [] h tiAll bkNil Tryz.func19 (by kernel_rfl) (fun _ => (lsLp (fun x => by kernel_rfl) (lsLp (fun x => by kernel_rfl) lsNil))) (fun x => by kernel_rfl))
def n_Num_C : Callee := ⟨[.val .str], [.val .str], fun x => n_Num x.1⟩
def l141 : FL := (232, none, n_Num_C) :: l140
theorem g141 {V : Env} (h0 : Fs Tryz.prog V l0) : Fs Tryz.prog V l141 :=
  have h := g140 h0
  h.cons (gd [] [] [] h tiAll bkNil Tryz.func232 (by kernel_rfl) (fun _ => lsNil) (fun x => by kernel_rfl))
def n_Den_C : Callee := ⟨[.val .str], [.val .str], fun x => n_Den x.1⟩
def l142 : FL := (233, none, n_Den_C) :: l141
theorem g142 {V : Env} (h0 : Fs Tryz.prog V l0) : Fs Tryz.prog V l142 :=
  have h := g141 h0
  h.cons (gd [] [] [] h tiAll bkNil Tryz.func233 (by kernel_rfl) (fun _ => lsNil) (fun x => by kernel_rfl))
def t_numeralOf_Cr (g : Int → List UInt8 → Option (((List UInt8) × Unit) × Unit)) : Callee := ⟨[.val (.int .i64), .val .str], [.val .str], fun x => g x.1 x.2.1⟩
def t_numeralOf_C : Callee := t_numeralOf_Cr (t_numeralOf big)
theorem t_numeralOf_gF {V : Env} (h0 : Fs Tryz.prog V l0) (t_numeralOfᵣ : Int → List UInt8 → Option (((List UInt8) × Unit) × Unit)) (r0 : Good V 170 (t_numeralOf_Cr t_numeralOfᵣ)) : Good V 170 (t_numeralOf_Cr (t_numeralOf_F t_numeralOfᵣ)) :=
  have h := g142 h0
  gd [] [] [] (Fs.cons (s := none) h r0) tiAll bkNil Tryz.func170 (by kernel_rfl) (fun _ => lsNil) (fun x => by kernel_rfl)
theorem t_numeralOf_gN {V : Env} (h0 : Fs Tryz.prog V l0) (n : Nat) : Good V 170 (t_numeralOf_Cr (t_numeralOf n)) := by
  induction n with
  | zero => exact good_none ⟨_, h0.prog ▸ Tryz.func170, by decide, rfl⟩ (fun _ => rfl)
  | succ n ih => exact t_numeralOf_gF h0 (t_numeralOf n) ih
def l143 : FL := (170, none, t_numeralOf_C) :: l142
theorem g143 {V : Env} (h0 : Fs Tryz.prog V l0) : Fs Tryz.prog V l143 := (Fs.cons (s := none) (g142 h0) (t_numeralOf_gN h0 big))
def t_symbol_C : Callee := ⟨[.val gNod], [.val .str], fun x => t_symbol x.1⟩
def l144 : FL := (171, none, t_symbol_C) :: l143
theorem g144 {V : Env} (h0 : Fs Tryz.prog V l0) : Fs Tryz.prog V l144 :=
  have h := g143 h0
  h.cons (gd [] [] [] h tiAll bkNil Tryz.func171 (by kernel_rfl) (fun _ => lsNil) (fun x => by kernel_rfl))
def strings_Builder_WriteByte_C : Callee := ⟨[.box (.pair .slf (.own (.int .u8))), .val (.int .u8)], [.val .err], fun x => strings_Builder_WriteByte x.1 x.2.1⟩
def l145 : FL := (173, none, strings_Builder_WriteByte_C) :: l144
theorem g145 {V : Env} (h0 : Fs Tryz.prog V l0) : Fs Tryz.prog V l145 :=
  have h := g144 h0
  h.cons (gd [] [] [] h tiAll bkNil Tryz.func173 (by kernel_rfl) (fun _ => lsNil) (fun x => by kernel_rfl))
def t_view_write_Cr (g : Option View → (Unit × List Int) → Int → Option ((Unit) × ((Unit × List Int) × Unit))) : Callee := ⟨[.val (.ptr gView), .box (.pair .slf (.own (.int .u8))), .val (.int .i64)], [], fun x => g x.1 x.2.1 x.2.2.1⟩
def t_view_write_C : Callee := t_view_write_Cr (t_view_write big)
theorem t_view_write_gF {V : Env} (h0 : Fs Tryz.prog V l0) (t_view_writeᵣ : Option View → (Unit × List Int) → Int → Option ((Unit) × ((Unit × List Int) × Unit))) (r0 : Good V 118 (t_view_write_Cr t_view_writeᵣ)) : Good V 118 (t_view_write_Cr (t_view_write_F t_view_writeᵣ)) :=
  have h := g145 h0
  gd [.lp 4 ⟨71, [0, 1, 6, 25, 26, 27], [.val (.ptr gView), .box (.pair .slf (.own (.int .u8))), .box (.dat gNod), .val (.sl (.int .i64)), .val (.int .i64), .val (.int .i64)], [0], []⟩ [.exit 1] (t_view_write_s4 t_view_writeᵣ)] [] [] (Fs.cons (s := none) h r0) tiAll bkNil Tryz.func118 (by kernel_rfl) (fun _ => (lsLp (fun x => by kernel_rfl) lsNil)) (fun x => by kernel_rfl)
theorem t_view_write_gN {V : Env} (h0 : Fs Tryz.prog V l0) (n : Nat) : Good V 118 (t_view_write_Cr (t_view_write n)) := by
  induction n with
  | zero => exact good_none ⟨_, h0.prog ▸ Tryz.func118, by decide, rfl⟩ (fun _ => rfl)
  | succ n ih => exact t_view_write_gF h0 (t_view_write n) ih
def l146 : FL := (118, none, t_view_write_C) :: l145
theorem g146 {V : Env} (h0 : Fs Tryz.prog V l0) : Fs Tryz.prog V l146 := (Fs.cons (s := none) (g145 h0) (t_view_write_gN h0 big))
def t_Format_C : Callee := ⟨[.val (.sl gNod)], [.val .str], fun x => t_Format x.1⟩
def l147 : FL := (70, none, t_Format_C) :: l146
theorem g147 {V : Env} (h0 : Fs Tryz.prog V l0) : Fs Tryz.prog V l147 :=
  have h := g146 h0
  h.cons (gd [] [] [] h tiAll bkNil Tryz.func70 (by kernel_rfl) (fun _ => lsNil) (fun x => by kernel_rfl))
def v_Format_C : Callee := ⟨[.val gVal], [.val .str], fun x => v_Format x.1⟩
def l148 : FL := (24, none, v_Format_C) :: l147
theorem g148 {V : Env} (h0 : Fs Tryz.prog V l0) : Fs Tryz.prog V l148 :=
  have h := g147 h0
  h.cons (gd [] [] [] h tiAll bkNil Tryz.func24 (by kernel_rfl) (fun _ => lsNil) (fun x => by kernel_rfl))
def l_awake_C : Callee := ⟨[], [.val .bool], fun _ => l_awake⟩
def l149 : FL := (16, none, l_awake_C) :: l148
theorem g149 {V : Env} (h0 : Fs Tryz.prog V l0) : Fs Tryz.prog V l149 :=
  have h := g148 h0
  h.cons (gd [] [] [] h tiAll bkNil Tryz.func16 (by kernel_rfl) (fun _ => lsNil) (fun x => by kernel_rfl))
def l_ValueExtensional_C : Callee := ⟨[.val (.sl (.int .i64)), .val (.sl (.int .i64))], [.val .bool], fun x => l_ValueExtensional x.1 x.2.1⟩
def l150 : FL := (11, none, l_ValueExtensional_C) :: l149
theorem g150 {V : Env} (h0 : Fs Tryz.prog V l0) : Fs Tryz.prog V l150 :=
  have h := g149 h0
  h.cons (gd [.lp 7 ⟨75, [5, 6, 7, 8, 9], [.box (.dat gVal), .box (.dat gVal), .val .bool, .row .str, .val (.int .i64)], [], []⟩ [.exit 0] l_ValueExtensional_s7] [] [(3, [5], [31, 100006]), (5, [6], [40, 44])] h tiAll bkNil Tryz.func11 (by kernel_rfl) (fun _ => (lsLp (fun x => by kernel_rfl) lsNil)) (fun x => by kernel_rfl))
end
end Go.AM.Num
end
section
namespace Go.AM
open Go.RowKit (Below)
theorem size_data' (s : ByteArray) : s.size = s.data.toList.length := by rw [← ByteArray.size_data, Array.length_toList]

theorem good_sc {V : Env} {k : FuncId} {C : Callee} (hen : ∃ fn, V.P.funcs[k]? = some fn ∧ (fn.name == "runtime.NumGoroutine") = false ∧ fn.body.isNone = false) (hin : ∀ x, rowsIn C.ps x = []) (hout : ∀ o y, rowsOut C.ps C.rk o y = []) (hk : cntK C.ps = 0)
    (h : ∀ x y o, C.g x = some (y, o) → ∀ (w : World) (rd : Nat → Nat → Option Value) (I : Nat → Prop) (β : Nat → Option Place) (vs : Array Value), V.G w → RelL rd I β (encVals C.ps x 0 (cntK C.ps)) vs.toList →
      Calls V.P k vs w fun e w' => ∃ us, e = .returned (valOf us) ∧ Ext w w' ∧ ∀ rd I' β', RelL rd I' β' (valsOut C.ps C.rk y) us) : Good V k C := by
  refine ⟨hen, fun x y o hx w I β vs hG hgb hctx hargs => Calls.mono (h x y o hx w _ I β vs hG hargs) ?_⟩
  rintro e w' ⟨us, rfl, hext, hres⟩
  rw [hin] at hctx ⊢
  have hn : ∀ B, ¬ live [] β B := fun B => live_nil B
  refine ⟨us, fun B => I B ∨ (w.heap.size ≤ B ∧ B < w'.heap.size), β, rfl, ⟨hext.os, hext.tape, hext.output, hext.size, fun B hB _ => hext.block B hB⟩, ⟨?_, ?_, ?_, ?_⟩, hres _ _ _⟩
  · rw [hout]
    refine ⟨fun b r hb => by simp at hb, fun b b' r r' p p' hb => by simp at hb, fun B hB => ⟨?_, live_nil B⟩, hctx.dom⟩
    rcases hB with hB | hB
    · exact Nat.lt_of_lt_of_le (hctx.imm B hB).1 hext.size
    · exact hB.2
  · rintro B (hB | hB)
    · exact .inl hB
    · exact .inr (.inr hB.1)
  · intro b r q hb; rw [hout] at hb; simp at hb
  · intro i hi; rw [hk] at hi; cases hi
end Go.AM
namespace Go.AM.Num
open Go.Proofs

structure GN (w : World) : Prop where
  maxLen : ∃ m, w.cell? ⟨1, 0, none⟩ = some (.int .i64 m)
  pow10 : Lib.TabIs Tryz.prog w "internal/strconv.uint64pow10" .u64 Lib.pow10Tab
section
variable {rd : Nat → Nat → Option Value} {I : Nat → Prop} {β : Nat → Option Place}
theorem rel_str {x : List UInt8} {v : Value} (h : RelV rd I β (.str x) v) : ∃ s : ByteArray, v = .string s ∧ s.data.toList = x := by simpa only [RelV] using h
theorem rel_int {k : IntKind} {n : Int} {v : Value} (h : RelV rd I β (.int k n) v) : v = .int k n := by simpa only [RelV] using h
theorem rel1 {a : AV} {vs : Array Value} (h : RelL rd I β [a] vs.toList) : ∃ v, vs = #[v] ∧ RelV rd I β a v := by
  simp only [RelL] at h
  obtain ⟨v, vs', h1, h2, rfl⟩ := h
  exact ⟨v, by apply Array.ext'; simpa using h1, h2⟩
theorem rel2 {a b : AV} {vs : Array Value} (h : RelL rd I β [a, b] vs.toList) : ∃ v v', vs = #[v, v'] ∧ RelV rd I β a v ∧ RelV rd I β b v' := by
  simp only [RelL] at h
  obtain ⟨v, vs', h1, h2, v', vs2, rfl, h3, rfl⟩ := h
  exact ⟨v, v', by apply Array.ext'; simpa using h1, h2, h3⟩
theorem rel3 {a b c : AV} {vs : Array Value} (h : RelL rd I β [a, b, c] vs.toList) : ∃ v v' v2, vs = #[v, v', v2] ∧ RelV rd I β a v ∧ RelV rd I β b v' ∧ RelV rd I β c v2 := by
  simp only [RelL] at h
  obtain ⟨v, vs', h1, h2, v', vs2, rfl, h3, v2, vs3, rfl, h4, rfl⟩ := h
  exact ⟨v, v', v2, by apply Array.ext'; simpa using h1, h2, h3, h4⟩
theorem str_rel (l : List UInt8) : RelV rd I β (.str l) (.string ⟨l.toArray⟩) := by simp only [RelV]; exact ⟨_, rfl, by simp⟩
end
theorem ext_drewN (w : World) (n : Nat) : Ext w (w.drewN n) := ⟨rfl, rfl, rfl, Nat.le_refl _, fun _ _ => rfl⟩
theorem ext_grow (w : World) (k : Nat) (os : Array Obj) : Ext w (Sort.grow (w.drewN k) os) := by
  refine ⟨rfl, rfl, rfl, ?_, fun B hB => ?_⟩
  · show w.heap.size ≤ (w.heap ++ os).size
    simp
  · show (w.heap ++ os)[B]? = w.heap[B]?
    rw [Array.getElem?_append_left hB]
theorem ext_bytes (w : World) (t : ByteArray) : Ext w (Lib.bytesWorld w 5 t) := ⟨rfl, rfl, rfl, by rw [Lib.bytesWorld_size]; omega, fun B hB => Lib.bytesWorld_at_old w 5 t B hB⟩

section
variable {V : Env} (hP : V.P = Tryz.prog)
include hP
theorem strings_CutPrefix_good : Good V 109 strings_CutPrefix_C :=
  good_sc ⟨_, hP ▸ Tryz.func109, by decide, by rfl⟩ (fun _ => rfl) (fun _ _ => rfl) rfl (fun x y o hx w rd I β vs hG ha => by
    obtain ⟨v, v', rfl, h1, h2⟩ := rel2 ha
    obtain ⟨s, rfl, hs⟩ := rel_str h1
    obtain ⟨p, rfl, hp⟩ := rel_str h2
    rw [hP]
    refine Calls.mono (Tryz.strings_CutPrefix s p w) ?_
    rintro e w' ⟨rfl, rfl⟩
    refine ⟨[_, _], rfl, Ext.refl _, fun rd I' β' => ?_⟩
    simp only [strings_CutPrefix_C, strings_CutPrefix, Option.some.injEq] at hx
    cases hx
    show RelL rd I' β' [.str _, .bool _] _
    simp only [RelL]
    exact ⟨_, _, rfl, by rw [hs, hp]; exact str_rel _, _, _, rfl, by simp only [RelV]; rw [hs, hp], rfl⟩)
theorem strings_Cut_good (hV : ∀ w, V.G w → GN w) : Good V 161 strings_Cut_C :=
  good_sc ⟨_, hP ▸ Tryz.func161, by decide, by rfl⟩ (fun _ => rfl) (fun _ _ => rfl) rfl (fun x y o hx w rd I β vs hG ha => by
    obtain ⟨v, v', rfl, h1, h2⟩ := rel2 ha
    obtain ⟨s, rfl, hs⟩ := rel_str h1
    obtain ⟨p, rfl, hp⟩ := rel_str h2
    simp only [strings_Cut_C, strings_Cut] at hx
    split at hx
    case isFalse => cases hx
    rename_i hlen
    cases hx
    obtain ⟨m, hm⟩ := (hV w hG).maxLen
    rw [hP]
    refine Calls.mono (Tryz.strings_Cut s p m w (by rw [size_data', hs]; exact hlen) hm) ?_
    rintro e w' ⟨rfl, n, rfl⟩
    refine ⟨[_, _, _], rfl, ext_drewN w n, fun rd I' β' => ?_⟩
    show RelL rd I' β' [.str _, .str _, .bool _] _
    simp only [RelL]
    exact ⟨_, _, rfl, by rw [hs, hp]; exact str_rel _, _, _, rfl, by rw [hs, hp]; exact str_rel _, _, _, rfl, by simp only [RelV]; rw [hs, hp], rfl⟩)
theorem strconv_FormatInt_good (hV : ∀ w, V.G w → GN w) : Good V 145 strconv_FormatInt_C :=
  good_sc ⟨_, hP ▸ Tryz.func145, by decide, by rfl⟩ (fun _ => rfl) (fun _ _ => rfl) rfl (fun x y o hx w rd I β vs hG ha => by
    obtain ⟨v, v', rfl, h1, h2⟩ := rel2 ha
    obtain rfl := rel_int h1
    obtain rfl := rel_int h2
    simp only [strconv_FormatInt_C, strconv_FormatInt] at hx
    split at hx
    case isFalse => cases hx
    rename_i hc
    cases hx
    rw [hP, hc.2]
    refine Calls.mono (Tryz.strconv_FormatInt_10 x.1 hc.1.1 hc.1.2 w (hV w hG).pow10) ?_
    rintro e w' ⟨rfl, k, os, rfl⟩
    refine ⟨[_], rfl, ext_grow w k os, fun rd I' β' => ?_⟩
    show RelL rd I' β' [.str _] _
    simp only [RelL]
    exact ⟨_, _, rfl, str_rel _, rfl⟩)
theorem strconv_ParseInt_good : Good V 162 strconv_ParseInt_C :=
  good_sc ⟨_, hP ▸ Tryz.func162, by decide, by rfl⟩ (fun _ => rfl) (fun _ _ => rfl) rfl (fun x y o hx w rd I β vs hG ha => by
    obtain ⟨v, v', v2, rfl, h1, h2, h3⟩ := rel3 ha
    obtain ⟨s, rfl, hs⟩ := rel_str h1
    obtain rfl := rel_int h2
    obtain rfl := rel_int h3
    simp only [strconv_ParseInt_C, strconv_ParseInt] at hx
    split at hx
    case isFalse => cases hx
    rename_i hc
    split at hx
    case h_2 => cases hx
    rename_i n hn
    cases hx
    rw [hP, hc.1, hc.2.1]
    refine Calls.mono (Tryz.strconv_ParseInt_10_at64_ok s (by rw [size_data', hs]; have := hc.2.2; omega) n (by rw [hs]; exact hn) w) ?_
    rintro e w' ⟨rfl, hw⟩
    have hext : Ext w w' := by
      rcases hw with rfl | ⟨t, rfl⟩
      · exact Ext.refl _
      · exact ext_bytes w t
    refine ⟨[_, _], rfl, hext, fun rd I' β' => ?_⟩
    show RelL rd I' β' [.int .i64 _, .err _] _
    simp only [RelL]
    exact ⟨_, _, rfl, by simp only [RelV], _, _, rfl, by simp [RelV], rfl⟩)
end
end Go.AM.Num
namespace Go.Proofs
open Go.Shelf Go.RowKit Go.Sort Go.Lib

theorem holds_zero0 (w : World) (T : TypeId) (nd : Nat) (hs : nd ≤ 24) : Holds (fun (b : UInt8) => Value.int .u8 (b.toNat : Int)) (w.alloc (.cells zeros24 T)) w.heap.size 0 (Array.replicate nd (0 : UInt8)) := fun j hj => by
  have hj' : j < nd := by simpa using hj
  refine ⟨?_, World.frozen?_alloc_new _ _ _ _⟩
  rw [World.cell?_alloc_new, zeros24_at _ (by omega), getElem!_pos _ j hj]
  simp

set_option maxHeartbeats 6400000 in
set_option maxRecDepth 100000 in
theorem Tryz.internal_strconv_FormatUint_10 (u : Nat) (hu64 : u < 18446744073709551616) (w : World) (htab : Lib.TabIs Tryz.prog w "internal/strconv.uint64pow10" .u64 Lib.pow10Tab) :
    Calls Tryz.prog 259 #[.int .u64 u, .int .i64 10] w fun e w' => e = .returned (.string ⟨(Lib.decDigits u).toArray⟩) ∧ ∃ k os, w' = grow (w.drewN k) os := by
  by_cases hs : u < 100
  · go_enter Tryz.func259, Tryz.ntmps259
    go_wp2_with (go_at_call 253; refine (Tryz.internal_strconv_small u hs _).mono ?_; rintro e w' ⟨rfl, rfl⟩)
    go_ret
    exact ⟨rfl, 0, #[], by simp [World.drewN_zero]⟩
  · have hu1 : 1 ≤ u := by omega
    have hnd20 : Lib.nDigits u ≤ 20 := by have := Lib.numDigits_eq u hu1 hu64; split at this <;> omega
    have hsl1 : ∀ W, (Instr.sliceAt 275 (.pointer (some ⟨w.heap.size, 0, none⟩)) none (some (.int .i64 (Lib.nDigits u : Int))) none).run Tryz.prog W = .ok (.slice (some ⟨w.heap.size, 0, none⟩) (Lib.nDigits u) 24) W := fun W => by
      have hal : Tryz.prog.arrayLen 275 = 24 := by kernel_rfl
      rw [run_sliceAt_array_h W 275 ⟨w.heap.size, 0, none⟩ Tryz.underlying275 .i64 (Lib.nDigits u : Int) (by omega) (by rw [hal]; omega)]
      rw [hal]
      go_simp
    have hH0 := holds_zero0 w 275 (Lib.nDigits u) (by omega)
    have hfmt := Tryz.internal_strconv_formatBase10 w.heap.size 0 24 u (Array.replicate (Lib.nDigits u) 0) (w.alloc (.cells Lib.zeros24 275)) hH0 (by rw [Array.size_replicate]; exact Lib.lt_pow_nDigits u) hu64 (by rw [Array.size_replicate]; omega)
    rw [Array.size_replicate] at hfmt
    have HH0 := Lib.hid hH0
    clear hH0
    go_enter Tryz.func259, Tryz.ntmps259
    go_wp2_with (first
      | (go_at_call 254; refine (Tryz.internal_strconv_numDigits u hu1 hu64 _ (Lib.tabIs_alloc htab _)).mono ?_; rintro e w' ⟨rfl, rfl⟩))
    go_at_call 255
    refine hfmt.mono ?_
    rintro e w' ⟨rfl, k, v', dk, rfl, hF⟩
    have hcv : (convert 120 9 (.slice (some ⟨w.heap.size, 0, none⟩) (Lib.nDigits u) 24)).run Tryz.prog ((putRow (fun (b : UInt8) => Value.int .u8 (b.toNat : Int)) (w.alloc (.cells Lib.zeros24 275)) w.heap.size 0 dk).drewN k) = .ok (.string ⟨(Lib.decDigits u).toArray⟩) ((putRow (fun (b : UInt8) => Value.int .u8 (b.toNat : Int)) (w.alloc (.cells Lib.zeros24 275)) w.heap.size 0 dk).drewN k) := by
      have h := run_convert_bytes_back (P := Tryz.prog) ((putRow (fun (b : UInt8) => Value.int .u8 (b.toNat : Int)) (w.alloc (.cells Lib.zeros24 275)) w.heap.size 0 dk).drewN k) 120 9 5 ⟨w.heap.size, 0, none⟩ 24 (Lib.decDigits u) Tryz.underlying120 Tryz.underlying5 Tryz.underlying9 (fun j hj => by
        rw [Lib.row_is_numeral hF j hj, Lib.add_plain, World.cell?_drewN]
        exact cell?_putRow (fun (b : UInt8) => Value.int .u8 (b.toNat : Int)) _ w.heap.size 0 _ dk HH0.out (by rw [hF.size, Array.size_replicate]) j (by rw [hF.size]; rw [Lib.decDigits_length] at hj; exact hj))
      rw [Lib.decDigits_length] at h
      exact h
    go_wp2
    go_ret
    obtain ⟨os', _, e⟩ := putRow_grow_new (fun (b : UInt8) => Value.int .u8 (b.toNat : Int)) w #[.cells Lib.zeros24 275] w.heap.size 0 dk (Nat.le_refl _)
    refine ⟨rfl, k, os', ?_⟩
    rw [alloc_eq_grow, e]
    rfl

theorem Tryz.strconv_FormatUint_10 (u : Nat) (hu64 : u < 18446744073709551616) (w : World) (htab : Lib.TabIs Tryz.prog w "internal/strconv.uint64pow10" .u64 Lib.pow10Tab) :
    Calls Tryz.prog 204 #[.int .u64 u, .int .i64 10] w fun e w' => e = .returned (.string ⟨(Lib.decDigits u).toArray⟩) ∧ ∃ k os, w' = grow (w.drewN k) os := by
  go_enter Tryz.func204, Tryz.ntmps204
  go_wp2_with (go_at_call 259; refine (Tryz.internal_strconv_FormatUint_10 u hu64 _ htab).mono ?_; rintro e w' ⟨rfl, k, os, rfl⟩)
  go_ret
  exact ⟨rfl, k, os, rfl⟩
end Go.Proofs
namespace Go.AM.Num
open Go.Proofs
theorem strconv_FormatUint_good {V : Env} (hP : V.P = Tryz.prog) (hV : ∀ w, V.G w → GN w) : Good V 204 strconv_FormatUint_C :=
  good_sc ⟨_, hP ▸ Tryz.func204, by decide, by rfl⟩ (fun _ => rfl) (fun _ _ => rfl) rfl (fun x y o hx w rd I β vs hG ha => by
    obtain ⟨v, v', rfl, h1, h2⟩ := rel2 ha
    obtain rfl := rel_int h1
    obtain rfl := rel_int h2
    simp only [strconv_FormatUint_C, strconv_FormatUint] at hx
    split at hx
    case isFalse => cases hx
    rename_i hc
    cases hx
    have hn : (x.1.toNat : Int) = x.1 := Int.toNat_of_nonneg hc.1
    have hcall := Tryz.strconv_FormatUint_10 x.1.toNat (by have := hc.2.1; omega) w (hV w hG).pow10
    rw [hn] at hcall
    rw [hP, hc.2.2]
    refine Calls.mono hcall ?_
    rintro e w' ⟨rfl, k, os, rfl⟩
    refine ⟨[_], rfl, ext_grow w k os, fun rd I' β' => ?_⟩
    show RelL rd I' β' [.str _] _
    simp only [RelL]
    exact ⟨_, _, rfl, str_rel _, rfl⟩)
end Go.AM.Num
end
section
namespace Go.AM
open Go.RowKit (Below)
open Go


theorem setCells_row : ∀ (vs : List Value) (b o : Nat) (w : World) {cs : Array Value} {ty : TypeId} {fr : Nat × Nat}, w.heap[b]? = some (.cells cs ty fr) → o + vs.length ≤ cs.size →
    ∃ cs', (w.setCells b o vs).heap[b]? = some (.cells cs' ty fr) ∧ cs'.size = cs.size ∧ (∀ k, cs'[k]? = if o ≤ k ∧ k < o + vs.length then vs[k - o]? else cs[k]?) ∧
      (∀ B, B ≠ b → (w.setCells b o vs).heap[B]? = w.heap[B]?) ∧ (w.setCells b o vs).heap.size = w.heap.size ∧ (w.setCells b o vs).os = w.os ∧ (w.setCells b o vs).tape = w.tape ∧ (w.setCells b o vs).output = w.output
  | [], b, o, w, cs, ty, fr, h, hl => ⟨cs, h, rfl, fun k => by rw [if_neg (by simp only [List.length_nil]; omega)], fun _ _ => rfl, rfl, rfl, rfl, rfl⟩
  | v :: r, b, o, w, cs, ty, fr, h, hl => by
    simp only [List.length_cons] at hl
    have hb : b < w.heap.size := (Array.getElem?_eq_some_iff.1 h).1
    have h1 : (w.setCell ⟨b, o, none⟩ v).heap[b]? = some (.cells (cs.setIfInBounds o v) ty fr) := by
      simp only [World.setCell, Array.getElem?_modify, h]
      simp
    obtain ⟨cs', g1, g2, g3, g4, g5, g6, g7, g8⟩ := setCells_row r b (o + 1) (w.setCell ⟨b, o, none⟩ v) h1 (by simp; omega)
    refine ⟨cs', g1, by rw [g2]; simp, fun k => ?_, fun B hB => ?_, by rw [World.setCells, g5]; simp [World.setCell], g6, g7, g8⟩
    · rw [g3 k]
      simp only [List.length_cons]
      by_cases e : k = o
      · subst e
        rw [if_neg (by omega), if_pos (by omega), Array.getElem?_setIfInBounds]
        simp; omega
      · by_cases e2 : o + 1 ≤ k ∧ k < o + 1 + r.length
        · rw [if_pos e2, if_pos (by omega), show k - o = (k - (o + 1)) + 1 from by omega]; rfl
        · rw [if_neg e2, if_neg (by omega), Array.getElem?_setIfInBounds, if_neg (fun h => e h.symm)]
    · rw [World.setCells, g4 B hB]
      simp only [World.setCell, Array.getElem?_modify]
      rw [if_neg (fun h => hB h.symm)]

abbrev sv (s : List UInt8) : Value := .string ⟨s.toArray⟩
theorem sv_of {s : ByteArray} {x : List UInt8} (h : s.data.toList = x) : Value.string s = sv x := by subst h; cases s; simp [sv]
theorem sv_plain (l : List (List UInt8)) : ∀ v ∈ l.map sv, v.oneCell' = true := fun v hv => by obtain ⟨x, _, rfl⟩ := List.mem_map.1 hv; rfl
theorem rel_sv {rd : Nat → Nat → Option Value} {I : Nat → Prop} {x : List UInt8} {us : List Value} (h : RelC rd I .str x us) : us = [sv x] := by
  simp only [RelC] at h
  obtain ⟨b, rfl, hb⟩ := h
  rw [sv_of hb]
theorem sv_rel {rd : Nat → Nat → Option Value} {I : Nat → Prop} (x : List UInt8) : RelC rd I .str x [sv x] := by simp only [RelC]; exact ⟨_, rfl, by simp⟩


theorem row_sv {w : World} {I : Nat → Prop} {β : Nat → Option Place} {p : Place} {l : List (List UInt8)} (h : RowRel w I β p (.typed .str l)) (hb : p.backed = true) : p.s = 1 ∧ p.n = l.length ∧ ∃ cs ty, w.heap[p.B]? = some (.cells cs ty (0, 0)) ∧ p.O + p.n ≤ cs.size ∧ cs.size = p.z ∧ cs.size ≤ capMax ∧ ∀ (i : Nat) x, l[i]? = some x → cs[p.O + i]? = some (sv x) := by
  obtain ⟨h1, h2, _, h4⟩ := h
  obtain ⟨cs, ty, g1, ⟨g2, g3, _, gm⟩, g4⟩ := h4 hb
  have hs : p.s = 1 := h1
  refine ⟨hs, h2, cs, ty, g1, by rw [hs] at g2; simpa using g2, g3, by simpa [GT.cells] using gm, fun i x hi => ?_⟩
  obtain ⟨us, u1, u2, u3⟩ := g4 i x hi
  have := u2 0 (by decide)
  rw [rel_sv u3] at this
  simpa [GT.cells] using this
theorem row_of_sv {w : World} {I : Nat → Prop} {β : Nat → Option Place} {p : Place} {l : List (List UInt8)} {cs : Array Value} {ty : TypeId} (hs : p.s = 1) (hn : p.n = l.length) (hh : w.heap[p.B]? = some (.cells cs ty (0, 0))) (h1 : p.O + p.n ≤ cs.size) (h2 : cs.size = p.z) (h3 : cs.size ≤ capMax) (hc : ∀ (i : Nat) x, l[i]? = some x → cs[p.O + i]? = some (sv x)) (hb : p.backed = true) : RowRel w I β p (.typed .str l) := by
  refine ⟨hs, hn, fun h => (by rw [hb] at h; cases h), fun _ => ⟨cs, ty, hh, ⟨by rw [hs]; simpa using h1, h2, fun h => (by cases h), by simpa [GT.cells] using h3⟩, fun i x hi => ⟨[sv x], rfl, fun j hj => ?_, sv_rel x⟩⟩⟩
  have : j = 0 := by simp [GT.cells] at hj; omega
  subst this
  have := hc i x hi
  simpa [GT.cells] using this


theorem own_new {gb : Nat} {w w' : World} {I : Nat → Prop} {β : Nat → Option Place} {Hin : Heap} (hI : ∀ B, I B → B < w.heap.size) {l : List (List UInt8)} {v : Value} (hgb : gb ≤ w.heap.size) (hsz : w.heap.size ≤ w'.heap.size)
    (h : v = .slice none 0 0 ∧ l = [] ∨ ∃ g cap cur ty, v = .slice (some ⟨g, 0, none⟩) l.length cap ∧ w.heap.size ≤ g ∧ w'.heap[g]? = some (.cells cur ty (0, 0)) ∧ l.length ≤ cap ∧ cap ≤ cur.size ∧ cur.size ≤ capMax ∧ ∀ (i : Nat) x, l[i]? = some x → cur[i]? = some (sv x)) :
    ∃ I' β', OutOK w w' gb I β Hin [some (.typed .str l)] 0 I' β' ∧ RelL (rdW w') I' β' [.vw 0] [v] := by
  have main : ∀ p : Place, (p.backed = true → w.heap.size ≤ p.B ∧ p.B < w'.heap.size) → (∀ β', RowRel w' I β' p (.typed .str l)) → (∀ β' : Nat → Option Place, β' 0 = some p → RelV (rdW w') I β' (.vw 0) v) → ∃ I' β', OutOK w w' gb I β Hin [some (.typed .str l)] 0 I' β' ∧ RelL (rdW w') I' β' [.vw 0] [v] := by
    intro p h1 h2 h3
    refine ⟨I, fun i => if i = 0 then some p else none, ⟨⟨?_, ?_, ?_, ?_⟩, ?_, ?_, ?_⟩, ?_⟩
    · intro b r hb
      cases b with
      | zero => cases hb; exact ⟨p, rfl, fun hk => ⟨Nat.le_trans hgb (h1 hk).1, (h1 hk).2⟩, h2 _⟩
      | succ b => simp at hb
    · intro b b' r r' p p' hb hb'
      cases b <;> cases b' <;> simp at hb hb' ⊢
    · intro B hB
      refine ⟨Nat.lt_of_lt_of_le (hI B hB) hsz, ?_⟩
      rintro ⟨b, r, q, hb, hq, hk, rfl⟩
      cases b with
      | zero => cases hq; have := (h1 hk).1; have := hI _ hB; omega
      | succ b => simp at hb
    · intro b hb
      simp at hb
      exact if_neg (by omega)
    · exact fun B hB => .inl hB
    · intro b r q hb hq hk
      cases b with
      | zero => cases hq; exact .inr (h1 hk).1
      | succ b => simp at hb
    · intro i hi; cases hi
    · simp only [RelL]
      exact ⟨v, [], rfl, h3 _ rfl, rfl⟩
  rcases h with ⟨rfl, rfl⟩ | ⟨g, cap, cur, ty, rfl, hg, hh, hc, hcap, hcm, hx⟩
  · refine main ⟨0, 0, 1, 0, 0, false⟩ (fun h => by cases h) (fun β' => ⟨rfl, rfl, fun _ => rfl, fun h => by cases h⟩) (fun β' hb => ?_)
    simp only [RelV]
    exact ⟨_, hb, none, 0, rfl, Nat.le_refl _, .inl rfl⟩
  · refine main ⟨g, 0, 1, l.length, cur.size, true⟩ (fun _ => ⟨hg, (Array.getElem?_eq_some_iff.1 hh).1⟩) (fun β' => row_of_sv rfl rfl hh (by simp; omega) rfl hcm (fun i x hi => by simpa using hx i x hi) rfl) (fun β' hb => ?_)
    simp only [RelV]
    exact ⟨_, hb, _, cap, rfl, hc, .inr ⟨rfl, rfl, by simp; omega⟩⟩


theorem sl_sv {rd : Nat → Nat → Option Value} {I : Nat → Prop} {l : List (List UInt8)} {v : Value} (h : RelC rd I (.sl .str) l [v]) : ∃ a c, v = .slice a l.length c ∧ l.length ≤ c ∧ (l ≠ [] → ∃ B o, a = some ⟨B, o, none⟩ ∧ I B ∧ ∀ (i : Nat) x, l[i]? = some x → rd B (o + i) = some (sv x)) := by
  simp only [RelC] at h
  obtain ⟨a, c, h1, h2, h3⟩ := h
  refine ⟨a, c, by simpa using h1, h2, fun hne => ?_⟩
  obtain ⟨B, o, rfl, hI, hx⟩ := h3 hne
  refine ⟨B, o, rfl, hI, fun i x hi => ?_⟩
  obtain ⟨us, u1, u2, u3⟩ := hx i x hi
  have := u2 0 (by decide)
  obtain ⟨b, rfl, hb⟩ := u3
  rw [sv_of hb] at this
  simpa [GT.cells] using this
end Go.AM
namespace Go.Proofs
open Go.Shelf Go.RowKit Go.Lib
def Tryz.laysIns_ren : Go.Shelf.Ren := ⟨fun | 17 => 296 | 22 => 130 | 29 => 181 | 30 => 182 | 36 => 241 | n => n, fun | 24 => 22 | n => n, fun | n => n⟩
theorem Tryz.laysIns : Go.Proofs.Lays2.n22 Tryz.prog Tryz.laysIns_ren := {
  mixed := by kernel_rfl
  f17 := Tryz.func296.trans (congrArg some (by kernel_rfl))
  f22 := Tryz.func130.trans (congrArg some (by kernel_rfl))
  f29 := Tryz.func181.trans (congrArg some (by kernel_rfl))
  f30 := Tryz.func182.trans (congrArg some (by kernel_rfl))
  f36 := Tryz.func241.trans (congrArg some (by kernel_rfl))
  t0 := Tryz.underlying0
  a0 := Tryz.isAgg0
  z0 := Tryz.sizeOf0
  v0 := Tryz.zeroValue0
  t3 := Tryz.underlying3
  a3 := Tryz.isAgg3
  z3 := Tryz.sizeOf3
  v3 := Tryz.zeroValue3
  t4 := Tryz.underlying4
  a4 := Tryz.isAgg4
  z4 := Tryz.sizeOf4
  v4 := Tryz.zeroValue4
  t9 := Tryz.underlying9
  a9 := Tryz.isAgg9
  z9 := Tryz.sizeOf9
  v9 := Tryz.zeroValue9
  t24 := Tryz.underlying22
  a24 := Tryz.isAgg22
  z24 := Tryz.sizeOf22
  v24 := Tryz.zeroValue22
  i9 := by kernel_rfl }
end Go.Proofs
end
section
namespace Go.Lib
open Go

theorem run_overlaps_apart2 {P : Program} (w : World) (tS tR e : TypeId) (ht : P.underlying tS = some (.slice e)) (size : Nat) (hz : ∀ w, (Go.sizeOf e).run P w = .ok size w)
    (a b : Addr) (la ca lb cb : Nat) (hne : a.block ≠ b.block) (tA tB : TypeId) (kA kB : Nat)
    (hsa : w.shape? a.block = some (tA, kA + 1)) (hsb : w.shape? b.block = some (tB, kB)) (hfb : w.frozen? b = false) (hfe : w.frozen? { block := b.block, off := kB } = false) :
    (Extern.SlicesOverlaps.overlaps #[tS, tS] #[tR] #[.slice (some a) la ca, .slice (some b) lb cb]).run P w = .ok (.bool false) w := by
  have hnb : (a.block != b.block) = true := by simpa using hne
  have hnb' : (a.block == b.block) = false := by simpa using hne
  change Sem.run P (α := Value) (do
    let some t := (#[tS, tS] : Array TypeId)[0]? | stuck "slices.overlaps: no parameter types"
    let .slice elem ← underlying t | stuck "slices.overlaps: slice type expected"
    let size ← sizeOf elem
    match (some a : Option Addr), (some b : Option Addr) with
    | some a, some b =>
      if la = 0 ∨ lb = 0 ∨ size = 0 then pure (Value.bool false)
      else if a.block != b.block && (← frozen a) && (← frozen b) then unsupported .addressObserved
      else do
        if a.block != b.block then do
          noView a; noView b
          if ← mayBeOne a b then return Value.bool ((← choose (.extern "sameAddr.stringBytes" 2)) == 1)
        pure (Value.bool (a.block == b.block && a.off < b.off + lb * size && b.off < a.off + la * size))
    | _, _ => pure (Value.bool false)) w = _
  by_cases h0 : la = 0 ∨ lb = 0 ∨ size = 0
  · simp [run_underlying ht, hz, h0]
  · cases h1 : w.frozen? a <;> cases h2 : w.frozen? { block := a.block, off := kA + 1 } <;>
      simp [run_underlying ht, hz, h0, hnb, hnb', frozen, noView, viewAt, mayBeOne, stringish, shape, Sem.run, hsa, hsb, hfb, hfe, h1, h2]
end Go.Lib
namespace Go.Proofs
open Go.Shelf Go.RowKit Go.Lib
set_option maxHeartbeats 4000000 in
set_option maxRecDepth 100000 in

theorem Tryz.Insert_shift (b off n c i vb voff m vc : Nat) (cs vs : List Value) (w : World) (hi : i < n) (hm : 0 < m) (hroom : n + m ≤ c) (hc63 : c ≤ 9223372036854775807) (hvb : vb ≠ b) (hcl : cs.length = n) (hvl : vs.length = m)
    (hcs : ∀ j v, cs[j]? = some v → w.cell? ⟨b, off + j, none⟩ = some v) (hsp : ∀ j, j < n + m → (w.cell? ⟨b, off + j, none⟩).isSome = true) (hfz : ∀ j, w.frozen? ⟨b, j, none⟩ = false)
    (hvs : ∀ j v, vs[j]? = some v → w.cell? ⟨vb, voff + j, none⟩ = some v) (h1c : ∀ v ∈ cs, v.oneCell' = true) (h1v : ∀ v ∈ vs, v.oneCell' = true)
    (tA tB : TypeId) (kA kB : Nat) (hsa : w.shape? vb = some (tA, kA + 1)) (hsb : w.shape? b = some (tB, kB)) :
    Calls Tryz.prog 130 #[.slice (some ⟨b, off, none⟩) n c, .int .i64 i, .slice (some ⟨vb, voff, none⟩) m vc] w fun e w' =>
      e = .returned (.slice (some ⟨b, off, none⟩) (n + m) c) ∧ w' = (w.drew.setCells b (off + (i + m)) (cs.drop i)).setCells b (off + i) vs := by
  have hz1 : ¬ ((m : Int) = 0) := by omega
  have hz2 : ¬ ((i : Int) = (n : Int)) := by omega
  have hsz : (Tryz.prog.info? 9).map (·.size) = some 1 := by
    obtain ⟨i0, hi0, h0, h1, h2⟩ := info_parts Tryz.laysIns.i9
    exact (congrArg _ hi0).trans (by simp [h1])
  have hov : ∀ lb cb, (callFunc 181 #[.slice (some ⟨vb, voff, none⟩) m vc, .slice (some ⟨b, off + (i + m), none⟩) lb cb]).run Tryz.prog w = .ok (.value (.bool false)) w := fun lb cb => by
    rw [run_callFunc_extern Tryz.func181 (by kernel_rfl) (by kernel_rfl) (by kernel_rfl) (e := Extern.SlicesOverlaps.overlaps #[22, 22] #[4]) (by kernel_rfl),
      Lib.run_overlaps_apart2 w 22 4 9 Tryz.underlying22 1 Tryz.sizeOf9 ⟨vb, voff, none⟩ ⟨b, off + (i + m), none⟩ m vc lb cb hvb tA tB kA kB hsa hsb (hfz _) (hfz _)]
    rfl
  have hdl : (cs.drop i).length = n - i := by rw [List.length_drop, hcl]
  have hw1 : IntKind.i64.wrap ((i : Int) + (m : Int)) = (i : Int) + (m : Int) := by rw [IntKind.wrap_i64]; omega
  have hb1 : (0 : Int) ≤ (i : Int) + (m : Int) := by omega
  have hin : i ≤ n := by omega
  have htn : ((i : Int) + (m : Int)).toNat = i + m := by omega
  have hb2 : ¬ (c = i + m) := by omega
  have hb3 : (i : Int) ≤ (n : Int) + (m : Int) := by omega
  have hb4 : ¬ (c = i) := by omega
  have hcp1 : ∀ ty dc sc, (Builtin.copy_ #[22, 22] ty #[.slice (some ⟨b, off + (i + m), none⟩) (n + m - (i + m)) dc, .slice (some ⟨b, off + i, none⟩) (n + m - i) sc]).run Tryz.prog w.drew = .ok (goInt (cs.drop i).length) (w.drew.setCells b (off + (i + m)) (cs.drop i)) := fun ty dc sc =>
    run_copy_cells w.drew _ _ ty 9 b (off + (i + m)) (n + m - (i + m)) dc ⟨b, off + i, none⟩ (n + m - i) sc (cs.drop i) Tryz.underlying22 hsz (by rw [hdl]; simp only [Nat.min_def]; split <;> omega)
      (fun j v hj => by rw [Addr.add_lit, Nat.add_assoc]; exact hcs (i + j) v (by rwa [List.getElem?_drop] at hj))
      (fun j hj => by rw [Nat.add_assoc]; exact hsp _ (by omega)) (fun j hj => hfz _) (fun v hv => h1c v (List.mem_of_mem_drop hv))
  obtain ⟨W1, hW1⟩ : ∃ W1, W1 = w.drew.setCells b (off + (i + m)) (cs.drop i) := ⟨_, rfl⟩
  have hsp1 : ∀ k, k < n + m → (W1.cell? ⟨b, off + k, none⟩).isSome = true := fun k hk => by
    rw [hW1]
    exact isSome_setCells b _ _ _ (fun j hj => by rw [Nat.add_assoc]; exact hsp _ (by omega)) _ (hsp k hk)
  have hcp2 : ∀ (W : World), (∀ x, W.cell? x = W1.cell? x) → (∀ x, W.frozen? x = W1.frozen? x) → ∀ ty dc, (Builtin.copy_ #[22, 22] ty #[.slice (some ⟨b, off + i, none⟩) (n + m - i) dc, .slice (some ⟨vb, voff, none⟩) m vc]).run Tryz.prog W = .ok (goInt vs.length) (W.setCells b (off + i) vs) := fun W hWc hWf ty dc =>
    run_copy_cells W _ _ ty 9 b (off + i) (n + m - i) dc ⟨vb, voff, none⟩ m vc vs Tryz.underlying22 hsz (by rw [hvl]; simp only [Nat.min_def]; split <;> omega)
      (fun j v hj => by
        rw [Addr.add_lit, hWc, hW1, World.cell?_setCells_out b _ _ _ _ (fun h _ => absurd h hvb)]
        exact hvs j v hj)
      (fun j hj => by rw [hWc, Nat.add_assoc]; exact hsp1 _ (by omega)) (fun j hj => by rw [hWf, hW1, World.frozen?_setCells]; exact hfz _) h1v
  rw [← hW1] at hcp1
  have mixed := Tryz.laysIns.mixed
  go_enter Tryz.func130, Tryz.ntmps130
  go_wp2_with (simp only [hov])
  go_region_law_o (refine step_copy_runI rfl _ _ 22 22 rfl _ _ (by simp [Act.eval, Act.put]) (by simp [Act.eval, Act.put]) (hcp1 _ _ _) ?_)
  go_wp2_with (at_builtin; refine wpList_copy_runI _ rfl _ _ 22 22 rfl _ _ rfl rfl (hcp2 _ (fun _ => rfl) (fun _ => rfl) _ _) ?_)
  go_ret
  first | exact ⟨rfl, rfl⟩ | exact ⟨rfl, by rw [hW1]⟩
end Go.Proofs
end
section
namespace Go.AM
open Go.RowKit (Below)

theorem out_own {V : Env} {ps : List PK} {w w' : World} {I : Nat → Prop} {β : Nat → Option Place} {x : tysP ps} (hk : cntK ps = 0) (hctx : Ctx V.gb w I β (rowsIn ps x)) (hgb : V.gb ≤ w.heap.size) (hext : Ext w w') {l : List (List UInt8)} {v : Value}
    (h : v = .slice none 0 0 ∧ l = [] ∨ ∃ g cap cur ty, v = .slice (some ⟨g, 0, none⟩) l.length cap ∧ w.heap.size ≤ g ∧ w'.heap[g]? = some (.cells cur ty (0, 0)) ∧ l.length ≤ cap ∧ cap ≤ cur.size ∧ cur.size ≤ capMax ∧ ∀ (i : Nat) x, l[i]? = some x → cur[i]? = some (sv x)) :
    ∃ (us : List Value) (I' : Nat → Prop) (β' : Nat → Option Place), Ending.returned v = .returned (valOf us) ∧ FrmC w w' (live (rowsIn ps x) β) ∧ OutOK w w' V.gb I β (rowsIn ps x) [some (.typed .str l)] (cntK ps) I' β' ∧ RelL (rdW w') I' β' [.vw 0] us := by
  obtain ⟨I', β', h1, h2⟩ := own_new (Hin := rowsIn ps x) (β := β) (fun B hB => (hctx.imm B hB).1) hgb hext.size h
  exact ⟨[v], I', β', rfl, ⟨hext.os, hext.tape, hext.output, hext.size, fun B hB _ => hext.block B hB⟩, by rw [hk]; exact h1, h2⟩
theorem owns_sv {w' : World} {base n : Nat} {e : TypeId} {v : Value} {l : List (List UInt8)} (hn : n = l.length) (h : w'.ownsRow base e 1 v n (l.map sv)) :
    v = .slice none 0 0 ∧ l = [] ∨ ∃ g cap cur ty, v = .slice (some ⟨g, 0, none⟩) l.length cap ∧ base ≤ g ∧ w'.heap[g]? = some (.cells cur ty (0, 0)) ∧ l.length ≤ cap ∧ cap ≤ cur.size ∧ cur.size ≤ capMax ∧ ∀ (i : Nat) x, l[i]? = some x → cur[i]? = some (sv x) := by
  subst hn
  rcases h.2 with ⟨rfl, h0⟩ | ⟨g, cap, cur, rfl, hg, hh, hc, hmx, hsz, ht⟩
  · exact .inl ⟨rfl, List.eq_nil_of_length_eq_zero h0⟩
  · refine .inr ⟨g, cap, cur, e, rfl, hg, hh, hc, by omega, by unfold maxLen at hmx; unfold capMax; omega, fun i x hi => ?_⟩
    have hlt := (List.getElem?_eq_some_iff.1 hi).1
    have : (cur.toList.take (l.length * 1))[i]? = some (sv x) := by rw [ht]; simp [hi]
    rw [List.getElem?_take, if_pos (by omega), Array.getElem?_toList] at this
    exact this
theorem sv_reads {w : World} {I : Nat → Prop} {B o : Nat} {l : List (List UInt8)} (h : ∀ (i : Nat) x, l[i]? = some x → rdW w B (o + i) = some (sv x)) : ∀ (i : Nat) x, l[i]? = some x → w.cell? ⟨B, o + i, none⟩ = some (sv x) := fun i x hi => rdW_cell (h i x hi) rfl
end Go.AM
namespace Go.AM.Num
open Go.Proofs Go.RowKit Go.Lib
section
variable {V : Env} (hP : V.P = Tryz.prog)
include hP
theorem slices_Clone_good : Good V 137 slices_Clone_string_string_C :=
  ⟨⟨_, hP ▸ Tryz.func137, by decide, rfl⟩, fun x y o hx w I β vs hG hgb hctx hargs => by
    obtain ⟨v, rfl, h1⟩ := rel1 hargs
    replace h1 : RelV (rdW w) I β (.sl .str false x.1) v := h1
    simp only [RelV] at h1
    obtain ⟨a, c, rfl, hc, hx1⟩ := sl_sv h1.1
    obtain ⟨hm, hx⟩ := grd_some' hx
    cases hx
    simp only [decide_eq_true_eq] at hm
    replace hm : x.1.length ≤ 68719476736 := hm
    rw [hP]
    cases a with
    | none =>
      have h0 : x.1 = [] := Classical.byContradiction fun hne => by obtain ⟨B, o, h, _⟩ := hx1 hne; cases h
      refine Calls.mono (Tryz.slices_Clone_string_nil _ c w) ?_
      rintro e w' ⟨rfl, rfl⟩
      exact out_own rfl hctx hgb (Ext.refl _) (.inl ⟨rfl, h0⟩)
    | some ad =>
      by_cases h0 : x.1 = []
      · have hl0 : x.1.length = 0 := by rw [h0]; rfl
        rw [hl0]
        refine Calls.mono (Tryz.slices_Clone_string_zero ad c w) ?_
        rintro e w' ⟨v', rfl, ho, _, hb⟩
        exact out_own rfl hctx hgb (Ext.of_below hb) (owns_sv (l := x.1) hl0.symm (by rw [h0]; exact ho))
      · obtain ⟨B, o, he, _, hrd⟩ := hx1 h0
        cases he
        have hcell := sv_reads (I := I) hrd
        refine Calls.mono (Tryz.slices_Clone_string B o x.1.length c (x.1.map fun s => ⟨s.toArray⟩) w (by simp) (by omega) (fun j hj => by
          simp only [List.length_map] at hj
          rw [hcell j _ (List.getElem?_eq_getElem hj)]
          simp [List.getD, List.getElem?_eq_getElem hj])) ?_
        rintro e w' ⟨v', rfl, ho, _, hb⟩
        exact out_own rfl hctx hgb (Ext.of_below hb) (owns_sv rfl (by simpa [List.map_map, Function.comp_def, List.take_of_length_le] using ho))⟩
theorem slices_Delete_good : Good V 129 slices_Delete_string_string_C :=
  ⟨⟨_, hP ▸ Tryz.func129, by decide, rfl⟩, fun (x : List (List UInt8) × Int × Int × Unit) y o hx w I β vs hG hgb hctx hargs => by
    obtain ⟨v, v', v2, rfl, h1, h2, h3⟩ := rel3 hargs
    obtain rfl := rel_int h2
    obtain rfl := rel_int h3
    obtain ⟨l, i, j, u⟩ := x
    obtain ⟨hm, hx⟩ := grd_some' hx
    cases hx
    simp only [Bool.and_eq_true, decide_eq_true_eq] at hm
    obtain ⟨⟨hi0, hij⟩, hjl⟩ := hm
    replace hjl : j ≤ (l.length : Int) := hjl
    replace h1 : RelV (rdW w) I β (.vw 0) v := h1
    simp only [RelV] at h1
    obtain ⟨p, hp, a, c, rfl, hpc, ha⟩ := h1
    obtain ⟨p', hp', hbk, hrow⟩ := hctx.rows 0 (.typed .str l) rfl
    rw [hp] at hp'; cases hp'
    have hpn : p.n = l.length := hrow.2.1
    obtain ⟨l', hl'⟩ : ∃ l', l' = l.take i.toNat ++ l.drop j.toNat ++ List.replicate (j.toNat - i.toNat) ([] : List UInt8) := ⟨_, rfl⟩
    have hll : l'.length = l.length := by rw [hl']; simp; omega
    have fin : ∀ w' : World, w'.os = w.os → w'.tape = w.tape → w'.output = w.output → w'.heap.size = w.heap.size → (∀ B, (p.backed = true → B ≠ p.B) → w'.heap[B]? = w.heap[B]?) → RowRel w' I β p (.typed .str l') → (p.backed = true → SameOut w w' p) →
        ∃ (us : List Value) (I' : Nat → Prop) (β' : Nat → Option Place), Ending.returned (.slice a (l.length - (j.toNat - i.toNat)) c) = .returned (valOf us) ∧ FrmC w w' (live (rowsIn [.row .str, .val (.int .i64), .val (.int .i64)] (l, i, j, u)) β) ∧
          OutOK w w' V.gb I β (rowsIn [.row .str, .val (.int .i64), .val (.int .i64)] (l, i, j, u)) [some (.typed .str l')] 1 I' β' ∧ RelL (rdW w') I' β' [.pre 0 (l.length - (j.toNat - i.toNat))] us := by
      intro w' e1 e2 e3 e4 e5 hrow' hso
      have hlive : ∀ B, live [some (.typed .str l')] β B ↔ live (rowsIn [.row .str, .val (.int .i64), .val (.int .i64)] (l, i, j, u)) β B := fun B => by
        constructor <;> rintro ⟨b, r, q, hb, hq, hk, e⟩
        · cases b with
          | zero => exact ⟨0, .typed .str l, q, rfl, hq, hk, e⟩
          | succ b => simp at hb
        · cases b with
          | zero => exact ⟨0, .typed .str l', q, rfl, hq, hk, e⟩
          | succ b => change ([] : Heap)[b]? = _ at hb; simp at hb
      refine ⟨[_], I, β, rfl, ⟨e1, e2, e3, Nat.le_of_eq e4.symm, fun B hB hnl => e5 B fun hk e => hnl ⟨0, .typed .str l, p, rfl, hp, hk, e.symm⟩⟩, ⟨⟨fun b r hb => ?_, fun b b' r r' q q' hb hb' => ?_, fun B hB => ⟨by rw [e4]; exact (hctx.imm B hB).1, fun h => (hctx.imm B hB).2 ((hlive B).1 h)⟩, fun b hb => hctx.dom b hb⟩, fun B hB => .inl hB, fun b r q hb hq hk => .inl ((hlive q.B).1 ⟨b, r, q, hb, hq, hk, rfl⟩), fun i hi => ⟨rfl, fun q hq hk => ?_⟩⟩, ?_⟩
      · cases b with
        | zero => cases hb; exact ⟨p, hp, fun hk => by rw [e4]; exact hbk hk, hrow'⟩
        | succ b => simp at hb
      · cases b <;> cases b' <;> simp at hb hb' ⊢
      · obtain rfl : i = 0 := by omega
        rw [hp] at hq; cases hq
        exact hso hk
      · simp only [RelL, RelV]
        exact ⟨_, [], rfl, ⟨p, hp, by omega, a, c, rfl, hpc, ha⟩, rfl⟩
    rw [hP]
    by_cases hl0 : l.length = 0
    · have hl : l = [] := List.eq_nil_of_length_eq_zero hl0
      have hj0 : j = 0 := by omega
      have hi0' : i = 0 := by omega
      subst hj0; subst hi0'
      have : (Value.slice a p.n c) = .slice a 0 c := by rw [hpn, hl0]
      rw [this]
      refine Calls.mono (Tryz.slices_Delete_string_empty a c w) ?_
      rintro e w' ⟨rfl, rfl⟩
      have := fin w' rfl rfl rfl rfl (fun _ _ => rfl) (by rw [hl']; subst hl; simpa using hrow) (fun hk => by
        obtain ⟨_, _, cs, ty, g1, _⟩ := row_sv hrow hk
        exact .inr ⟨cs, cs, ty, g1, g1, rfl, fun _ _ => rfl⟩)
      rw [hl0] at this
      have e : (0 : Nat) - ((0 : Int).toNat - (0 : Int).toNat) = 0 := rfl
      rw [e] at this
      rw [hl'] at this
      subst hl
      exact this
    · have hcz : c ≠ 0 := by omega
      obtain ⟨hk, rfl, hcap⟩ := ha.resolve_left hcz
      obtain ⟨hs, hn, cs, ty, g1, g2, g3, gm, g4⟩ := row_sv hrow hk
      have hij' : i.toNat ≤ j.toNat := by omega
      have hi' : (i.toNat : Int) = i := Int.toNat_of_nonneg hi0
      have hj' : (j.toNat : Int) = j := Int.toNat_of_nonneg (by omega)
      have hcell : ∀ q, q < l.length → w.cell? ⟨p.B, p.O + q, none⟩ = some (.string ⟨(l.getD q []).toArray⟩) := fun q hq => by
        have := g4 q _ (List.getElem?_eq_getElem hq)
        simp [World.cell?, g1, this, List.getD, List.getElem?_eq_getElem hq]
      have hso : Lib.strsOf (fun q => ⟨(l.getD q []).toArray⟩) l.length = l := by
        unfold Lib.strsOf
        apply List.ext_getElem (by simp)
        intro q h1 h2
        simp [List.getD, List.getElem?_eq_getElem h2]
      have hcall := Tryz.slices_Delete_string_cells p.B p.O l.length c i.toNat j.toNat (fun q => ⟨(l.getD q []).toArray⟩) w (by omega) (by rw [hs] at hcap; unfold capMax at gm; omega) hij' (by omega) hcell (fun q hq => by simp [World.frozen?, g1])
      rw [hi', hj', hso] at hcall
      rw [hpn]
      refine Calls.mono hcall ?_
      rintro e w' ⟨rfl, q, rfl⟩
      have g1' : (w.drewN q).heap[p.B]? = some (.cells cs ty (0, 0)) := g1
      obtain ⟨cs', k1, k2, k3, k4, k5, k6, k7, k8⟩ := setCells_row (l'.map sv) p.B p.O (w.drewN q) g1' (by simp [hll]; omega)
      have he : (l.take i.toNat ++ l.drop j.toNat ++ List.replicate (j.toNat - i.toNat) []).map encStr = l'.map sv := by rw [hl']
      rw [he]
      have := fin ((w.drewN q).setCells p.B p.O (l'.map sv)) k6 k7 k8 k5 (fun B hB => k4 B (hB hk)) (row_of_sv hs (by rw [hn, hll]) k1 (by rw [k2]; exact g2) (by rw [k2]; exact g3) (by rw [k2]; exact gm) (fun r x hr => by
        have hrl := (List.getElem?_eq_some_iff.1 hr).1
        rw [k3, if_pos (by simp; omega), show p.O + r - p.O = r from by omega]
        simp [hr]) hk) (fun _ => .inr ⟨cs, cs', ty, g1, k1, k2, fun o ho => by rw [k3, if_neg (by simp [hll]; rw [hs] at ho; omega)]⟩)
      subst hl'
      exact this⟩
theorem slices_Insert_good : Good V 130 slices_Insert_string_string_C :=
  ⟨⟨_, hP ▸ Tryz.func130, by decide, rfl⟩, fun (x : List (List UInt8) × Int × List (List UInt8) × Unit) y o hx w I β vs hG hgb hctx hargs => by
    obtain ⟨v, v', v2, rfl, h1, h2, h3⟩ := rel3 hargs
    obtain rfl := rel_int h2
    obtain ⟨l, i, vl, u⟩ := x
    obtain ⟨hm, hx⟩ := grd_some' hx
    cases hx
    simp only [Bool.and_eq_true, decide_eq_true_eq] at hm
    obtain ⟨⟨⟨hi0, hil⟩, hmx⟩, hv0⟩ := hm
    replace hil : i ≤ (l.length : Int) := hil
    replace hmx : l.length + vl.length ≤ 68719476736 := hmx
    replace hv0 : 0 < vl.length := hv0
    replace h1 : RelV (rdW w) I β (.vw 0) v := h1
    simp only [RelV] at h1
    obtain ⟨p, hp, a, c, rfl, hpc, ha⟩ := h1
    obtain ⟨p', hp', hbk, hrow⟩ := hctx.rows 0 (.typed .str l) rfl
    rw [hp] at hp'; cases hp'
    have hpn : p.n = l.length := hrow.2.1
    replace h3 : RelV (rdW w) I β (.sl .str false vl) v2 := h3
    simp only [RelV] at h3
    obtain ⟨va, vc, rfl, hvc, hv1⟩ := sl_sv h3.1
    obtain ⟨vb, voff, rfl, hIv, hrd⟩ := hv1 (by intro e; rw [e] at hv0; simp at hv0)
    have hvcell := sv_reads (I := I) hrd
    have hvs : ∀ (j : Nat) v, (vl.map sv)[j]? = some v → w.cell? ⟨vb, voff + j, none⟩ = some v := fun j v hj => by
      simp only [List.getElem?_map, Option.map_eq_some_iff] at hj
      obtain ⟨x, hx, rfl⟩ := hj
      exact hvcell j x hx
    obtain ⟨n, hn⟩ : ∃ n, n = l.length := ⟨_, rfl⟩
    obtain ⟨k, hk⟩ : ∃ k, k = i.toNat := ⟨_, rfl⟩
    have hki : i = (k : Int) := by omega
    obtain ⟨l', hl'⟩ : ∃ l', l' = l.take i.toNat ++ vl ++ l.drop i.toNat := ⟨_, rfl⟩
    have hll : l'.length = l.length + vl.length := by rw [hl']; simp; omega
    show Calls V.P _ _ _ fun e w' => ∃ (us : List Value) (I' : Nat → Prop) (β' : Nat → Option Place), e = .returned (valOf us) ∧ FrmC w w' (live (rowsIn [.own .str, .val (.int .i64), .val (.sl .str)] (l, i, vl, u)) β) ∧
          OutOK w w' V.gb I β (rowsIn [.own .str, .val (.int .i64), .val (.sl .str)] (l, i, vl, u)) [some (.typed .str (l.take i.toNat ++ vl ++ l.drop i.toNat))] 0 I' β' ∧ RelL (rdW w') I' β' [.vw 0] us
    rw [← hl']
    have fresh : ∀ (w' : World) (cap : Nat) (cur : Array Value) (ty : TypeId), Ext w w' → w'.heap[w.heap.size]? = some (.cells cur ty (0, 0)) → l'.length ≤ cap → cap ≤ cur.size → cur.size ≤ capMax → (∀ (r : Nat) x, l'[r]? = some x → cur[r]? = some (sv x)) →
        ∃ (us : List Value) (I' : Nat → Prop) (β' : Nat → Option Place), Ending.returned (.slice (some ⟨w.heap.size, 0, none⟩) (l.length + vl.length) cap) = .returned (valOf us) ∧ FrmC w w' (live (rowsIn [.own .str, .val (.int .i64), .val (.sl .str)] (l, i, vl, u)) β) ∧
          OutOK w w' V.gb I β (rowsIn [.own .str, .val (.int .i64), .val (.sl .str)] (l, i, vl, u)) [some (.typed .str l')] 0 I' β' ∧ RelL (rdW w') I' β' [.vw 0] us := fun w' cap cur ty hext hh h1 h2 h3 h4 =>
      out_own (ps := [.own .str, .val (.int .i64), .val (.sl .str)]) (x := (l, i, vl, u)) rfl hctx hgb hext (.inr ⟨_, cap, cur, ty, by rw [hll], Nat.le_refl _, hh, h1, h2, h3, h4⟩)
    have place : ∀ (w' : World) (cs' : Array Value) (ty : TypeId), p.backed = true → p.s = 1 → w'.os = w.os → w'.tape = w.tape → w'.output = w.output → w'.heap.size = w.heap.size → (∀ B, B ≠ p.B → w'.heap[B]? = w.heap[B]?) → w'.heap[p.B]? = some (.cells cs' ty (0, 0)) → cs'.size = p.z → cs'.size ≤ capMax → a = some ⟨p.B, p.O, none⟩ → l'.length ≤ c → p.O + c ≤ p.z →
        (∀ (r : Nat) x, l'[r]? = some x → cs'[p.O + r]? = some (sv x)) →
        ∃ (us : List Value) (I' : Nat → Prop) (β' : Nat → Option Place), Ending.returned (.slice a (l.length + vl.length) c) = .returned (valOf us) ∧ FrmC w w' (live (rowsIn [.own .str, .val (.int .i64), .val (.sl .str)] (l, i, vl, u)) β) ∧
          OutOK w w' V.gb I β (rowsIn [.own .str, .val (.int .i64), .val (.sl .str)] (l, i, vl, u)) [some (.typed .str l')] 0 I' β' ∧ RelL (rdW w') I' β' [.vw 0] us := by
      intro w' cs' ty hb hs e1 e2 e3 e4 e5 hh hz hcm ha' hlc hcz hx
      have hlive : live (rowsIn [.own .str, .val (.int .i64), .val (.sl .str)] (l, i, vl, u)) β p.B := ⟨0, .typed .str l, p, rfl, hp, hb, rfl⟩
      refine ⟨[_], I, fun j => if j = 0 then some { p with n := l'.length } else none, rfl, ⟨e1, e2, e3, Nat.le_of_eq e4.symm, fun B hB hnl => e5 B fun e => hnl (e ▸ hlive)⟩, ⟨⟨fun b r hb' => ?_, fun b b' r r' q q' hb hb' => ?_, fun B hB => ⟨by rw [e4]; exact (hctx.imm B hB).1, ?_⟩, fun b hb' => ?_⟩, fun B hB => .inl hB, fun b r q hb' hq hk => ?_, fun i hi => by cases hi⟩, ?_⟩
      · cases b with
        | zero => cases hb'; exact ⟨_, rfl, fun _ => by rw [e4]; exact hbk hb, row_of_sv hs rfl hh (by simp only; omega) hz hcm hx hb⟩
        | succ b => simp at hb'
      · cases b <;> cases b' <;> simp at hb hb' ⊢
      · rintro ⟨b, r, q, hb', hq, hk, rfl⟩
        cases b with
        | zero => cases hq; exact (hctx.imm _ hB).2 hlive
        | succ b => simp at hb'
      · simp at hb'
        exact if_neg (by omega)
      · cases b with
        | zero => cases hq; exact .inl hlive
        | succ b => simp at hb'
      · simp only [RelL, RelV]
        exact ⟨_, [], rfl, ⟨_, rfl, a, c, by rw [hll], hlc, .inr ⟨hb, ha', by simp only [hs]; omega⟩⟩, rfl⟩
    have bigv : (l.length + vl.length) * 16 ≤ 140737488355328 := by omega
    have hlsv : ∀ (r : Nat) v, (l.map sv)[r]? = some v → p.backed = true → w.cell? ⟨p.B, p.O + r, none⟩ = some v := fun r v hr hb => by
      obtain ⟨hs, hn, cs, ty, g1, g2, g3, gm, g4⟩ := row_sv hrow hb
      simp only [List.getElem?_map, Option.map_eq_some_iff] at hr
      obtain ⟨x, hx, rfl⟩ := hr
      simp [World.cell?, g1, g4 r x hx]
    have hgc := fun n => grownCap_le_maxLen w (l.length + vl.length) c n (by unfold maxLen; omega)
    have hgg := fun n => grownCap_ge w (l.length + vl.length) c n
    rw [hP, hpn]
    subst hki
    by_cases hend : k = l.length
    · subst hend
      have hl2 : l' = l ++ vl := by rw [hl']; simp
      by_cases hroom : l.length + vl.length ≤ c
      · obtain ⟨hb, rfl, hcap⟩ := ha.resolve_left (by omega)
        obtain ⟨hs, hn', cs, ty, g1, g2, g3, gm, g4⟩ := row_sv hrow hb
        rw [hs] at hcap
        have hcall := Any2.slices_Insert_string_end_room Tryz.laysIns p.B p.O l.length c vb voff vl.length vc (vl.map sv) w hv0 hroom (by unfold capMax at gm; omega) (by simp) (fun j hj => by simp [World.cell?, g1]; omega) (fun j hj => by simp [World.frozen?, g1]) hvs (sv_plain _)
        refine Calls.mono hcall ?_
        rintro e w' ⟨rfl, rfl⟩
        obtain ⟨cs', k1, k2, k3, k4, k5, k6, k7, k8⟩ := setCells_row (vl.map sv) p.B (p.O + l.length) w g1 (by simp; omega)
        refine place _ cs' ty hb hs k6 k7 k8 k5 k4 k1 (by rw [k2]; exact g3) (by rw [k2]; exact gm) rfl (by rw [hll]; exact hroom) (by omega) fun r x hr => ?_
        rw [k3]
        rw [hl2] at hr
        by_cases hrl : r < l.length
        · rw [if_neg (by omega)]
          rw [List.getElem?_append_left hrl] at hr
          exact g4 r x hr
        · have hr2 := (List.getElem?_eq_some_iff.1 hr).1
          rw [List.getElem?_append_right (by omega)] at hr
          rw [if_pos (by simp at hr2 ⊢; omega), show p.O + r - (p.O + l.length) = r - l.length from by omega]
          simp [hr]
      · have hcall := Any2.slices_Insert_string_end_grow Tryz.laysIns a l.length c vb voff vl.length vc (l.map sv) (vl.map sv) w hv0 (by omega) (by omega) bigv (by simp) (by simp) (fun e => by
          rcases ha with h0 | ⟨_, h0, _⟩
          · omega
          · rw [e] at h0; cases h0) (fun ad e r v hr => by
          rcases ha with h0 | ⟨hb, h0, _⟩
          · have := (List.getElem?_eq_some_iff.1 hr).1; simp at this; omega
          · rw [e] at h0; cases h0; rw [Addr.add_lit]; exact hlsv r v hr hb) hvs (sv_plain _)
        refine Calls.mono hcall ?_
        rintro e w' ⟨rfl, rfl⟩
        have hgl := hgg (Tryz.laysIns_ren.t 9)
        have hgm := hgc (Tryz.laysIns_ren.t 9)
        unfold maxLen at hgm
        refine fresh _ _ _ _ ((Ext.drew w).trans (Ext.alloc _ _)) (World.alloc_heap_new w.drew _) (by rw [hll]; exact hgl) (by simp [Builtin.zeroCells, Value.cells]; omega) (by simp [Builtin.zeroCells, Value.cells]; unfold capMax; omega) fun r x hr => ?_
        rw [hl2] at hr
        have hr2 := (List.getElem?_eq_some_iff.1 hr).1
        rw [Array.getElem?_append_left (by simp at hr2 ⊢; omega), List.getElem?_toArray, ← List.map_append, List.getElem?_map, hr]
        rfl
    · have hkl : k < l.length := by omega
      have hl2 : ∀ (r : Nat) x, l'[r]? = some x → if r < k then l[r]? = some x else if r < k + vl.length then vl[r - k]? = some x else l[r - vl.length]? = some x := fun r x hr => by
        rw [hl', Int.toNat_natCast, List.append_assoc] at hr
        split
        · rename_i h; rw [List.getElem?_append_left (by simp; omega), List.getElem?_take, if_pos h] at hr; exact hr
        · rename_i h
          rw [List.getElem?_append_right (by simp; omega)] at hr
          have hmk : min k l.length = k := by omega
          simp only [List.length_take, hmk] at hr
          split
          · rename_i h'; rw [List.getElem?_append_left (by omega)] at hr; exact hr
          · rename_i h'
            rw [List.getElem?_append_right (by omega), List.getElem?_drop, show k + (r - k - vl.length) = r - vl.length from by omega] at hr
            exact hr
      obtain ⟨hb, rfl, hcap⟩ := ha.resolve_left (by omega)
      obtain ⟨hs, hn', cs, ty, g1, g2, g3, gm, g4⟩ := row_sv hrow hb
      rw [hs] at hcap
      by_cases hroom : l.length + vl.length ≤ c
      · obtain ⟨csv, hcsv⟩ : ∃ x, w.cell? ⟨vb, voff + 0, none⟩ = some x := ⟨_, hvcell 0 _ (List.getElem?_eq_getElem hv0)⟩
        obtain ⟨tA, kA, hsA⟩ : ∃ tA kA, w.shape? vb = some (tA, kA + 1) := by
          unfold World.cell? at hcsv
          split at hcsv
          · rename_i c0 ty0 fr0 hh
            have : voff + 0 < c0.size := by
              have := hcsv
              simp at this
              exact (Array.getElem?_eq_some_iff.1 this).1
            exact ⟨ty0, c0.size - 1, by simp [World.shape?, hh]; omega⟩
          · cases hcsv
        have hvne : vb ≠ p.B := fun e => (hctx.imm vb hIv).2 ⟨0, .typed .str l, p, rfl, hp, hb, e.symm⟩
        have hcall := Tryz.Insert_shift p.B p.O l.length c k vb voff vl.length vc (l.map sv) (vl.map sv) w hkl hv0 hroom (by unfold capMax at gm; omega) hvne (by simp) (by simp) (fun j v hj => hlsv j v hj hb) (fun j hj => by simp [World.cell?, g1]; omega) (fun j => by simp [World.frozen?, g1]) hvs (sv_plain _) (sv_plain _) tA ty kA cs.size hsA (by simp [World.shape?, g1])
        refine Calls.mono hcall ?_
        rintro e w' ⟨rfl, rfl⟩
        have g1' : w.drew.heap[p.B]? = some (.cells cs ty (0, 0)) := g1
        obtain ⟨cs1, k1, k2, k3, k4, k5, k6, k7, k8⟩ := setCells_row ((l.map sv).drop k) p.B (p.O + (k + vl.length)) w.drew g1' (by simp; omega)
        obtain ⟨cs2, j1, j2, j3, j4, j5, j6, j7, j8⟩ := setCells_row (vl.map sv) p.B (p.O + k) _ k1 (by rw [k2]; simp; omega)
        refine place _ cs2 ty hb hs (j6.trans k6) (j7.trans k7) (j8.trans k8) (j5.trans k5) (fun B hB => (j4 B hB).trans (k4 B hB)) j1 (by rw [j2, k2]; exact g3) (by rw [j2, k2]; exact gm) rfl (by rw [hll]; exact hroom) (by omega) fun r x hr => ?_
        have hr2 := (List.getElem?_eq_some_iff.1 hr).1
        rw [hll] at hr2
        have h := hl2 r x hr
        rw [j3, k3]
        split at h
        · rw [if_neg (by omega), if_neg (by omega)]; exact g4 r x h
        · split at h
          · rw [if_pos (by simp; omega), show p.O + r - (p.O + k) = r - k from by omega]; simp [h]
          · rw [if_neg (by simp; omega), if_pos (by simp; omega), List.getElem?_drop, show k + (p.O + r - (p.O + (k + vl.length))) = r - vl.length from by omega]; simp [h]
      · have hcall := Any2.slices_Insert_string_grow Tryz.laysIns p.B p.O l.length c k vb voff vl.length vc (l.map sv) (vl.map sv) w hkl hv0 (by omega) (by omega) bigv (by simp) (by simp) (fun j v hj => hlsv j v hj hb) hvs (sv_plain _) (sv_plain _)
        refine Calls.mono hcall ?_
        rintro e w' ⟨rfl, rfl⟩
        have hgl := hgg (Tryz.laysIns_ren.t 9)
        have hgm := hgc (Tryz.laysIns_ren.t 9)
        unfold maxLen at hgm
        obtain ⟨W0, hW0⟩ : ∃ W0, W0 = (w.alloc (.cells (((l.map sv).take k).toArray ++ Builtin.zeroCells (Value.string ⟨#[]⟩).cells (l.length + vl.length - k) ++ Builtin.zeroCells (Value.string ⟨#[]⟩).cells (grownCap w (l.length + vl.length) c (Tryz.laysIns_ren.t 9) - (l.length + vl.length))) (Tryz.laysIns_ren.t 9))).drew := ⟨_, rfl⟩
        have hh0 : W0.heap[w.heap.size]? = some (.cells (((l.map sv).take k).toArray ++ Builtin.zeroCells (Value.string ⟨#[]⟩).cells (l.length + vl.length - k) ++ Builtin.zeroCells (Value.string ⟨#[]⟩).cells (grownCap w (l.length + vl.length) c (Tryz.laysIns_ren.t 9) - (l.length + vl.length))) (Tryz.laysIns_ren.t 9) (0, 0)) := by rw [hW0]; exact World.alloc_heap_new w _
        rw [← hW0]
        have hsz0 : (((l.map sv).take k).toArray ++ Builtin.zeroCells (Value.string ⟨#[]⟩).cells (l.length + vl.length - k) ++ Builtin.zeroCells (Value.string ⟨#[]⟩).cells (grownCap w (l.length + vl.length) c (Tryz.laysIns_ren.t 9) - (l.length + vl.length))).size = grownCap w (l.length + vl.length) c (Tryz.laysIns_ren.t 9) := by
          simp [Builtin.zeroCells, Value.cells]; omega
        obtain ⟨cs1, k1, k2, k3, k4, k5, k6, k7, k8⟩ := setCells_row (vl.map sv) w.heap.size k W0 hh0 (by rw [hsz0]; simp; omega)
        obtain ⟨cs2, j1, j2, j3, j4, j5, j6, j7, j8⟩ := setCells_row ((l.map sv).drop k) w.heap.size (k + vl.length) (W0.setCells w.heap.size k (vl.map sv)).drew k1 (by rw [k2, hsz0]; simp; omega)
        have hextW : Ext w W0 := by rw [hW0]; exact (Ext.alloc w _).trans (Ext.drew _)
        refine fresh _ _ cs2 _ ⟨j6.trans (k6.trans hextW.os), j7.trans (k7.trans hextW.tape), j8.trans (k8.trans hextW.output), by
          have := hextW.size
          have e1 : (W0.setCells w.heap.size k (vl.map sv)).drew.heap.size = (W0.setCells w.heap.size k (vl.map sv)).heap.size := rfl
          omega, fun B hB => (j4 B (by omega)).trans ((k4 B (by omega)).trans (hextW.block B hB))⟩ j1 (by rw [hll]; exact hgl) (by rw [j2, k2, hsz0]; exact Nat.le_refl _) (by rw [j2, k2, hsz0]; unfold capMax; omega) fun r x hr => ?_
        have hr2 := (List.getElem?_eq_some_iff.1 hr).1
        rw [hll] at hr2
        have h := hl2 r x hr
        rw [j3, k3]
        split at h
        · rw [if_neg (by omega), if_neg (by omega), Array.append_assoc, Array.getElem?_append_left (by simp; omega), List.getElem?_toArray, List.getElem?_take, if_pos (by assumption)]; simp [h]
        · split at h
          · rw [if_neg (by simp; omega), if_pos (by simp; omega)]; simp [h]
          · rw [if_pos (by simp; omega), List.getElem?_drop, show k + (r - (k + vl.length)) = r - vl.length from by omega]; simp [h]⟩
end
end Go.AM.Num
end
section
namespace Go.Lib
open Go
variable {P : Program} (w : World)
theorem liesAt_off {e : TypeId} (hc : P.cellsOf e = 1) (count off n : Nat) (hn : off + n ≤ count) : liesAt P P.depth e count off e n = true := by
  have hd : P.depth = (2 * (P.types.size + Made.depth) + 1) + 1 := rfl
  rw [hd]
  simp only [liesAt, Bool.or_eq_true]
  left
  rw [hd]
  simp [rowAt, hc, hn, sameLayout, Nat.mod_one]
theorem run_loadBytes2 : ∀ (l : List Int) (a : Addr) (acc : ByteArray), (∀ (j : Nat) x, l[j]? = some x → w.cell? (a.add j) = some (.int .u8 x)) →
    (loadBytes a acc l.length).run P w = .ok ⟨acc.data ++ (l.map fun n => UInt8.ofNat n.toNat).toArray⟩ w
  | [], a, acc, _ => by simp [loadBytes]
  | x :: l, a, acc, h => by
    have h0 : w.cell? a = some (.int .u8 x) := by
      have := h 0 x rfl
      simpa [Addr.add] using this
    have ih := run_loadBytes2 l (a.add 1) (acc.push (UInt8.ofNat x.toNat)) (fun j y hy => by
      have := h (j + 1) y (by simpa using hy)
      have e : (a.add 1).add j = a.add (j + 1) := by
        unfold Addr.add
        by_cases hj : j = 0
        · subst hj; simp
        · simp [hj]; omega
      rw [e]; exact this)
    have hx : (x.toNat).toUInt8 = UInt8.ofNat x.toNat := rfl
    simp only [List.length_cons, loadBytes, Sem.run_bind, run_load, h0, Result.andThen, hx]
    rw [ih]
    congr 1
    apply ByteArray.ext
    simp [ByteArray.push]

theorem run_unsafeString_at (pt it ty e : TypeId) (hp : P.underlying pt = some (.pointer e)) (hc : P.cellsOf e = 1) (g off cells : Nat) (hsh : w.shape? g = some (e, cells)) (l : List Int) (h0 : l ≠ []) (hn : off + l.length ≤ cells) (h63 : l.length ≤ 9223372036854775807)
    (hcell : ∀ (j : Nat) x, l[j]? = some x → w.cell? ((⟨g, off, none⟩ : Addr).add j) = some (.int .u8 x)) :
    (Builtin.unsafeString_ #[pt, it] ty #[.pointer (some ⟨g, off, none⟩), .int .i64 l.length]).run P w = .ok (.string ⟨(l.map fun n => UInt8.ofNat n.toNat).toArray⟩) (w.freeze ⟨g, off, none⟩ l.length) := by
  have hl : l.length ≠ 0 := by simpa using h0
  have hlb := run_loadBytes2 (P := P) w l ⟨g, off, none⟩ .empty hcell
  have hlies := liesAt_off (P := P) hc (cells / P.cellsOf e) off l.length (by rw [hc]; simpa using hn)
  have h63' : ¬ (9223372036854775807 : Int) < (l.length : Int) := by omega
  have hdef : Builtin.unsafeString_ #[pt, it] ty #[.pointer (some ⟨g, off, none⟩), .int .i64 l.length] =
      (do
        let n ← asInt (.int .i64 l.length)
        if n < 0 then runtimePanic (.error "unsafe.String: len out of range")
        if n > IntKind.i64.max then unsupported (.unsafePointer "String: a length above the largest int")
        if n = 0 then pure (.string .empty)
        else if ← variablesAt ⟨g, off, none⟩ (← elemOf pt) n.toNat then do
          let s ← loadBytes ⟨g, off, none⟩ .empty n.toNat
          freeze ⟨g, off, none⟩ n.toNat
          pure (.string s)
        else unsupported (.unsafePointer "String: not so many bytes at ptr")) := rfl
  rw [hdef]
  have hmax : IntKind.i64.max = 9223372036854775807 := rfl
  have hneg : ¬ (l.length : Int) < 0 := by omega
  simp [asInt, asIntOf, hmax, h63', hneg, hl, variablesAt, hsh, elemOf, run_underlying hp, hlies, hlb]
end Go.Lib
namespace Go.Proofs
open Go.Shelf Go.RowKit Go.Lib
set_option maxHeartbeats 2000000 in
set_option maxRecDepth 100000 in
theorem Tryz.Builder_String_at (b g off cap : Nat) (p : Value) (cur : Array Value) (l : List Int) (w : World) (h0 : l ≠ []) (hbk : w.heap[b]? = some (.cells #[p, .slice (some ⟨g, off, none⟩) l.length cap] 150 (0, 0))) (hg : w.heap[g]? = some (.cells cur 5 (0, 0))) (hfit : off + l.length ≤ cur.size) (hcap : l.length ≤ cap) (hsm : l.length ≤ 9223372036854775807)
    (hc : ∀ (j : Nat) x, l[j]? = some x → cur[off + j]? = some (.int .u8 x)) :
    Calls Tryz.prog 119 #[.pointer (some ⟨b, 0, none⟩)] w fun e w' => e = .returned (.string ⟨(l.map fun n => UInt8.ofNat n.toNat).toArray⟩) ∧ ∃ W : World, W.heap = w.heap ∧ W.os = w.os ∧ W.tape = w.tape ∧ W.output = w.output ∧ w' = W.freeze ⟨g, off, none⟩ l.length := by
  have hl0 : l.length ≠ 0 := by simpa using h0
  have c1 : w.drew.cell? ⟨b, 1, none⟩ = some (.slice (some ⟨g, off, none⟩) l.length cap) := by
    have : w.drew.heap[b]? = some (.cells #[p, .slice (some ⟨g, off, none⟩) l.length cap] 150 (0, 0)) := hbk
    rw [Lib.cell_of_heap this]; rfl
  have hSD : (Builtin.unsafeSliceData_ #[120] 206 #[.slice (some ⟨g, off, none⟩) l.length cap]).run Tryz.prog w.drew = .ok (.pointer (some ⟨g, off, none⟩)) w.drew :=
    Lib.run_unsafeSliceData_row _ _ _ _ _ _ (by omega)
  have hUS : (Builtin.unsafeString_ #[206, 3] 9 #[.pointer (some ⟨g, off, none⟩), .int .i64 l.length]).run Tryz.prog w.drew = .ok (.string ⟨(l.map fun n => UInt8.ofNat n.toNat).toArray⟩) (w.drew.freeze ⟨g, off, none⟩ l.length) := by
    have hg' : w.drew.heap[g]? = some (.cells cur 5 (0, 0)) := hg
    refine Lib.run_unsafeString_at w.drew 206 3 9 5 Tryz.underlying206 (by kernel_rfl) g off cur.size (by simp [World.shape?, hg']) l h0 hfit hsm ?_
    intro j x hx
    rw [Addr.add_lit, Lib.cell_of_heap hg']
    exact hc j x hx
  have mixed : Tryz.prog.follows .mixedOrders = true := by kernel_rfl
  go_enter Tryz.func119, Tryz.ntmps119
  go_wp2
  go_region_o
  all_goals (go_wp2; go_ret; exact ⟨rfl, w.drew, rfl, rfl, rfl, rfl, rfl⟩)

theorem Tryz.layB : (∃ j, Tryz.prog.info? 150 = some j ∧ j.size = 2) := Option.map_eq_some_iff.1 (show (Tryz.prog.info? 150).map (·.size) = some 2 by kernel_rfl)
set_option maxHeartbeats 1000000 in
set_option maxRecDepth 100000 in
theorem Tryz.copyCheck_used (b : Nat) (w : World) (h0 : w.cell? ⟨b, 0, none⟩ = some (.pointer (some ⟨b, 0, none⟩))) :
    Calls Tryz.prog 231 #[.pointer (some ⟨b, 0, none⟩)] w fun e w' => e = .returned (.tuple #[]) ∧ w' = w := by
  obtain ⟨j, hj, _⟩ := Tryz.layB
  have mixed : Tryz.prog.follows .mixedOrders = true := by kernel_rfl
  go_enter Tryz.func231, Tryz.ntmps231
  go_wp2
  rw [Lib.run_neq_ptr_same w _ Tryz.underlying148 hj]
  go_wp2
  go_end0
  exact ⟨rfl, rfl⟩
set_option maxHeartbeats 1000000 in
set_option maxRecDepth 100000 in
theorem Tryz.copyCheck_fresh (b : Nat) (w : World) (h0 : w.cell? ⟨b, 0, none⟩ = some (.pointer none)) (hsh : w.shape? b = some (150, 2)) (hfz : w.frozen? ⟨b, 0, none⟩ = false) :
    Calls Tryz.prog 231 #[.pointer (some ⟨b, 0, none⟩)] w fun e w' => e = .returned (.tuple #[]) ∧ w' = w.setCell ⟨b, 0, none⟩ (.pointer (some ⟨b, 0, none⟩)) := by
  obtain ⟨j, hj, hjs⟩ := Tryz.layB
  have mixed : Tryz.prog.follows .mixedOrders = true := by kernel_rfl
  go_enter Tryz.func231, Tryz.ntmps231
  go_wp2
  rw [Lib.run_to_unsafe w ⟨b, 0, none⟩ Tryz.underlying148 Tryz.underlying307 hj (by rw [hjs]; decide) hsh (Nat.zero_lt_succ 1)]
  simp only [Result.andThen]
  rw [Oper.upon_value]
  go_wp2
  rw [run_callFunc_extern Tryz.func292 (by kernel_rfl) (by kernel_rfl) (by kernel_rfl) (e := Extern.AbiNoEscape.same) (by kernel_rfl)]
  rw [Lib.run_noEscape]
  simp only [Result.andThen]
  rw [Oper.upon_value]
  go_wp2
  rw [Lib.run_from_unsafe w ⟨b, 0, none⟩ Tryz.underlying307 Tryz.underlying148 hj hsh (by kernel_rfl)]
  simp only [Result.andThen]
  rw [Oper.upon_value]
  go_wp2
  go_end0
  exact ⟨rfl, rfl⟩
end Go.Proofs
end
section
namespace Go.AM.Num
open Go.Proofs Go.RowKit Go.Lib
theorem cells2 {cs : Array Value} {u0 u1 : Value} (hs : cs.size = 2) (h0 : cs[0]? = some u0) (h1 : cs[1]? = some u1) : cs = #[u0, u1] := by
  obtain ⟨l⟩ := cs
  match l, hs with
  | [a, b], _ => simp at h0 h1; rw [h0, h1]

theorem bld_row {w : World} {I : Nat → Prop} {β : Nat → Option Place} {p : Place} {k j : Nat} (hp : β k = some p) (h : RowRel w I β p (.cells [.selfp k, .vw j])) :
    p.backed = true ∧ p.O = 0 ∧ ∃ u0 u1, w.heap[p.B]? = some (.cells #[u0, u1] bldT (0, 0)) ∧ (u0 = .pointer none ∨ u0 = .pointer (some ⟨p.B, 0, none⟩)) ∧ RelV (rdW w) I β (.vw j) u1 ∧ p.s = 2 ∧ p.n = 1 ∧ p.z = 2 := by
  obtain ⟨h1, h2, h3, cs, ty, g1, ⟨g2, g3, g4⟩, us, g5, g6, g7, g8⟩ := h
  obtain ⟨rfl, hO, hsz⟩ := g4 rfl
  simp only [RelL] at g7
  obtain ⟨u0, us', rfl, r0, u1, us2, rfl, r1, rfl⟩ := g7
  have e0 := g6 0 (by simp)
  have e1 := g6 1 (by simp)
  rw [hO] at e0 e1
  obtain rfl := cells2 hsz (by simpa using e0) (by simpa using e1)
  refine ⟨h3, hO, u0, u1, g1, ?_, r1, h1, h2, by rw [← g3]; exact hsz⟩
  simp only [RelV] at r0
  rcases r0 with r0 | ⟨q, hq, _, r0⟩
  · exact .inl r0
  · rw [hp] at hq; cases hq; rw [hO] at r0; exact .inr r0
theorem bld_row_mk {w : World} {I : Nat → Prop} {β : Nat → Option Place} {p : Place} {k j : Nat} {u0 u1 : Value} (hp : β k = some p) (hb : p.backed = true) (hO : p.O = 0) (hs : p.s = 2) (hn : p.n = 1) (hz : p.z = 2) (hh : w.heap[p.B]? = some (.cells #[u0, u1] bldT (0, 0))) (h0 : u0 = .pointer none ∨ u0 = .pointer (some ⟨p.B, 0, none⟩)) (h1 : RelV (rdW w) I β (.vw j) u1) : RowRel w I β p (.cells [.selfp k, .vw j]) := by
  have hu0 : u0.oneCell' = true := by rcases h0 with rfl | rfl <;> rfl
  have hu1 : u1.oneCell' = true := by simp only [RelV] at h1; obtain ⟨_, _, _, _, rfl, _⟩ := h1; rfl
  refine ⟨hs, hn, hb, #[u0, u1], bldT, hh, ⟨by rw [hO]; simp, by rw [hz]; rfl, fun _ => ⟨rfl, hO, rfl⟩⟩, [u0, u1], rfl, fun i hi => ?_, ?_, by simp [hu0, hu1]⟩
  · rw [hO]; simp
  · simp only [RelL]
    refine ⟨u0, _, rfl, ?_, u1, _, rfl, h1, rfl⟩
    simp only [RelV]
    exact h0.imp id fun h => ⟨p, hp, hb, by rw [hO]; exact h⟩
theorem u8_row {w w' : World} {I : Nat → Prop} {β β' : Nat → Option Place} {p : Place} {l : List Int} (h : RowRel w I β p (.typed (.int .u8) l)) (hh : p.backed = true → w'.heap[p.B]? = w.heap[p.B]?) : RowRel w' I β' p (.typed (.int .u8) l) := by
  obtain ⟨h1, h2, h3, h4⟩ := h
  refine ⟨h1, h2, h3, fun hb => ?_⟩
  obtain ⟨cs, ty, g1, g2, g3⟩ := h4 hb
  refine ⟨cs, ty, (hh hb).trans g1, g2, fun i x hi => ?_⟩
  obtain ⟨us, u1, u2, u3⟩ := g3 i x hi
  exact ⟨us, u1, u2, by simpa only [RelC] using u3⟩
section
variable {V : Env} (hP : V.P = Tryz.prog)
include hP
theorem Builder_copyCheck_good : Good V 231 strings_Builder_copyCheck_C :=
  ⟨⟨_, hP ▸ Tryz.func231, by decide, rfl⟩, fun (x : (Unit × List Int) × Unit) y o hx w I β vs hG hgb hctx hargs => by
    obtain ⟨v, rfl, h1⟩ := rel1 hargs
    obtain ⟨⟨u, l⟩, u2⟩ := x
    cases hx
    replace h1 : RelV (rdW w) I β (.ptr 0 0 0) v := h1
    simp only [RelV] at h1
    obtain ⟨p, hp, hpb, rfl⟩ := h1
    obtain ⟨p', hp', hbk, hrow⟩ := hctx.rows 0 (.cells [.selfp 0, .vw 1]) rfl
    rw [hp] at hp'; cases hp'
    obtain ⟨hb, hO, u0, u1, hh, h0, hu1, hs, hn, hz⟩ := bld_row hp hrow
    have hc0 : w.cell? ⟨p.B, 0, none⟩ = some u0 := by simp [World.cell?, hh]
    rw [hP, show (⟨p.B, p.O + 0 * p.s + 0, none⟩ : Addr) = ⟨p.B, 0, none⟩ by rw [hO]; simp]
    let H : Heap := [some (.cells [.selfp 0, .vw 1]), some (.typed (.int .u8) l)]
    show Calls Tryz.prog _ _ _ fun e w' => ∃ (us : List Value) (I' : Nat → Prop) (β' : Nat → Option Place), e = .returned (valOf us) ∧ FrmC w w' (live H β) ∧ OutOK w w' V.gb I β H H 1 I' β' ∧ RelL (rdW w') I' β' [] us
    have hctx : Ctx V.gb w I β H := hctx
    have same : ∀ i, i < 1 → β i = β i ∧ ∀ q, β i = some q → q.backed = true → SameOut w w q := fun i hi => ⟨rfl, fun q hq hk => by
      obtain rfl : i = 0 := by omega
      rw [hp] at hq; cases hq
      exact .inr ⟨_, _, _, hh, hh, rfl, fun _ _ => rfl⟩⟩
    rcases h0 with rfl | rfl
    · refine Calls.mono (Tryz.copyCheck_fresh p.B w hc0 (by simp [World.shape?, hh]; rfl) (by simp [World.frozen?, hh])) ?_
      rintro e w' ⟨rfl, rfl⟩
      have hh' : (w.setCell ⟨p.B, 0, none⟩ (.pointer (some ⟨p.B, 0, none⟩))).heap[p.B]? = some (.cells #[.pointer (some ⟨p.B, 0, none⟩), u1] bldT (0, 0)) := by
        simp only [World.setCell, Array.getElem?_modify, hh]
        simp
      have hoth : ∀ B, B ≠ p.B → (w.setCell ⟨p.B, 0, none⟩ (.pointer (some ⟨p.B, 0, none⟩))).heap[B]? = w.heap[B]? := fun B hB => by
        simp only [World.setCell, Array.getElem?_modify]
        rw [if_neg (fun h => hB h.symm)]
      have hsz : (w.setCell ⟨p.B, 0, none⟩ (.pointer (some ⟨p.B, 0, none⟩))).heap.size = w.heap.size := by simp [World.setCell]
      refine ⟨[], I, β, rfl, ⟨rfl, rfl, rfl, Nat.le_of_eq hsz.symm, fun B hB hnl => hoth B fun e => hnl ⟨0, _, p, rfl, hp, hb, e.symm⟩⟩, ⟨⟨fun b r hbr => ?_, hctx.apart, fun B hB => ⟨by rw [hsz]; exact (hctx.imm B hB).1, (hctx.imm B hB).2⟩, hctx.dom⟩, fun B hB => .inl hB, fun b r q hbr hq hk => .inl ⟨b, r, q, hbr, hq, hk, rfl⟩, fun i hi => ⟨rfl, fun q hq hk => ?_⟩⟩, by simp only [RelL]⟩
      · cases b with
        | zero => cases hbr; exact ⟨p, hp, fun hk => by rw [hsz]; exact hbk hk, bld_row_mk hp hb hO hs hn hz hh' (.inr rfl) (by simpa only [RelV] using hu1)⟩
        | succ b => cases b with
          | zero =>
            cases hbr
            obtain ⟨q, hq, hqk, hqr⟩ := hctx.rows 1 _ rfl
            exact ⟨q, hq, fun hk => by rw [hsz]; exact hqk hk, u8_row hqr fun hk => hoth q.B fun e => by have := hctx.apart 1 0 _ _ q p rfl rfl hq hp hk hb e; cases this⟩
          | succ b => simp [H] at hbr
      · obtain rfl : i = 0 := by omega
        rw [hp] at hq; cases hq
        refine .inr ⟨_, _, _, hh, hh', rfl, fun o ho => ?_⟩
        rw [hO, hn, hs] at ho
        rw [Array.getElem?_eq_none (by simp; omega), Array.getElem?_eq_none (by simp; omega)]
    · refine Calls.mono (Tryz.copyCheck_used p.B w hc0) ?_
      rintro e w' ⟨rfl, rfl⟩
      exact ⟨[], I, β, rfl, ⟨rfl, rfl, rfl, Nat.le_refl _, fun _ _ _ => rfl⟩, ⟨hctx, fun B hB => .inl hB, fun b r q hbr hq hk => .inl ⟨b, r, q, hbr, hq, hk, rfl⟩, same⟩, by simp only [RelL]⟩⟩
theorem Builder_String_good : Good V 119 strings_Builder_String_C :=
  ⟨⟨_, hP ▸ Tryz.func119, by decide, rfl⟩, fun (x : (Unit × List Int) × Unit) y o hx w I β vs hG hgb hctx hargs => by
    obtain ⟨v, rfl, h1⟩ := rel1 hargs
    obtain ⟨⟨u, l⟩, u2⟩ := x
    obtain ⟨hm, hx⟩ := grd_some' hx
    cases hx
    simp only [decide_eq_true_eq] at hm
    replace hm : 0 < l.length := hm
    replace h1 : RelV (rdW w) I β (.ptr 0 0 0) v := h1
    simp only [RelV] at h1
    obtain ⟨p, hp, hpb, rfl⟩ := h1
    obtain ⟨p', hp', hbk, hrow⟩ := hctx.rows 0 (.cells [.selfp 0, .vw 1]) rfl
    rw [hp] at hp'; cases hp'
    obtain ⟨hb, hO, u0, u1, hh, h0, hu1, hs, hn, hz⟩ := bld_row hp hrow
    obtain ⟨q, hq, hqk, hqr⟩ := hctx.rows 1 (.typed (.int .u8) l) rfl
    simp only [RelV] at hu1
    obtain ⟨q', hq', a, c, rfl, hqc, ha⟩ := hu1
    rw [hq] at hq'; cases hq'
    obtain ⟨q1, q2, _, q4⟩ := hqr
    obtain ⟨hqb, rfl, _⟩ := ha.resolve_left (by omega)
    obtain ⟨cs, ty, g1, ⟨g2, g3, g4, g5⟩, g6⟩ := q4 hqb
    obtain rfl := g4 rfl
    have q1 : q.s = 1 := q1
    rw [q1, q2] at g2
    rw [hP, show (⟨p.B, p.O + 0 * p.s + 0, none⟩ : Addr) = ⟨p.B, 0, none⟩ by rw [hO]; simp]
    let H : Heap := [some (.cells [.selfp 0, .vw 1]), some (.typed (.int .u8) l)]
    show Calls Tryz.prog _ _ _ fun e w' => ∃ (us : List Value) (I' : Nat → Prop) (β' : Nat → Option Place), e = .returned (valOf us) ∧ FrmC w w' (live H β) ∧ OutOK w w' V.gb I β H [] 0 I' β' ∧ RelL (rdW w') I' β' [.str (l.map fun n => UInt8.ofNat n.toNat)] us
    have hcall := Tryz.Builder_String_at p.B q.B q.O c u0 cs l w (by intro e; rw [e] at hm; simp at hm) (by rw [← q2]; exact hh) g1 (by simpa using g2) (by rw [← q2]; exact hqc) (by have : cs.size ≤ capMax * 1 := g5; unfold capMax at this; omega) (fun j x hx => by
      obtain ⟨us, e1, e2, e3⟩ := g6 j x hx
      have := e2 0 (by decide)
      simp only [RelC] at e3
      subst e3
      simpa [GT.cells] using this)
    refine Calls.mono hcall ?_
    rintro e w' ⟨rfl, W, w1, w2, w3, w4, rfl⟩
    have hfz : ∀ B, B ≠ q.B → (W.freeze ⟨q.B, q.O, none⟩ l.length).heap[B]? = w.heap[B]? := fun B hB => by
      rw [← w1]
      unfold World.freeze
      split
      · rfl
      · simp only [Array.getElem?_modify]; rw [if_neg (fun h => hB h.symm)]
    have hfs : (W.freeze ⟨q.B, q.O, none⟩ l.length).heap.size = w.heap.size := by
      rw [← w1]; unfold World.freeze; split <;> simp
    have hfo : (W.freeze ⟨q.B, q.O, none⟩ l.length).os = w.os ∧ (W.freeze ⟨q.B, q.O, none⟩ l.length).tape = w.tape ∧ (W.freeze ⟨q.B, q.O, none⟩ l.length).output = w.output := by
      unfold World.freeze; split <;> exact ⟨w2, w3, w4⟩
    have hctx : Ctx V.gb w I β H := hctx
    refine ⟨[_], I, fun _ => none, rfl, ⟨hfo.1, hfo.2.1, hfo.2.2, Nat.le_of_eq hfs.symm, fun B hB hnl => hfz B fun e => hnl ⟨1, _, q, rfl, hq, hqb, e.symm⟩⟩, ⟨⟨fun b r hbr => by simp at hbr, fun b b' r r' q q' hb => by simp at hb, fun B hB => ⟨by rw [hfs]; exact (hctx.imm B hB).1, live_nil B⟩, fun _ _ => rfl⟩, fun B hB => .inl hB, fun b r q hbr => by simp at hbr, fun i hi => by cases hi⟩, ?_⟩
    simp only [RelL]
    exact ⟨_, [], rfl, str_rel _, rfl⟩⟩
end
end Go.AM.Num
end
section
namespace Go.AM.Num

theorem loopO_ind {α : Type} {step : α → Option (Ex × α)} {Q : Ex × α → Prop} (I : Nat → α → Prop)
    (h : ∀ n x, I n x → (∃ r, step x = some r ∧ r.1 ≠ .normal ∧ Q r) ∨ (∃ m y, step x = some (.normal, y) ∧ m < n ∧ I m y)) :
    ∀ n x, I n x → ∃ r, loopO step x = some r ∧ Q r := by
  intro n
  induction n using Nat.strongRecOn with
  | _ n ih =>
    intro x hx
    rcases h n x hx with ⟨⟨ex, y⟩, hs, hne, hq⟩ | ⟨m, y, hs, hm, hy⟩
    · refine ⟨_, ?_, hq⟩
      rw [loopO_step, hs]
      cases ex with
      | normal => exact absurd rfl hne
      | exit id => rfl
      | ret => rfl
    · obtain ⟨r, hr, hq⟩ := ih m hm y hy
      exact ⟨r, by rw [loopO_step, hs]; exact hr, hq⟩
theorem loopO_go {α : Type} {step : α → Option (Ex × α)} {x y : α} (h : step x = some (.normal, y)) : loopO step x = loopO step y := by
  rw [loopO_step, h]
theorem loopO_end {α : Type} {step : α → Option (Ex × α)} {x y : α} {e : Ex} (h : step x = some (e, y)) (he : e ≠ .normal) : loopO step x = some (e, y) := by
  rw [loopO_step, h]
  cases e with
  | normal => exact absurd rfl he
  | exit id => rfl
  | ret => rfl
theorem same_ee (i : Nat) : Ex.same (.exit i) (.exit i) = true := by simp [Ex.same]
theorem same_rr : Ex.same .ret .ret = true := by simp [Ex.same]
theorem same_re (i : Nat) : Ex.same .ret (.exit i) = false := by simp [Ex.same]
theorem same_er (i : Nat) : Ex.same (.exit i) .ret = false := by simp [Ex.same]
section
variable {ρ : Type}
theorem grd_tt (k : Option ρ) : grd true k = k := rfl
theorem grd_and (a b : Bool) (k : Option ρ) : grd (a && b) k = grd a (grd b k) := by cases a <;> rfl
theorem grd_dec {p : Prop} {_ : Decidable p} (h : p) (k : Option ρ) : grd (decide p) k = k := by rw [decide_eq_true h]; rfl
theorem grd_ne {x y : Int} (h : x ≠ y) (k : Option ρ) : grd (x != y) k = k := by
  have : (x != y) = true := by simpa using h
  rw [this]; rfl
theorem cond_t {α : Type} (a b : α) : cond true a b = a := rfl
theorem cond_f {α : Type} (a b : α) : cond false a b = b := rfl
theorem cond_dt {α : Type} {p : Prop} {_ : Decidable p} (h : p) (a b : α) : cond (decide p) a b = a := by rw [decide_eq_true h]; rfl
theorem cond_df {α : Type} {p : Prop} {_ : Decidable p} (h : ¬ p) (a b : α) : cond (decide p) a b = b := by rw [decide_eq_false h]; rfl
theorem cond_et {α : Type} {x y : Int} (h : x = y) (a b : α) : cond (x == y) a b = a := by
  have : (x == y) = true := by simpa using h
  rw [this]; rfl
theorem cond_ef {α : Type} {x y : Int} (h : x ≠ y) (a b : α) : cond (x == y) a b = b := by
  have : (x == y) = false := by simpa using h
  rw [this]; rfl
theorem cond_nt {α : Type} {x y : Int} (h : x ≠ y) (a b : α) : cond (x != y) a b = a := by
  have : (x != y) = true := by simpa using h
  rw [this]; rfl
theorem cond_nf {α : Type} {x y : Int} (h : x = y) (a b : α) : cond (x != y) a b = b := by
  have : (x != y) = false := by simpa using h
  rw [this]; rfl
theorem bind_some' {α β : Type} (x : α) (f : α → Option β) : (some x).bind f = f x := rfl
end

theorem w64 {x : Int} (h : -9223372036854775808 ≤ x ∧ x ≤ 9223372036854775807) : IntKind.i64.wrap x = x := IntWalk.i64_in x h
theorem wu64 {x : Int} (h : 0 ≤ x ∧ x ≤ 18446744073709551615) : IntKind.u64.wrap x = x := IntWalk.u64_in x h
theorem wu32 {x : Int} (h : 0 ≤ x ∧ x ≤ 4294967295) : IntKind.u32.wrap x = x := IntWalk.u32_in x h
theorem wu8 {x : Int} (h : 0 ≤ x ∧ x ≤ 255) : IntKind.u8.wrap x = x := IntWalk.u8_in x h
theorem tm {x y : Int} (h : 0 ≤ x) : x.tmod y = x % y := Int.tmod_eq_emod_of_nonneg h
theorem td {x y : Int} (h : 0 ≤ x) : x.tdiv y = x / y := Int.tdiv_eq_ediv_of_nonneg h
theorem maxA_def (a b : Int) : maxA a b = if b > a then b else a := rfl
theorem minA_def (a b : Int) : minA a b = if b < a then b else a := rfl

def bp (i : Nat) : Int := 1000000000 ^ i
theorem bp_succ (i : Nat) : bp (i + 1) = 1000000000 * bp i := by unfold bp; rw [Int.pow_succ, Int.mul_comm]
theorem bp_pos (i : Nat) : 0 < bp i := by
  induction i with
  | zero => decide
  | succ i ih => rw [bp_succ]; omega
theorem bp_add (i j : Nat) : bp (i + j) = bp i * bp j := by unfold bp; exact Int.pow_add ..
theorem bp_le {i j : Nat} (h : i ≤ j) : bp i ≤ bp j := by
  obtain ⟨k, rfl⟩ := Nat.exists_eq_add_of_le h
  rw [bp_add]
  have h1 := bp_pos i
  have h2 := bp_pos k
  have : bp i * 1 ≤ bp i * bp k := Int.mul_le_mul_of_nonneg_left (by omega) (by omega)
  omega
def lv : List Int → Int
  | [] => 0
  | x :: r => x + 1000000000 * lv r
def Wf (l : List Int) : Prop := ∀ x ∈ l, 0 ≤ x ∧ x < 1000000000
theorem Wf.nil : Wf [] := by simp [Wf]
theorem Wf.cons {x : Int} {l : List Int} (h : 0 ≤ x ∧ x < 1000000000) (hl : Wf l) : Wf (x :: l) := by
  intro y hy
  rcases List.mem_cons.1 hy with rfl | hy
  · exact h
  · exact hl y hy
theorem Wf.app {a b : List Int} (ha : Wf a) (hb : Wf b) : Wf (a ++ b) := by
  intro y hy
  rcases List.mem_append.1 hy with hy | hy
  · exact ha y hy
  · exact hb y hy
theorem Wf.one {x : Int} (h : 0 ≤ x ∧ x < 1000000000) : Wf [x] := Wf.cons h Wf.nil
theorem Wf.take {l : List Int} (h : Wf l) (n : Nat) : Wf (l.take n) := fun x hx => h x (List.mem_of_mem_take hx)
theorem Wf.drop {l : List Int} (h : Wf l) (n : Nat) : Wf (l.drop n) := fun x hx => h x (List.mem_of_mem_drop hx)
theorem Wf.set {l : List Int} (h : Wf l) (i : Nat) {x : Int} (hx : 0 ≤ x ∧ x < 1000000000) : Wf (l.set i x) := by
  intro y hy
  rcases List.mem_or_eq_of_mem_set hy with hy | rfl
  · exact h y hy
  · exact hx
theorem Wf.at {l : List Int} (h : Wf l) (i : Nat) : 0 ≤ l.getD i 0 ∧ l.getD i 0 < 1000000000 := by
  by_cases hi : i < l.length
  · rw [List.getD_eq_getElem?_getD, List.getElem?_eq_getElem hi]
    exact h _ (List.getElem_mem hi)
  · rw [List.getD_eq_getElem?_getD, List.getElem?_eq_none (by omega)]
    decide
theorem Wf.zeros (n : Nat) : Wf (List.replicate n (0 : Int)) := by
  intro x hx
  rw [List.eq_of_mem_replicate hx]
  decide
theorem lv_app (a b : List Int) : lv (a ++ b) = lv a + bp a.length * lv b := by
  induction a with
  | nil => simp [lv, bp]
  | cons x a ih =>
    simp only [List.cons_append, lv, ih, List.length_cons, bp_succ]
    grind
theorem lv_one (x : Int) : lv [x] = x := by simp [lv]
theorem lv_snoc (a : List Int) (x : Int) : lv (a ++ [x]) = lv a + x * bp a.length := by rw [lv_app, lv_one, Int.mul_comm]
theorem lv_zeros (n : Nat) : lv (List.replicate n (0 : Int)) = 0 := by
  induction n with
  | zero => rfl
  | succ n ih => simp [List.replicate_succ, lv, ih]
theorem lv_nonneg {l : List Int} (h : Wf l) : 0 ≤ lv l := by
  induction l with
  | nil => simp [lv]
  | cons x l ih =>
    have h1 := h x (by simp)
    have h2 := ih fun y hy => h y (by simp [hy])
    simp only [lv]; omega
theorem lv_lt {l : List Int} (h : Wf l) : lv l < bp l.length := by
  induction l with
  | nil => simp [lv, bp]
  | cons x l ih =>
    have h1 := h x (by simp)
    have h2 := ih fun y hy => h y (by simp [hy])
    simp only [lv, List.length_cons, bp_succ]; omega
theorem lv_split (l : List Int) (n : Nat) (h : n ≤ l.length) : lv l = lv (l.take n) + bp n * lv (l.drop n) := by
  have := lv_app (l.take n) (l.drop n)
  rw [List.take_append_drop] at this
  rw [this, List.length_take, Nat.min_eq_left h]
theorem getD_lt {l : List Int} {i : Nat} (h : i < l.length) : l.getD i 0 = l[i] := by
  rw [List.getD_eq_getElem?_getD, List.getElem?_eq_getElem h]; rfl
theorem getD_ge {l : List Int} {i : Nat} (h : l.length ≤ i) : l.getD i 0 = 0 := by
  rw [List.getD_eq_getElem?_getD, List.getElem?_eq_none h]; rfl
theorem take_snoc {l : List Int} {i : Nat} (h : i < l.length) : l.take (i + 1) = l.take i ++ [l.getD i 0] := by
  rw [getD_lt h, List.take_succ_eq_append_getElem h]
theorem lv_take_succ {l : List Int} {i : Nat} (h : i < l.length) : lv (l.take (i + 1)) = lv (l.take i) + l.getD i 0 * bp i := by
  rw [take_snoc h, lv_snoc, List.length_take, Nat.min_eq_left (by omega)]

theorem lv_take_succ' (l : List Int) (i : Nat) : lv (l.take (i + 1)) = lv (l.take i) + l.getD i 0 * bp i := by
  by_cases h : i < l.length
  · exact lv_take_succ h
  · rw [List.take_of_length_le (by omega), List.take_of_length_le (by omega), getD_ge (by omega)]; simp
theorem lv_drop {l : List Int} {i : Nat} (h : i < l.length) : lv (l.drop i) = l.getD i 0 + 1000000000 * lv (l.drop (i + 1)) := by
  rw [List.drop_eq_getElem_cons h, lv, getD_lt h]
theorem lv_set {l : List Int} {i : Nat} (h : i < l.length) (x : Int) : lv (l.set i x) = lv l + (x - l.getD i 0) * bp i := by
  induction l generalizing i with
  | nil => simp at h
  | cons y l ih =>
    cases i with
    | zero => simp [lv, bp]; omega
    | succ i =>
      simp only [List.set_cons_succ, lv, List.getD_cons_succ, bp_succ]
      rw [ih (by simpa using h)]
      grind
theorem set_getD {l : List Int} {i j : Nat} (h : i < l.length) (x : Int) : (l.set i x).getD j 0 = if i = j then x else l.getD j 0 := by
  rw [List.getD_eq_getElem?_getD, List.getElem?_set]
  split
  · rename_i e; subst e; simp [h]
  · rw [List.getD_eq_getElem?_getD]

def limbs (n : Nat) : List Int := if h : n = 0 then [] else ((n % 1000000000 : Nat) : Int) :: limbs (n / 1000000000)
termination_by n
decreasing_by omega
theorem limbs_zero : limbs 0 = [] := by rw [limbs, dif_pos rfl]
theorem limbs_pos {n : Nat} (h : n ≠ 0) : limbs n = ((n % 1000000000 : Nat) : Int) :: limbs (n / 1000000000) := by rw [limbs, dif_neg h]
theorem limbs_wf (n : Nat) : Wf (limbs n) := by
  induction n using Nat.strongRecOn with
  | _ n ih =>
    by_cases h : n = 0
    · subst h; rw [limbs_zero]; exact Wf.nil
    · rw [limbs_pos h]; exact Wf.cons (by omega) (ih _ (by omega))
theorem lv_limbs (n : Nat) : lv (limbs n) = n := by
  induction n using Nat.strongRecOn with
  | _ n ih =>
    by_cases h : n = 0
    · subst h; rw [limbs_zero]; rfl
    · rw [limbs_pos h, lv, ih _ (by omega)]; omega
theorem limbs_nil {n : Nat} : limbs n = [] ↔ n = 0 := by
  constructor
  · intro h
    have := lv_limbs n
    rw [h] at this; simp [lv] at this; omega
  · rintro rfl; exact limbs_zero
theorem limbs_top (n i : Nat) (h : i + 1 = (limbs n).length) : (limbs n).getD i 0 ≠ 0 := by
  induction n using Nat.strongRecOn generalizing i with
  | _ n ih =>
    by_cases h0 : n = 0
    · subst h0; rw [limbs_zero] at h; simp at h
    · rw [limbs_pos h0] at h ⊢
      cases i with
      | zero =>
        simp only [List.length_cons] at h
        have : limbs (n / 1000000000) = [] := List.eq_nil_of_length_eq_zero (by omega)
        rw [limbs_nil] at this
        simp; omega
      | succ i =>
        simp only [List.length_cons] at h
        simpa using ih (n / 1000000000) (by omega) i (by omega)
theorem limbs_of {l : List Int} (h : Wf l) (ht : ∀ i, i + 1 = l.length → l.getD i 0 ≠ 0) : l = limbs (lv l).toNat := by
  induction l with
  | nil => simp [lv, limbs_zero]
  | cons x l ih =>
    have hx := h x (by simp)
    have hl : Wf l := fun y hy => h y (by simp [hy])
    have hn := lv_nonneg hl
    have ih' := ih hl fun i hi => by
      have := ht (i + 1) (by simp [hi])
      simpa using this
    have hpos : (lv (x :: l)).toNat ≠ 0 := by
      simp only [lv]
      cases l with
      | nil =>
        have := ht 0 (by simp)
        simp only [List.getD_cons_zero] at this
        simp only [lv]; omega
      | cons y l' =>
        have : lv (y :: l') ≠ 0 := by
          intro e
          rw [e] at ih'
          simp [limbs_zero] at ih'
        omega
    rw [limbs_pos hpos]
    have e1 : (lv (x :: l)).toNat / 1000000000 = (lv l).toNat := by simp only [lv]; omega
    have e2 : (((lv (x :: l)).toNat % 1000000000 : Nat) : Int) = x := by simp only [lv]; omega
    rw [e1, e2, ← ih']
theorem limbs_len_lt (n : Nat) : (n : Int) < bp (limbs n).length := by
  have := lv_lt (limbs_wf n)
  rwa [lv_limbs] at this
theorem limbs_len_ge {n : Nat} (h : n ≠ 0) : bp ((limbs n).length - 1) ≤ n := by
  induction n using Nat.strongRecOn with
  | _ n ih =>
    rw [limbs_pos h]
    by_cases h0 : n / 1000000000 = 0
    · rw [h0, limbs_zero]; simp [bp]; omega
    · have := ih (n / 1000000000) (by omega) h0
      have hl : (limbs (n / 1000000000)).length ≠ 0 := by
        intro e; exact h0 (limbs_nil.1 (List.eq_nil_of_length_eq_zero e))
      simp only [List.length_cons, Nat.add_sub_cancel]
      have e : (limbs (n / 1000000000)).length = ((limbs (n / 1000000000)).length - 1) + 1 := by omega
      rw [e, bp_succ]; omega
theorem bp_lt_iff {i j : Nat} (h : bp i < bp j) : i < j := by
  apply Nat.lt_of_not_le
  intro hle
  have := bp_le hle
  omega
theorem limbs_len_le {n k : Nat} (h : (n : Int) < bp k) : (limbs n).length ≤ k := by
  by_cases h0 : n = 0
  · subst h0; rw [limbs_zero]; simp
  · have := limbs_len_ge h0
    have h2 : (limbs n).length - 1 < k := bp_lt_iff (by omega)
    omega
theorem limbs_len_mono {m n : Nat} (h : m ≤ n) : (limbs m).length ≤ (limbs n).length :=
  limbs_len_le (by have := limbs_len_lt n; omega)
theorem limbs_len_mul (m n : Nat) : (limbs (m * n)).length ≤ (limbs m).length + (limbs n).length := by
  apply limbs_len_le
  rw [bp_add, Int.natCast_mul]
  have h1 := limbs_len_lt m
  have h2 := limbs_len_lt n
  exact Int.mul_lt_mul' (by omega) h2 (by omega) (by have := bp_pos (limbs m).length; omega)
theorem limbs_small {n : Nat} (h0 : n ≠ 0) (h : n < 1000000000) : limbs n = [(n : Int)] := by
  rw [limbs_pos h0, Nat.mod_eq_of_lt h, Nat.div_eq_of_lt h, limbs_zero]
end Go.AM.Num
end
section
set_option linter.unusedSimpArgs false
set_option linter.unusedVariables false
namespace Go.AM.Num
theorem maxN_eq : maxN = 68719476736 := rfl
theorem trim_eq {l : List Int} (hw : Wf l) (hl : l.length ≤ 1000000000000) : n_nat_trim l = some ((limbs (lv l).toNat, ()), ()) := by
  obtain ⟨r, hr, n, rfl, hn, hz, ht⟩ := loopO_ind (step := n_nat_trim_s2) (Q := fun r => ∃ n : Nat, r = (Ex.exit 0, (l, (n : Int), ())) ∧ n ≤ l.length ∧ lv (l.drop n) = 0 ∧ ∀ i, i + 1 = n → l.getD i 0 ≠ 0)
    (fun m x => x = (l, (m : Int), ()) ∧ m ≤ l.length ∧ lv (l.drop m) = 0) (by
      rintro n x ⟨rfl, hn, hz⟩
      by_cases h0 : n = 0
      · subst h0
        refine .inl ⟨_, ?_, ?_, 0, rfl, hn, hz, by omega⟩
        · simp (disch := omega) only [n_nat_trim_s2, cond_df]
        · simp
      · have e : ((n : Int) - 1).toNat = n - 1 := by omega
        have hi : n - 1 < l.length := by omega
        by_cases hx : l.getD (n - 1) 0 = 0
        · refine .inr ⟨n - 1, _, ?_, by omega, rfl, by omega, ?_⟩
          · simp (disch := omega) only [n_nat_trim_s2, cond_dt, grd_and, grd_dec, w64, e, cond_et]
            rw [show ((n : Int) - 1) = ((n - 1 : Nat) : Int) by omega]
          · rw [lv_drop hi, hx, show n - 1 + 1 = n by omega, hz]; rfl
        · refine .inl ⟨_, ?_, ?_, n, rfl, hn, hz, fun i hi' => by rw [show i = n - 1 by omega]; exact hx⟩
          · simp (disch := omega) only [n_nat_trim_s2, cond_dt, grd_and, grd_dec, w64, e, cond_ef]
          · simp) l.length (l, (l.length : Int), ()) ⟨rfl, Nat.le_refl _, by rw [List.drop_length]; rfl⟩
  unfold n_nat_trim
  rw [hr]
  have e : ((n : Int)).toNat = n := by omega
  simp (disch := omega) only [bind_some', same_ee, cond_t, grd_and, grd_dec, e]
  congr 2
  congr 1
  rw [limbs_of (hw.take n) (fun i hi => by
    rw [List.length_take, Nat.min_eq_left hn] at hi
    have : (l.take n).getD i 0 = l.getD i 0 := by
      rw [List.getD_eq_getElem?_getD, List.getElem?_take, if_pos (by omega), List.getD_eq_getElem?_getD]
    rw [this]; exact ht i hi)]
  have := lv_split l n hn
  rw [hz] at this
  rw [this]; simp
theorem at_eq (l : List Int) {i : Int} (h0 : 0 ≤ i) : n_nat_at l i = some ((l.getD i.toNat 0, ()), ()) := by
  unfold n_nat_at
  by_cases h : i < l.length
  · simp (disch := omega) only [cond_df, cond_dt, grd_and, grd_dec]
  · simp (disch := omega) only [cond_df, cond_dt, grd_and, grd_dec]
    rw [getD_ge (by omega)]
theorem one_eq (n : Nat) : n_nat_one (limbs n) = some ((decide (n = 1), ()), ()) := by
  unfold n_nat_one
  by_cases h0 : n = 0
  · subst h0; rw [limbs_zero]; simp [cond]
  · by_cases hl : (limbs n).length = 1
    · have hlt : n < 1000000000 := by
        have := limbs_len_lt n
        rw [hl] at this; simp [bp] at this; omega
      rw [limbs_small h0 hlt]
      simp (disch := (first | omega | (simp only [maxN_eq, List.length_append, List.length_cons, List.length_nil, List.length_set, List.length_replicate, List.length_take, List.length_drop]; omega))) only [grd_tt, grd_and, grd_dec, grd_ne, cond_dt, cond_df, cond_et, cond_ef, cond_nt, cond_nf, w64, wu64, wu32, wu8, tm, td, bind_some', same_ee, same_er, same_re, same_rr, cond_t, cond_f, Bool.not_true, Bool.not_false]
      by_cases h1 : n = 1
      · subst h1; rfl
      · have e : ((n : Int) == 1) = false := by rw [beq_eq_false_iff_ne]; omega
        show some (((n : Int) == 1, ()), ()) = _
        rw [e, decide_eq_false h1]
    · have : n ≠ 1 := by rintro rfl; exact hl (by rw [limbs_small (by decide) (by decide)]; rfl)
      simp (disch := (first | omega | (simp only [maxN_eq, List.length_append, List.length_cons, List.length_nil, List.length_set, List.length_replicate, List.length_take, List.length_drop]; omega))) only [grd_tt, grd_and, grd_dec, grd_ne, cond_dt, cond_df, cond_et, cond_ef, cond_nt, cond_nf, w64, wu64, wu32, wu8, tm, td, bind_some', same_ee, same_er, same_re, same_rr, cond_t, cond_f, Bool.not_true, Bool.not_false]
      simp [this]
theorem maxA_len (a b : Nat) : maxA (a : Int) (b : Int) = ((max a b : Nat) : Int) := by
  rw [maxA_def]; split <;> omega
theorem add_lv {a b : List Int} (ha : Wf a) (hb : Wf b) (hal : a.length ≤ 1000000000) (hbl : b.length ≤ 1000000000) : n_nat_add a b = some ((limbs (lv a + lv b).toNat, ()), ()) := by
  obtain ⟨K, hK⟩ : ∃ K, K = max a.length b.length := ⟨_, rfl⟩
  have hKe := maxA_len a.length b.length
  rw [← hK] at hKe
  have hK1 : K ≤ 1000000000 := by omega
  obtain ⟨r, hr, out, c, rfl, ho, hw, hc, hv⟩ := loopO_ind (step := n_nat_add_s4) (Q := fun r => ∃ (out : List Int) (c : Int), r = (Ex.exit 0, (a, b, out, c, (K : Int), (K : Int), ())) ∧ out.length = K ∧ Wf out ∧ (0 ≤ c ∧ c ≤ 1) ∧ lv out + c * bp K = lv a + lv b)
    (fun m x => ∃ (k : Nat) (out : List Int) (c : Int), x = (a, b, out, c, (K : Int), (k : Int), ()) ∧ m + k = K ∧ out.length = k ∧ Wf out ∧ (0 ≤ c ∧ c ≤ 1) ∧ lv out + c * bp k = lv (a.take k) + lv (b.take k)) (by
      rintro m x ⟨k, out, c, rfl, hm, ho, hw, hc, hv⟩
      by_cases hlt : k < K
      · have h1 := ha.at k
        have h2 := hb.at k
        have hk : (k : Int).toNat = k := by omega
        have e1 := at_eq a (i := (k : Int)) (by omega)
        have e2 := at_eq b (i := (k : Int)) (by omega)
        rw [hk] at e1 e2
        refine .inr ⟨m - 1, (a, b, out ++ [(a.getD k 0 + b.getD k 0 + c) % 1000000000], (a.getD k 0 + b.getD k 0 + c) / 1000000000, (K : Int), ((k + 1 : Nat) : Int), ()), ?_, by omega, k + 1, _, _, rfl, by omega, by simp [ho], hw.app (Wf.one (by omega)), by omega, ?_⟩
        · simp (disch := (first | omega | (simp only [maxN_eq, List.length_append, List.length_cons, List.length_nil, List.length_set, List.length_replicate, List.length_take, List.length_drop]; omega))) only [n_nat_add_s4, e1, e2, grd_tt, grd_and, grd_dec, grd_ne, cond_dt, cond_df, cond_et, cond_ef, cond_nt, cond_nf, w64, wu64, wu32, wu8, tm, td, bind_some', same_ee, same_er, same_re, same_rr, cond_t, cond_f, Bool.not_true, Bool.not_false]
          rfl
        · rw [lv_snoc, ho, lv_take_succ', lv_take_succ', bp_succ]
          have := Int.emod_add_mul_ediv (a.getD k 0 + b.getD k 0 + c) 1000000000
          grind
      · refine .inl ⟨(Ex.exit 0, (a, b, out, c, (K : Int), (K : Int), ())), ?_, by simp, out, c, rfl, by omega, hw, hc, ?_⟩
        · simp (disch := (first | omega | (simp only [maxN_eq, List.length_append, List.length_cons, List.length_nil, List.length_set, List.length_replicate, List.length_take, List.length_drop]; omega))) only [n_nat_add_s4, grd_tt, grd_and, grd_dec, grd_ne, cond_dt, cond_df, cond_et, cond_ef, cond_nt, cond_nf, w64, wu64, wu32, wu8, tm, td, bind_some', same_ee, same_er, same_re, same_rr, cond_t, cond_f, Bool.not_true, Bool.not_false]
          rw [show k = K by omega]
        · rw [List.take_of_length_le (by omega), List.take_of_length_le (by omega)] at hv
          rw [← hv, show k = K by omega]) K (a, b, List.replicate (0 : Int).toNat 0, 0, (K : Int), 0, ()) ⟨0, [], 0, rfl, by omega, rfl, Wf.nil, by omega, by simp [lv]⟩
  unfold n_nat_add
  have hcw := hw.app (Wf.one (x := c) (by omega))
  rw [hKe, hr]
  have ht := trim_eq hcw (by simp; omega)
  simp (disch := (first | omega | (simp only [maxN_eq, List.length_append, List.length_cons, List.length_nil, List.length_set, List.length_replicate, List.length_take, List.length_drop]; omega))) only [ht, grd_tt, grd_and, grd_dec, grd_ne, cond_dt, cond_df, cond_et, cond_ef, cond_nt, cond_nf, w64, wu64, wu32, wu8, tm, td, bind_some', same_ee, same_er, same_re, same_rr, cond_t, cond_f, Bool.not_true, Bool.not_false]
  rw [lv_snoc, ho, hv]
theorem add_eq (m n : Nat) (hm : (limbs m).length ≤ 1000000000) (hn : (limbs n).length ≤ 1000000000) : n_nat_add (limbs m) (limbs n) = some ((limbs (m + n), ()), ()) := by
  rw [add_lv (limbs_wf m) (limbs_wf n) hm hn, lv_limbs, lv_limbs, show ((m : Int) + n).toNat = m + n by omega]
end Go.AM.Num
end
section
set_option linter.unusedSimpArgs false
set_option linter.unusedVariables false
namespace Go.AM.Num
theorem sub_lv {a b : List Int} (ha : Wf a) (hb : Wf b) (hal : a.length ≤ 1000000000) (hbl : b.length ≤ a.length) (hle : lv b ≤ lv a) : n_nat_sub a b = some ((limbs (lv a - lv b).toNat, ()), ()) := by
  obtain ⟨K, hK⟩ : ∃ K, K = a.length := ⟨_, rfl⟩
  obtain ⟨r, hr, out, c, rfl, ho, hw, hc, hv⟩ := loopO_ind (step := n_nat_sub_s4) (Q := fun r => ∃ (out : List Int) (c : Int), r = (Ex.exit 0, (a, b, out, c, (K : Int), (K : Int), ())) ∧ out.length = K ∧ Wf out ∧ (0 ≤ c ∧ c ≤ 1) ∧ lv out - c * bp K = lv a - lv b)
    (fun m x => ∃ (k : Nat) (out : List Int) (c : Int), x = (a, b, out, c, (K : Int), (k : Int), ()) ∧ m + k = K ∧ out.length = k ∧ Wf out ∧ (0 ≤ c ∧ c ≤ 1) ∧ lv out - c * bp k = lv (a.take k) - lv (b.take k)) (by
      rintro m x ⟨k, out, c, rfl, hm, ho, hw, hc, hv⟩
      by_cases hlt : k < K
      · have h1 := ha.at k
        have h2 := hb.at k
        have hk : (k : Int).toNat = k := by omega
        have e2 := at_eq b (i := (k : Int)) (by omega)
        rw [hk] at e2
        by_cases hneg : a.getD k 0 - b.getD k 0 - c < 0
        · refine .inr ⟨m - 1, (a, b, out ++ [a.getD k 0 - b.getD k 0 - c + 1000000000], 1, (K : Int), ((k + 1 : Nat) : Int), ()), ?_, by omega, k + 1, _, _, rfl, by omega, by simp [ho], hw.app (Wf.one (by omega)), by omega, ?_⟩
          · simp (disch := (first | omega | (simp only [maxN_eq, List.length_append, List.length_cons, List.length_nil, List.length_set, List.length_replicate, List.length_take, List.length_drop]; omega))) only [n_nat_sub_s4, e2, hk, grd_tt, grd_and, grd_dec, grd_ne, cond_dt, cond_df, cond_et, cond_ef, cond_nt, cond_nf, w64, wu64, wu32, wu8, tm, td, bind_some', same_ee, same_er, same_re, same_rr, cond_t, cond_f, Bool.not_true, Bool.not_false]
            rfl
          · rw [lv_snoc, ho, lv_take_succ', lv_take_succ', bp_succ]
            grind
        · refine .inr ⟨m - 1, (a, b, out ++ [a.getD k 0 - b.getD k 0 - c], 0, (K : Int), ((k + 1 : Nat) : Int), ()), ?_, by omega, k + 1, _, _, rfl, by omega, by simp [ho], hw.app (Wf.one (by omega)), by omega, ?_⟩
          · simp (disch := (first | omega | (simp only [maxN_eq, List.length_append, List.length_cons, List.length_nil, List.length_set, List.length_replicate, List.length_take, List.length_drop]; omega))) only [n_nat_sub_s4, e2, hk, grd_tt, grd_and, grd_dec, grd_ne, cond_dt, cond_df, cond_et, cond_ef, cond_nt, cond_nf, w64, wu64, wu32, wu8, tm, td, bind_some', same_ee, same_er, same_re, same_rr, cond_t, cond_f, Bool.not_true, Bool.not_false]
            rfl
          · rw [lv_snoc, ho, lv_take_succ', lv_take_succ', bp_succ]
            grind
      · refine .inl ⟨(Ex.exit 0, (a, b, out, c, (K : Int), (K : Int), ())), ?_, by simp, out, c, rfl, by omega, hw, hc, ?_⟩
        · simp (disch := (first | omega | (simp only [maxN_eq, List.length_append, List.length_cons, List.length_nil, List.length_set, List.length_replicate, List.length_take, List.length_drop]; omega))) only [n_nat_sub_s4, grd_tt, grd_and, grd_dec, grd_ne, cond_dt, cond_df, cond_et, cond_ef, cond_nt, cond_nf, w64, wu64, wu32, wu8, tm, td, bind_some', same_ee, same_er, same_re, same_rr, cond_t, cond_f, Bool.not_true, Bool.not_false]
          rw [show k = K by omega]
        · rw [List.take_of_length_le (by omega), List.take_of_length_le (by omega)] at hv
          rw [← hv, show k = K by omega]) K (a, b, List.replicate (0 : Int).toNat 0, 0, (K : Int), 0, ()) ⟨0, [], 0, rfl, by omega, rfl, Wf.nil, by omega, by simp [lv]⟩
  have hc0 : c = 0 := by
    have h1 := lv_lt hw
    rw [ho] at h1
    rcases (show c = 0 ∨ c = 1 by omega) with h | h
    · exact h
    · subst h; omega
  subst hc0
  unfold n_nat_sub
  rw [← hK, hr]
  have ht := trim_eq hw (by omega)
  simp (disch := (first | omega | (simp only [maxN_eq, List.length_append, List.length_cons, List.length_nil, List.length_set, List.length_replicate, List.length_take, List.length_drop]; omega))) only [ht, grd_tt, grd_and, grd_dec, grd_ne, cond_dt, cond_df, cond_et, cond_ef, cond_nt, cond_nf, w64, wu64, wu32, wu8, tm, td, bind_some', same_ee, same_er, same_re, same_rr, cond_t, cond_f, Bool.not_true, Bool.not_false]
  rw [← hv]; simp
theorem limbs_le {m n : Nat} (h : n ≤ m) : (limbs n).length ≤ (limbs m).length := limbs_len_mono h
theorem sub_eq (m n : Nat) (hm : (limbs m).length ≤ 1000000000) (h : n ≤ m) : n_nat_sub (limbs m) (limbs n) = some ((limbs (m - n), ()), ()) := by
  rw [sub_lv (limbs_wf m) (limbs_wf n) hm (limbs_le h) (by rw [lv_limbs, lv_limbs]; omega), lv_limbs, lv_limbs, show ((m : Int) - n).toNat = m - n by omega]

theorem lv_lt_of_top {a b : List Int} (ha : Wf a) (hb : Wf b) {i : Nat} (hal : i < a.length) (hbl : i < b.length) (hd : a.drop (i + 1) = b.drop (i + 1)) (h : a.getD i 0 < b.getD i 0) : lv a < lv b := by
  have h1 := lv_split a i (by omega)
  have h2 := lv_split b i (by omega)
  rw [lv_drop hal, hd] at h1
  rw [lv_drop hbl] at h2
  have h3 := lv_lt (ha.take i)
  have h4 := lv_nonneg (hb.take i)
  rw [List.length_take, Nat.min_eq_left (by omega)] at h3
  have h5 := bp_pos i
  have h6 : bp i * (a.getD i 0 + 1) ≤ bp i * b.getD i 0 := Int.mul_le_mul_of_nonneg_left (by omega) (by omega)
  rw [Int.mul_add] at h1 h2 h6
  omega
theorem lt_of_len {a b : List Int} (ha : Wf a) (hb : Wf b) (ht : b.getD (b.length - 1) 0 ≠ 0) (h : a.length < b.length) : lv a < lv b := by
  have h1 := lv_lt ha
  have h2 := lv_split b (b.length - 1) (by omega)
  rw [lv_drop (by omega), show b.length - 1 + 1 = b.length by omega, List.drop_length] at h2
  have h4 := lv_nonneg (hb.take (b.length - 1))
  have h5 := hb.at (b.length - 1)
  have h6 := bp_le (show a.length ≤ b.length - 1 by omega)
  have h7 := bp_pos (b.length - 1)
  have h8 : bp (b.length - 1) * 1 ≤ bp (b.length - 1) * b.getD (b.length - 1) 0 := Int.mul_le_mul_of_nonneg_left (by omega) (by omega)
  simp only [lv] at h2
  rw [Int.mul_add] at h2
  omega
theorem cmp_eq (m n : Nat) (hm : (limbs m).length ≤ 1000000000) (hn : (limbs n).length ≤ 1000000000) : ∃ c, n_nat_cmp (limbs m) (limbs n) = some ((c, ()), ()) ∧ (c < 0 ↔ m < n) ∧ (c = 0 ↔ m = n) := by
  have ha := limbs_wf m
  have hb := limbs_wf n
  have hma := lv_limbs m
  have hnb := lv_limbs n
  by_cases hl : (limbs m).length = (limbs n).length
  · obtain ⟨a, hae⟩ : ∃ a, a = limbs m := ⟨_, rfl⟩
    obtain ⟨b, hbe⟩ : ∃ b, b = limbs n := ⟨_, rfl⟩
    rw [← hae] at ha hma hl hm ⊢
    rw [← hbe] at hb hnb hl hn ⊢
    obtain ⟨r, hr, hq⟩ := loopO_ind (step := n_nat_cmp_s4) (Q := fun r => (∃ x, r = (Ex.exit 0, x) ∧ lv a = lv b) ∨ (∃ c i, r = (Ex.ret, (a, b, c, i, ())) ∧ (c < 0 ↔ lv a < lv b) ∧ c ≠ 0 ∧ lv a ≠ lv b))
      (fun k x => x = (a, b, 0, (k : Int) - 1, ()) ∧ k ≤ a.length ∧ a.drop k = b.drop k) (by
        rintro k x ⟨rfl, hk, hd⟩
        by_cases h0 : k = 0
        · subst h0
          refine .inl ⟨(Ex.exit 0, (a, b, 0, ((0 : Nat) : Int) - 1, ())), ?_, ?_, .inl ⟨_, rfl, by simpa using congrArg lv hd⟩⟩
          · simp (disch := (first | omega | (simp only [maxN_eq, List.length_append, List.length_cons, List.length_nil, List.length_set, List.length_replicate, List.length_take, List.length_drop]; omega))) only [n_nat_cmp_s4, grd_tt, grd_and, grd_dec, grd_ne, cond_dt, cond_df, cond_et, cond_ef, cond_nt, cond_nf, w64, wu64, wu32, wu8, tm, td, bind_some', same_ee, same_er, same_re, same_rr, cond_t, cond_f, Bool.not_true, Bool.not_false]
          · simp
        · have e : ((k : Int) - 1).toNat = k - 1 := by omega
          have h1 := ha.at (k - 1)
          have h2 := hb.at (k - 1)
          by_cases hx : a.getD (k - 1) 0 = b.getD (k - 1) 0
          · refine .inr ⟨k - 1, _, ?_, by omega, rfl, by omega, ?_⟩
            · simp (disch := (first | omega | (simp only [maxN_eq, List.length_append, List.length_cons, List.length_nil, List.length_set, List.length_replicate, List.length_take, List.length_drop]; omega))) only [n_nat_cmp_s4, e, grd_tt, grd_and, grd_dec, grd_ne, cond_dt, cond_df, cond_et, cond_ef, cond_nt, cond_nf, w64, wu64, wu32, wu8, tm, td, bind_some', same_ee, same_er, same_re, same_rr, cond_t, cond_f, Bool.not_true, Bool.not_false]
              rw [show ((k - 1 : Nat) : Int) - 1 = (k : Int) - 1 - 1 by omega]
            · rw [List.drop_eq_getElem_cons (show k - 1 < a.length by omega), List.drop_eq_getElem_cons (show k - 1 < b.length by omega), show k - 1 + 1 = k by omega, hd]
              rw [getD_lt (by omega), getD_lt (by omega)] at hx
              rw [hx]
          · have hd' : a.drop (k - 1 + 1) = b.drop (k - 1 + 1) := by rw [show k - 1 + 1 = k by omega]; exact hd
            refine .inl ⟨_, ?_, ?_, .inr ⟨a.getD (k - 1) 0 - b.getD (k - 1) 0, (k : Int) - 1, rfl, ?_, by omega, ?_⟩⟩
            · simp (disch := (first | omega | (simp only [maxN_eq, List.length_append, List.length_cons, List.length_nil, List.length_set, List.length_replicate, List.length_take, List.length_drop]; omega))) only [n_nat_cmp_s4, e, grd_tt, grd_and, grd_dec, grd_ne, cond_dt, cond_df, cond_et, cond_ef, cond_nt, cond_nf, w64, wu64, wu32, wu8, tm, td, bind_some', same_ee, same_er, same_re, same_rr, cond_t, cond_f, Bool.not_true, Bool.not_false]
            · simp
            · constructor
              · intro h; exact lv_lt_of_top ha hb (by omega) (by omega) hd' (by omega)
              · intro h
                by_cases hy : a.getD (k - 1) 0 < b.getD (k - 1) 0
                · omega
                · have := lv_lt_of_top hb ha (i := k - 1) (by omega) (by omega) hd'.symm (by omega)
                  omega
            · intro h
              by_cases hy : a.getD (k - 1) 0 < b.getD (k - 1) 0
              · have := lv_lt_of_top ha hb (i := k - 1) (by omega) (by omega) hd' (by omega)
                omega
              · have := lv_lt_of_top hb ha (i := k - 1) (by omega) (by omega) hd'.symm (by omega)
                omega) a.length (a, b, 0, (a.length : Int) - 1, ()) ⟨rfl, Nat.le_refl _, by rw [List.drop_length, hl, List.drop_length]⟩
    rcases hq with ⟨x, rfl, he⟩ | ⟨c, i, rfl, h1, h2, h3⟩
    · refine ⟨0, ?_, ?_, ?_⟩
      · unfold n_nat_cmp
        simp (disch := (first | omega | (simp only [maxN_eq, List.length_append, List.length_cons, List.length_nil, List.length_set, List.length_replicate, List.length_take, List.length_drop]; omega))) only [hr, grd_tt, grd_and, grd_dec, grd_ne, cond_dt, cond_df, cond_et, cond_ef, cond_nt, cond_nf, w64, wu64, wu32, wu8, tm, td, bind_some', same_ee, same_er, same_re, same_rr, cond_t, cond_f, Bool.not_true, Bool.not_false]
      · omega
      · omega
    · refine ⟨c, ?_, ?_, ?_⟩
      · unfold n_nat_cmp
        simp (disch := (first | omega | (simp only [maxN_eq, List.length_append, List.length_cons, List.length_nil, List.length_set, List.length_replicate, List.length_take, List.length_drop]; omega))) only [hr, grd_tt, grd_and, grd_dec, grd_ne, cond_dt, cond_df, cond_et, cond_ef, cond_nt, cond_nf, w64, wu64, wu32, wu8, tm, td, bind_some', same_ee, same_er, same_re, same_rr, cond_t, cond_f, Bool.not_true, Bool.not_false]
      · omega
      · omega
  · have hcases : (limbs m).length < (limbs n).length ∧ m < n ∨ (limbs n).length < (limbs m).length ∧ n < m := by
      rcases Nat.lt_or_ge (limbs m).length (limbs n).length with h | h
      · refine .inl ⟨h, ?_⟩
        have := lt_of_len ha hb (limbs_top n _ (by omega)) h
        omega
      · have h' : (limbs n).length < (limbs m).length := by omega
        refine .inr ⟨h', ?_⟩
        have := lt_of_len hb ha (limbs_top m _ (by omega)) h'
        omega
    refine ⟨((limbs m).length : Int) - (limbs n).length, ?_, ?_, ?_⟩
    · unfold n_nat_cmp
      simp (disch := (first | omega | (simp only [maxN_eq, List.length_append, List.length_cons, List.length_nil, List.length_set, List.length_replicate, List.length_take, List.length_drop]; omega))) only [grd_tt, grd_and, grd_dec, grd_ne, cond_dt, cond_df, cond_et, cond_ef, cond_nt, cond_nf, w64, wu64, wu32, wu8, tm, td, bind_some', same_ee, same_er, same_re, same_rr, cond_t, cond_f, Bool.not_true, Bool.not_false]
    · omega
    · omega
end Go.AM.Num
end
section
set_option linter.unusedSimpArgs false
set_option linter.unusedVariables false
namespace Go.AM.Num

def dig (c : UInt8) : Nat := c.toNat - 48
def isD (c : UInt8) : Prop := 48 ≤ c.toNat ∧ c.toNat ≤ 57
def AllD (s : List UInt8) : Prop := ∀ c ∈ s, isD c
def dval (s : List UInt8) : Nat := s.foldl (fun v c => 10 * v + dig c) 0
theorem dval_nil : dval [] = 0 := rfl
theorem dval_snoc (s : List UInt8) (c : UInt8) : dval (s ++ [c]) = 10 * dval s + dig c := by simp [dval]
theorem dval_foldl (s : List UInt8) (v : Nat) : s.foldl (fun v c => 10 * v + dig c) v = v * 10 ^ s.length + dval s := by
  induction s generalizing v with
  | nil => simp [dval]
  | cons c s ih =>
    simp only [List.foldl_cons, dval, List.length_cons, Nat.pow_succ]
    rw [ih (10 * v + dig c), ih (10 * 0 + dig c)]
    grind
theorem dval_app (a b : List UInt8) : dval (a ++ b) = dval a * 10 ^ b.length + dval b := by
  show (a ++ b).foldl (fun v c => 10 * v + dig c) 0 = _
  rw [List.foldl_append, dval_foldl]
  rfl
theorem dval_cons (c : UInt8) (s : List UInt8) : dval (c :: s) = dig c * 10 ^ s.length + dval s := by
  have := dval_app [c] s
  simpa [dval] using this
theorem AllD.app {a b : List UInt8} (ha : AllD a) (hb : AllD b) : AllD (a ++ b) := fun c hc => (List.mem_append.1 hc).elim (ha c) (hb c)
theorem AllD.take {s : List UInt8} (h : AllD s) (n : Nat) : AllD (s.take n) := fun c hc => h c (List.mem_of_mem_take hc)
theorem AllD.drop {s : List UInt8} (h : AllD s) (n : Nat) : AllD (s.drop n) := fun c hc => h c (List.mem_of_mem_drop hc)
theorem dig_lt {c : UInt8} (h : isD c) : dig c < 10 := by unfold dig; have := h.2; omega
theorem dval_lt {s : List UInt8} (h : AllD s) : dval s < 10 ^ s.length := by
  induction s with
  | nil => simp [dval]
  | cons c s ih =>
    have h1 := dig_lt (h c (by simp))
    have h2 := ih fun c' hc' => h c' (by simp [hc'])
    rw [dval_cons, List.length_cons, Nat.pow_succ]
    have : dig c * 10 ^ s.length ≤ 9 * 10 ^ s.length := Nat.mul_le_mul_right _ (by omega)
    omega
theorem bp_ten (k : Nat) : bp k = ((10 ^ (9 * k) : Nat) : Int) := by
  induction k with
  | zero => rfl
  | succ k ih => rw [bp_succ, ih, show 9 * (k + 1) = 9 * k + 9 by omega, Nat.pow_add]; simp; omega
theorem natOf_s7_eq (s : List UInt8) (out : List Int) (e : Int) (ch : List UInt8) (hd : AllD ch) (hl : ch.length ≤ 9) :
    loopO n_natOf_s7 (s, out, e, 0, ch.map (fun b => (b.toNat : Int)), (ch.length : Int), 0, ()) = some (Ex.exit 2, (s, out, e, (dval ch : Int), ch.map (fun b => (b.toNat : Int)), (ch.length : Int), (ch.length : Int), ())) := by
  obtain ⟨r, hr, rfl⟩ := loopO_ind (step := n_natOf_s7) (Q := fun r => r = (Ex.exit 2, (s, out, e, (dval ch : Int), ch.map (fun b => (b.toNat : Int)), (ch.length : Int), (ch.length : Int), ())))
    (fun m x => ∃ k : Nat, m + k = ch.length ∧ x = (s, out, e, (dval (ch.take k) : Int), ch.map (fun b => (b.toNat : Int)), (ch.length : Int), (k : Int), ())) (by
      rintro m x ⟨k, hm, rfl⟩
      by_cases hk : k < ch.length
      · have hc := hd _ (List.getElem_mem hk)
        have hg : (ch.map (fun b => (b.toNat : Int))).getD k 0 = (ch[k].toNat : Int) := by
          rw [List.getD_eq_getElem?_getD, List.getElem?_map, List.getElem?_eq_getElem hk]; rfl
        have hlt := dval_lt (hd.take k)
        have hp : 10 ^ (ch.take k).length ≤ 10 ^ 8 := Nat.pow_le_pow_right (by decide) (by rw [List.length_take]; omega)
        have hs : dval (ch.take (k + 1)) = 10 * dval (ch.take k) + dig ch[k] := by
          rw [List.take_succ_eq_append_getElem hk, dval_snoc]
        have hk' : (k : Int).toNat = k := by omega
        have h1 := hc.1
        have h2 := hc.2
        have hdig : (dig ch[k] : Int) = (ch[k].toNat : Int) - 48 := by unfold dig; omega
        refine .inr ⟨m - 1, _, ?_, by omega, k + 1, by omega, rfl⟩
        · rw [hs]
          have hml : (ch.map (fun b => (b.toNat : Int))).length = ch.length := by simp
          simp (disch := (first | omega | (simp only [maxN_eq, List.length_append, List.length_cons, List.length_nil, List.length_set, List.length_replicate, List.length_take, List.length_drop]; omega))) only [n_natOf_s7, hk', hg, hml, grd_tt, grd_and, grd_dec, grd_ne, cond_dt, cond_df, cond_et, cond_ef, cond_nt, cond_nf, w64, wu64, wu32, wu8, tm, td, bind_some', same_ee, same_er, same_re, same_rr, cond_t, cond_f, Bool.not_true, Bool.not_false]
          rw [show ((10 * dval (ch.take k) + dig ch[k] : Nat) : Int) = (dval (ch.take k) : Int) * 10 + ((ch[k].toNat : Int) - 48) by omega]
          rfl
      · refine .inl ⟨_, ?_, ?_, rfl⟩
        · simp (disch := (first | omega | (simp only [maxN_eq, List.length_append, List.length_cons, List.length_nil, List.length_set, List.length_replicate, List.length_take, List.length_drop]; omega))) only [n_natOf_s7, grd_tt, grd_and, grd_dec, grd_ne, cond_dt, cond_df, cond_et, cond_ef, cond_nt, cond_nf, w64, wu64, wu32, wu8, tm, td, bind_some', same_ee, same_er, same_re, same_rr, cond_t, cond_f, Bool.not_true, Bool.not_false]
          rw [show k = ch.length by omega, List.take_length]
        · simp) ch.length _ ⟨0, by omega, rfl⟩
  exact hr
theorem natOf_eq {s : List UInt8} (hd : AllD s) (hl : s.length ≤ 1000000000) : n_natOf s = some ((limbs (dval s), ()), ()) := by
  obtain ⟨r, hr, out, e, rfl, ho, hw, hv⟩ := loopO_ind (step := n_natOf_s3) (Q := fun r => ∃ (out : List Int) (e : Int), r = (Ex.exit 0, (s, out, e, ())) ∧ out.length ≤ s.length + 1 ∧ Wf out ∧ lv out = dval s)
    (fun m x => ∃ (k : Nat) (out : List Int), x = (s, out, (s.length : Int) - 9 * k, ()) ∧ m + 9 * k = s.length + 9 ∧ out.length = k ∧ Wf out ∧ lv out = dval (s.drop (s.length - 9 * k))) (by
      rintro m x ⟨k, out, rfl, hm, ho, hw, hv⟩
      by_cases hpos : 9 * k < s.length
      · obtain ⟨lo, hlo⟩ : ∃ lo : Nat, lo = s.length - 9 * k - 9 := ⟨_, rfl⟩
        obtain ⟨hi, hhi⟩ : ∃ hi : Nat, hi = s.length - 9 * k := ⟨_, rfl⟩
        have hie : (s.length : Int) - 9 * k = (hi : Int) := by omega
        have hmx : maxA ((hi : Int) - 9) 0 = (lo : Int) := by rw [maxA_def]; split <;> omega
        have hin : (hi : Int).toNat = hi := by omega
        have hln : (lo : Int).toNat = lo := by omega
        obtain ⟨ch, hch⟩ : ∃ ch, ch = (s.take hi).drop lo := ⟨_, rfl⟩
        have hchl : ch.length = hi - lo := by rw [hch, List.length_drop, List.length_take]; omega
        have hcd : AllD ch := by rw [hch]; exact (hd.take hi).drop lo
        have hlt := dval_lt hcd
        have hp : 10 ^ ch.length ≤ 10 ^ 9 := Nat.pow_le_pow_right (by decide) (by omega)
        have hin7 := natOf_s7_eq s out (hi : Int) ch hcd (by omega)
        have hsplit : s.drop lo = ch ++ s.drop hi := by
          rw [hch]
          have h1 : s = s.take hi ++ s.drop hi := (List.take_append_drop hi s).symm
          conv => lhs; rw [h1, List.drop_append_of_le_length (by rw [List.length_take]; omega)]
        rw [hie]
        refine .inr ⟨m - 9, (s, out ++ [(dval ch : Int)], (hi : Int) - 9, ()), ?_, by omega, k + 1, out ++ [(dval ch : Int)], ?_, by omega, by simp [ho], hw.app (Wf.one (by omega)), ?_⟩
        · have hcl : ((ch.map (fun b => (b.toNat : Int))).length : Int) = (ch.length : Int) := by simp
          have hmap : ((s.take hi).drop lo).map (fun b => (b.toNat : Int)) = ch.map (fun b => (b.toNat : Int)) := by rw [hch]
          simp (disch := (first | omega | (simp only [maxN_eq, List.length_append, List.length_cons, List.length_nil, List.length_set, List.length_replicate, List.length_take, List.length_drop]; omega))) only [n_natOf_s3, hmx, hin, hln, hmap, hcl, hin7, grd_tt, grd_and, grd_dec, grd_ne, cond_dt, cond_df, cond_et, cond_ef, cond_nt, cond_nf, w64, wu64, wu32, wu8, tm, td, bind_some', same_ee, same_er, same_re, same_rr, cond_t, cond_f, Bool.not_true, Bool.not_false]
        · rw [show (s.length : Int) - 9 * ((k + 1 : Nat) : Int) = (hi : Int) - 9 by omega]
        · rw [lv_snoc, ho, hv, ← hhi, show s.length - 9 * (k + 1) = lo by omega, hsplit, dval_app, bp_ten, List.length_drop, show s.length - hi = 9 * k by omega]
          simp; omega
      · refine .inl ⟨(Ex.exit 0, (s, out, (s.length : Int) - 9 * k, ())), ?_, by simp, out, _, rfl, by omega, hw, ?_⟩
        · simp (disch := (first | omega | (simp only [maxN_eq, List.length_append, List.length_cons, List.length_nil, List.length_set, List.length_replicate, List.length_take, List.length_drop]; omega))) only [n_natOf_s3, grd_tt, grd_and, grd_dec, grd_ne, cond_dt, cond_df, cond_et, cond_ef, cond_nt, cond_nf, w64, wu64, wu32, wu8, tm, td, bind_some', same_ee, same_er, same_re, same_rr, cond_t, cond_f, Bool.not_true, Bool.not_false]
        · rw [hv, show s.length - 9 * k = 0 by omega, List.drop_zero]) (s.length + 9) (s, [], (s.length : Int), ()) ⟨0, [], by simp, by omega, rfl, Wf.nil, by simp [lv, dval]⟩
  unfold n_natOf
  rw [hr]
  have ht := trim_eq hw (by omega)
  simp (disch := (first | omega | (simp only [maxN_eq, List.length_append, List.length_cons, List.length_nil, List.length_set, List.length_replicate, List.length_take, List.length_drop]; omega))) only [ht, grd_tt, grd_and, grd_dec, grd_ne, cond_dt, cond_df, cond_et, cond_ef, cond_nt, cond_nf, w64, wu64, wu32, wu8, tm, td, bind_some', same_ee, same_er, same_re, same_rr, cond_t, cond_f, Bool.not_true, Bool.not_false]
  rw [hv]; simp
end Go.AM.Num
end
section
set_option linter.unusedSimpArgs false
set_option linter.unusedVariables false
namespace Go.AM.Num
theorem mul_bound {x y : Int} (hx : 0 ≤ x ∧ x < 1000000000) (hy : 0 ≤ y ∧ y < 1000000000) : 0 ≤ x * y ∧ x * y ≤ 999999998000000001 := by
  refine ⟨Int.mul_nonneg hx.1 hy.1, ?_⟩
  have h1 : x * y ≤ 999999999 * y := Int.mul_le_mul_of_nonneg_right (by omega) hy.1
  omega
theorem mul_s7_eq {b out0 : List Int} {i : Nat} {x : Int} (hb : Wf b) (ho : Wf out0) (hx : 0 ≤ x ∧ x < 1000000000) (hl : i + b.length < out0.length) (hL : out0.length ≤ 2000000000) (t18 : List Int) (t19 t20 : Int) :
    ∃ out c, loopO n_nat_mul_s7 (b, out0, (i : Int), x, 0, t18, t19, t20, b, (b.length : Int), 0, ()) = some (Ex.exit 2, (b, out, (i : Int), x, c, t18, t19, t20, b, (b.length : Int), (b.length : Int), ())) ∧
      out.length = out0.length ∧ Wf out ∧ (0 ≤ c ∧ c < 1000000000) ∧ lv out + c * bp (i + b.length) = lv out0 + x * lv b * bp i ∧ ∀ j, i + b.length ≤ j → out.getD j 0 = out0.getD j 0 := by
  obtain ⟨r, hr, out, c, rfl, h1, h2, h3, h4, h5⟩ := loopO_ind (step := n_nat_mul_s7) (Q := fun r => ∃ (out : List Int) (c : Int), r = (Ex.exit 2, (b, out, (i : Int), x, c, t18, t19, t20, b, (b.length : Int), (b.length : Int), ())) ∧
      out.length = out0.length ∧ Wf out ∧ (0 ≤ c ∧ c < 1000000000) ∧ lv out + c * bp (i + b.length) = lv out0 + x * lv b * bp i ∧ ∀ j, i + b.length ≤ j → out.getD j 0 = out0.getD j 0)
    (fun m y => ∃ (k : Nat) (out : List Int) (c : Int), m + k = b.length ∧ y = (b, out, (i : Int), x, c, t18, t19, t20, b, (b.length : Int), (k : Int), ()) ∧
      out.length = out0.length ∧ Wf out ∧ (0 ≤ c ∧ c < 1000000000) ∧ lv out + c * bp (i + k) = lv out0 + x * lv (b.take k) * bp i ∧ ∀ j, i + k ≤ j → out.getD j 0 = out0.getD j 0) (by
      rintro m y ⟨k, out, c, hm, rfl, h1, h2, h3, h4, h5⟩
      by_cases hk : k < b.length
      · have hy := hb.at k
        have hz := h2.at (i + k)
        have hxy := mul_bound hx hy
        have e1 : (k : Int).toNat = k := by omega
        have e2 : ((i : Int) + k).toNat = i + k := by omega
        obtain ⟨v, hv⟩ : ∃ v, v = out.getD (i + k) 0 + x * b.getD k 0 + c := ⟨_, rfl⟩
        refine .inr ⟨m - 1, (b, out.set (i + k) (v % 1000000000), (i : Int), x, v / 1000000000, t18, t19, t20, b, (b.length : Int), ((k + 1 : Nat) : Int), ()), ?_, by omega, k + 1, _, _, by omega, rfl, by simpa using h1, h2.set _ (by omega), by omega, ?_, ?_⟩
        · rw [hv]
          simp (disch := (first | omega | (simp only [maxN_eq, List.length_append, List.length_cons, List.length_nil, List.length_set, List.length_replicate, List.length_take, List.length_drop]; omega))) only [n_nat_mul_s7, e1, e2, grd_tt, grd_and, grd_dec, grd_ne, cond_dt, cond_df, cond_et, cond_ef, cond_nt, cond_nf, w64, wu64, wu32, wu8, tm, td, bind_some', same_ee, same_er, same_re, same_rr, cond_t, cond_f, Bool.not_true, Bool.not_false]
          rfl
        · rw [lv_set (by omega), lv_take_succ', show i + (k + 1) = i + k + 1 by omega, bp_succ, bp_add] at *
          have := Int.emod_add_mul_ediv v 1000000000
          grind
        · intro j hj
          rw [set_getD (by omega), if_neg (by omega)]
          exact h5 j (by omega)
      · refine .inl ⟨(Ex.exit 2, (b, out, (i : Int), x, c, t18, t19, t20, b, (b.length : Int), (b.length : Int), ())), ?_, by simp, out, c, rfl, h1, h2, h3, ?_, ?_⟩
        · simp (disch := (first | omega | (simp only [maxN_eq, List.length_append, List.length_cons, List.length_nil, List.length_set, List.length_replicate, List.length_take, List.length_drop]; omega))) only [n_nat_mul_s7, grd_tt, grd_and, grd_dec, grd_ne, cond_dt, cond_df, cond_et, cond_ef, cond_nt, cond_nf, w64, wu64, wu32, wu8, tm, td, bind_some', same_ee, same_er, same_re, same_rr, cond_t, cond_f, Bool.not_true, Bool.not_false]
          rw [show k = b.length by omega]
        · rw [show k = b.length by omega, List.take_length] at h4; exact h4
        · intro j hj; exact h5 j (by omega)) b.length _ ⟨0, out0, 0, by omega, rfl, rfl, ho, by omega, by simp [lv], fun j _ => rfl⟩
  exact ⟨out, c, hr, h1, h2, h3, h4, h5⟩
theorem mul_loop {a b : List Int} (ha : Wf a) (hb : Wf b) (hal : a.length ≤ 1000000000) (hbl : b.length ≤ 1000000000) :
    ∃ out, loopO n_nat_mul_s3 (b, List.replicate (a.length + b.length) 0, a, (a.length : Int), 0, ()) = some (Ex.exit 0, (b, out, a, (a.length : Int), (a.length : Int), ())) ∧ Wf out ∧ out.length = a.length + b.length ∧ lv out = lv a * lv b := by
  obtain ⟨r, hr, out, rfl, h1, h2, h3⟩ := loopO_ind (step := n_nat_mul_s3) (Q := fun r => ∃ (out : List Int), r = (Ex.exit 0, (b, out, a, (a.length : Int), (a.length : Int), ())) ∧ Wf out ∧ out.length = a.length + b.length ∧ lv out = lv a * lv b)
    (fun m y => ∃ (i : Nat) (out : List Int), m + i = a.length ∧ y = (b, out, a, (a.length : Int), (i : Int), ()) ∧ Wf out ∧ out.length = a.length + b.length ∧ lv out = lv (a.take i) * lv b ∧ ∀ j, i + b.length ≤ j → out.getD j 0 = 0) (by
      rintro m y ⟨i, out, hm, rfl, h1, h2, h3, h4⟩
      by_cases hi : i < a.length
      · have hx := ha.at i
        have e1 : (i : Int).toNat = i := by omega
        obtain ⟨o2, c, hin, g1, g2, g3, g4, g5⟩ := mul_s7_eq (i := i) hb h1 hx (by omega) (by omega) a (a.length : Int) (i : Int)
        have e2 : ((i : Int) + b.length).toNat = i + b.length := by omega
        refine .inr ⟨m - 1, (b, o2.set (i + b.length) c, a, (a.length : Int), ((i + 1 : Nat) : Int), ()), ?_, by omega, i + 1, _, by omega, rfl, g2.set _ g3, by simp; omega, ?_, ?_⟩
        · simp (disch := (first | omega | (simp only [maxN_eq, List.length_append, List.length_cons, List.length_nil, List.length_set, List.length_replicate, List.length_take, List.length_drop]; omega))) only [n_nat_mul_s3, e1, hin, e2, grd_tt, grd_and, grd_dec, grd_ne, cond_dt, cond_df, cond_et, cond_ef, cond_nt, cond_nf, w64, wu64, wu32, wu8, tm, td, bind_some', same_ee, same_er, same_re, same_rr, cond_t, cond_f, Bool.not_true, Bool.not_false]
          rfl
        · rw [lv_set (by omega), g5 _ (Nat.le_refl _), h4 _ (Nat.le_refl _), lv_take_succ']
          grind
        · intro j hj
          rw [set_getD (by omega), if_neg (by omega), g5 j (by omega)]
          exact h4 j (by omega)
      · refine .inl ⟨(Ex.exit 0, (b, out, a, (a.length : Int), (a.length : Int), ())), ?_, by simp, out, rfl, h1, h2, ?_⟩
        · simp (disch := (first | omega | (simp only [maxN_eq, List.length_append, List.length_cons, List.length_nil, List.length_set, List.length_replicate, List.length_take, List.length_drop]; omega))) only [n_nat_mul_s3, grd_tt, grd_and, grd_dec, grd_ne, cond_dt, cond_df, cond_et, cond_ef, cond_nt, cond_nf, w64, wu64, wu32, wu8, tm, td, bind_some', same_ee, same_er, same_re, same_rr, cond_t, cond_f, Bool.not_true, Bool.not_false]
          rw [show i = a.length by omega]
        · rw [show i = a.length by omega, List.take_length] at h3; exact h3) a.length _ ⟨0, List.replicate (a.length + b.length) 0, by omega, rfl, Wf.zeros _, by simp, by rw [lv_zeros]; simp [lv], fun j _ => by
          rw [List.getD_eq_getElem?_getD, List.getElem?_replicate]; split <;> rfl⟩
  exact ⟨out, hr, h1, h2, h3⟩
theorem mul_lv {a b : List Int} (ha : Wf a) (hb : Wf b) (hal : a.length ≤ 1000000000) (hbl : b.length ≤ 1000000000) : n_nat_mul a b = some ((limbs (lv a * lv b).toNat, ()), ()) := by
  obtain ⟨out, hr, h1, h2, h3⟩ := mul_loop ha hb hal hbl
  unfold n_nat_mul
  have e : ((a.length : Int) + b.length).toNat = a.length + b.length := by omega
  have ht := trim_eq h1 (by omega)
  simp (disch := (first | omega | (simp only [maxN_eq, List.length_append, List.length_cons, List.length_nil, List.length_set, List.length_replicate, List.length_take, List.length_drop]; omega))) only [e, hr, ht, grd_tt, grd_and, grd_dec, grd_ne, cond_dt, cond_df, cond_et, cond_ef, cond_nt, cond_nf, w64, wu64, wu32, wu8, tm, td, bind_some', same_ee, same_er, same_re, same_rr, cond_t, cond_f, Bool.not_true, Bool.not_false]
  rw [h3]
theorem mul_eq (m n : Nat) (hm : (limbs m).length ≤ 1000000000) (hn : (limbs n).length ≤ 1000000000) : n_nat_mul (limbs m) (limbs n) = some ((limbs (m * n), ()), ()) := by
  rw [mul_lv (limbs_wf m) (limbs_wf n) hm hn, lv_limbs, lv_limbs, ← Int.natCast_mul, Int.toNat_natCast]

theorem trim_v_s2 : n_nat_trim_v_s2 = n_nat_trim_s2 := by
  funext x
  unfold n_nat_trim_v_s2 n_nat_trim_s2
  obtain ⟨a, n, u⟩ := x
  simp only
  cases h : decide (n > 0)
  · rfl
  · simp only [cond_t]
    cases h2 : (decide (0 ≤ IntKind.i64.wrap (n - 1)) && decide (IntKind.i64.wrap (n - 1) < a.length))
    · rfl
    · simp only [grd_tt]
      simp only [Bool.and_eq_true, decide_eq_true_eq] at h2
      rw [grd_dec (by omega)]
theorem trim_v_eq {l : List Int} (hw : Wf l) (hl : l.length ≤ 1000000000000) : ∃ n, n_nat_trim_v l = some ((n, ()), l, ()) ∧ l.take n = limbs (lv l).toNat ∧ n ≤ l.length := by
  have h := trim_eq hw hl
  unfold n_nat_trim at h
  unfold n_nat_trim_v
  rw [trim_v_s2]
  have hst : ∀ x r, loopO n_nat_trim_s2 x = some r → r.2.1 = x.1 := by
    intro x r hr
    obtain ⟨n, hn⟩ := loopO_iff.1 hr
    clear hr
    have hs : ∀ x e y, n_nat_trim_s2 x = some (e, y) → y.1 = x.1 := by
      intro x e y h
      unfold n_nat_trim_s2 at h
      simp only [grd] at h
      cases h1 : decide (x.2.1 > 0) <;> rw [h1] at h <;> simp only [cond] at h
      · cases h; rfl
      · cases h2 : (decide (0 ≤ IntKind.i64.wrap (x.2.1 - 1)) && decide (IntKind.i64.wrap (x.2.1 - 1) < x.1.length)) <;> rw [h2] at h <;> simp only at h
        · cases h
        · split at h <;> cases h <;> rfl
    induction hn with
    | done h _ => exact hs _ _ _ h
    | more h _ ih => rw [ih]; exact hs _ _ _ h
  cases hr : loopO n_nat_trim_s2 (l, (l.length : Int), ()) with
  | none => rw [hr] at h; cases h
  | some r =>
    have hl1 := hst _ _ hr
    rw [hr] at h
    obtain ⟨e, a, n, u⟩ := r
    simp only at hl1
    subst hl1
    simp only [bind_some', grd] at h ⊢
    cases h1 : Ex.same e (Ex.exit 0) <;> rw [h1] at h <;> simp only [cond] at h ⊢
    · cases h
    · cases h2 : (decide (0 ≤ n) && decide (n ≤ a.length)) <;> rw [h2] at h <;> simp only at h ⊢
      · cases h
      · simp only [Bool.and_eq_true, decide_eq_true_eq] at h2
        simp only [Option.some.injEq, Prod.mk.injEq, and_true] at h
        exact ⟨n.toNat, rfl, h, by omega⟩
theorem mul_r_s3 : n_nat_mul_r_s3 = n_nat_mul_s3 := rfl
theorem mul_r_lv {a b : List Int} (ha : Wf a) (hb : Wf b) (hal : a.length ≤ 1000000000) (hbl : b.length ≤ 1000000000) : n_nat_mul_r a b = some ((limbs (lv a * lv b).toNat, ()), ()) := by
  obtain ⟨out, hr, h1, h2, h3⟩ := mul_loop ha hb hal hbl
  unfold n_nat_mul_r
  rw [mul_r_s3]
  have e : ((a.length : Int) + b.length).toNat = a.length + b.length := by omega
  obtain ⟨n, ht, htk, _⟩ := trim_v_eq h1 (by omega)
  simp (disch := (first | omega | (simp only [maxN_eq, List.length_append, List.length_cons, List.length_nil, List.length_set, List.length_replicate, List.length_take, List.length_drop]; omega))) only [e, hr, ht, grd_tt, grd_and, grd_dec, grd_ne, cond_dt, cond_df, cond_et, cond_ef, cond_nt, cond_nf, w64, wu64, wu32, wu8, tm, td, bind_some', same_ee, same_er, same_re, same_rr, cond_t, cond_f, Bool.not_true, Bool.not_false]
  rw [htk, h3]
end Go.AM.Num
end
section
set_option linter.unusedSimpArgs false
set_option linter.unusedVariables false
namespace Go.AM.Num
theorem quoLimb_lv {a : List Int} {b : Int} (ha : Wf a) (hal : a.length ≤ 1000000000) (hb : 0 < b ∧ b < 1000000000) :
    n_nat_quoLimb a b = some ((limbs (lv a / b).toNat, limbs (lv a % b).toNat, ()), ()) := by
  obtain ⟨r, hr, q, rest, rfl, h1, h2, h3, h4⟩ := loopO_ind (step := n_nat_quoLimb_s4) (Q := fun r => ∃ (q : List Int) (rest : Int), r = (Ex.exit 0, (a, b, q, rest, -1, ())) ∧ Wf q ∧ q.length = a.length ∧ (0 ≤ rest ∧ rest < b) ∧ lv a = b * lv q + rest)
    (fun k x => ∃ (q : List Int) (rest : Int), x = (a, b, q, rest, (k : Int) - 1, ()) ∧ k ≤ a.length ∧ Wf q ∧ q.length = a.length ∧ (0 ≤ rest ∧ rest < b) ∧ lv (a.drop k) = b * lv (q.drop k) + rest) (by
      rintro k x ⟨q, rest, rfl, hk, h1, h2, h3, h4⟩
      by_cases h0 : k = 0
      · subst h0
        refine .inl ⟨_, ?_, ?_, q, rest, rfl, h1, h2, h3, by simpa using h4⟩
        · simp (disch := (first | omega | (simp only [maxN_eq, List.length_append, List.length_cons, List.length_nil, List.length_set, List.length_replicate, List.length_take, List.length_drop]; omega))) only [n_nat_quoLimb_s4, grd_tt, grd_and, grd_dec, grd_ne, cond_dt, cond_df, cond_et, cond_ef, cond_nt, cond_nf, w64, wu64, wu32, wu8, tm, td, bind_some', same_ee, same_er, same_re, same_rr, cond_t, cond_f, Bool.not_true, Bool.not_false]
          rfl
        · simp
      · have hz := ha.at (k - 1)
        have e : ((k : Int) - 1).toNat = k - 1 := by omega
        obtain ⟨v, hv⟩ : ∃ v, v = rest * 1000000000 + a.getD (k - 1) 0 := ⟨_, rfl⟩
        have hvb : v < b * 1000000000 := by
          have : rest * 1000000000 ≤ (b - 1) * 1000000000 := Int.mul_le_mul_of_nonneg_right (by omega) (by omega)
          omega
        have hq0 : 0 ≤ v / b := Int.ediv_nonneg (by omega) (by omega)
        have hq1 : v / b < 1000000000 := Int.ediv_lt_of_lt_mul hb.1 (by rw [Int.mul_comm]; exact hvb)
        have hr0 := Int.emod_nonneg v (show b ≠ 0 by omega)
        have hr1 := Int.emod_lt_of_pos v hb.1
        refine .inr ⟨k - 1, (a, b, q.set (k - 1) (v / b), v % b, (k : Int) - 1 - 1, ()), ?_, by omega, q.set (k - 1) (v / b), v % b, ?_, by omega, h1.set _ ⟨hq0, hq1⟩, by simpa using h2, ⟨hr0, hr1⟩, ?_⟩
        · rw [hv] at hq0 hq1 ⊢
          simp (disch := (first | omega | (simp only [maxN_eq, List.length_append, List.length_cons, List.length_nil, List.length_set, List.length_replicate, List.length_take, List.length_drop]; omega))) only [n_nat_quoLimb_s4, e, grd_tt, grd_and, grd_dec, grd_ne, cond_dt, cond_df, cond_et, cond_ef, cond_nt, cond_nf, w64, wu64, wu32, wu8, tm, td, bind_some', same_ee, same_er, same_re, same_rr, cond_t, cond_f, Bool.not_true, Bool.not_false]
        · rw [show ((k : Int) - 1 - 1) = ((k - 1 : Nat) : Int) - 1 by omega]
        · have hs : lv ((q.set (k - 1) (v / b)).drop (k - 1)) = v / b + 1000000000 * lv (q.drop k) := by
            rw [lv_drop (by simp; omega), set_getD (by omega), if_pos rfl, List.drop_set_of_lt (by omega), show k - 1 + 1 = k by omega]
          rw [hs, lv_drop (by omega), show k - 1 + 1 = k by omega, h4]
          have := Int.emod_add_mul_ediv v b
          grind) a.length (a, b, List.replicate (a.length : Int).toNat 0, 0, (a.length : Int) - 1, ()) ⟨_, 0, rfl, Nat.le_refl _, Wf.zeros _, by simp, by omega, by rw [List.drop_length, List.drop_of_length_le (by simp)]; simp [lv]⟩
  have hdiv : lv a / b = lv q := by
    rw [h4, Int.mul_comm, Int.add_comm, Int.add_mul_ediv_right _ _ (by omega), Int.ediv_eq_zero_of_lt h3.1 h3.2]; omega
  have hmod : lv a % b = rest := by
    rw [h4, Int.add_comm, Int.add_mul_emod_self_left, Int.emod_eq_of_lt h3.1 h3.2]
  unfold n_nat_quoLimb
  have ht := trim_eq h1 (by omega)
  have ht2 := trim_eq (l := [rest]) (Wf.one (by omega)) (by simp)
  have hw : IntKind.u32.wrap rest = rest := wu32 (by omega)
  have hw2 : IntKind.i64.wrap ((a.length : Int) - 1) = (a.length : Int) - 1 := w64 (by omega)
  rw [hw2, hr]
  simp (disch := (first | omega | (simp only [maxN_eq, List.length_append, List.length_cons, List.length_nil, List.length_set, List.length_replicate, List.length_take, List.length_drop]; omega))) only [ht, hw, ht2, grd_tt, grd_and, grd_dec, grd_ne, cond_dt, cond_df, cond_et, cond_ef, cond_nt, cond_nf, w64, wu64, wu32, wu8, tm, td, bind_some', same_ee, same_er, same_re, same_rr, cond_t, cond_f, Bool.not_true, Bool.not_false]
  rw [hdiv, hmod, lv_one]
theorem quoLimb_eq (m : Nat) (b : Nat) (hm : (limbs m).length ≤ 1000000000) (hb : 0 < b ∧ b < 1000000000) : n_nat_quoLimb (limbs m) (b : Int) = some ((limbs (m / b), limbs (m % b), ()), ()) := by
  rw [quoLimb_lv (limbs_wf m) hm (by omega), lv_limbs, ← Int.natCast_ediv, ← Int.natCast_emod, Int.toNat_natCast, Int.toNat_natCast]

theorem subtract_lv {u v : List Int} {t : Int} (hu : Wf u) (hv : Wf v) (hl : v.length < u.length) (hL : u.length ≤ 2000000000) (ht : 0 ≤ t ∧ t < 1000000000) :
    ∃ (neg : Bool) (o : List Int), n_subtract u v t = some ((neg, ()), (o, ())) ∧ Wf o ∧ o.length = u.length ∧ lv o = lv u - t * lv v + (if neg then bp u.length else 0) := by
  obtain ⟨r, hr, o, br, rfl, h1, h2, h3, h4⟩ := loopO_ind (step := n_subtract_s3) (Q := fun r => ∃ (o : List Int) (br : Int), r = (Ex.exit 0, (o, v, t, 0, br, (u.length : Int), (u.length : Int), ())) ∧ Wf o ∧ o.length = u.length ∧ (0 ≤ br ∧ br ≤ 1) ∧ lv o = lv u - t * lv v + br * bp u.length)
    (fun m x => ∃ (k : Nat) (o : List Int) (c br : Int), m + k = u.length ∧ x = (o, v, t, c, br, (u.length : Int), (k : Int), ()) ∧ Wf o ∧ o.length = u.length ∧ (0 ≤ br ∧ br ≤ 1) ∧ (0 ≤ c ∧ c < 1000000000) ∧ (v.length < k → c = 0) ∧
      lv o = lv u - t * lv (v.take k) + (c + br) * bp k ∧ ∀ j, k ≤ j → o.getD j 0 = u.getD j 0) (by
      rintro m x ⟨k, o, c, br, hm, rfl, h1, h2, h3, h4, h5, h6, h7⟩
      by_cases hk : k < u.length
      · have e : (k : Int).toNat = k := by omega
        have hz := h1.at k
        have hy := hv.at k
        have hty := mul_bound ht hy
        obtain ⟨c', hc'⟩ : ∃ c', c' = c + t * v.getD k 0 := ⟨_, rfl⟩
        have hcb : 0 ≤ c' ∧ c' < 1000000000000000000 := by omega
        have hzero : v.length ≤ k → c' = c := fun h => by rw [hc', getD_ge h]; simp
        have hnew : v.length < k + 1 → c' / 1000000000 = 0 := fun h => by rw [hzero (by omega)]; omega
        have key : ∀ d br' : Int, d = o.getD k 0 - br - c' % 1000000000 + br' * 1000000000 → (0 ≤ br' ∧ br' ≤ 1) → (0 ≤ d ∧ d < 1000000000) →
            n_subtract_s3 (o, v, t, c, br, (u.length : Int), (k : Int), ()) = some (Ex.normal, (o.set k d, v, t, c' / 1000000000, br', (u.length : Int), ((k + 1 : Nat) : Int), ())) →
            (∃ (m' : Nat) (y : _), n_subtract_s3 (o, v, t, c, br, (u.length : Int), (k : Int), ()) = some (Ex.normal, y) ∧ m' < m ∧ ∃ (k : Nat) (o : List Int) (c br : Int), m' + k = u.length ∧ y = (o, v, t, c, br, (u.length : Int), (k : Int), ()) ∧ Wf o ∧ o.length = u.length ∧ (0 ≤ br ∧ br ≤ 1) ∧ (0 ≤ c ∧ c < 1000000000) ∧ (v.length < k → c = 0) ∧
              lv o = lv u - t * lv (v.take k) + (c + br) * bp k ∧ ∀ j, k ≤ j → o.getD j 0 = u.getD j 0) := by
          intro d br' hd hbr hd' hst
          refine ⟨m - 1, _, hst, by omega, k + 1, o.set k d, c' / 1000000000, br', by omega, rfl, h1.set _ hd', by simpa using h2, hbr, by omega, hnew, ?_, ?_⟩
          · rw [lv_set (by omega), lv_take_succ', bp_succ, h6]
            have := Int.emod_add_mul_ediv c' 1000000000
            grind
          · intro j hj
            rw [set_getD (by omega), if_neg (by omega)]
            exact h7 j (by omega)
        by_cases hkv : k < v.length
        · by_cases hneg : o.getD k 0 - br - c' % 1000000000 < 0
          · refine .inr (key (o.getD k 0 - br - c' % 1000000000 + 1000000000) 1 (by omega) (by omega) (by omega) ?_)
            rw [hc'] at hneg hcb ⊢
            simp (disch := (first | omega | (simp only [maxN_eq, List.length_append, List.length_cons, List.length_nil, List.length_set, List.length_replicate, List.length_take, List.length_drop]; omega))) only [n_subtract_s3, e, grd_tt, grd_and, grd_dec, grd_ne, cond_dt, cond_df, cond_et, cond_ef, cond_nt, cond_nf, w64, wu64, wu32, wu8, tm, td, bind_some', same_ee, same_er, same_re, same_rr, cond_t, cond_f, Bool.not_true, Bool.not_false]
            rfl
          · refine .inr (key (o.getD k 0 - br - c' % 1000000000) 0 (by omega) (by omega) (by omega) ?_)
            rw [hc'] at hneg hcb ⊢
            simp (disch := (first | omega | (simp only [maxN_eq, List.length_append, List.length_cons, List.length_nil, List.length_set, List.length_replicate, List.length_take, List.length_drop]; omega))) only [n_subtract_s3, e, grd_tt, grd_and, grd_dec, grd_ne, cond_dt, cond_df, cond_et, cond_ef, cond_nt, cond_nf, w64, wu64, wu32, wu8, tm, td, bind_some', same_ee, same_er, same_re, same_rr, cond_t, cond_f, Bool.not_true, Bool.not_false]
            rfl
        · have hcc := hzero (by omega)
          by_cases hneg : o.getD k 0 - br - c' % 1000000000 < 0
          · refine .inr (key (o.getD k 0 - br - c' % 1000000000 + 1000000000) 1 (by omega) (by omega) (by omega) ?_)
            rw [hcc] at hneg hcb ⊢
            simp (disch := (first | omega | (simp only [maxN_eq, List.length_append, List.length_cons, List.length_nil, List.length_set, List.length_replicate, List.length_take, List.length_drop]; omega))) only [n_subtract_s3, e, grd_tt, grd_and, grd_dec, grd_ne, cond_dt, cond_df, cond_et, cond_ef, cond_nt, cond_nf, w64, wu64, wu32, wu8, tm, td, bind_some', same_ee, same_er, same_re, same_rr, cond_t, cond_f, Bool.not_true, Bool.not_false]
            rfl
          · refine .inr (key (o.getD k 0 - br - c' % 1000000000) 0 (by omega) (by omega) (by omega) ?_)
            rw [hcc] at hneg hcb ⊢
            simp (disch := (first | omega | (simp only [maxN_eq, List.length_append, List.length_cons, List.length_nil, List.length_set, List.length_replicate, List.length_take, List.length_drop]; omega))) only [n_subtract_s3, e, grd_tt, grd_and, grd_dec, grd_ne, cond_dt, cond_df, cond_et, cond_ef, cond_nt, cond_nf, w64, wu64, wu32, wu8, tm, td, bind_some', same_ee, same_er, same_re, same_rr, cond_t, cond_f, Bool.not_true, Bool.not_false]
            rfl
      · have hkl : k = u.length := by omega
        subst hkl
        have hc0 := h5 hl
        subst hc0
        refine .inl ⟨(Ex.exit 0, (o, v, t, 0, br, (u.length : Int), (u.length : Int), ())), ?_, by simp, o, br, rfl, h1, h2, h3, ?_⟩
        · simp (disch := (first | omega | (simp only [maxN_eq, List.length_append, List.length_cons, List.length_nil, List.length_set, List.length_replicate, List.length_take, List.length_drop]; omega))) only [n_subtract_s3, grd_tt, grd_and, grd_dec, grd_ne, cond_dt, cond_df, cond_et, cond_ef, cond_nt, cond_nf, w64, wu64, wu32, wu8, tm, td, bind_some', same_ee, same_er, same_re, same_rr, cond_t, cond_f, Bool.not_true, Bool.not_false]
        · rw [List.take_of_length_le (by omega)] at h6
          rw [h6]; simp) u.length (u, v, t, 0, 0, (u.length : Int), 0, ()) ⟨0, u, 0, 0, by omega, rfl, hu, rfl, by omega, by omega, by omega, by simp [lv], fun j _ => rfl⟩
  refine ⟨decide (br > 0), o, ?_, h1, h2, ?_⟩
  · unfold n_subtract
    rw [hr]
    simp (disch := (first | omega | (simp only [maxN_eq, List.length_append, List.length_cons, List.length_nil, List.length_set, List.length_replicate, List.length_take, List.length_drop]; omega))) only [grd_tt, grd_and, grd_dec, grd_ne, cond_dt, cond_df, cond_et, cond_ef, cond_nt, cond_nf, w64, wu64, wu32, wu8, tm, td, bind_some', same_ee, same_er, same_re, same_rr, cond_t, cond_f, Bool.not_true, Bool.not_false]
  · rw [h4]
    rcases (show br = 0 ∨ br = 1 by omega) with rfl | rfl <;> simp

theorem restore_lv {u v : List Int} (hu : Wf u) (hv : Wf v) (hl : v.length ≤ u.length) (hL : u.length ≤ 2000000000) :
    ∃ (c : Int) (o : List Int), n_restore u v = some ((), (o, ())) ∧ Wf o ∧ o.length = u.length ∧ (0 ≤ c ∧ c ≤ 1) ∧ lv o = lv u + lv v - c * bp u.length := by
  obtain ⟨r, hr, o, c, rfl, h1, h2, h3, h4⟩ := loopO_ind (step := n_restore_s2) (Q := fun r => ∃ (o : List Int) (c : Int), r = (Ex.exit 0, (o, v, c, (u.length : Int), (u.length : Int), ())) ∧ Wf o ∧ o.length = u.length ∧ (0 ≤ c ∧ c ≤ 1) ∧ lv o = lv u + lv v - c * bp u.length)
    (fun m x => ∃ (k : Nat) (o : List Int) (c : Int), m + k = u.length ∧ x = (o, v, c, (u.length : Int), (k : Int), ()) ∧ Wf o ∧ o.length = u.length ∧ (0 ≤ c ∧ c ≤ 1) ∧ lv o = lv u + lv (v.take k) - c * bp k ∧ ∀ j, k ≤ j → o.getD j 0 = u.getD j 0) (by
      rintro m x ⟨k, o, c, hm, rfl, h1, h2, h3, h4, h5⟩
      by_cases hk : k < u.length
      · have e : (k : Int).toNat = k := by omega
        have hz := h1.at k
        have hy := hv.at k
        have e2 := at_eq v (i := (k : Int)) (by omega)
        rw [e] at e2
        obtain ⟨s, hs⟩ : ∃ s, s = o.getD k 0 + v.getD k 0 + c := ⟨_, rfl⟩
        refine .inr ⟨m - 1, (o.set k (s % 1000000000), v, s / 1000000000, (u.length : Int), ((k + 1 : Nat) : Int), ()), ?_, by omega, k + 1, _, _, by omega, rfl, h1.set _ (by omega), by simpa using h2, by omega, ?_, ?_⟩
        · rw [hs]
          simp (disch := (first | omega | (simp only [maxN_eq, List.length_append, List.length_cons, List.length_nil, List.length_set, List.length_replicate, List.length_take, List.length_drop]; omega))) only [n_restore_s2, e, e2, grd_tt, grd_and, grd_dec, grd_ne, cond_dt, cond_df, cond_et, cond_ef, cond_nt, cond_nf, w64, wu64, wu32, wu8, tm, td, bind_some', same_ee, same_er, same_re, same_rr, cond_t, cond_f, Bool.not_true, Bool.not_false]
          rfl
        · rw [lv_set (by omega), lv_take_succ', bp_succ, h4]
          have := Int.emod_add_mul_ediv s 1000000000
          grind
        · intro j hj
          rw [set_getD (by omega), if_neg (by omega)]
          exact h5 j (by omega)
      · have hkl : k = u.length := by omega
        subst hkl
        refine .inl ⟨(Ex.exit 0, (o, v, c, (u.length : Int), (u.length : Int), ())), ?_, by simp, o, c, rfl, h1, h2, h3, ?_⟩
        · simp (disch := (first | omega | (simp only [maxN_eq, List.length_append, List.length_cons, List.length_nil, List.length_set, List.length_replicate, List.length_take, List.length_drop]; omega))) only [n_restore_s2, grd_tt, grd_and, grd_dec, grd_ne, cond_dt, cond_df, cond_et, cond_ef, cond_nt, cond_nf, w64, wu64, wu32, wu8, tm, td, bind_some', same_ee, same_er, same_re, same_rr, cond_t, cond_f, Bool.not_true, Bool.not_false]
        · rw [List.take_of_length_le (by omega)] at h4; exact h4) u.length (u, v, 0, (u.length : Int), 0, ()) ⟨0, u, 0, by omega, rfl, hu, rfl, by omega, by simp [lv], fun j _ => rfl⟩
  refine ⟨c, o, ?_, h1, h2, h3, h4⟩
  unfold n_restore
  rw [hr]
  simp (disch := (first | omega | (simp only [maxN_eq, List.length_append, List.length_cons, List.length_nil, List.length_set, List.length_replicate, List.length_take, List.length_drop]; omega))) only [grd_tt, grd_and, grd_dec, grd_ne, cond_dt, cond_df, cond_et, cond_ef, cond_nt, cond_nf, w64, wu64, wu32, wu8, tm, td, bind_some', same_ee, same_er, same_re, same_rr, cond_t, cond_f, Bool.not_true, Bool.not_false]
end Go.AM.Num
end
section
set_option linter.unusedSimpArgs false
set_option linter.unusedVariables false
namespace Go.AM.Num
theorem guess_hi {V U g V2 U3 R lv' lu' : Int} (hV : V = V2 * R + lv') (hU : U = U3 * R + lu') (h1 : 0 ≤ lv' ∧ lv' < R) (h2 : 0 ≤ lu') (hg : 0 ≤ g ∧ g ≤ 1000000000) (h : g * V2 ≤ U3) (hb : 1000000000 * R ≤ V) (hV0 : 0 < V) : g ≤ U / V + 1 := by
  have e1 : g * V2 * R ≤ U3 * R := Int.mul_le_mul_of_nonneg_right h (by omega)
  have e2 : g * lv' ≤ g * R := Int.mul_le_mul_of_nonneg_left (by omega) hg.1
  have e3 : g * R ≤ 1000000000 * R := Int.mul_le_mul_of_nonneg_right hg.2 (by omega)
  have e5 : g * V = g * V2 * R + g * lv' := by rw [hV, Int.mul_add, Int.mul_assoc]
  have e4 : (g - 1) * V ≤ U := by
    rw [Int.sub_mul, Int.one_mul]
    omega
  have := Int.le_ediv_of_mul_le hV0 e4
  omega
theorem guess_lo {V U q V2 U3 R lv' lu' : Int} (hV : V = V2 * R + lv') (hU : U = U3 * R + lu') (h1 : 0 ≤ lv') (h2 : 0 ≤ lu' ∧ lu' < R) (hq0 : 0 ≤ q) (hq : q * V ≤ U) : q * V2 ≤ U3 := by
  have e2 : 0 ≤ q * lv' := Int.mul_nonneg hq0 h1
  have e5 : q * V = q * V2 * R + q * lv' := by rw [hV, Int.mul_add, Int.mul_assoc]
  have e3 : q * V2 * R < (U3 + 1) * R := by
    rw [Int.add_mul, Int.one_mul]
    omega
  have := Int.lt_of_mul_lt_mul_right e3 (by omega)
  omega
theorem reduce_loop {u v : List Int} {n : Nat} (hu : Wf u) (hv : Wf v) (hn : v.length = n) (hn2 : 2 ≤ n) (hul : u.length = n + 1) (hN : n ≤ 1000000000) (ht : v.getD (n - 1) 0 ≠ 0) (hlt : lv u < lv v * 1000000000) (g r : Int)
    (hgr : u.getD n 0 * 1000000000 + u.getD (n - 1) 0 = g * v.getD (n - 1) 0 + r) (hr0 : 0 ≤ r ∧ r < v.getD (n - 1) 0) (hg0 : 0 ≤ g) :
    ∃ g' r', loopO n_reduce_s4 (u, v, (n : Int), v.getD (n - 1) 0, g, r, ()) = some (Ex.exit 0, (u, v, (n : Int), v.getD (n - 1) 0, g', r', ())) ∧ (g' = lv u / lv v ∨ g' = lv u / lv v + 1) ∧ 0 ≤ g' ∧ g' < 1000000000 := by
  obtain ⟨f, hf⟩ : ∃ f, f = v.getD (n - 1) 0 := ⟨_, rfl⟩
  obtain ⟨v2, hv2⟩ : ∃ x, x = v.getD (n - 2) 0 := ⟨_, rfl⟩
  obtain ⟨u0, hu0⟩ : ∃ x, x = u.getD n 0 := ⟨_, rfl⟩
  obtain ⟨u1, hu1⟩ : ∃ x, x = u.getD (n - 1) 0 := ⟨_, rfl⟩
  obtain ⟨u2, hu2⟩ : ∃ x, x = u.getD (n - 2) 0 := ⟨_, rfl⟩
  have bf := hv.at (n - 1)
  have bv2 := hv.at (n - 2)
  have bu0 := hu.at n
  have bu1 := hu.at (n - 1)
  have bu2 := hu.at (n - 2)
  rw [← hf] at ht hgr hr0 bf ⊢
  rw [← hv2] at bv2
  rw [← hu0] at hgr bu0
  rw [← hu1] at hgr bu1
  rw [← hu2] at bu2
  obtain ⟨R, hR⟩ : ∃ R, R = bp (n - 2) := ⟨_, rfl⟩
  have hRp := bp_pos (n - 2)
  rw [← hR] at hRp
  have hPR : bp (n - 1) = 1000000000 * R := by rw [hR, show n - 1 = n - 2 + 1 by omega, bp_succ]
  have sv : lv v = (f * 1000000000 + v2) * R + lv (v.take (n - 2)) := by
    have := lv_split v (n - 2) (by omega)
    rw [lv_drop (by omega), lv_drop (by omega), show n - 2 + 1 = n - 1 by omega, show n - 1 + 1 = n by omega, List.drop_of_length_le (by omega), ← hf, ← hv2, ← hR] at this
    simp only [lv] at this
    grind
  have su : lv u = ((u0 * 1000000000 + u1) * 1000000000 + u2) * R + lv (u.take (n - 2)) := by
    have := lv_split u (n - 2) (by omega)
    rw [lv_drop (by omega), lv_drop (by omega), lv_drop (by omega), show n - 2 + 1 = n - 1 by omega, show n - 1 + 1 = n by omega, List.drop_of_length_le (by omega), ← hu0, ← hu1, ← hu2, ← hR] at this
    simp only [lv] at this
    grind
  have sv1 : lv v = f * (1000000000 * R) + lv (v.take (n - 1)) := by
    have := lv_split v (n - 1) (by omega)
    rw [lv_drop (by omega), show n - 1 + 1 = n by omega, List.drop_of_length_le (by omega), ← hf, hPR] at this
    simp only [lv] at this
    grind
  have su1 : lv u = (u0 * 1000000000 + u1) * (1000000000 * R) + lv (u.take (n - 1)) := by
    have := lv_split u (n - 1) (by omega)
    rw [lv_drop (by omega), lv_drop (by omega), show n - 1 + 1 = n by omega, List.drop_of_length_le (by omega), ← hu0, ← hu1, hPR] at this
    simp only [lv] at this
    grind
  have lvv := lv_lt (hv.take (n - 2))
  have lvv0 := lv_nonneg (hv.take (n - 2))
  have luu := lv_lt (hu.take (n - 2))
  have luu0 := lv_nonneg (hu.take (n - 2))
  have lvv1 := lv_lt (hv.take (n - 1))
  have lvv10 := lv_nonneg (hv.take (n - 1))
  have luu1 := lv_lt (hu.take (n - 1))
  have luu10 := lv_nonneg (hu.take (n - 1))
  rw [List.length_take, Nat.min_eq_left (by omega), ← hR] at lvv luu
  rw [List.length_take, Nat.min_eq_left (by omega), hPR] at lvv1 luu1
  have hVbig : 1000000000 * R ≤ lv v := by
    have : 1 * (1000000000 * R) ≤ f * (1000000000 * R) := Int.mul_le_mul_of_nonneg_right (by omega) (by omega)
    omega
  have hV0 : 0 < lv v := by omega
  obtain ⟨q, hq⟩ : ∃ q, q = lv u / lv v := ⟨_, rfl⟩
  have hq0 : 0 ≤ q := by rw [hq]; exact Int.ediv_nonneg (lv_nonneg hu) (by omega)
  have hqB : q < 1000000000 := by rw [hq]; exact Int.ediv_lt_of_lt_mul hV0 (by rw [Int.mul_comm]; exact hlt)
  have hqV : q * lv v ≤ lv u := by rw [hq]; exact Int.ediv_mul_le _ (by omega)
  have htop : u0 * 1000000000 + u1 < f * 1000000000 + 1000000000 := by
    have e : (u0 * 1000000000 + u1) * (1000000000 * R) < (f * 1000000000 + 1000000000) * (1000000000 * R) := by grind
    exact Int.lt_of_mul_lt_mul_right e (by omega)
  have hqf : q * f ≤ u0 * 1000000000 + u1 := guess_lo sv1 su1 lvv10 ⟨luu10, luu1⟩ hq0 hqV
  have hqg : q ≤ g := by
    have : q * f < (g + 1) * f := by grind
    have := Int.lt_of_mul_lt_mul_right this (by omega)
    omega
  rw [← hq]
  obtain ⟨r', hr', g', rr, rfl, hfin⟩ := loopO_ind (step := n_reduce_s4) (Q := fun z => ∃ g' r', z = (Ex.exit 0, (u, v, (n : Int), f, g', r', ())) ∧ (g' = q ∨ g' = q + 1) ∧ 0 ≤ g' ∧ g' < 1000000000)
    (fun m x => ∃ g r : Int, x = (u, v, (n : Int), f, g, r, ()) ∧ (m : Int) = 1000000000 - r ∧ u0 * 1000000000 + u1 = g * f + r ∧ (0 ≤ r ∧ r < 1000000000) ∧ q ≤ g ∧ g ≤ 1000000000000000000) (by
      rintro m x ⟨g, r, rfl, hm, hgr, hr, hqg, hgb⟩
      have en : ((n : Int) - 2).toNat = n - 2 := by omega
      have hw : IntKind.i64.wrap ((n : Int) - 2) = (n : Int) - 2 := w64 (by omega)
      have dec : q ≤ g - 1 → (n_reduce_s4 (u, v, (n : Int), f, g, r, ()) = cond (decide (r + f ≥ 1000000000)) (some (Ex.exit 0, (u, v, (n : Int), f, g - 1, r + f, ()))) (some (Ex.normal, (u, v, (n : Int), f, g - 1, r + f, ())))) →
          ((∃ z, n_reduce_s4 (u, v, (n : Int), f, g, r, ()) = some z ∧ z.1 ≠ .normal ∧ ∃ g' r', z = (Ex.exit 0, (u, v, (n : Int), f, g', r', ())) ∧ (g' = q ∨ g' = q + 1) ∧ 0 ≤ g' ∧ g' < 1000000000) ∨
            ∃ m' y, n_reduce_s4 (u, v, (n : Int), f, g, r, ()) = some (Ex.normal, y) ∧ m' < m ∧ ∃ g r : Int, y = (u, v, (n : Int), f, g, r, ()) ∧ (m' : Int) = 1000000000 - r ∧ u0 * 1000000000 + u1 = g * f + r ∧ (0 ≤ r ∧ r < 1000000000) ∧ q ≤ g ∧ g ≤ 1000000000000000000) := by
        intro hqg1 hst
        rw [hst]
        by_cases hb : r + f ≥ 1000000000
        · have hg1 : g - 1 < 1000000000 := by
            have : (g - 1) * f < 1000000000 * f := by grind
            exact Int.lt_of_mul_lt_mul_right this (by omega)
          have hm2 : (g - 1) * v2 ≤ 1000000000 * v2 := Int.mul_le_mul_of_nonneg_right (by omega) (by omega)
          have hhi := guess_hi (g := g - 1) sv su ⟨lvv0, lvv⟩ luu0 (by omega) (by grind) hVbig hV0
          rw [← hq] at hhi
          rw [decide_eq_true hb]
          exact .inl ⟨_, rfl, by simp, g - 1, r + f, rfl, by omega, by omega, hg1⟩
        · rw [decide_eq_false hb]
          exact .inr ⟨(1000000000 - (r + f)).toNat, _, rfl, by omega, g - 1, r + f, rfl, by omega, by grind, by omega, hqg1, by omega⟩
      by_cases hgB : g ≥ 1000000000
      · refine dec (by omega) ?_
        simp (disch := (first | omega | (simp only [maxN_eq, List.length_append, List.length_cons, List.length_nil, List.length_set, List.length_replicate, List.length_take, List.length_drop]; omega))) only [n_reduce_s4, grd_tt, grd_and, grd_dec, grd_ne, cond_dt, cond_df, cond_et, cond_ef, cond_nt, cond_nf, w64, wu64, wu32, wu8, tm, td, bind_some', same_ee, same_er, same_re, same_rr, cond_t, cond_f, Bool.not_true, Bool.not_false]
      · have hgv := mul_bound (x := g) (y := v2) (by omega) bv2
        by_cases hc : g * v2 > r * 1000000000 + u2
        · have hne : q ≠ g := by
            rintro rfl
            have := guess_lo sv su lvv0 ⟨luu0, luu⟩ hq0 hqV
            grind
          refine dec (by omega) ?_
          rw [hv2, hu2] at hc
          rw [hv2] at hgv bv2
          rw [hu2] at bu2
          simp (disch := (first | omega | (simp only [maxN_eq, List.length_append, List.length_cons, List.length_nil, List.length_set, List.length_replicate, List.length_take, List.length_drop]; omega))) only [n_reduce_s4, en, grd_tt, grd_and, grd_dec, grd_ne, cond_dt, cond_df, cond_et, cond_ef, cond_nt, cond_nf, w64, wu64, wu32, wu8, tm, td, bind_some', same_ee, same_er, same_re, same_rr, cond_t, cond_f, Bool.not_true, Bool.not_false]
        · have hhi := guess_hi (g := g) sv su ⟨lvv0, lvv⟩ luu0 (by omega) (by grind) hVbig hV0
          rw [← hq] at hhi
          refine .inl ⟨(Ex.exit 0, (u, v, (n : Int), f, g, r, ())), ?_, by simp, g, r, rfl, by omega, by omega, by omega⟩
          rw [hv2, hu2] at hc
          rw [hv2] at hgv bv2
          rw [hu2] at bu2
          simp (disch := (first | omega | (simp only [maxN_eq, List.length_append, List.length_cons, List.length_nil, List.length_set, List.length_replicate, List.length_take, List.length_drop]; omega))) only [n_reduce_s4, en, grd_tt, grd_and, grd_dec, grd_ne, cond_dt, cond_df, cond_et, cond_ef, cond_nt, cond_nf, w64, wu64, wu32, wu8, tm, td, bind_some', same_ee, same_er, same_re, same_rr, cond_t, cond_f, Bool.not_true, Bool.not_false]) (1000000000 - r).toNat _ ⟨g, r, rfl, by omega, hgr, by omega, hqg, by
        have : g * 1 ≤ g * f := Int.mul_le_mul_of_nonneg_left (by omega) hg0
        omega⟩
  exact ⟨g', rr, hr', hfin⟩
theorem reduce_lv {u v : List Int} {n : Nat} (hu : Wf u) (hv : Wf v) (hn : v.length = n) (hn2 : 2 ≤ n) (hul : u.length = n + 1) (hN : n ≤ 1000000000) (ht : v.getD (n - 1) 0 ≠ 0) (hlt : lv u < lv v * 1000000000) :
    ∃ o, n_reduce u v = some ((lv u / lv v, ()), (o, ())) ∧ Wf o ∧ o.length = n + 1 ∧ lv o = lv u % lv v ∧ 0 ≤ lv u / lv v ∧ lv u / lv v < 1000000000 := by
  have bf := hv.at (n - 1)
  have bu0 := hu.at n
  have bu1 := hu.at (n - 1)
  obtain ⟨top, htop⟩ : ∃ t, t = u.getD n 0 * 1000000000 + u.getD (n - 1) 0 := ⟨_, rfl⟩
  have hf0 : 0 < v.getD (n - 1) 0 := by omega
  have hr0 := Int.emod_nonneg top (show v.getD (n - 1) 0 ≠ 0 by omega)
  have hr1 := Int.emod_lt_of_pos top hf0
  have hg0 : 0 ≤ top / v.getD (n - 1) 0 := Int.ediv_nonneg (by omega) (by omega)
  have hg1 : top / v.getD (n - 1) 0 ≤ top := Int.ediv_le_self _ (by omega)
  obtain ⟨g', r', hloop, hg', hgl, hgB⟩ := reduce_loop hu hv hn hn2 hul hN ht hlt (top / v.getD (n - 1) 0) (top % v.getD (n - 1) 0) (by
    rw [← htop]; have := Int.emod_add_mul_ediv top (v.getD (n - 1) 0); grind) ⟨hr0, hr1⟩ hg0
  obtain ⟨neg, o, hs, ho1, ho2, ho3⟩ := subtract_lv hu hv (by omega) (by omega) ⟨hgl, hgB⟩
  have hVp : 0 < lv v := by
    have := lv_split v (n - 1) (by omega)
    rw [lv_drop (by omega), show n - 1 + 1 = n by omega, List.drop_of_length_le (by omega)] at this
    simp only [lv] at this
    have h1 := lv_nonneg (hv.take (n - 1))
    have h2 := bp_pos (n - 1)
    have h3 : bp (n - 1) * 1 ≤ bp (n - 1) * v.getD (n - 1) 0 := Int.mul_le_mul_of_nonneg_left (by omega) (by omega)
    grind
  have hdm := Int.emod_add_mul_ediv (lv u) (lv v)
  have hm0 := Int.emod_nonneg (lv u) (show lv v ≠ 0 by omega)
  have hm1 := Int.emod_lt_of_pos (lv u) hVp
  have hol := lv_lt ho1
  have hol0 := lv_nonneg ho1
  rw [ho2] at hol
  have hbp := bp_pos u.length
  have hq0 : 0 ≤ lv u / lv v := Int.ediv_nonneg (lv_nonneg hu) (by omega)
  have hqB : lv u / lv v < 1000000000 := Int.ediv_lt_of_lt_mul hVp (by rw [Int.mul_comm]; exact hlt)
  have en : ((n : Int) - 1).toNat = n - 1 := by omega
  have en2 : (n : Int).toNat = n := by omega
  have hne : v.getD (n - 1) 0 ≠ 0 := by omega
  have hA : n_reduce u v = (loopO n_reduce_s4 (u, v, (n : Int), v.getD (n - 1) 0, top / v.getD (n - 1) 0, top % v.getD (n - 1) 0, ())).bind fun y1 =>
      cond (Ex.same y1.1 (Ex.exit 0)) ((n_subtract y1.2.1 y1.2.2.1 y1.2.2.2.2.2.1).bind fun r2 =>
        cond (r2.1.1) ((n_restore r2.2.1 y1.2.2.1).bind fun r3 => some ((IntKind.u32.wrap (IntKind.u64.wrap (y1.2.2.2.2.2.1 - (1 : Int))), ()), r3.2.1, ()))
          (some ((IntKind.u32.wrap (y1.2.2.2.2.2.1), ()), r2.2.1, ()))) (none) := by
    rw [htop]
    rw [htop] at hg0 hg1 hr0 hr1
    unfold n_reduce
    rw [hn]
    simp (disch := (first | omega | (simp only [maxN_eq]; omega))) only [grd_and, grd_dec, grd_ne, w64, wu64, tm, td, en, en2]
  rw [hA, hloop]
  rcases hg' with rfl | rfl
  · have hneg : neg = false := by
      cases neg with
      | false => rfl
      | true => simp only [if_true] at ho3; grind
    subst hneg
    refine ⟨o, ?_, ho1, by omega, ?_, hq0, hqB⟩
    · simp (disch := (first | omega | (simp only [maxN_eq, List.length_append, List.length_cons, List.length_nil, List.length_set, List.length_replicate, List.length_take, List.length_drop]; omega))) only [hs, grd_tt, grd_and, grd_dec, grd_ne, cond_dt, cond_df, cond_et, cond_ef, cond_nt, cond_nf, w64, wu64, wu32, wu8, tm, td, bind_some', same_ee, same_er, same_re, same_rr, cond_t, cond_f, Bool.not_true, Bool.not_false]
    · simp at ho3; grind
  · have hneg : neg = true := by
      cases neg with
      | true => rfl
      | false => simp at ho3; grind
    subst hneg
    simp only [if_true] at ho3
    obtain ⟨c, o2, hre, hc1, hc2, hc3, hc4⟩ := restore_lv ho1 hv (by omega) (by omega)
    have hcl := lv_lt hc1
    have hcl0 := lv_nonneg hc1
    rw [hc2, ho2] at hcl
    rw [ho2] at hc4
    have hce : c = 1 := by
      rcases (show c = 0 ∨ c = 1 by omega) with rfl | rfl
      · grind
      · rfl
    subst hce
    refine ⟨o2, ?_, hc1, by omega, by grind, hq0, hqB⟩
    simp (disch := (first | omega | (simp only [maxN_eq, List.length_append, List.length_cons, List.length_nil, List.length_set, List.length_replicate, List.length_take, List.length_drop]; omega))) only [hs, hre, grd_tt, grd_and, grd_dec, grd_ne, cond_dt, cond_df, cond_et, cond_ef, cond_nt, cond_nf, w64, wu64, wu32, wu8, tm, td, bind_some', same_ee, same_er, same_re, same_rr, cond_t, cond_f, Bool.not_true, Bool.not_false]
    congr 3
    omega
end Go.AM.Num
end
section
set_option linter.unusedSimpArgs false
set_option linter.unusedVariables false
namespace Go.AM.Num
theorem lv_lt_len {l : List Int} {k : Nat} (h : Wf l) (hk : lv l < bp k) (hkl : k ≤ l.length) : lv (l.drop k) = 0 := by
  have h1 := lv_split l k hkl
  have h2 := lv_nonneg (h.take k)
  have h3 := lv_nonneg (h.drop k)
  rcases Int.lt_or_eq_of_le h3 with h4 | h4
  · have h5 : bp k * 1 ≤ bp k * lv (l.drop k) := Int.mul_le_mul_of_nonneg_left (by omega) (by have := bp_pos k; omega)
    omega
  · exact h4.symm

theorem quo_loop {u v : List Int} {sc : List Int} {lb K : Nat} (hu : Wf u) (hv : Wf v) (hvl : v.length = lb) (hlb : 2 ≤ lb) (hul : u.length = K + lb) (hN : K + lb ≤ 1000000000) (ht : v.getD (lb - 1) 0 ≠ 0) (hlt : lv u < lv v * bp K) :
    ∃ u' q, loopO n_nat_quoRem_s11 (sc, u, v, List.replicate K 0, (K : Int) - 1, ()) = some (Ex.exit 3, (sc, u', v, q, -1, ())) ∧ Wf u' ∧ u'.length = K + lb ∧ Wf q ∧ q.length = K ∧ lv u' < lv v ∧ lv u = lv u' + lv v * lv q := by
  obtain ⟨V, hV⟩ : ∃ V, V = lv v := ⟨_, rfl⟩
  have hVl : V < bp lb := by rw [hV, ← hvl]; exact lv_lt hv
  have hV0 : 0 ≤ V := by rw [hV]; exact lv_nonneg hv
  rw [← hV] at hlt ⊢
  obtain ⟨r, hr, u', q, rfl, h1, h2, h3, h4, h5, h6⟩ := loopO_ind (step := n_nat_quoRem_s11) (Q := fun r => ∃ u' q, r = (Ex.exit 3, (sc, u', v, q, -1, ())) ∧ Wf u' ∧ u'.length = K + lb ∧ Wf q ∧ q.length = K ∧ lv u' < V ∧ lv u = lv u' + V * lv q)
    (fun k x => ∃ u' q : List Int, x = (sc, u', v, q, (k : Int) - 1, ()) ∧ k ≤ K ∧ Wf u' ∧ u'.length = K + lb ∧ Wf q ∧ q.length = K ∧ lv u' < V * bp k ∧ lv u = lv u' + V * bp k * lv (q.drop k)) (by
      rintro k x ⟨u', q, rfl, hk, h1, h2, h3, h4, h5, h6⟩
      by_cases h0 : k = 0
      · subst h0
        refine .inl ⟨(Ex.exit 3, (sc, u', v, q, -1, ())), ?_, by simp, u', q, rfl, h1, h2, h3, h4, by simpa [bp] using h5, by simpa [bp] using h6⟩
        simp (disch := (first | omega | (simp only [maxN_eq, List.length_append, List.length_cons, List.length_nil, List.length_set, List.length_replicate, List.length_take, List.length_drop]; omega))) only [n_nat_quoRem_s11, grd_tt, grd_and, grd_dec, grd_ne, cond_dt, cond_df, cond_et, cond_ef, cond_nt, cond_nf, w64, wu64, wu32, wu8, tm, td, bind_some', same_ee, same_er, same_re, same_rr, cond_t, cond_f, Bool.not_true, Bool.not_false]
        rfl
      · obtain ⟨j, rfl⟩ : ∃ j, k = j + 1 := ⟨k - 1, by omega⟩
        have ej : ((j : Int)).toNat = j := by omega
        have ek : (((j + 1 : Nat) : Int) - 1) = (j : Int) := by omega
        have eh : ((j : Int) + lb + 1).toNat - j = lb + 1 := by omega
        have hvl' : (v.length : Int) = (lb : Int) := by omega
        obtain ⟨w, hw⟩ : ∃ w, w = (u'.drop j).take (lb + 1) := ⟨_, rfl⟩
        have hww : Wf w := by rw [hw]; exact (h1.drop j).take _
        have hwl : w.length = lb + 1 := by rw [hw, List.length_take, List.length_drop]; omega
        have hbj := bp_pos j
        have huz : lv (u'.drop (j + (lb + 1))) = 0 := by
          refine lv_lt_len h1 ?_ (by omega)
          have e1 : V * bp (j + 1) ≤ bp lb * bp (j + 1) := Int.mul_le_mul_of_nonneg_right (by omega) (by have := bp_pos (j + 1); omega)
          rw [← bp_add] at e1
          rw [show j + (lb + 1) = lb + (j + 1) by omega]
          omega
        have hsplit : lv u' = lv (u'.take j) + bp j * lv w := by
          rw [lv_split u' j (by omega)]
          have := lv_split (u'.drop j) (lb + 1) (by rw [List.length_drop]; omega)
          rw [List.drop_drop, huz, ← hw] at this
          rw [this]; simp
        have htk0 := lv_nonneg (h1.take j)
        have htk := lv_lt (h1.take j)
        rw [List.length_take, Nat.min_eq_left (by omega)] at htk
        have hwV : lv w < lv v * 1000000000 := by
          rw [← hV]
          have : bp j * lv w < bp j * (V * 1000000000) := by
            rw [bp_succ] at h5
            have e : bp j * (V * 1000000000) = V * (1000000000 * bp j) := by grind
            omega
          exact Int.lt_of_mul_lt_mul_left this (by omega)
        obtain ⟨o, hred, ho1, ho2, ho3, ho4, ho5⟩ := reduce_lv hww hv hvl hlb hwl (by omega) ht hwV
        rw [← hV] at hred ho3 ho4 ho5
        have hV1 : 0 < V := by
          rcases Int.lt_or_eq_of_le hV0 with h | h
          · exact h
          · rw [← h] at h5; simp at h5; have := lv_nonneg h1; omega
        have hom := Int.emod_lt_of_pos (lv w) hV1
        have hdm := Int.emod_add_mul_ediv (lv w) V
        have hz : lv (u'.drop (j + (lb + 1))) = 0 := huz
        have hnew : lv (u'.take j ++ o ++ u'.drop (j + (lb + 1))) = lv (u'.take j) + bp j * (lv w % V) := by
          rw [lv_app, huz, lv_app, List.length_take, Nat.min_eq_left (by omega), ho3]; simp
        refine .inr ⟨j, (sc, u'.take j ++ o ++ u'.drop (j + (lb + 1)), v, q.set j (lv w / V), (j : Int) - 1, ()), ?_, by omega, _, _, rfl, by omega, ?_, ?_, h3.set _ ⟨ho4, ho5⟩, by simpa using h4, ?_, ?_⟩
        · have e0 : (lv w / V, ()).1 = lv w / V := rfl
          rw [ek]
          simp (disch := (first | omega | (simp only [maxN_eq, List.length_append, List.length_cons, List.length_nil, List.length_set, List.length_replicate, List.length_take, List.length_drop]; omega))) only [n_nat_quoRem_s11, ej, hvl', eh, ← hw, hred, grd_tt, grd_and, grd_dec, grd_ne, cond_dt, cond_df, cond_et, cond_ef, cond_nt, cond_nf, w64, wu64, wu32, wu8, tm, td, bind_some', same_ee, same_er, same_re, same_rr, cond_t, cond_f, Bool.not_true, Bool.not_false]
        · exact ((h1.take j).app ho1).app (h1.drop _)
        · simp only [List.length_append, List.length_take, List.length_drop]; omega
        · rw [hnew]
          have : bp j * (lv w % V) ≤ bp j * (V - 1) := Int.mul_le_mul_of_nonneg_left (by omega) (by omega)
          rw [Int.mul_sub] at this
          rw [Int.mul_comm V]
          omega
        · rw [hnew, lv_drop (by simpa using (show j < q.length by omega)), set_getD (by omega), if_pos rfl, List.drop_set_of_lt (by omega), h6, hsplit, bp_succ]
          grind) K (sc, u, v, List.replicate K 0, (K : Int) - 1, ()) ⟨u, _, rfl, Nat.le_refl _, hu, hul, Wf.zeros _, by simp, hlt, by rw [List.drop_of_length_le (by simp)]; simp [lv]⟩
  exact ⟨u', q, hr, h1, h2, h3, h4, h5, h6⟩
theorem pad_loop {u sc v a : List Int} (hu : Wf u) (hl : u.length ≤ a.length + 1) (hN : a.length ≤ 1000000000) :
    ∃ u', loopO n_nat_quoRem_s7 (a, sc, u, v, ()) = some (Ex.exit 1, (a, sc, u', v, ())) ∧ Wf u' ∧ u'.length = a.length + 1 ∧ lv u' = lv u := by
  obtain ⟨r, hr, u', rfl, h1, h2, h3⟩ := loopO_ind (step := n_nat_quoRem_s7) (Q := fun r => ∃ u', r = (Ex.exit 1, (a, sc, u', v, ())) ∧ Wf u' ∧ u'.length = a.length + 1 ∧ lv u' = lv u)
    (fun m x => ∃ u' : List Int, x = (a, sc, u', v, ()) ∧ m + u'.length = a.length + 1 ∧ Wf u' ∧ lv u' = lv u) (by
      rintro m x ⟨u', rfl, hm, h1, h2⟩
      by_cases h : u'.length ≤ a.length
      · refine .inr ⟨m - 1, (a, sc, u' ++ [0], v, ()), ?_, by omega, _, rfl, by simp; omega, h1.app (Wf.one (by omega)), by rw [lv_snoc, h2]; simp⟩
        simp (disch := (first | omega | (simp only [maxN_eq, List.length_append, List.length_cons, List.length_nil, List.length_set, List.length_replicate, List.length_take, List.length_drop]; omega))) only [n_nat_quoRem_s7, grd_tt, grd_and, grd_dec, grd_ne, cond_dt, cond_df, cond_et, cond_ef, cond_nt, cond_nf, w64, wu64, wu32, wu8, tm, td, bind_some', same_ee, same_er, same_re, same_rr, cond_t, cond_f, Bool.not_true, Bool.not_false]
      · refine .inl ⟨(Ex.exit 1, (a, sc, u', v, ())), ?_, by simp, u', rfl, h1, by omega, h2⟩
        simp (disch := (first | omega | (simp only [maxN_eq, List.length_append, List.length_cons, List.length_nil, List.length_set, List.length_replicate, List.length_take, List.length_drop]; omega))) only [n_nat_quoRem_s7, grd_tt, grd_and, grd_dec, grd_ne, cond_dt, cond_df, cond_et, cond_ef, cond_nt, cond_nf, w64, wu64, wu32, wu8, tm, td, bind_some', same_ee, same_er, same_re, same_rr, cond_t, cond_f, Bool.not_true, Bool.not_false]) (a.length + 1 - u.length) _ ⟨u, rfl, by omega, hu, rfl⟩
  exact ⟨u', hr, h1, h2, h3⟩
theorem quoRem_eq (m n : Nat) (hm : (limbs m).length ≤ 100000000) (hn : (limbs n).length ≤ 100000000) (h0 : n ≠ 0) :
    n_nat_quoRem (limbs m) (limbs n) = some ((limbs (m / n), limbs (m % n), ()), ()) := by
  obtain ⟨c, hc, hc1, hc2⟩ := cmp_eq m n (by omega) (by omega)
  unfold n_nat_quoRem
  rw [hc]
  by_cases hlt : m < n
  · have := hc1.2 hlt
    simp (disch := (first | omega | (simp only [maxN_eq, List.length_append, List.length_cons, List.length_nil, List.length_set, List.length_replicate, List.length_take, List.length_drop]; omega))) only [grd_tt, grd_and, grd_dec, grd_ne, cond_dt, cond_df, cond_et, cond_ef, cond_nt, cond_nf, w64, wu64, wu32, wu8, tm, td, bind_some', same_ee, same_er, same_re, same_rr, cond_t, cond_f, Bool.not_true, Bool.not_false]
    rw [Nat.div_eq_of_lt hlt, Nat.mod_eq_of_lt hlt, limbs_zero]
  · have hc0 : ¬ c < 0 := fun h => hlt (hc1.1 h)
    by_cases hl1 : (limbs n).length = 1
    · have hnB : n < 1000000000 := by
        have := limbs_len_lt n
        rw [hl1] at this; simp [bp] at this; omega
      have hq := quoLimb_eq m n (by omega) (by omega)
      have hg : (limbs n).getD 0 0 = (n : Int) := by rw [limbs_small h0 hnB]; rfl
      have h00 : ((0 : Int)).toNat = 0 := rfl
      simp (disch := (first | omega | (simp only [maxN_eq, List.length_append, List.length_cons, List.length_nil, List.length_set, List.length_replicate, List.length_take, List.length_drop]; omega))) only [h00, hg, hq, grd_tt, grd_and, grd_dec, grd_ne, cond_dt, cond_df, cond_et, cond_ef, cond_nt, cond_nf, w64, wu64, wu32, wu8, tm, td, bind_some', same_ee, same_er, same_re, same_rr, cond_t, cond_f, Bool.not_true, Bool.not_false]
    · obtain ⟨lb, hlb⟩ : ∃ lb, lb = (limbs n).length := ⟨_, rfl⟩
      obtain ⟨la, hla⟩ : ∃ la, la = (limbs m).length := ⟨_, rfl⟩
      have hlb2 : 2 ≤ lb := by
        rcases Nat.lt_or_ge (limbs n).length 1 with h | h
        · have : limbs n = [] := List.eq_nil_of_length_eq_zero (by omega)
          exact absurd (limbs_nil.1 this) h0
        · omega
      have hab : lb ≤ la := by rw [hlb, hla]; exact limbs_len_mono (by omega)
      have hbw := limbs_wf n
      obtain ⟨t, ht⟩ : ∃ t, t = (limbs n).getD (lb - 1) 0 := ⟨_, rfl⟩
      have htb := hbw.at (lb - 1)
      have htop := limbs_top n (lb - 1) (by omega)
      rw [← ht] at htb htop
      obtain ⟨s, hs⟩ : ∃ s : Nat, (s : Int) = 1000000000 / (t + 1) := ⟨(1000000000 / (t + 1)).toNat, by have := Int.ediv_nonneg (show (0 : Int) ≤ 1000000000 by omega) (show 0 ≤ t + 1 by omega); omega⟩
      have hs1 : 1 ≤ (s : Int) := by rw [hs]; exact Int.le_ediv_of_mul_le (by omega) (by omega)
      have hst : (s : Int) * (t + 1) ≤ 1000000000 := by rw [hs]; exact Int.ediv_mul_le _ (by omega)
      have hs2 : (s : Int) ≤ 500000000 := by
        have : (s : Int) * 2 ≤ (s : Int) * (t + 1) := Int.mul_le_mul_of_nonneg_left (by omega) (by omega)
        omega
      have hsl : limbs s = [(s : Int)] := limbs_small (by omega) (by omega)
      have hau := mul_r_lv (limbs_wf m) (Wf.one (x := (s : Int)) (by omega)) (by omega) (by simp)
      have hbu := mul_r_lv hbw (Wf.one (x := (s : Int)) (by omega)) (by omega) (by simp)
      rw [lv_limbs, lv_one, ← Int.natCast_mul, Int.toNat_natCast] at hau hbu
      have hls : (limbs s).length = 1 := by rw [hsl]; rfl
      have hnlt : (n : Int) < (t + 1) * bp (lb - 1) := by
        have e := lv_split (limbs n) (lb - 1) (by omega)
        rw [lv_drop (by omega), show lb - 1 + 1 = lb by omega, List.drop_of_length_le (by omega), lv_limbs, ← ht] at e
        have h1 := lv_lt (hbw.take (lb - 1))
        rw [List.length_take, Nat.min_eq_left (by omega)] at h1
        simp only [lv] at e
        grind
      have hvlen : (limbs (n * s)).length = lb := by
        have hup : (limbs (n * s)).length ≤ lb := by
          refine limbs_len_le ?_
          rw [Int.natCast_mul]
          have e1 : (n : Int) * s < (t + 1) * bp (lb - 1) * s := Int.mul_lt_mul_of_pos_right hnlt (by omega)
          have e2 : s * (t + 1) * bp (lb - 1) ≤ 1000000000 * bp (lb - 1) := Int.mul_le_mul_of_nonneg_right hst (by have := bp_pos (lb - 1); omega)
          have e3 : bp lb = 1000000000 * bp (lb - 1) := by rw [← bp_succ, show lb - 1 + 1 = lb by omega]
          grind
        have hlo : (limbs n).length ≤ (limbs (n * s)).length := limbs_len_mono (Nat.le_mul_of_pos_right n (by omega))
        omega
      have hulen : (limbs (m * s)).length ≤ (limbs m).length + 1 := by
        have := limbs_len_mul m s
        omega
      obtain ⟨u', hpad, hu1, hu2, hu3⟩ := pad_loop (u := limbs (m * s)) (sc := [(s : Int)]) (v := limbs (n * s)) (a := limbs m) (limbs_wf _) hulen (by omega)
      obtain ⟨K, hK⟩ : ∃ K : Nat, K = la + 1 - lb := ⟨_, rfl⟩
      have hvt := limbs_top (n * s) (lb - 1) (by omega)
      rw [lv_limbs] at hu3
      have hVK : lv u' < lv (limbs (n * s)) * bp K := by
        rw [hu3, lv_limbs, Int.natCast_mul, Int.natCast_mul]
        have e1 : (m : Int) < bp la := by rw [hla]; exact limbs_len_lt m
        have e2 : bp (lb - 1) ≤ (n : Int) := by rw [hlb]; exact limbs_len_ge h0
        have e3 : bp la = bp (lb - 1) * bp K := by rw [← bp_add, show lb - 1 + K = la by omega]
        have e4 : bp (lb - 1) * bp K ≤ (n : Int) * bp K := Int.mul_le_mul_of_nonneg_right e2 (by have := bp_pos K; omega)
        have e5 : (m : Int) * s < (n : Int) * bp K * s := Int.mul_lt_mul_of_pos_right (by omega) (by omega)
        grind
      obtain ⟨u2, q, hloop, g1, g2, g3, g4, g5, g6⟩ := quo_loop (sc := [(s : Int)]) (K := K) hu1 (limbs_wf (n * s)) hvlen hlb2 (by omega) (by omega) hvt hVK
      rw [hu3, lv_limbs] at g6
      rw [lv_limbs] at g5
      have hns : 0 < n * s := Nat.mul_pos (by omega) (by omega)
      have hu20 := lv_nonneg g1
      have hdiv : lv q = ((m / n : Nat) : Int) := by
        have e : ((m * s : Nat) : Int) / ((n * s : Nat) : Int) = lv q := by
          rw [g6, Int.add_mul_ediv_left _ _ (by omega), Int.ediv_eq_zero_of_lt hu20 g5]; omega
        rw [← e, ← Int.natCast_ediv, Nat.mul_div_mul_right _ _ (by omega)]
      have hmod : lv u2 = ((m % n * s : Nat) : Int) := by
        have e : ((m * s : Nat) : Int) % ((n * s : Nat) : Int) = lv u2 := by
          rw [g6, Int.add_mul_emod_self_left, Int.emod_eq_of_lt hu20 g5]
        rw [← e, ← Int.natCast_emod, Nat.mul_mod_mul_right]
      have ht7 := trim_eq g1 (by omega)
      rw [hmod, Int.toNat_natCast] at ht7
      have hlen7 : (limbs (m % n * s)).length ≤ 1000000000 := by
        have h1 := limbs_len_mul (m % n) s
        have h2 := limbs_len_mono (Nat.le_of_lt (Nat.mod_lt m (show n > 0 by omega)))
        omega
      have hq8 := quoLimb_eq (m % n * s) s hlen7 (by omega)
      rw [Nat.mul_div_cancel _ (by omega)] at hq8
      have ht9 := trim_eq g3 (by omega)
      rw [hdiv, Int.toNat_natCast] at ht9
      have hwrap : ((lb : Int) - 1).toNat = lb - 1 := by omega
      have hKi : ((la + 1 : Nat) : Int) - (lb : Int) = (K : Int) := by omega
      have hKn : ((K : Int)).toNat = K := by omega
      have hlbi : ((limbs n).length : Int) = (lb : Int) := by omega
      have hvli : ((limbs (n * s)).length : Int) = (lb : Int) := by omega
      have hu2i : ((u'.length : Nat) : Int) = ((la + 1 : Nat) : Int) := by omega
      have hrl : (((List.replicate K (0 : Int)).length : Nat) : Int) = (K : Int) := by simp
      have h00 : ((0 : Int)).toNat = 0 := rfl
      have hg0 : ([(s : Int)] : List Int).getD 0 0 = (s : Int) := rfl
      simp (disch := (first | omega | (simp only [maxN_eq, List.length_append, List.length_cons, List.length_nil, List.length_set, List.length_replicate, List.length_take, List.length_drop]; omega))) only [hwrap, hlbi, ← ht, ← hs, hau, hbu, hpad, hu2i, hvli, hKi, hKn, hrl, hloop, ht7, h00, hg0, hq8, ht9, grd_tt, grd_and, grd_dec, grd_ne, cond_dt, cond_df, cond_et, cond_ef, cond_nt, cond_nf, w64, wu64, wu32, wu8, tm, td, bind_some', same_ee, same_er, same_re, same_rr, cond_t, cond_f, Bool.not_true, Bool.not_false]
end Go.AM.Num
end
section
set_option linter.unusedSimpArgs false
set_option linter.unusedVariables false
namespace Go.AM.Num
theorem gcd_eq (m n : Nat) (hm : (limbs m).length ≤ 100000000) (hn : (limbs n).length ≤ 100000000) : n_gcd (limbs m) (limbs n) = some ((limbs (Nat.gcd m n), ()), ()) := by
  obtain ⟨r, hr, b, rfl⟩ := loopO_ind (step := n_gcd_s1) (Q := fun r => ∃ b, r = (Ex.exit 0, (limbs (Nat.gcd m n), b, ())))
    (fun k x => ∃ a b : Nat, x = (limbs a, limbs b, ()) ∧ k = b ∧ Nat.gcd a b = Nat.gcd m n ∧ (limbs a).length ≤ 100000000 ∧ (limbs b).length ≤ 100000000) (by
      rintro k x ⟨a, b, rfl, rfl, hg, ha, hb⟩
      by_cases h0 : k = 0
      · subst h0
        refine .inl ⟨_, ?_, ?_, limbs 0, rfl⟩
        · rw [limbs_zero]
          simp only [n_gcd_s1]
          rw [← hg, Nat.gcd_zero_right]
          rfl
        · simp
      · have hl : (limbs k).length ≠ 0 := fun e => h0 (limbs_nil.1 (List.eq_nil_of_length_eq_zero e))
        have hq := quoRem_eq a k ha hb h0
        refine .inr ⟨a % k, _, ?_, Nat.mod_lt _ (by omega), k, a % k, rfl, rfl, ?_, hb, ?_⟩
        · simp (disch := (first | omega | (simp only [maxN_eq, List.length_append, List.length_cons, List.length_nil, List.length_set, List.length_replicate, List.length_take, List.length_drop]; omega))) only [n_gcd_s1, hq, grd_tt, grd_and, grd_dec, grd_ne, cond_dt, cond_df, cond_et, cond_ef, cond_nt, cond_nf, w64, wu64, wu32, wu8, tm, td, bind_some', same_ee, same_er, same_re, same_rr, cond_t, cond_f, Bool.not_true, Bool.not_false]
        · rw [Nat.gcd_comm, ← Nat.gcd_rec, Nat.gcd_comm, hg]
        · exact Nat.le_trans (limbs_len_mono (Nat.le_of_lt (Nat.mod_lt _ (by omega)))) hb) n _ ⟨m, n, rfl, rfl, rfl, hm, hn⟩
  unfold n_gcd
  rw [hr]
  simp (disch := (first | omega | (simp only [maxN_eq, List.length_append, List.length_cons, List.length_nil, List.length_set, List.length_replicate, List.length_take, List.length_drop]; omega))) only [grd_tt, grd_and, grd_dec, grd_ne, cond_dt, cond_df, cond_et, cond_ef, cond_nt, cond_nf, w64, wu64, wu32, wu8, tm, td, bind_some', same_ee, same_er, same_re, same_rr, cond_t, cond_f, Bool.not_true, Bool.not_false]
theorem limbs_one : limbs 1 = [1] := by rw [limbs_small (by decide) (by decide)]; rfl
theorem lowest_eq (neg : Bool) (m d : Nat) (hd : d ≠ 0) (hm : (limbs m).length ≤ 100000000) (hdl : (limbs d).length ≤ 100000000) :
    n_lowest neg (limbs m) (limbs d) = some (((neg, limbs (m / Nat.gcd m d), limbs (d / Nat.gcd m d)), ()), ()) := by
  have hg0 : Nat.gcd m d ≠ 0 := fun e => hd (Nat.gcd_eq_zero_iff.1 e).2
  have hgl : (limbs (Nat.gcd m d)).length ≤ 100000000 := Nat.le_trans (limbs_len_mono (Nat.le_of_dvd (by omega) (Nat.gcd_dvd_right m d))) hdl
  unfold n_lowest
  by_cases h1 : Nat.gcd m d = 1
  · simp (disch := (first | omega | (simp only [maxN_eq, List.length_append, List.length_cons, List.length_nil, List.length_set, List.length_replicate, List.length_take, List.length_drop]; omega))) only [gcd_eq m d hm hdl, one_eq, h1, grd_tt, grd_and, grd_dec, grd_ne, cond_dt, cond_df, cond_et, cond_ef, cond_nt, cond_nf, w64, wu64, wu32, wu8, tm, td, bind_some', same_ee, same_er, same_re, same_rr, cond_t, cond_f, Bool.not_true, Bool.not_false]
    simp
  · simp (disch := (first | omega | (simp only [maxN_eq, List.length_append, List.length_cons, List.length_nil, List.length_set, List.length_replicate, List.length_take, List.length_drop]; omega))) only [gcd_eq m d hm hdl, one_eq, quoRem_eq m _ hm hgl hg0, quoRem_eq d _ hdl hgl hg0, grd_tt, grd_and, grd_dec, grd_ne, cond_dt, cond_df, cond_et, cond_ef, cond_nt, cond_nf, w64, wu64, wu32, wu8, tm, td, bind_some', same_ee, same_er, same_re, same_rr, cond_t, cond_f, Bool.not_true, Bool.not_false]
    simp [h1]

abbrev dd (n : Nat) : List UInt8 := Lib.decDigits n
theorem dd_small {n : Nat} (h : n < 10) : dd n = [UInt8.ofNat (48 + n)] := by unfold dd; rw [Lib.decDigits, dif_pos h]
theorem dd_big {n : Nat} (h : ¬ n < 10) : dd n = dd (n / 10) ++ [UInt8.ofNat (48 + n % 10)] := by unfold dd; rw [Lib.decDigits, dif_neg h]
theorem dig_of {k : Nat} (h : k < 10) : dig (UInt8.ofNat (48 + k)) = k ∧ isD (UInt8.ofNat (48 + k)) := by
  have : (UInt8.ofNat (48 + k)).toNat = 48 + k := by simp [UInt8.toNat_ofNat]; omega
  exact ⟨by unfold dig; omega, by unfold isD; omega⟩
theorem dd_ne (n : Nat) : dd n ≠ [] := by
  by_cases h : n < 10
  · rw [dd_small h]; simp
  · rw [dd_big h]; simp
theorem dd_D (n : Nat) : AllD (dd n) := by
  induction n using Nat.strongRecOn with
  | _ n ih =>
    by_cases h : n < 10
    · rw [dd_small h]; intro c hc; rw [List.mem_singleton.1 hc]; exact (dig_of h).2
    · rw [dd_big h]
      refine (ih (n / 10) (by omega)).app fun c hc => ?_
      rw [List.mem_singleton.1 hc]; exact (dig_of (by omega)).2
theorem dval_dd (n : Nat) : dval (dd n) = n := by
  induction n using Nat.strongRecOn with
  | _ n ih =>
    by_cases h : n < 10
    · rw [dd_small h, show [UInt8.ofNat (48 + n)] = [] ++ [UInt8.ofNat (48 + n)] from rfl, dval_snoc, (dig_of h).1]; simp [dval]
    · rw [dd_big h, dval_snoc, ih (n / 10) (by omega), (dig_of (by omega)).1]; omega
theorem dd_inj {m n : Nat} (h : dd m = dd n) : m = n := by rw [← dval_dd m, h, dval_dd]
theorem dd_zero : dd 0 = [48] := by rw [dd_small (by decide)]; rfl
theorem dd_one : dd 1 = [49] := by rw [dd_small (by decide)]; rfl
theorem dd_head {n : Nat} (h : n ≠ 0) : ∃ c s, dd n = c :: s ∧ isD c ∧ c ≠ 48 := by
  induction n using Nat.strongRecOn with
  | _ n ih =>
    by_cases h1 : n < 10
    · refine ⟨UInt8.ofNat (48 + n), [], dd_small h1, (dig_of h1).2, fun e => ?_⟩
      have := (dig_of h1).1
      rw [e] at this
      simp [dig] at this; omega
    · obtain ⟨c, s, e, hc⟩ := ih (n / 10) (by omega) (by omega)
      exact ⟨c, s ++ [UInt8.ofNat (48 + n % 10)], by rw [dd_big h1, e]; rfl, hc⟩

theorem dd_of {s : List UInt8} (hd : AllD s) (hne : s ≠ []) (hc : s = [48] ∨ s.head? ≠ some 48) : s = dd (dval s) := by
  rcases hc with rfl | hc
  · rw [show dval [48] = 0 from rfl, dd_zero]
  · have key : ∀ (n : Nat) (s : List UInt8), s.length = n → AllD s → s ≠ [] → s.head? ≠ some 48 → s = dd (dval s) ∧ dval s ≠ 0 := by
      intro n
      induction n with
      | zero => intro s hl _ hne; exact absurd (List.eq_nil_of_length_eq_zero hl) hne
      | succ n ih =>
        intro s hl hd hne hc
        obtain ⟨t, c, rfl⟩ : ∃ t c, s = t ++ [c] := ⟨s.dropLast, s.getLast hne, (List.dropLast_concat_getLast hne).symm⟩
        have hcd : isD c := hd c (by simp)
        have hcl := dig_lt hcd
        have hofc : UInt8.ofNat (48 + dig c) = c := by
          have h1 := hcd.1
          have : 48 + dig c = c.toNat := by unfold dig; omega
          rw [this]; simp
        by_cases ht : t = []
        · subst ht
          have h0 : dig c ≠ 0 := by
            intro e
            apply hc
            have h1 := hcd.1
            have h2 : c.toNat = 48 := by unfold dig at e; omega
            simp only [List.nil_append, List.head?_cons, Option.some.injEq]
            exact UInt8.toNat_inj.1 h2
          rw [dval_snoc, dval_nil]
          refine ⟨?_, by omega⟩
          rw [dd_small (by omega)]
          simp [hofc]
        · obtain ⟨e1, e2⟩ := ih t (by simpa using hl) (fun x hx => hd x (by simp [hx])) ht (by
            cases t with
            | nil => exact absurd rfl ht
            | cons x t => simpa using hc)
          rw [dval_snoc]
          refine ⟨?_, by omega⟩
          rw [dd_big (by omega), show (10 * dval t + dig c) / 10 = dval t by omega, show (10 * dval t + dig c) % 10 = dig c by omega, ← e1, hofc]
    exact (key _ s rfl hd hne hc).1
theorem dd_lt_len {n k : Nat} (h : n < 10 ^ k) (hk : 0 < k) : (dd n).length ≤ k := by
  induction k generalizing n with
  | zero => omega
  | succ k ih =>
    by_cases h1 : n < 10
    · rw [dd_small h1]; simp
    · rw [dd_big h1, List.length_append]
      have hk0 : 0 < k := by
        rcases Nat.eq_zero_or_pos k with h0 | h0
        · subst h0; simp at h; omega
        · exact h0
      have := ih (n := n / 10) (by rw [Nat.pow_succ] at h; omega) hk0
      simp; omega
theorem dd_len_lt (n : Nat) : n < 10 ^ (dd n).length := by
  have := dval_lt (dd_D n)
  rwa [dval_dd] at this
theorem dd_len_pos (n : Nat) : 0 < (dd n).length := List.length_pos_iff.2 (dd_ne n)
theorem dd_len_mono {m n : Nat} (h : m ≤ n) : (dd m).length ≤ (dd n).length := dd_lt_len (Nat.lt_of_le_of_lt h (dd_len_lt n)) (dd_len_pos n)
theorem dd_len_add (m n : Nat) : (dd (m + n)).length ≤ max (dd m).length (dd n).length + 1 := by
  apply dd_lt_len _ (by omega)
  have h1 := dd_len_lt m
  have h2 := dd_len_lt n
  have h3 : 10 ^ (dd m).length ≤ 10 ^ (max (dd m).length (dd n).length) := Nat.pow_le_pow_right (by decide) (by omega)
  have h4 : 10 ^ (dd n).length ≤ 10 ^ (max (dd m).length (dd n).length) := Nat.pow_le_pow_right (by decide) (by omega)
  rw [Nat.pow_succ]; omega
theorem dd_len_mul (m n : Nat) : (dd (m * n)).length ≤ (dd m).length + (dd n).length := by
  apply dd_lt_len _ (by have := dd_len_pos m; omega)
  rw [Nat.pow_add]
  exact Nat.mul_lt_mul'' (dd_len_lt m) (dd_len_lt n)
theorem limbs_le_dd (n : Nat) : (limbs n).length ≤ (dd n).length := by
  apply limbs_len_le
  rw [bp_ten]
  have h1 := dd_len_lt n
  have h2 : 10 ^ (dd n).length ≤ 10 ^ (9 * (dd n).length) := Nat.pow_le_pow_right (by decide) (by omega)
  omega

theorem pad9_D {y : Int} (h : 0 ≤ y ∧ y < 1000000000) : AllD (pad9 y) := by
  unfold pad9
  refine AllD.app (fun c hc => ?_) (dd_D _)
  rw [List.eq_of_mem_replicate hc]
  exact ⟨by decide, by decide⟩
theorem dval_zeros (k : Nat) (s : List UInt8) : dval (List.replicate k 48 ++ s) = dval s := by
  rw [dval_app]
  have : dval (List.replicate k 48) = 0 := by
    induction k with
    | zero => rfl
    | succ k ih => rw [List.replicate_succ', dval_snoc, ih]; rfl
  rw [this]; simp
theorem pad9_len {y : Int} (h : 0 ≤ y ∧ y < 1000000000) : (pad9 y).length = 9 := by
  have : (dd y.toNat).length ≤ 9 := dd_lt_len (by simp; omega) (by decide)
  unfold pad9
  simp; unfold dd at this; omega
theorem dval_pad9 (y : Int) : dval (pad9 y) = y.toNat := by unfold pad9; rw [dval_zeros]; exact dval_dd _
theorem dd_step {n : Nat} (h : n / 1000000000 ≠ 0) : dd n = dd (n / 1000000000) ++ pad9 ((n % 1000000000 : Nat) : Int) := by
  have hb : 0 ≤ ((n % 1000000000 : Nat) : Int) ∧ ((n % 1000000000 : Nat) : Int) < 1000000000 := by omega
  obtain ⟨c, s, e, _, hc⟩ := dd_head h
  have hv : dval (dd (n / 1000000000) ++ pad9 ((n % 1000000000 : Nat) : Int)) = n := by
    rw [dval_app, dval_dd, dval_pad9, pad9_len hb]
    simp; omega
  have := dd_of (s := dd (n / 1000000000) ++ pad9 ((n % 1000000000 : Nat) : Int)) ((dd_D _).app (pad9_D hb)) (by simp [dd_ne]) (.inr (by rw [e]; simpa using hc))
  rw [hv] at this
  exact this.symm
theorem natText_limbs (n : Nat) : natText (limbs n) = dd n := by
  induction n using Nat.strongRecOn with
  | _ n ih =>
    by_cases h0 : n = 0
    · subst h0; rw [limbs_zero, dd_zero]; rfl
    · by_cases h1 : n / 1000000000 = 0
      · rw [limbs_small h0 (by omega)]
        show Lib.decDigits ((n : Int)).toNat ++ [] = _
        simp
      · rw [dd_step h1, ← ih (n / 1000000000) (by omega), limbs_pos h0]
        unfold natText
        rw [List.reverse_cons]
        cases hr : (limbs (n / 1000000000)).reverse with
        | nil => exact absurd (limbs_nil.1 (by simpa using hr)) h1
        | cons x r => simp
abbrev bs (s : List UInt8) : List Int := s.map fun c => ((c.toNat : Nat) : Int)
theorem bs_app (a b : List UInt8) : bs (a ++ b) = bs a ++ bs b := by simp [bs]
theorem copy_eq (l : List Int) : strings_Builder_copyCheck ((), l) = some ((), ((), l), ()) := rfl
theorem ws_eq (t s : List UInt8) (h : t.length + s.length ≤ 68719476736) : strings_Builder_WriteString ((), bs t) s = some (((s.length : Int), false, ()), ((), bs (t ++ s)), ()) := by
  unfold strings_Builder_WriteString
  rw [copy_eq]
  simp only [bind_some', bs_app]
  rw [grd_dec (by rw [maxN_eq]; simp [bs]; omega)]
theorem bstr_eq (s : List UInt8) (h : s ≠ []) : strings_Builder_String ((), bs s) = some ((s, ()), ()) := by
  unfold strings_Builder_String
  rw [grd_dec (by have := List.length_pos_iff.2 h; simpa [bs] using this)]
  have : (bs s).map (fun n => UInt8.ofNat n.toNat) = s := by
    simp only [bs, List.map_map]
    conv => rhs; rw [← List.map_id s]
    apply List.map_congr_left
    intro c _
    simp
  simp only [this]
theorem fmtU_eq {v : Int} (h0 : 0 ≤ v) (h : v < 1000000000) : strconv_FormatUint (IntKind.u64.wrap v) 10 = some ((dd v.toNat, ()), ()) := by
  rw [wu64 ⟨h0, by omega⟩]
  unfold strconv_FormatUint
  rw [if_pos ⟨h0, by omega, rfl⟩]
theorem text_s6 {v : Int} (i : Nat) (t : List UInt8) (h0 : 0 ≤ v) (h : v < 1000000000) (hl : t.length + 9 ≤ 68719476736) : n_nat_text_s6 v i (((), bs t), ()) = some (((), bs (t ++ pad9 v)), ()) := by
  have hd : (dd v.toNat).length ≤ 9 := dd_lt_len (k := 9) (by omega) (by decide)
  unfold n_nat_text_s6
  simp only [fmtU_eq h0 h, bind_some']
  rw [grd_and, grd_dec (by omega), grd_dec (by simp; omega)]
  have hz : ([48, 48, 48, 48, 48, 48, 48, 48, 48] : List UInt8).drop ((dd v.toNat).length : Int).toNat = List.replicate (9 - (dd v.toNat).length) 48 := by
    rw [Int.toNat_natCast]
    rw [show ([48, 48, 48, 48, 48, 48, 48, 48, 48] : List UInt8) = List.replicate 9 48 from rfl, List.drop_replicate]
  rw [hz, ws_eq t _ (by simp; omega)]
  simp only [bind_some']
  rw [ws_eq _ _ (by simp; omega)]
  simp only [bind_some', pad9, List.append_assoc]
theorem text_fold : ∀ (l : List (Int × Nat)) (t : List UInt8), (∀ p ∈ l, 0 ≤ p.1 ∧ p.1 < 1000000000) → t.length + 9 * l.length ≤ 68719476736 →
    foldO (fun p y => (n_nat_text_s6 p.1 p.2 y).bind fun o => some (n_nat_text_s6_M y o)) l (((), bs t), ()) = some (((), bs (t ++ (l.map fun p => pad9 p.1).flatten)), ())
  | [], t, _, _ => by simp [foldO]
  | p :: l, t, h, hl => by
    have hp := h p List.mem_cons_self
    simp only [List.length_cons] at hl
    simp only [foldO]
    rw [text_s6 p.2 t hp.1 hp.2 (by omega)]
    simp only [bind_some']
    show foldO _ l (((), bs (t ++ pad9 p.1)), ()) = _
    rw [text_fold l _ (fun q hq => h q (List.mem_cons_of_mem _ hq)) (by rw [List.length_append, pad9_len hp]; omega)]
    simp
theorem text_eq (n : Nat) (h : (limbs n).length ≤ 1000000000) : n_nat_text (limbs n) = some ((dd n, ()), ()) := by
  rw [← natText_limbs]
  have hw := limbs_wf n
  generalize limbs n = l at h hw
  unfold n_nat_text
  rcases List.eq_nil_or_concat l with rfl | ⟨r, x, rfl⟩
  · rfl
  · rw [List.concat_eq_append] at h hw ⊢
    have hx := hw x (by simp)
    have hr : ∀ y ∈ r, 0 ≤ y ∧ y < 1000000000 := fun y hy => hw y (by simp [hy])
    simp only [List.length_append, List.length_singleton] at h ⊢
    rw [cond_ef (by omega), w64 (by omega)]
    have e1 : ((r.length + 1 : Nat) : Int) - 1 = (r.length : Int) := by omega
    rw [e1]
    rw [grd_and, grd_dec (by omega), grd_dec (by omega)]
    have e2 : (r ++ [x]).getD (r.length : Int).toNat 0 = x := by rw [Int.toNat_natCast]; simp [List.getD]
    rw [e2, fmtU_eq hx.1 hx.2]
    simp only [bind_some']
    have hd : (dd x.toNat).length ≤ 9 := dd_lt_len (k := 9) (by omega) (by decide)
    rw [show (((), ([] : List Int)) : Unit × List Int) = ((), bs []) from rfl, ws_eq [] _ (by simp; omega)]
    simp only [bind_some', List.nil_append]
    rw [grd_and, grd_dec (by omega), grd_dec (by omega), Int.toNat_natCast, List.take_left' rfl, grd_dec (by rw [maxN_eq]; omega)]
    rw [text_fold _ _ (fun p hp => hr p.1 (by
      have := List.mem_reverse.1 hp
      exact List.fst_mem_of_mem_zipIdx this)) (by simp; omega)]
    simp only [bind_some', n_nat_text_s6_O]
    rw [bstr_eq _ (by simp [dd_ne])]
    simp only [bind_some']
    have e3 : (r.zipIdx.reverse.map fun p => pad9 p.1) = r.reverse.map pad9 := by
      rw [List.map_reverse, List.map_reverse]
      congr 1
      have : (r.zipIdx.map fun p => pad9 p.1) = (r.zipIdx.map Prod.fst).map pad9 := by rw [List.map_map]; rfl
      rw [this, List.zipIdx_map_fst]
    rw [e3]
    simp [natText]
end Go.AM.Num
end
section
set_option linter.unusedSimpArgs false
set_option linter.unusedVariables false
namespace Go.AM.Num

def txt (q : Rat) : List UInt8 := (if q.num < 0 then [45] else []) ++ dd q.num.natAbs ++ (if q.den = 1 then [] else 47 :: dd q.den)

def sg (neg : Bool) (m : Nat) : Int := if neg then -(m : Int) else m
def tx (neg : Bool) (m d : Nat) : List UInt8 := (if neg = true ∧ m ≠ 0 then [45] else []) ++ dd m ++ (if d = 1 then [] else 47 :: dd d)
theorem sg_natAbs (neg : Bool) (m : Nat) : (sg neg m).natAbs = m := by cases neg <;> simp [sg]
theorem sg_neg_iff (neg : Bool) (m : Nat) : sg neg m < 0 ↔ neg = true ∧ m ≠ 0 := by
  cases neg <;> simp [sg] <;> omega
theorem sg_mul (a b : Bool) (m n : Nat) : sg a m * sg b n = sg (a != b) (m * n) := by
  cases a <;> cases b <;> simp [sg, Int.neg_mul, Int.mul_neg]
theorem sg_self (q : Rat) : sg (decide (q.num < 0)) q.num.natAbs = q.num := by
  unfold sg
  by_cases h : q.num < 0
  · rw [decide_eq_true h]; simp; omega
  · rw [decide_eq_false h]; simp; omega
theorem sg_div (neg : Bool) (m g : Nat) (h : g ∣ m) : sg neg m / (g : Int) = sg neg (m / g) := by
  cases neg with
  | false => simp [sg]
  | true =>
    simp only [sg, if_true]
    rw [Int.neg_ediv_of_dvd (Int.natCast_dvd_natCast.2 h), ← Int.natCast_ediv]

theorem tx_lowest (neg : Bool) (m d : Nat) (hd : d ≠ 0) : tx neg (m / Nat.gcd m d) (d / Nat.gcd m d) = txt (mkRat (sg neg m) d) := by
  have hn : (mkRat (sg neg m) d).num = sg neg (m / Nat.gcd m d) := by
    rw [Rat.num_mkRat, if_neg hd, sg_natAbs, Nat.gcd_comm d m, sg_div _ _ _ (Nat.gcd_dvd_left m d)]
  have hde : (mkRat (sg neg m) d).den = d / Nat.gcd m d := by
    rw [Rat.den_mkRat, if_neg hd, sg_natAbs, Nat.gcd_comm d m]
  unfold txt tx
  rw [hn, hde, sg_natAbs]
  simp only [sg_neg_iff]
theorem tx_coprime (neg : Bool) (m d : Nat) (hd : d ≠ 0) (hg : Nat.gcd m d = 1) : tx neg m d = txt (mkRat (sg neg m) d) := by
  have := tx_lowest neg m d hd
  rwa [hg, Nat.div_one, Nat.div_one] at this

theorem not_47 {n : Nat} : (47 : UInt8) ∉ dd n := fun h => by have := (dd_D n _ h).1; simp at this
theorem not_45 {n : Nat} : (45 : UInt8) ∉ dd n := fun h => by have := (dd_D n _ h).1; simp at this
theorem dd_not45 (n : Nat) (r : List UInt8) (s : List UInt8) : dd n ++ r ≠ 45 :: s := by
  intro h
  cases e : dd n with
  | nil => exact dd_ne n e
  | cons c t =>
    rw [e] at h
    simp only [List.cons_append, List.cons.injEq] at h
    have : (45 : UInt8) ∈ dd n := by rw [e, h.1]; simp
    exact not_45 this
theorem append_47 {a b x y : List UInt8} (ha : (47 : UInt8) ∉ a) (hx : (47 : UInt8) ∉ x) (h : a ++ 47 :: b = x ++ 47 :: y) : a = x ∧ b = y := by
  induction a generalizing x with
  | nil =>
    cases x with
    | nil => simpa using h
    | cons c x => simp only [List.nil_append, List.cons_append, List.cons.injEq] at h; exact absurd (h.1 ▸ List.mem_cons_self) hx
  | cons c a ih =>
    cases x with
    | nil => simp only [List.nil_append, List.cons_append, List.cons.injEq] at h; exact absurd (h.1 ▸ List.mem_cons_self) ha
    | cons e x =>
      simp only [List.cons_append, List.cons.injEq] at h
      obtain ⟨h1, h2⟩ := ih (fun hm => ha (List.mem_cons_of_mem _ hm)) (fun hm => hx (List.mem_cons_of_mem _ hm)) h.2
      exact ⟨by rw [h.1, h1], h2⟩
theorem txt_inj {p q : Rat} (h : txt p = txt q) : p = q := by
  unfold txt at h
  have hs : (p.num < 0 ↔ q.num < 0) := by
    by_cases h1 : p.num < 0 <;> by_cases h2 : q.num < 0
    · simp [h1, h2]
    · rw [if_pos h1, if_neg h2] at h
      simp only [List.nil_append, List.append_assoc, List.cons_append] at h
      exact absurd h.symm (dd_not45 _ _ _)
    · rw [if_neg h1, if_pos h2] at h
      simp only [List.nil_append, List.append_assoc, List.cons_append] at h
      exact absurd h (dd_not45 _ _ _)
    · simp [h1, h2]
  have h' : dd p.num.natAbs ++ (if p.den = 1 then [] else 47 :: dd p.den) = dd q.num.natAbs ++ (if q.den = 1 then [] else 47 :: dd q.den) := by
    by_cases h1 : p.num < 0
    · rw [if_pos h1, if_pos (hs.1 h1)] at h
      simpa using h
    · rw [if_neg h1, if_neg (fun h2 => h1 (hs.2 h2))] at h
      simpa using h
  have key : p.num.natAbs = q.num.natAbs ∧ p.den = q.den := by
    by_cases h1 : p.den = 1 <;> by_cases h2 : q.den = 1
    · rw [if_pos h1, if_pos h2] at h'
      simp only [List.append_nil] at h'
      exact ⟨dd_inj h', by omega⟩
    · rw [if_pos h1, if_neg h2] at h'
      simp only [List.append_nil] at h'
      exact absurd (show (47 : UInt8) ∈ dd p.num.natAbs by rw [h']; simp) not_47
    · rw [if_neg h1, if_pos h2] at h'
      simp only [List.append_nil] at h'
      exact absurd (show (47 : UInt8) ∈ dd q.num.natAbs by rw [← h']; simp) not_47
    · rw [if_neg h1, if_neg h2] at h'
      obtain ⟨e1, e2⟩ := append_47 not_47 not_47 h'
      exact ⟨dd_inj e1, dd_inj e2⟩
  exact Rat.ext (by omega) key.2
open Classical in

noncomputable def rd (a : List UInt8) : Option Rat := if h : ∃ q, a = txt q then some h.choose else none
theorem rd_txt (q : Rat) : rd (txt q) = some q := by
  have h : ∃ p, txt q = txt p := ⟨q, rfl⟩
  unfold rd
  rw [dif_pos h]
  exact congrArg some (txt_inj h.choose_spec).symm
theorem rd_some {a : List UInt8} {q : Rat} (h : rd a = some q) : a = txt q := by
  unfold rd at h
  split at h
  · rename_i hh
    have := hh.choose_spec
    rw [Option.some.inj h] at this
    exact this
  · cases h
theorem rd_none {a : List UInt8} (h : ∀ q, a ≠ txt q) : rd a = none := by
  cases e : rd a with
  | none => rfl
  | some q => exact absurd (rd_some e) (h q)

def D (q : Rat) : Nat := (dd q.num.natAbs).length + (dd q.den).length
theorem txt_len (q : Rat) : (txt q).length ≤ D q + 2 := by
  unfold txt D
  simp only [List.length_append]
  have h1 : (if q.num < 0 then [(45 : UInt8)] else []).length ≤ 1 := by split <;> simp
  have h2 : (if q.den = 1 then ([] : List UInt8) else 47 :: dd q.den).length ≤ (dd q.den).length + 1 := by split <;> simp
  omega
theorem D_le (q : Rat) : D q ≤ (txt q).length + 1 := by
  unfold txt D
  simp only [List.length_append]
  by_cases h : q.den = 1
  · rw [if_pos h, h, dd_one]; simp
  · rw [if_neg h]; simp; omega
theorem D_mk (n : Int) (d : Nat) (hd : d ≠ 0) : D (mkRat n d) ≤ (dd n.natAbs).length + (dd d).length := by
  unfold D
  rw [Rat.num_mkRat, Rat.den_mkRat, if_neg hd, if_neg hd]
  have h1 : (n / (d.gcd n.natAbs : Nat)).natAbs ≤ n.natAbs := by
    obtain ⟨k, hk⟩ : ((d.gcd n.natAbs : Nat) : Int) ∣ n := by
      have := Nat.gcd_dvd_right d n.natAbs
      exact Int.ofNat_dvd_left.2 this
    have hg : ((d.gcd n.natAbs : Nat) : Int) ≠ 0 := fun e => hd (Nat.gcd_eq_zero_iff.1 (by exact_mod_cast e)).1
    have e1 : n / (d.gcd n.natAbs : Nat) = k := by
      conv => lhs; lhs; rw [hk]
      exact Int.mul_ediv_cancel_left _ hg
    rw [e1]
    conv => rhs; rw [hk, Int.natAbs_mul]
    exact Nat.le_mul_of_pos_left _ (by omega)
  have h2 := Nat.div_le_self d (d.gcd n.natAbs)
  have := dd_len_mono h1
  have := dd_len_mono h2
  omega
theorem natAbs_add_le (a b : Int) : (a + b).natAbs ≤ a.natAbs + b.natAbs := by omega
theorem D_add (p q : Rat) : D (p + q) ≤ 2 * (D p + D q) + 1 := by
  rw [Rat.add_def']
  refine Nat.le_trans (D_mk _ _ (Nat.mul_ne_zero p.den_nz q.den_nz)) ?_
  have h1 := dd_len_mono (natAbs_add_le (p.num * q.den) (q.num * p.den))
  have h2 := dd_len_add (p.num * q.den).natAbs (q.num * p.den).natAbs
  rw [Int.natAbs_mul, Int.natAbs_mul, Int.natAbs_natCast, Int.natAbs_natCast] at h1 h2
  have h3 := dd_len_mul p.num.natAbs q.den
  have h4 := dd_len_mul q.num.natAbs p.den
  have h5 := dd_len_mul p.den q.den
  unfold D
  omega
theorem D_mul (p q : Rat) : D (p * q) ≤ D p + D q := by
  rw [Rat.mul_def']
  refine Nat.le_trans (D_mk _ _ (Nat.mul_ne_zero p.den_nz q.den_nz)) ?_
  have h1 := dd_len_mul p.num.natAbs q.num.natAbs
  have h5 := dd_len_mul p.den q.den
  rw [Int.natAbs_mul]
  unfold D
  omega
theorem D_neg (q : Rat) : D (-q) = D q := by unfold D; rw [Rat.neg_num, Rat.neg_den, Int.natAbs_neg]
theorem D_int (n : Int) : D (n : Rat) = (dd n.natAbs).length + 1 := by
  unfold D; rw [Rat.num_intCast, Rat.den_intCast, dd_one]; rfl
end Go.AM.Num
end
