/- Helpers of this claim: an abstract machine over the model, proved sound; what it computes. Part 6. -/
import Derived.Test.YthdbgkfinpbggaaGreatSAm4
import Derived.KernelRfl
set_option linter.unusedVariables false
set_option linter.unusedSimpArgs false
namespace Go.Proofs.AM
open Go
set_option maxRecDepth 100000
noncomputable section
abbrev D (t : Ty) : Type := den E.Γ t
abbrev RunT : Type := FuncId → List (Arg E) → Res E
abbrev f_w22_ConditionSimplify : FuncId := 9
abbrev f_w22_awake : FuncId := 11
abbrev f_r22_Few : FuncId := 13
abbrev f_r21_Few : FuncId := 14
abbrev f_condition_Valid : FuncId := 15
abbrev f_condition_Satisfies : FuncId := 18
abbrev f_condition_Witness : FuncId := 20
abbrev f_condition_CheckWitness : FuncId := 23
abbrev f_search_Extend : FuncId := 29
abbrev f_condition_Simplify : FuncId := 31
abbrev f_r22_Simplify : FuncId := 32
abbrev f_r22_Same : FuncId := 33
abbrev f_condition_Same : FuncId := 34
abbrev f_r04_Example : FuncId := 35
abbrev f_w22_another : FuncId := 36
abbrev f_r22_left : FuncId := 37
abbrev f_r05_Few : FuncId := 38
abbrev f_attribute_Valid : FuncId := 39
abbrev f_condition_shape : FuncId := 40
abbrev f_condition_inside : FuncId := 41
abbrev f_r22_Shape : FuncId := 43
abbrev f_condition_given : FuncId := 47
abbrev f_condition_scene_witness : FuncId := 48
abbrev f_condition_scene_right : FuncId := 51
abbrev f_search_valid : FuncId := 62
abbrev f_search_open : FuncId := 63
abbrev f_search_all : FuncId := 64
abbrev f_condition_simplify : FuncId := 68
abbrev f_r22_simple : FuncId := 69
abbrev f_r06_Same : FuncId := 70
abbrev f_r21_Same : FuncId := 71
abbrev f_morphism_Same : FuncId := 72
abbrev f_slices_Equal_int : FuncId := 73
abbrev f_slices_Equal_Edge : FuncId := 74
abbrev f_slices_Equal_Slot : FuncId := 75
abbrev f_slices_Equal_Test : FuncId := 76
abbrev f_slices_EqualFunc_Condition : FuncId := 77
abbrev f_r06_Few : FuncId := 78
abbrev f_types_Valid : FuncId := 79
abbrev f_graph_Valid : FuncId := 80
abbrev f_slices_ContainsFunc_int : FuncId := 81
abbrev f_attribute_Valid_1 : FuncId := 82
abbrev f_slices_ContainsFunc_Edge : FuncId := 83
abbrev f_attribute_Valid_2 : FuncId := 84
abbrev f_attribute_within : FuncId := 85
abbrev f_attribute_attr : FuncId := 86
abbrev f_difference_Valid : FuncId := 87
abbrev f_slices_Contains_bool : FuncId := 88
abbrev f_condition_wellFormed : FuncId := 89
abbrev f_condition_measure : FuncId := 90
abbrev f_condition_pattern : FuncId := 91
abbrev f_morphism_Valid : FuncId := 92
abbrev f_morphism_Injective : FuncId := 93
abbrev f_r22_allRight : FuncId := 101
abbrev f_r22_Measure : FuncId := 102
abbrev f_host_Valid : FuncId := 108
abbrev f_search_Check : FuncId := 109
abbrev f_attribute_Solve : FuncId := 110
abbrev f_condition_scene_extended : FuncId := 111
abbrev f_r05_SameInts : FuncId := 113
abbrev f_condition_unmatched : FuncId := 114
abbrev f_condition_scene_extensions : FuncId := 115
abbrev f_slices_ContainsFunc_Match : FuncId := 116
abbrev f_condition_scene_right_1 : FuncId := 117
abbrev f_condition_sameMatch : FuncId := 118
abbrev f_r22_True : FuncId := 128
abbrev f_search_within : FuncId := 131
abbrev f_search_open_1 : FuncId := 132
abbrev f_search_found : FuncId := 133
abbrev f_condition_list : FuncId := 135
abbrev f_condition_isNo : FuncId := 136
abbrev f_condition_no : FuncId := 137
abbrev f_slices_Clone_int : FuncId := 138
abbrev f_condition_copied : FuncId := 139
abbrev f_condition_yes : FuncId := 140
abbrev f_r22_connected : FuncId := 141
abbrev f_r22_False : FuncId := 142
abbrev f_r02_SameInts : FuncId := 143
abbrev f_r05_Same : FuncId := 144
abbrev f_types_node : FuncId := 145
abbrev f_types_edge : FuncId := 146
abbrev f_graph_Valid_1 : FuncId := 147
abbrev f_graph_within : FuncId := 148
abbrev f_graph_Valid_2 : FuncId := 149
abbrev f_graph_fits : FuncId := 150
abbrev f_slices_IndexFunc_int : FuncId := 151
abbrev f_slices_IndexFunc_Edge : FuncId := 152
abbrev f_types_Attrs : FuncId := 153
abbrev f_difference_one : FuncId := 154
abbrev f_slices_Index_bool : FuncId := 155
abbrev f_condition_bare : FuncId := 156
abbrev f_slices_ContainsFunc_Condition : FuncId := 157
abbrev f_condition_wellFormed_1 : FuncId := 158
abbrev f_slices_ContainsFunc_Slot : FuncId := 159
abbrev f_condition_pattern_1 : FuncId := 160
abbrev f_morphism_images : FuncId := 161
abbrev f_r22_right : FuncId := 167
abbrev f_host_node : FuncId := 173
abbrev f_types_Fits : FuncId := 174
abbrev f_search_shape : FuncId := 175
abbrev f_search_twice : FuncId := 176
abbrev f_attribute_given : FuncId := 177
abbrev f_attribute_solve : FuncId := 178
abbrev f_condition_placed : FuncId := 181
abbrev f_condition_scene_values : FuncId := 182
abbrev f_slices_IndexFunc_Match : FuncId := 183
abbrev f_search_within_1 : FuncId := 195
abbrev f_search_within_2 : FuncId := 196
abbrev f_search_below : FuncId := 197
abbrev f_search_finder_find : FuncId := 198
abbrev f_condition_isYes : FuncId := 202
abbrev f_condition_list_1 : FuncId := 203
abbrev f_slices_Clone_Edge : FuncId := 204
abbrev f_slices_Clone_Slot : FuncId := 205
abbrev f_slices_Clone_Test : FuncId := 206
abbrev f_token_IsName : FuncId := 207
abbrev f_slices_ContainsFunc_NodeType : FuncId := 208
abbrev f_types_node_1 : FuncId := 209
abbrev f_types_attrs : FuncId := 210
abbrev f_types_attribute : FuncId := 211
abbrev f_types_edge_1 : FuncId := 212
abbrev f_slices_ContainsFunc_EdgeType : FuncId := 213
abbrev f_types_edge_2 : FuncId := 214
abbrev f_types_bounded : FuncId := 215
abbrev f_types_given : FuncId := 216
abbrev f_slices_Clone_string : FuncId := 217
abbrev f_difference_term : FuncId := 218
abbrev f_slices_IndexFunc_Condition : FuncId := 219
abbrev f_slices_IndexFunc_Slot : FuncId := 220
abbrev f_slices_Sort_int : FuncId := 221
abbrev f_slices_Compact_int : FuncId := 222
abbrev f_r22_unused : FuncId := 227
abbrev f_types_is : FuncId := 229
abbrev f_attribute_value : FuncId := 232
abbrev f_difference_Holds : FuncId := 233
abbrev f_slices_Repeat_int : FuncId := 235
abbrev f_attribute_Term : FuncId := 236
abbrev f_types_Below : FuncId := 239
abbrev f_search_given : FuncId := 240
abbrev f_slices_Contains_int : FuncId := 241
abbrev f_search_finder_possible : FuncId := 242
abbrev f_search_finder_fits : FuncId := 243
abbrev f_token_whole : FuncId := 244
abbrev f_slices_IndexFunc_NodeType : FuncId := 245
abbrev f_slices_ContainsFunc_Attr : FuncId := 246
abbrev f_types_attribute_1 : FuncId := 247
abbrev f_types_names : FuncId := 248
abbrev f_slices_IndexFunc_EdgeType : FuncId := 249
abbrev f_types_given_1 : FuncId := 250
abbrev f_types_line : FuncId := 256
abbrev f_difference_Holds_1 : FuncId := 259
abbrev f_difference_wide : FuncId := 260
abbrev f_cmp_Or_int : FuncId := 261
abbrev f_cmp_Compare_int : FuncId := 262
abbrev f_cmp_Compare_uint64 : FuncId := 263
abbrev f_math_bits_Mul : FuncId := 264
abbrev f_slices_Index_int : FuncId := 265
abbrev f_token_next : FuncId := 266
abbrev f_slices_IndexFunc_Attr : FuncId := 267
abbrev f_slices_Contains_string : FuncId := 268
abbrev f_slices_Reverse_int : FuncId := 282
abbrev f_math_bits_Add64 : FuncId := 284
abbrev f_cmp_isNaN_int : FuncId := 285
abbrev f_cmp_isNaN_uint64 : FuncId := 286
abbrev f_math_bits_Mul64 : FuncId := 288
abbrev f_token_letter : FuncId := 289
abbrev f_token_run : FuncId := 290
abbrev f_token_part : FuncId := 291
abbrev f_token_digit : FuncId := 292
abbrev f_token_quoted : FuncId := 293
abbrev f_token_pair : FuncId := 294
abbrev f_strings_IndexByte : FuncId := 295
abbrev f_slices_Index_string : FuncId := 296
abbrev f_token_quoted_1 : FuncId := 307
end
end Go.Proofs.AM

namespace Go.Proofs.AM
open Go
set_option maxRecDepth 100000
noncomputable section
def b_token_letter (R : RunT) (x0 : D tU8) : Res E :=
  (some ⟨.bool, (cond (cond (decide ((97 : Int) ≤ x0)) (decide (x0 ≤ (122 : Int))) false) true (cond (decide ((65 : Int) ≤ x0)) (decide (x0 ≤ (90 : Int))) false))⟩)
theorem e_token_letter (k : Nat) (x0 : D tU8) : run M (k + 1) f_token_letter [.val tU8 x0] = b_token_letter (run M k) x0 := by kernel_rfl
abbrev V_token_run_0 := (D .str) → FuncId → (List (Dt E)) → (D tI) → Res E
def lp_token_run_0 (k j : Nat) : V_token_run_0 := fun v0 v1f v1c v5 =>
  loopAt M k 290 0 [] [] j ⟨20, [(0, .c (.leaf .str v0)), (1, .c (.fnd v1f v1c)), (5, .c (.leaf tI v5))], []⟩
def s_token_run_0 (R : RunT) (self : V_token_run_0) : V_token_run_0 := fun v0 v1f v1c v5 =>
  (cond ((inB v5 (v0.size : Int)) || !(decide (v5 < (v0.size : Int)))) (Option.bind (cond (decide (v5 < (v0.size : Int))) (res .bool (R v1f ([.val tU8 (bt v0 v5)] ++ capArgs v1c))) (some (dflt E .bool))) (fun r1 => (cond (cond (decide (v5 < (v0.size : Int))) r1 false) (self v0 v1f v1c (IntKind.i64.wrap (v5 + (1 : Int)))) (some ⟨tI, v5⟩)))) none)
def l_token_run_0 (R : RunT) : Nat → V_token_run_0
  | 0 => fun _ _ _ _ => none
  | j + 1 => s_token_run_0 R (l_token_run_0 R j)
def b_token_run (R : RunT) (c0 : V_token_run_0) (x0 : D .str) (x1 : FuncId) (x1c : List (Dt E)) : Res E :=
  (c0 x0 x1 x1c (0 : Int))
theorem lp_token_run_0_eq (k j0 : Nat) : lp_token_run_0 k j0 = l_token_run_0 (run M k) j0 := by
  induction j0 with
  | zero => kernel_rfl
  | succ j0 ih => exact Eq.trans (b := s_token_run_0 (run M k) (lp_token_run_0 k j0)) (by kernel_rfl) (by simp only [ih]; rfl)
theorem e_token_run (k : Nat) (x0 : D .str) (x1 : FuncId) (x1c : List (Dt E)) : run M (k + 1) f_token_run [.val .str x0, .fn x1 x1c] = b_token_run (run M k) (l_token_run_0 (run M k) k) x0 x1 x1c :=
  Eq.trans (b := b_token_run (run M k) (lp_token_run_0 k k) x0 x1 x1c) (by kernel_rfl) (by simp only [lp_token_run_0_eq])
def b_token_digit (R : RunT) (x0 : D tU8) : Res E :=
  (some ⟨.bool, (cond (decide ((48 : Int) ≤ x0)) (decide (x0 ≤ (57 : Int))) false)⟩)
theorem e_token_digit (k : Nat) (x0 : D tU8) : run M (k + 1) f_token_digit [.val tU8 x0] = b_token_digit (run M k) x0 := by kernel_rfl
def b_token_part (R : RunT) (x0 : D tU8) : Res E :=
  (Option.bind (res .bool (R f_token_letter [.val tU8 x0])) (fun r1 => (Option.bind (cond (!r1) (res .bool (R f_token_digit [.val tU8 x0])) (some (dflt E .bool))) (fun r2 => (some ⟨.bool, (cond (cond r1 true r2) true (decide (x0 = (95 : Int))))⟩)))))
theorem e_token_part (k : Nat) (x0 : D tU8) : run M (k + 1) f_token_part [.val tU8 x0] = b_token_part (run M k) x0 := by kernel_rfl
def b_token_quoted_1 (R : RunT) (x0 : D tU8) : Res E :=
  (some ⟨.bool, (cond (cond (decide ((32 : Int) ≤ x0)) (decide (x0 ≤ (126 : Int))) false) (!(decide (x0 = (34 : Int)))) false)⟩)
theorem e_token_quoted_1 (k : Nat) (x0 : D tU8) : run M (k + 1) f_token_quoted_1 [.val tU8 x0] = b_token_quoted_1 (run M k) x0 := by kernel_rfl
def b_token_quoted (R : RunT) (x0 : D .str) : Res E :=
  (cond (inS (1 : Int) (x0.size : Int) (x0.size : Int)) (Option.bind (res tI (R f_token_run [.val .str (subS x0 (1 : Int) (x0.size : Int)), .fn f_token_quoted_1 []])) (fun r1 => (cond ((inB (IntKind.i64.wrap ((1 : Int) + r1)) (x0.size : Int)) || !(!(decide ((IntKind.i64.wrap ((1 : Int) + r1)) = (x0.size : Int))))) (cond (cond (decide ((IntKind.i64.wrap ((1 : Int) + r1)) = (x0.size : Int))) true (!(decide ((bt x0 (IntKind.i64.wrap ((1 : Int) + r1))) = (34 : Int))))) (some ⟨tTerm, ((0 : Int), (2 : Int))⟩) (cond (decide ((60 : Int) < r1)) (some ⟨tTerm, ((0 : Int), (3 : Int))⟩) (some ⟨tTerm, ((IntKind.i64.wrap (r1 + (2 : Int))), (0 : Int))⟩))) none))) none)
theorem e_token_quoted (k : Nat) (x0 : D .str) : run M (k + 1) f_token_quoted [.val .str x0] = b_token_quoted (run M k) x0 := by kernel_rfl
abbrev V_slices_Index_string_0 := (D (.slice .str)) → (D .str) → (D tI) → (D tI) → Res E
def lp_slices_Index_string_0 (k j : Nat) : V_slices_Index_string_0 := fun v0 v1 v7 v8 =>
  loopAt M k 296 0 [] [] j ⟨19, [(0, .c (.leaf (.slice .str) v0)), (1, .c (.leaf .str v1)), (7, .c (.leaf tI v7)), (8, .c (.leaf tI v8))], []⟩
def s_slices_Index_string_0 (R : RunT) (self : V_slices_Index_string_0) : V_slices_Index_string_0 := fun v0 v1 v7 v8 =>
  (cond (decide (v8 < v7)) (cond (inB v8 (v0.length : Int)) (cond (beqS v1 (rd (E := E) (t := .str) v0 v8)) (some ⟨tI, v8⟩) (self v0 v1 v7 (IntKind.i64.wrap (v8 + (1 : Int))))) none) (some ⟨tI, (-1 : Int)⟩))
def l_slices_Index_string_0 (R : RunT) : Nat → V_slices_Index_string_0
  | 0 => fun _ _ _ _ => none
  | j + 1 => s_slices_Index_string_0 R (l_slices_Index_string_0 R j)
def b_slices_Index_string (R : RunT) (c0 : V_slices_Index_string_0) (x0 : D (.slice .str)) (x1 : D .str) : Res E :=
  (c0 x0 x1 (x0.length : Int) (0 : Int))
theorem lp_slices_Index_string_0_eq (k j0 : Nat) : lp_slices_Index_string_0 k j0 = l_slices_Index_string_0 (run M k) j0 := by
  induction j0 with
  | zero => kernel_rfl
  | succ j0 ih => exact Eq.trans (b := s_slices_Index_string_0 (run M k) (lp_slices_Index_string_0 k j0)) (by kernel_rfl) (by simp only [ih]; rfl)
theorem e_slices_Index_string (k : Nat) (x0 : D (.slice .str)) (x1 : D .str) : run M (k + 1) f_slices_Index_string [.val (.slice .str) x0, .val .str x1] = b_slices_Index_string (run M k) (l_slices_Index_string_0 (run M k) k) x0 x1 :=
  Eq.trans (b := b_slices_Index_string (run M k) (lp_slices_Index_string_0 k k) x0 x1) (by kernel_rfl) (by simp only [lp_slices_Index_string_0_eq])
def b_slices_Contains_string (R : RunT) (x0 : D (.slice .str)) (x1 : D .str) : Res E :=
  (Option.bind (res tI (R f_slices_Index_string [.val (.slice .str) x0, .val .str x1])) (fun r1 => (some ⟨.bool, (decide ((0 : Int) ≤ r1))⟩)))
theorem e_slices_Contains_string (k : Nat) (x0 : D (.slice .str)) (x1 : D .str) : run M (k + 1) f_slices_Contains_string [.val (.slice .str) x0, .val .str x1] = b_slices_Contains_string (run M k) x0 x1 := by kernel_rfl
def b_token_pair (R : RunT) (x0 : D .str) : Res E :=
  (cond ((inS (0 : Int) (2 : Int) (x0.size : Int)) || !(decide ((2 : Int) ≤ (x0.size : Int)))) (Option.bind (cond (decide ((2 : Int) ≤ (x0.size : Int))) (res .bool (R f_slices_Contains_string [.val (.slice .str) ([(⟨#[45, 62]⟩ : ByteArray), (⟨#[60, 61]⟩ : ByteArray), (⟨#[62, 61]⟩ : ByteArray), (⟨#[61, 61]⟩ : ByteArray), (⟨#[33, 61]⟩ : ByteArray)] : List (D .str)), .val .str (subS x0 (0 : Int) (2 : Int))])) (some (dflt E .bool))) (fun r1 => (some ⟨.bool, (cond (decide ((2 : Int) ≤ (x0.size : Int))) r1 false)⟩))) none)
theorem e_token_pair (k : Nat) (x0 : D .str) : run M (k + 1) f_token_pair [.val .str x0] = b_token_pair (run M k) x0 := by kernel_rfl
def b_token_next (R : RunT) (x0 : D .str) : Res E :=
  (cond (inB (0 : Int) (x0.size : Int)) (Option.bind (res .bool (R f_token_letter [.val tU8 (bt x0 (0 : Int))])) (fun r1 => (cond r1 (Option.bind (res tI (R f_token_run [.val .str x0, .fn f_token_part []])) (fun r2 => (cond (decide ((20 : Int) < r2)) (some ⟨tEdge, ((0 : Int), ((0 : Int), (3 : Int)))⟩) (some ⟨tEdge, ((1 : Int), (r2, (0 : Int)))⟩)))) (Option.bind (res .bool (R f_token_digit [.val tU8 (bt x0 (0 : Int))])) (fun r3 => (cond r3 (Option.bind (res tI (R f_token_run [.val .str x0, .fn f_token_digit []])) (fun r4 => (cond (decide ((9 : Int) < r4)) (some ⟨tEdge, ((0 : Int), ((0 : Int), (3 : Int)))⟩) (some ⟨tEdge, ((2 : Int), (r4, (0 : Int)))⟩)))) (cond (decide ((bt x0 (0 : Int)) = (34 : Int))) (Option.bind (res tTerm (R f_token_quoted [.val .str x0])) (fun r5 => (some ⟨tEdge, ((3 : Int), (r5.1, r5.2))⟩))) (Option.bind (res .bool (R f_token_pair [.val .str x0])) (fun r6 => (cond r6 (some ⟨tEdge, ((4 : Int), ((2 : Int), (0 : Int)))⟩) (Option.bind (res tI (R f_strings_IndexByte [.val .str (⟨#[123, 125, 40, 41, 91, 93, 44, 59, 58, 61, 43, 45, 42, 60, 62, 33, 38, 124, 46, 63]⟩ : ByteArray), .val tU8 (bt x0 (0 : Int))])) (fun r7 => (cond (decide ((0 : Int) ≤ r7)) (some ⟨tEdge, ((4 : Int), ((1 : Int), (0 : Int)))⟩) (some ⟨tEdge, ((0 : Int), ((0 : Int), (2 : Int)))⟩)))))))))))))) none)
theorem e_token_next (k : Nat) (x0 : D .str) : run M (k + 1) f_token_next [.val .str x0] = b_token_next (run M k) x0 := by kernel_rfl
def b_token_whole (R : RunT) (x0 : D tToken) : Res E :=
  (cond (decide (x0.1 = (3 : Int))) (cond (decide ((⟨#[34]⟩ : ByteArray).size + x0.2.1.size ≤ 9223372036854775807)) (cond (decide ((appS (⟨#[34]⟩ : ByteArray) x0.2.1).size + (⟨#[34]⟩ : ByteArray).size ≤ 9223372036854775807)) (cond (beqS (appS (appS (⟨#[34]⟩ : ByteArray) x0.2.1) (⟨#[34]⟩ : ByteArray)) (⟨#[]⟩ : ByteArray)) (some ⟨(.pair .str .bool), ((⟨#[]⟩ : ByteArray), false)⟩) (Option.bind (res tEdge (R f_token_next [.val .str (appS (appS (⟨#[34]⟩ : ByteArray) x0.2.1) (⟨#[34]⟩ : ByteArray))])) (fun r1 => (some ⟨(.pair .str .bool), ((appS (appS (⟨#[34]⟩ : ByteArray) x0.2.1) (⟨#[34]⟩ : ByteArray)), (cond (cond (decide (r1.2.2 = (0 : Int))) (decide (r1.1 = x0.1)) false) (decide (r1.2.1 = ((appS (appS (⟨#[34]⟩ : ByteArray) x0.2.1) (⟨#[34]⟩ : ByteArray)).size : Int))) false))⟩)))) none) none) (cond (beqS x0.2.1 (⟨#[]⟩ : ByteArray)) (some ⟨(.pair .str .bool), ((⟨#[]⟩ : ByteArray), false)⟩) (Option.bind (res tEdge (R f_token_next [.val .str x0.2.1])) (fun r2 => (some ⟨(.pair .str .bool), (x0.2.1, (cond (cond (decide (r2.2.2 = (0 : Int))) (decide (r2.1 = x0.1)) false) (decide (r2.2.1 = (x0.2.1.size : Int))) false))⟩)))))
theorem e_token_whole (k : Nat) (x0 : D tToken) : run M (k + 1) f_token_whole [.val tToken x0] = b_token_whole (run M k) x0 := by kernel_rfl
def b_token_IsName (R : RunT) (x0 : D .str) : Res E :=
  (Option.bind (res (.pair .str .bool) (R f_token_whole [.val tToken ((1 : Int), (x0, (0 : Int)))])) (fun r1 => (some ⟨.bool, r1.2⟩)))
theorem e_token_IsName (k : Nat) (x0 : D .str) : run M (k + 1) f_token_IsName [.val .str x0] = b_token_IsName (run M k) x0 := by kernel_rfl
abbrev V_slices_IndexFunc_NodeType_0 := (D (.slice tNodeType)) → FuncId → (List (Dt E)) → (D tI) → (D tI) → Res E
def lp_slices_IndexFunc_NodeType_0 (k j : Nat) : V_slices_IndexFunc_NodeType_0 := fun v0 v1f v1c v7 v8 =>
  loopAt M k 245 0 [] [] j ⟨19, [(0, .c (.leaf (.slice tNodeType) v0)), (1, .c (.fnd v1f v1c)), (7, .c (.leaf tI v7)), (8, .c (.leaf tI v8))], []⟩
def s_slices_IndexFunc_NodeType_0 (R : RunT) (self : V_slices_IndexFunc_NodeType_0) : V_slices_IndexFunc_NodeType_0 := fun v0 v1f v1c v7 v8 =>
  (cond (decide (v8 < v7)) (cond (inB v8 (v0.length : Int)) (Option.bind (res .bool (R v1f ([.val tNodeType ((rd (E := E) (t := tNodeType) v0 v8).1, (((rd (E := E) (t := tNodeType) v0 v8).2).1, ((((rd (E := E) (t := tNodeType) v0 v8).2).2).1, (((rd (E := E) (t := tNodeType) v0 v8).2).2).2)))] ++ capArgs v1c))) (fun r1 => (cond r1 (some ⟨tI, v8⟩) (self v0 v1f v1c v7 (IntKind.i64.wrap (v8 + (1 : Int))))))) none) (some ⟨tI, (-1 : Int)⟩))
def l_slices_IndexFunc_NodeType_0 (R : RunT) : Nat → V_slices_IndexFunc_NodeType_0
  | 0 => fun _ _ _ _ _ => none
  | j + 1 => s_slices_IndexFunc_NodeType_0 R (l_slices_IndexFunc_NodeType_0 R j)
def b_slices_IndexFunc_NodeType (R : RunT) (c0 : V_slices_IndexFunc_NodeType_0) (x0 : D (.slice tNodeType)) (x1 : FuncId) (x1c : List (Dt E)) : Res E :=
  (c0 x0 x1 x1c (x0.length : Int) (0 : Int))
theorem lp_slices_IndexFunc_NodeType_0_eq (k j0 : Nat) : lp_slices_IndexFunc_NodeType_0 k j0 = l_slices_IndexFunc_NodeType_0 (run M k) j0 := by
  induction j0 with
  | zero => kernel_rfl
  | succ j0 ih => exact Eq.trans (b := s_slices_IndexFunc_NodeType_0 (run M k) (lp_slices_IndexFunc_NodeType_0 k j0)) (by kernel_rfl) (by simp only [ih]; rfl)
theorem e_slices_IndexFunc_NodeType (k : Nat) (x0 : D (.slice tNodeType)) (x1 : FuncId) (x1c : List (Dt E)) : run M (k + 1) f_slices_IndexFunc_NodeType [.val (.slice tNodeType) x0, .fn x1 x1c] = b_slices_IndexFunc_NodeType (run M k) (l_slices_IndexFunc_NodeType_0 (run M k) k) x0 x1 x1c :=
  Eq.trans (b := b_slices_IndexFunc_NodeType (run M k) (lp_slices_IndexFunc_NodeType_0 k k) x0 x1 x1c) (by kernel_rfl) (by simp only [lp_slices_IndexFunc_NodeType_0_eq])
def b_slices_ContainsFunc_NodeType (R : RunT) (x0 : D (.slice tNodeType)) (x1 : FuncId) (x1c : List (Dt E)) : Res E :=
  (Option.bind (res tI (R f_slices_IndexFunc_NodeType [.val (.slice tNodeType) x0, .fn x1 x1c])) (fun r1 => (some ⟨.bool, (decide ((0 : Int) ≤ r1))⟩)))
theorem e_slices_ContainsFunc_NodeType (k : Nat) (x0 : D (.slice tNodeType)) (x1 : FuncId) (x1c : List (Dt E)) : run M (k + 1) f_slices_ContainsFunc_NodeType [.val (.slice tNodeType) x0, .fn x1 x1c] = b_slices_ContainsFunc_NodeType (run M k) x0 x1 x1c := by kernel_rfl
def b_types_node_1 (R : RunT) (x0 x1 : D tNodeType) : Res E :=
  (some ⟨.bool, (beqS x0.1 x1.1)⟩)
theorem e_types_node_1 (k : Nat) (x0 x1 : D tNodeType) : run M (k + 1) f_types_node_1 [.val tNodeType x0, .ro tNodeType x1] = b_types_node_1 (run M k) x0 x1 := by kernel_rfl
def b_types_attrs (R : RunT) (x0 : D tTypes) (x1 : D tI) : Res E :=
  (cond (inB x1 (x0.1.length : Int)) (cond (decide ((0 : Int) ≤ ((rd (E := E) (t := tNodeType) x0.1 x1).2).1)) (Option.bind (res (.slice tAttr) (R f_types_attrs [.val tTypes (x0.1, x0.2), .val tI (((rd (E := E) (t := tNodeType) x0.1 x1).2).1)])) (fun r1 => (cond (inB x1 (x0.1.length : Int)) (cond (roomy (r1.length + ((((rd (E := E) (t := tNodeType) x0.1 x1).2).2).2).length) 56) (some ⟨(.slice tAttr), (r1 ++ ((((rd (E := E) (t := tNodeType) x0.1 x1).2).2).2))⟩) none) none))) (cond (inB x1 (x0.1.length : Int)) (cond (roomy (((((rd (E := E) (t := tNodeType) x0.1 x1).2).2).2).length) 56) (some ⟨(.slice tAttr), (((rd (E := E) (t := tNodeType) x0.1 x1).2).2).2⟩) none) none)) none)
theorem e_types_attrs (k : Nat) (x0 : D tTypes) (x1 : D tI) : run M (k + 1) f_types_attrs [.val tTypes x0, .val tI x1] = b_types_attrs (run M k) x0 x1 := by kernel_rfl
abbrev V_slices_IndexFunc_Attr_0 := (D (.slice tAttr)) → FuncId → (List (Dt E)) → (D tI) → (D tI) → Res E
def lp_slices_IndexFunc_Attr_0 (k j : Nat) : V_slices_IndexFunc_Attr_0 := fun v0 v1f v1c v7 v8 =>
  loopAt M k 267 0 [] [] j ⟨19, [(0, .c (.leaf (.slice tAttr) v0)), (1, .c (.fnd v1f v1c)), (7, .c (.leaf tI v7)), (8, .c (.leaf tI v8))], []⟩
def s_slices_IndexFunc_Attr_0 (R : RunT) (self : V_slices_IndexFunc_Attr_0) : V_slices_IndexFunc_Attr_0 := fun v0 v1f v1c v7 v8 =>
  (cond (decide (v8 < v7)) (cond (inB v8 (v0.length : Int)) (Option.bind (res .bool (R v1f ([.val tAttr ((rd (E := E) (t := tAttr) v0 v8).1, (((rd (E := E) (t := tAttr) v0 v8).2).1, ((((rd (E := E) (t := tAttr) v0 v8).2).2).1, (((rd (E := E) (t := tAttr) v0 v8).2).2).2)))] ++ capArgs v1c))) (fun r1 => (cond r1 (some ⟨tI, v8⟩) (self v0 v1f v1c v7 (IntKind.i64.wrap (v8 + (1 : Int))))))) none) (some ⟨tI, (-1 : Int)⟩))
def l_slices_IndexFunc_Attr_0 (R : RunT) : Nat → V_slices_IndexFunc_Attr_0
  | 0 => fun _ _ _ _ _ => none
  | j + 1 => s_slices_IndexFunc_Attr_0 R (l_slices_IndexFunc_Attr_0 R j)
def b_slices_IndexFunc_Attr (R : RunT) (c0 : V_slices_IndexFunc_Attr_0) (x0 : D (.slice tAttr)) (x1 : FuncId) (x1c : List (Dt E)) : Res E :=
  (c0 x0 x1 x1c (x0.length : Int) (0 : Int))
theorem lp_slices_IndexFunc_Attr_0_eq (k j0 : Nat) : lp_slices_IndexFunc_Attr_0 k j0 = l_slices_IndexFunc_Attr_0 (run M k) j0 := by
  induction j0 with
  | zero => kernel_rfl
  | succ j0 ih => exact Eq.trans (b := s_slices_IndexFunc_Attr_0 (run M k) (lp_slices_IndexFunc_Attr_0 k j0)) (by kernel_rfl) (by simp only [ih]; rfl)
theorem e_slices_IndexFunc_Attr (k : Nat) (x0 : D (.slice tAttr)) (x1 : FuncId) (x1c : List (Dt E)) : run M (k + 1) f_slices_IndexFunc_Attr [.val (.slice tAttr) x0, .fn x1 x1c] = b_slices_IndexFunc_Attr (run M k) (l_slices_IndexFunc_Attr_0 (run M k) k) x0 x1 x1c :=
  Eq.trans (b := b_slices_IndexFunc_Attr (run M k) (lp_slices_IndexFunc_Attr_0 k k) x0 x1 x1c) (by kernel_rfl) (by simp only [lp_slices_IndexFunc_Attr_0_eq])
def b_slices_ContainsFunc_Attr (R : RunT) (x0 : D (.slice tAttr)) (x1 : FuncId) (x1c : List (Dt E)) : Res E :=
  (Option.bind (res tI (R f_slices_IndexFunc_Attr [.val (.slice tAttr) x0, .fn x1 x1c])) (fun r1 => (some ⟨.bool, (decide ((0 : Int) ≤ r1))⟩)))
theorem e_slices_ContainsFunc_Attr (k : Nat) (x0 : D (.slice tAttr)) (x1 : FuncId) (x1c : List (Dt E)) : run M (k + 1) f_slices_ContainsFunc_Attr [.val (.slice tAttr) x0, .fn x1 x1c] = b_slices_ContainsFunc_Attr (run M k) x0 x1 x1c := by kernel_rfl
def b_types_attribute_1 (R : RunT) (x0 x1 : D tAttr) : Res E :=
  (some ⟨.bool, (beqS x0.1 x1.1)⟩)
theorem e_types_attribute_1 (k : Nat) (x0 x1 : D tAttr) : run M (k + 1) f_types_attribute_1 [.val tAttr x0, .ro tAttr x1] = b_types_attribute_1 (run M k) x0 x1 := by kernel_rfl
abbrev V_types_names_0 := (D (.slice .str)) → (D (.slice .str)) → (D tI) → (D tI) → Res E
def lp_types_names_0 (k j : Nat) : V_types_names_0 := fun v0 v8 v9 v10 =>
  loopAt M k 248 0 [] [] j ⟨26, [(0, .c (.leaf (.slice .str) v0)), (8, .c (.leaf (.slice .str) v8)), (9, .c (.leaf tI v9)), (10, .c (.leaf tI v10))], []⟩
def s_types_names_0 (R : RunT) (self : V_types_names_0) : V_types_names_0 := fun v0 v8 v9 v10 =>
  (cond (decide (v10 < v9)) (cond (inB v10 (v8.length : Int)) (Option.bind (res .bool (R f_token_IsName [.val .str (rd (E := E) (t := .str) v8 v10)])) (fun r1 => (cond (!r1) (some ⟨tI, (2 : Int)⟩) (cond (inS (0 : Int) v10 (v0.length : Int)) (Option.bind (res .bool (R f_slices_Contains_string [.val (.slice .str) (sub v0 (0 : Int) v10), .val .str (rd (E := E) (t := .str) v8 v10)])) (fun r2 => (cond r2 (some ⟨tI, (5 : Int)⟩) (self v0 v8 v9 (IntKind.i64.wrap (v10 + (1 : Int))))))) none)))) none) (some ⟨tI, (0 : Int)⟩))
def l_types_names_0 (R : RunT) : Nat → V_types_names_0
  | 0 => fun _ _ _ _ => none
  | j + 1 => s_types_names_0 R (l_types_names_0 R j)
def b_types_names (R : RunT) (c0 : V_types_names_0) (x0 : D (.slice .str)) : Res E :=
  (cond (decide ((20 : Int) < (x0.length : Int))) (some ⟨tI, (3 : Int)⟩) (c0 x0 x0 (x0.length : Int) (0 : Int)))
theorem lp_types_names_0_eq (k j0 : Nat) : lp_types_names_0 k j0 = l_types_names_0 (run M k) j0 := by
  induction j0 with
  | zero => kernel_rfl
  | succ j0 ih => exact Eq.trans (b := s_types_names_0 (run M k) (lp_types_names_0 k j0)) (by kernel_rfl) (by simp only [ih]; rfl)
theorem e_types_names (k : Nat) (x0 : D (.slice .str)) : run M (k + 1) f_types_names [.val (.slice .str) x0] = b_types_names (run M k) (l_types_names_0 (run M k) k) x0 :=
  Eq.trans (b := b_types_names (run M k) (lp_types_names_0 k k) x0) (by kernel_rfl) (by simp only [lp_types_names_0_eq])
def b_types_attribute (R : RunT) (x0 : D tAttr) (x1 : D (.slice tAttr)) : Res E :=
  (Option.bind (res .bool (R f_token_IsName [.val .str x0.1])) (fun r1 => (cond (!r1) (some ⟨tI, (2 : Int)⟩) (Option.bind (res .bool (R f_slices_ContainsFunc_Attr [.val (.slice tAttr) x1, .fn f_types_attribute_1 [⟨tAttr, (x0.1, (x0.2.1, (x0.2.2.1, x0.2.2.2)))⟩]])) (fun r2 => (cond r2 (some ⟨tI, (5 : Int)⟩) (Option.bind (res tI (R f_types_names [.val (.slice .str) x0.2.2.2])) (fun r3 => (cond (!(decide (r3 = (0 : Int)))) (some ⟨tI, r3⟩) (cond (decide ((0 : Int) < (x0.2.2.2.length : Int))) (cond (!(cond (decide (x0.2.1 = (0 : Int))) (decide (x0.2.2.1 = (IntKind.i64.wrap ((x0.2.2.2.length : Int) - (1 : Int))))) false)) (some ⟨tI, (6 : Int)⟩) (some ⟨tI, (0 : Int)⟩)) (cond (!(cond (cond (decide ((-1000000 : Int) ≤ x0.2.1)) (decide (x0.2.1 ≤ x0.2.2.1)) false) (decide (x0.2.2.1 ≤ (1000000 : Int))) false)) (some ⟨tI, (6 : Int)⟩) (some ⟨tI, (0 : Int)⟩))))))))))))
theorem e_types_attribute (k : Nat) (x0 : D tAttr) (x1 : D (.slice tAttr)) : run M (k + 1) f_types_attribute [.val tAttr x0, .val (.slice tAttr) x1] = b_types_attribute (run M k) x0 x1 := by kernel_rfl
abbrev V_types_node_1 := (D tI) → (List (D tAttr)) → Res E
def lp_types_node_1 (k j : Nat) : V_types_node_1 := fun v7 t1002752 =>
  loopAt M k 145 1 [] [] j ⟨70, [(6, .c (.ref 1002752 0 none)), (7, .c (.leaf tI v7))], [(1002752, 0, .tok tAttr t1002752)]⟩
def s_types_node_1 (R : RunT) (self : V_types_node_1) : V_types_node_1 := fun v7 t1002752 =>
  (cond (decide (v7 < (t1002752.length : Int))) (cond (inB v7 (t1002752.length : Int)) (cond (inS (0 : Int) v7 (t1002752.length : Int)) (Option.bind (res tI (R f_types_attribute [.val tAttr ((List.getD t1002752 (Int.toNat v7) (dflt E tAttr)).1, (((List.getD t1002752 (Int.toNat v7) (dflt E tAttr)).2).1, ((((List.getD t1002752 (Int.toNat v7) (dflt E tAttr)).2).2).1, (((List.getD t1002752 (Int.toNat v7) (dflt E tAttr)).2).2).2))), .val (.slice tAttr) ((List.drop (Int.toNat (0 : Int)) t1002752).take (Int.toNat (v7 - (0 : Int))))])) (fun r1 => (cond (!(decide (r1 = (0 : Int)))) (some ⟨tI, r1⟩) (self (IntKind.i64.wrap (v7 + (1 : Int))) t1002752)))) none) none) (some ⟨tI, (0 : Int)⟩))
def l_types_node_1 (R : RunT) : Nat → V_types_node_1
  | 0 => fun _ _ => none
  | j + 1 => s_types_node_1 R (l_types_node_1 R j)
def b_types_node (R : RunT) (c1 : V_types_node_1) (x0 : D tTypes) (x1 : D tI) : Res E :=
  (cond (inB x1 (x0.1.length : Int)) (Option.bind (res .bool (R f_token_IsName [.val .str ((rd (E := E) (t := tNodeType) x0.1 x1).1)])) (fun r1 => (cond (!r1) (some ⟨tI, (2 : Int)⟩) (cond (inS (0 : Int) x1 (x0.1.length : Int)) (Option.bind (res .bool (R f_slices_ContainsFunc_NodeType [.val (.slice tNodeType) (sub x0.1 (0 : Int) x1), .fn f_types_node_1 [⟨tNodeType, ((rd (E := E) (t := tNodeType) x0.1 x1).1, (((rd (E := E) (t := tNodeType) x0.1 x1).2).1, ((((rd (E := E) (t := tNodeType) x0.1 x1).2).2).1, (((rd (E := E) (t := tNodeType) x0.1 x1).2).2).2)))⟩]])) (fun r2 => (cond r2 (some ⟨tI, (5 : Int)⟩) (cond (cond (decide (((rd (E := E) (t := tNodeType) x0.1 x1).2).1 < (-1 : Int))) true (decide (x1 ≤ ((rd (E := E) (t := tNodeType) x0.1 x1).2).1))) (some ⟨tI, (6 : Int)⟩) (cond (decide ((4 : Int) < (((((rd (E := E) (t := tNodeType) x0.1 x1).2).2).2).length : Int))) (some ⟨tI, (3 : Int)⟩) (Option.bind (res (.slice tAttr) (R f_types_attrs [.val tTypes (x0.1, x0.2), .val tI x1])) (fun r3 => (cond (decide ((8 : Int) < (r3.length : Int))) (some ⟨tI, (3 : Int)⟩) (c1 (IntKind.i64.wrap ((r3.length : Int) - (((((rd (E := E) (t := tNodeType) x0.1 x1).2).2).2).length : Int))) r3))))))))) none)))) none)
theorem lp_types_node_1_eq (k j1 : Nat) : lp_types_node_1 k j1 = l_types_node_1 (run M k) j1 := by
  induction j1 with
  | zero => kernel_rfl
  | succ j1 ih => exact Eq.trans (b := s_types_node_1 (run M k) (lp_types_node_1 k j1)) (by kernel_rfl) (by simp only [ih]; rfl)
theorem e_types_node (k : Nat) (x0 : D tTypes) (x1 : D tI) : run M (k + 1) f_types_node [.val tTypes x0, .val tI x1] = b_types_node (run M k) (l_types_node_1 (run M k) k) x0 x1 :=
  Eq.trans (b := b_types_node (run M k) (lp_types_node_1 k k) x0 x1) (by kernel_rfl) (by simp only [lp_types_node_1_eq])
def b_types_edge_1 (R : RunT) (x0 : D tI) (x1 : D tTypes) : Res E :=
  (some ⟨.bool, (cond (decide ((0 : Int) ≤ x0)) (decide (x0 < (x1.1.length : Int))) false)⟩)
theorem e_types_edge_1 (k : Nat) (x0 : D tI) (x1 : D tTypes) : run M (k + 1) f_types_edge_1 [.val tI x0, .ro tTypes x1] = b_types_edge_1 (run M k) x0 x1 := by kernel_rfl
abbrev V_slices_IndexFunc_EdgeType_0 := (D (.slice tEdgeType)) → FuncId → (List (Dt E)) → (D tI) → (D tI) → Res E
def lp_slices_IndexFunc_EdgeType_0 (k j : Nat) : V_slices_IndexFunc_EdgeType_0 := fun v0 v1f v1c v7 v8 =>
  loopAt M k 249 0 [] [] j ⟨19, [(0, .c (.leaf (.slice tEdgeType) v0)), (1, .c (.fnd v1f v1c)), (7, .c (.leaf tI v7)), (8, .c (.leaf tI v8))], []⟩
def s_slices_IndexFunc_EdgeType_0 (R : RunT) (self : V_slices_IndexFunc_EdgeType_0) : V_slices_IndexFunc_EdgeType_0 := fun v0 v1f v1c v7 v8 =>
  (cond (decide (v8 < v7)) (cond (inB v8 (v0.length : Int)) (Option.bind (res .bool (R v1f ([.val tEdgeType ((rd (E := E) (t := tEdgeType) v0 v8).1, (((rd (E := E) (t := tEdgeType) v0 v8).2).1, ((((rd (E := E) (t := tEdgeType) v0 v8).2).2).1, (((((rd (E := E) (t := tEdgeType) v0 v8).2).2).2).1, ((((((rd (E := E) (t := tEdgeType) v0 v8).2).2).2).2).1, (((((((rd (E := E) (t := tEdgeType) v0 v8).2).2).2).2).2).1, ((((((rd (E := E) (t := tEdgeType) v0 v8).2).2).2).2).2).2))))))] ++ capArgs v1c))) (fun r1 => (cond r1 (some ⟨tI, v8⟩) (self v0 v1f v1c v7 (IntKind.i64.wrap (v8 + (1 : Int))))))) none) (some ⟨tI, (-1 : Int)⟩))
def l_slices_IndexFunc_EdgeType_0 (R : RunT) : Nat → V_slices_IndexFunc_EdgeType_0
  | 0 => fun _ _ _ _ _ => none
  | j + 1 => s_slices_IndexFunc_EdgeType_0 R (l_slices_IndexFunc_EdgeType_0 R j)
def b_slices_IndexFunc_EdgeType (R : RunT) (c0 : V_slices_IndexFunc_EdgeType_0) (x0 : D (.slice tEdgeType)) (x1 : FuncId) (x1c : List (Dt E)) : Res E :=
  (c0 x0 x1 x1c (x0.length : Int) (0 : Int))
theorem lp_slices_IndexFunc_EdgeType_0_eq (k j0 : Nat) : lp_slices_IndexFunc_EdgeType_0 k j0 = l_slices_IndexFunc_EdgeType_0 (run M k) j0 := by
  induction j0 with
  | zero => kernel_rfl
  | succ j0 ih => exact Eq.trans (b := s_slices_IndexFunc_EdgeType_0 (run M k) (lp_slices_IndexFunc_EdgeType_0 k j0)) (by kernel_rfl) (by simp only [ih]; rfl)
theorem e_slices_IndexFunc_EdgeType (k : Nat) (x0 : D (.slice tEdgeType)) (x1 : FuncId) (x1c : List (Dt E)) : run M (k + 1) f_slices_IndexFunc_EdgeType [.val (.slice tEdgeType) x0, .fn x1 x1c] = b_slices_IndexFunc_EdgeType (run M k) (l_slices_IndexFunc_EdgeType_0 (run M k) k) x0 x1 x1c :=
  Eq.trans (b := b_slices_IndexFunc_EdgeType (run M k) (lp_slices_IndexFunc_EdgeType_0 k k) x0 x1 x1c) (by kernel_rfl) (by simp only [lp_slices_IndexFunc_EdgeType_0_eq])
def b_slices_ContainsFunc_EdgeType (R : RunT) (x0 : D (.slice tEdgeType)) (x1 : FuncId) (x1c : List (Dt E)) : Res E :=
  (Option.bind (res tI (R f_slices_IndexFunc_EdgeType [.val (.slice tEdgeType) x0, .fn x1 x1c])) (fun r1 => (some ⟨.bool, (decide ((0 : Int) ≤ r1))⟩)))
theorem e_slices_ContainsFunc_EdgeType (k : Nat) (x0 : D (.slice tEdgeType)) (x1 : FuncId) (x1c : List (Dt E)) : run M (k + 1) f_slices_ContainsFunc_EdgeType [.val (.slice tEdgeType) x0, .fn x1 x1c] = b_slices_ContainsFunc_EdgeType (run M k) x0 x1 x1c := by kernel_rfl
def b_types_edge_2 (R : RunT) (x0 x1 : D tEdgeType) : Res E :=
  (some ⟨.bool, (beqS x0.1 x1.1)⟩)
theorem e_types_edge_2 (k : Nat) (x0 x1 : D tEdgeType) : run M (k + 1) f_types_edge_2 [.val tEdgeType x0, .ro tEdgeType x1] = b_types_edge_2 (run M k) x0 x1 := by kernel_rfl
def b_types_bounded (R : RunT) (x0 x1 : D tI) : Res E :=
  (some ⟨.bool, (cond (cond (decide ((0 : Int) ≤ x0)) (decide (x0 ≤ (40 : Int))) false) (cond (decide (x1 = (-1 : Int))) true (cond (decide (x0 ≤ x1)) (decide (x1 ≤ (40 : Int))) false)) false)⟩)
theorem e_types_bounded (k : Nat) (x0 x1 : D tI) : run M (k + 1) f_types_bounded [.val tI x0, .val tI x1] = b_types_bounded (run M k) x0 x1 := by kernel_rfl
def b_types_edge (R : RunT) (x0 : D tTypes) (x1 : D tI) : Res E :=
  (cond (inB x1 (x0.2.length : Int)) (Option.bind (res .bool (R f_token_IsName [.val .str ((rd (E := E) (t := tEdgeType) x0.2 x1).1)])) (fun r1 => (cond (!r1) (some ⟨tI, (2 : Int)⟩) (cond (inS (0 : Int) x1 (x0.2.length : Int)) (Option.bind (res .bool (R f_slices_ContainsFunc_EdgeType [.val (.slice tEdgeType) (sub x0.2 (0 : Int) x1), .fn f_types_edge_2 [⟨tEdgeType, ((rd (E := E) (t := tEdgeType) x0.2 x1).1, (((rd (E := E) (t := tEdgeType) x0.2 x1).2).1, ((((rd (E := E) (t := tEdgeType) x0.2 x1).2).2).1, (((((rd (E := E) (t := tEdgeType) x0.2 x1).2).2).2).1, ((((((rd (E := E) (t := tEdgeType) x0.2 x1).2).2).2).2).1, (((((((rd (E := E) (t := tEdgeType) x0.2 x1).2).2).2).2).2).1, ((((((rd (E := E) (t := tEdgeType) x0.2 x1).2).2).2).2).2).2))))))⟩]])) (fun r2 => (cond r2 (some ⟨tI, (5 : Int)⟩) (Option.bind (res .bool (R f_types_edge_1 [.val tI (((rd (E := E) (t := tEdgeType) x0.2 x1).2).1), .ro tTypes (x0.1, x0.2)])) (fun r3 => (Option.bind (cond (!(!r3)) (res .bool (R f_types_edge_1 [.val tI ((((rd (E := E) (t := tEdgeType) x0.2 x1).2).2).1), .ro tTypes (x0.1, x0.2)])) (some (dflt E .bool))) (fun r4 => (cond (cond (!r3) true (!r4)) (cond (cond (!r3) true (!r4)) (some ⟨tI, (6 : Int)⟩) (some ⟨tI, (0 : Int)⟩)) (Option.bind (res .bool (R f_types_bounded [.val tI (((((rd (E := E) (t := tEdgeType) x0.2 x1).2).2).2).1), .val tI ((((((rd (E := E) (t := tEdgeType) x0.2 x1).2).2).2).2).1)])) (fun r5 => (Option.bind (cond (!(!r5)) (res .bool (R f_types_bounded [.val tI (((((((rd (E := E) (t := tEdgeType) x0.2 x1).2).2).2).2).2).1), .val tI (((((((rd (E := E) (t := tEdgeType) x0.2 x1).2).2).2).2).2).2)])) (some (dflt E .bool))) (fun r6 => (cond (cond (!r5) true (!r6)) (some ⟨tI, (6 : Int)⟩) (some ⟨tI, (0 : Int)⟩)))))))))))))) none)))) none)
theorem e_types_edge (k : Nat) (x0 : D tTypes) (x1 : D tI) : run M (k + 1) f_types_edge [.val tTypes x0, .val tI x1] = b_types_edge (run M k) x0 x1 := by kernel_rfl
abbrev V_types_Valid_1 := (D (.slice tNodeType)) → (D tI) → (D tI) → (D (.slice tNodeType)) → (D (.slice tEdgeType)) → Res E
def lp_types_Valid_1 (k j : Nat) : V_types_Valid_1 := fun v27 v28 v29 b1_0 b1_1 =>
  loopAt M k 79 1 [] [] j ⟨60, [(1, .c (.ptr 1 0 0)), (27, .c (.leaf (.slice tNodeType) v27)), (28, .c (.leaf tI v28)), (29, .c (.leaf tI v29))], [(1, 0, .box [.leaf (.slice tNodeType) b1_0, .leaf (.slice tEdgeType) b1_1])]⟩
abbrev V_types_Valid_3 := (D (.slice tEdgeType)) → (D tI) → (D tI) → (D (.slice tNodeType)) → (D (.slice tEdgeType)) → Res E
def lp_types_Valid_3 (k j : Nat) : V_types_Valid_3 := fun v44 v45 v46 b1_0 b1_1 =>
  loopAt M k 79 3 [] [] j ⟨60, [(1, .c (.ptr 1 0 0)), (44, .c (.leaf (.slice tEdgeType) v44)), (45, .c (.leaf tI v45)), (46, .c (.leaf tI v46))], [(1, 0, .box [.leaf (.slice tNodeType) b1_0, .leaf (.slice tEdgeType) b1_1])]⟩
def s_types_Valid_1 (R : RunT) (c3 : V_types_Valid_3) (self : V_types_Valid_1) : V_types_Valid_1 := fun v27 v28 v29 b1_0 b1_1 =>
  (cond (decide (v29 < v28)) (cond (inB v29 (v27.length : Int)) (Option.bind (res tI (R f_types_node [.val tTypes (b1_0, b1_1), .val tI v29])) (fun r1 => (cond (!(decide (r1 = (0 : Int)))) (some ⟨(.pair .str tI), ((rd (E := E) (t := tNodeType) v27 v29).1, r1)⟩) (self v27 v28 (IntKind.i64.wrap (v29 + (1 : Int))) b1_0 b1_1)))) none) (c3 b1_1 (b1_1.length : Int) (0 : Int) b1_0 b1_1))
def s_types_Valid_3 (R : RunT) (self : V_types_Valid_3) : V_types_Valid_3 := fun v44 v45 v46 b1_0 b1_1 =>
  (cond (decide (v46 < v45)) (cond (inB v46 (v44.length : Int)) (Option.bind (res tI (R f_types_edge [.val tTypes (b1_0, b1_1), .val tI v46])) (fun r1 => (cond (!(decide (r1 = (0 : Int)))) (some ⟨(.pair .str tI), ((rd (E := E) (t := tEdgeType) v44 v46).1, r1)⟩) (self v44 v45 (IntKind.i64.wrap (v46 + (1 : Int))) b1_0 b1_1)))) none) (some ⟨(.pair .str tI), ((⟨#[]⟩ : ByteArray), (0 : Int))⟩))
def l_types_Valid_1 (R : RunT) (c3 : V_types_Valid_3) : Nat → V_types_Valid_1
  | 0 => fun _ _ _ _ _ => none
  | j + 1 => s_types_Valid_1 R c3 (l_types_Valid_1 R c3 j)
def l_types_Valid_3 (R : RunT) : Nat → V_types_Valid_3
  | 0 => fun _ _ _ _ _ => none
  | j + 1 => s_types_Valid_3 R (l_types_Valid_3 R j)
def b_types_Valid (R : RunT) (c1 : V_types_Valid_1) (x0 : D tTypes) : Res E :=
  (cond (decide ((x0.1.length : Int) = (0 : Int))) (some ⟨(.pair .str tI), ((⟨#[]⟩ : ByteArray), (7 : Int))⟩) (cond (cond (decide ((12 : Int) < (x0.1.length : Int))) true (decide ((20 : Int) < (x0.2.length : Int)))) (some ⟨(.pair .str tI), ((⟨#[]⟩ : ByteArray), (3 : Int))⟩) (c1 x0.1 (x0.1.length : Int) (0 : Int) x0.1 x0.2)))
theorem lp_types_Valid_1_eq (k j1 : Nat) : lp_types_Valid_1 k j1 = l_types_Valid_1 (run M k) (lp_types_Valid_3 k k) j1 := by
  induction j1 with
  | zero => kernel_rfl
  | succ j1 ih => exact Eq.trans (b := s_types_Valid_1 (run M k) (lp_types_Valid_3 k k) (lp_types_Valid_1 k j1)) (by kernel_rfl) (by simp only [ih]; rfl)
theorem lp_types_Valid_3_eq (k j3 : Nat) : lp_types_Valid_3 k j3 = l_types_Valid_3 (run M k) j3 := by
  induction j3 with
  | zero => kernel_rfl
  | succ j3 ih => exact Eq.trans (b := s_types_Valid_3 (run M k) (lp_types_Valid_3 k j3)) (by kernel_rfl) (by simp only [ih]; rfl)
theorem e_types_Valid (k : Nat) (x0 : D tTypes) : run M (k + 1) f_types_Valid [.val tTypes x0] = b_types_Valid (run M k) (l_types_Valid_1 (run M k) (l_types_Valid_3 (run M k) k) k) x0 :=
  Eq.trans (b := b_types_Valid (run M k) (lp_types_Valid_1 k k) x0) (by kernel_rfl) (by simp only [lp_types_Valid_1_eq, lp_types_Valid_3_eq])
abbrev V_slices_IndexFunc_int_0 := (D (.slice tI)) → FuncId → (List (Dt E)) → (D tI) → (D tI) → Res E
def lp_slices_IndexFunc_int_0 (k j : Nat) : V_slices_IndexFunc_int_0 := fun v0 v1f v1c v7 v8 =>
  loopAt M k 151 0 [] [] j ⟨19, [(0, .c (.leaf (.slice tI) v0)), (1, .c (.fnd v1f v1c)), (7, .c (.leaf tI v7)), (8, .c (.leaf tI v8))], []⟩
def s_slices_IndexFunc_int_0 (R : RunT) (self : V_slices_IndexFunc_int_0) : V_slices_IndexFunc_int_0 := fun v0 v1f v1c v7 v8 =>
  (cond (decide (v8 < v7)) (cond (inB v8 (v0.length : Int)) (Option.bind (res .bool (R v1f ([.val tI (rd (E := E) (t := tI) v0 v8)] ++ capArgs v1c))) (fun r1 => (cond r1 (some ⟨tI, v8⟩) (self v0 v1f v1c v7 (IntKind.i64.wrap (v8 + (1 : Int))))))) none) (some ⟨tI, (-1 : Int)⟩))
def l_slices_IndexFunc_int_0 (R : RunT) : Nat → V_slices_IndexFunc_int_0
  | 0 => fun _ _ _ _ _ => none
  | j + 1 => s_slices_IndexFunc_int_0 R (l_slices_IndexFunc_int_0 R j)
def b_slices_IndexFunc_int (R : RunT) (c0 : V_slices_IndexFunc_int_0) (x0 : D (.slice tI)) (x1 : FuncId) (x1c : List (Dt E)) : Res E :=
  (c0 x0 x1 x1c (x0.length : Int) (0 : Int))
theorem lp_slices_IndexFunc_int_0_eq (k j0 : Nat) : lp_slices_IndexFunc_int_0 k j0 = l_slices_IndexFunc_int_0 (run M k) j0 := by
  induction j0 with
  | zero => kernel_rfl
  | succ j0 ih => exact Eq.trans (b := s_slices_IndexFunc_int_0 (run M k) (lp_slices_IndexFunc_int_0 k j0)) (by kernel_rfl) (by simp only [ih]; rfl)
theorem e_slices_IndexFunc_int (k : Nat) (x0 : D (.slice tI)) (x1 : FuncId) (x1c : List (Dt E)) : run M (k + 1) f_slices_IndexFunc_int [.val (.slice tI) x0, .fn x1 x1c] = b_slices_IndexFunc_int (run M k) (l_slices_IndexFunc_int_0 (run M k) k) x0 x1 x1c :=
  Eq.trans (b := b_slices_IndexFunc_int (run M k) (lp_slices_IndexFunc_int_0 k k) x0 x1 x1c) (by kernel_rfl) (by simp only [lp_slices_IndexFunc_int_0_eq])
def b_slices_ContainsFunc_int (R : RunT) (x0 : D (.slice tI)) (x1 : FuncId) (x1c : List (Dt E)) : Res E :=
  (Option.bind (res tI (R f_slices_IndexFunc_int [.val (.slice tI) x0, .fn x1 x1c])) (fun r1 => (some ⟨.bool, (decide ((0 : Int) ≤ r1))⟩)))
theorem e_slices_ContainsFunc_int (k : Nat) (x0 : D (.slice tI)) (x1 : FuncId) (x1c : List (Dt E)) : run M (k + 1) f_slices_ContainsFunc_int [.val (.slice tI) x0, .fn x1 x1c] = b_slices_ContainsFunc_int (run M k) x0 x1 x1c := by kernel_rfl
abbrev V_slices_IndexFunc_Edge_0 := (D (.slice tEdge)) → FuncId → (List (Dt E)) → (D tI) → (D tI) → Res E
def lp_slices_IndexFunc_Edge_0 (k j : Nat) : V_slices_IndexFunc_Edge_0 := fun v0 v1f v1c v7 v8 =>
  loopAt M k 152 0 [] [] j ⟨19, [(0, .c (.leaf (.slice tEdge) v0)), (1, .c (.fnd v1f v1c)), (7, .c (.leaf tI v7)), (8, .c (.leaf tI v8))], []⟩
def s_slices_IndexFunc_Edge_0 (R : RunT) (self : V_slices_IndexFunc_Edge_0) : V_slices_IndexFunc_Edge_0 := fun v0 v1f v1c v7 v8 =>
  (cond (decide (v8 < v7)) (cond (inB v8 (v0.length : Int)) (Option.bind (res .bool (R v1f ([.val tEdge ((rd (E := E) (t := tEdge) v0 v8).1, (((rd (E := E) (t := tEdge) v0 v8).2).1, ((rd (E := E) (t := tEdge) v0 v8).2).2))] ++ capArgs v1c))) (fun r1 => (cond r1 (some ⟨tI, v8⟩) (self v0 v1f v1c v7 (IntKind.i64.wrap (v8 + (1 : Int))))))) none) (some ⟨tI, (-1 : Int)⟩))
def l_slices_IndexFunc_Edge_0 (R : RunT) : Nat → V_slices_IndexFunc_Edge_0
  | 0 => fun _ _ _ _ _ => none
  | j + 1 => s_slices_IndexFunc_Edge_0 R (l_slices_IndexFunc_Edge_0 R j)
def b_slices_IndexFunc_Edge (R : RunT) (c0 : V_slices_IndexFunc_Edge_0) (x0 : D (.slice tEdge)) (x1 : FuncId) (x1c : List (Dt E)) : Res E :=
  (c0 x0 x1 x1c (x0.length : Int) (0 : Int))
theorem lp_slices_IndexFunc_Edge_0_eq (k j0 : Nat) : lp_slices_IndexFunc_Edge_0 k j0 = l_slices_IndexFunc_Edge_0 (run M k) j0 := by
  induction j0 with
  | zero => kernel_rfl
  | succ j0 ih => exact Eq.trans (b := s_slices_IndexFunc_Edge_0 (run M k) (lp_slices_IndexFunc_Edge_0 k j0)) (by kernel_rfl) (by simp only [ih]; rfl)
theorem e_slices_IndexFunc_Edge (k : Nat) (x0 : D (.slice tEdge)) (x1 : FuncId) (x1c : List (Dt E)) : run M (k + 1) f_slices_IndexFunc_Edge [.val (.slice tEdge) x0, .fn x1 x1c] = b_slices_IndexFunc_Edge (run M k) (l_slices_IndexFunc_Edge_0 (run M k) k) x0 x1 x1c :=
  Eq.trans (b := b_slices_IndexFunc_Edge (run M k) (lp_slices_IndexFunc_Edge_0 k k) x0 x1 x1c) (by kernel_rfl) (by simp only [lp_slices_IndexFunc_Edge_0_eq])
def b_slices_ContainsFunc_Edge (R : RunT) (x0 : D (.slice tEdge)) (x1 : FuncId) (x1c : List (Dt E)) : Res E :=
  (Option.bind (res tI (R f_slices_IndexFunc_Edge [.val (.slice tEdge) x0, .fn x1 x1c])) (fun r1 => (some ⟨.bool, (decide ((0 : Int) ≤ r1))⟩)))
theorem e_slices_ContainsFunc_Edge (k : Nat) (x0 : D (.slice tEdge)) (x1 : FuncId) (x1c : List (Dt E)) : run M (k + 1) f_slices_ContainsFunc_Edge [.val (.slice tEdge) x0, .fn x1 x1c] = b_slices_ContainsFunc_Edge (run M k) x0 x1 x1c := by kernel_rfl
def b_graph_within (R : RunT) (x0 x1 : D tI) : Res E :=
  (some ⟨.bool, (cond (decide ((0 : Int) ≤ x0)) (decide (x0 ≤ x1)) false)⟩)
theorem e_graph_within (k : Nat) (x0 x1 : D tI) : run M (k + 1) f_graph_within [.val tI x0, .val tI x1] = b_graph_within (run M k) x0 x1 := by kernel_rfl
def b_graph_Valid_1 (R : RunT) (x0 : D tI) : Res E :=
  (Option.bind (res .bool (R f_graph_within [.val tI x0, .val tI (99 : Int)])) (fun r1 => (some ⟨.bool, !r1⟩)))
theorem e_graph_Valid_1 (k : Nat) (x0 : D tI) : run M (k + 1) f_graph_Valid_1 [.val tI x0] = b_graph_Valid_1 (run M k) x0 := by kernel_rfl
def b_graph_fits (R : RunT) (x0 : D tEdge) (x1 : D tI) : Res E :=
  (Option.bind (res .bool (R f_graph_within [.val tI x0.1, .val tI (99 : Int)])) (fun r1 => (Option.bind (cond r1 (res .bool (R f_graph_within [.val tI x0.2.1, .val tI (IntKind.i64.wrap (x1 - (1 : Int)))])) (some (dflt E .bool))) (fun r2 => (Option.bind (cond (cond r1 r2 false) (res .bool (R f_graph_within [.val tI x0.2.2, .val tI (IntKind.i64.wrap (x1 - (1 : Int)))])) (some (dflt E .bool))) (fun r3 => (some ⟨.bool, (cond (cond r1 r2 false) r3 false)⟩)))))))
theorem e_graph_fits (k : Nat) (x0 : D tEdge) (x1 : D tI) : run M (k + 1) f_graph_fits [.val tEdge x0, .val tI x1] = b_graph_fits (run M k) x0 x1 := by kernel_rfl
def b_graph_Valid_2 (R : RunT) (x0 : D tEdge) (x1 : D tGraph) : Res E :=
  (Option.bind (res .bool (R f_graph_fits [.val tEdge (x0.1, (x0.2.1, x0.2.2)), .val tI (x1.1.length : Int)])) (fun r1 => (some ⟨.bool, !r1⟩)))
theorem e_graph_Valid_2 (k : Nat) (x0 : D tEdge) (x1 : D tGraph) : run M (k + 1) f_graph_Valid_2 [.val tEdge x0, .ro tGraph x1] = b_graph_Valid_2 (run M k) x0 x1 := by kernel_rfl
def b_graph_Valid (R : RunT) (x0 : D tGraph) : Res E :=
  (cond (cond (decide ((40 : Int) < (x0.1.length : Int))) true (decide ((80 : Int) < (x0.2.length : Int)))) (some ⟨tI, (3 : Int)⟩) (Option.bind (res .bool (R f_slices_ContainsFunc_int [.val (.slice tI) x0.1, .fn f_graph_Valid_1 []])) (fun r1 => (cond r1 (some ⟨tI, (6 : Int)⟩) (Option.bind (res .bool (R f_slices_ContainsFunc_Edge [.val (.slice tEdge) x0.2, .fn f_graph_Valid_2 [⟨tGraph, (x0.1, x0.2)⟩]])) (fun r2 => (cond r2 (some ⟨tI, (6 : Int)⟩) (some ⟨tI, (0 : Int)⟩))))))))
theorem e_graph_Valid (k : Nat) (x0 : D tGraph) : run M (k + 1) f_graph_Valid [.val tGraph x0] = b_graph_Valid (run M k) x0 := by kernel_rfl
def b_attribute_Valid_1 (R : RunT) (x0 : D tI) (x1 : D tTypes) : Res E :=
  (some ⟨.bool, (decide ((x1.1.length : Int) ≤ x0))⟩)
theorem e_attribute_Valid_1 (k : Nat) (x0 : D tI) (x1 : D tTypes) : run M (k + 1) f_attribute_Valid_1 [.val tI x0, .ro tTypes x1] = b_attribute_Valid_1 (run M k) x0 x1 := by kernel_rfl
def b_attribute_Valid_2 (R : RunT) (x0 : D tEdge) (x1 : D tTypes) : Res E :=
  (some ⟨.bool, (decide ((x1.2.length : Int) ≤ x0.1))⟩)
theorem e_attribute_Valid_2 (k : Nat) (x0 : D tEdge) (x1 : D tTypes) : run M (k + 1) f_attribute_Valid_2 [.val tEdge x0, .ro tTypes x1] = b_attribute_Valid_2 (run M k) x0 x1 := by kernel_rfl
def b_attribute_within (R : RunT) (x0 x1 x2 : D tI) : Res E :=
  (some ⟨.bool, (cond (decide (x1 ≤ x0)) (decide (x0 ≤ x2)) false)⟩)
theorem e_attribute_within (k : Nat) (x0 x1 x2 : D tI) : run M (k + 1) f_attribute_within [.val tI x0, .val tI x1, .val tI x2] = b_attribute_within (run M k) x0 x1 x2 := by kernel_rfl
def b_types_given_1 (R : RunT) (x0 : D tI) (x1 : D tTypes) : Res E :=
  (some ⟨.bool, (cond (decide (x0 < (0 : Int))) true (decide ((x1.1.length : Int) ≤ x0)))⟩)
theorem e_types_given_1 (k : Nat) (x0 : D tI) (x1 : D tTypes) : run M (k + 1) f_types_given_1 [.val tI x0, .ro tTypes x1] = b_types_given_1 (run M k) x0 x1 := by kernel_rfl
def b_types_given (R : RunT) (x0 : D tTypes) (x1 : D (.slice tI)) : Res E :=
  (Option.bind (res (.pair .str tI) (R f_types_Valid [.val tTypes (x0.1, x0.2)])) (fun r1 => (cond (!(decide (r1.2 = (0 : Int)))) (some ⟨tI, r1.2⟩) (Option.bind (res .bool (R f_slices_ContainsFunc_int [.val (.slice tI) x1, .fn f_types_given_1 [⟨tTypes, (x0.1, x0.2)⟩]])) (fun r2 => (cond r2 (some ⟨tI, (6 : Int)⟩) (some ⟨tI, (0 : Int)⟩)))))))
theorem e_types_given (k : Nat) (x0 : D tTypes) (x1 : D (.slice tI)) : run M (k + 1) f_types_given [.val tTypes x0, .val (.slice tI) x1] = b_types_given (run M k) x0 x1 := by kernel_rfl
def b_slices_Clone_string (R : RunT) (x0 : D (.slice .str)) : Res E :=
  (cond (decide (0 < x0.length)) (cond (roomy (([] : List (D .str)).length + x0.length) 16) (some ⟨(.slice .str), (([] : List (D .str)) ++ x0)⟩) none) (meet E (some ⟨(.slice .str), ([] : List (D .str))⟩) (cond (roomy (([] : List (D .str)).length + x0.length) 16) (some ⟨(.slice .str), (([] : List (D .str)) ++ x0)⟩) none)))
theorem e_slices_Clone_string (k : Nat) (x0 : D (.slice .str)) : run M (k + 1) f_slices_Clone_string [.val (.slice .str) x0] = b_slices_Clone_string (run M k) x0 := by kernel_rfl
abbrev V_types_Attrs_0 := (D tI) → (D tI) → (List (D tAttr)) → Res E
def lp_types_Attrs_0 (k j : Nat) : V_types_Attrs_0 := fun v20 v21 t1001152 =>
  loopAt M k 153 0 [] [] j ⟨36, [(7, .c (.ref 1001152 0 none)), (20, .c (.leaf tI v20)), (21, .c (.leaf tI v21))], [(1001152, 0, .tok tAttr t1001152)]⟩
def s_types_Attrs_0 (R : RunT) (self : V_types_Attrs_0) : V_types_Attrs_0 := fun v20 v21 t1001152 =>
  (cond (decide (v21 < v20)) (cond (inB v21 (t1001152.length : Int)) (Option.bind (res (.slice .str) (R f_slices_Clone_string [.val (.slice .str) ((((List.getD t1001152 (Int.toNat v21) (dflt E tAttr)).2).2).2)])) (fun r1 => (cond (inB v21 (t1001152.length : Int)) (self v20 (IntKind.i64.wrap (v21 + (1 : Int))) (List.set t1001152 (Int.toNat v21) ((List.getD t1001152 (Int.toNat v21) (dflt E tAttr)).1, (((List.getD t1001152 (Int.toNat v21) (dflt E tAttr)).2).1, ((((List.getD t1001152 (Int.toNat v21) (dflt E tAttr)).2).2).1, r1))))) none))) none) (some ⟨(.pair (.slice tAttr) tI), (t1001152, (0 : Int))⟩))
def l_types_Attrs_0 (R : RunT) : Nat → V_types_Attrs_0
  | 0 => fun _ _ _ => none
  | j + 1 => s_types_Attrs_0 R (l_types_Attrs_0 R j)
def b_types_Attrs (R : RunT) (c0 : V_types_Attrs_0) (x0 : D tTypes) (x1 : D tI) : Res E :=
  (Option.bind (res tI (R f_types_given [.val tTypes (x0.1, x0.2), .val (.slice tI) ([x1] : List (D tI))])) (fun r1 => (cond (!(decide (r1 = (0 : Int)))) (some ⟨(.pair (.slice tAttr) tI), (([] : List (D tAttr)), r1)⟩) (Option.bind (res (.slice tAttr) (R f_types_attrs [.val tTypes (x0.1, x0.2), .val tI x1])) (fun r2 => (c0 (r2.length : Int) (0 : Int) r2))))))
theorem lp_types_Attrs_0_eq (k j0 : Nat) : lp_types_Attrs_0 k j0 = l_types_Attrs_0 (run M k) j0 := by
  induction j0 with
  | zero => kernel_rfl
  | succ j0 ih => exact Eq.trans (b := s_types_Attrs_0 (run M k) (lp_types_Attrs_0 k j0)) (by kernel_rfl) (by simp only [ih]; rfl)
theorem e_types_Attrs (k : Nat) (x0 : D tTypes) (x1 : D tI) : run M (k + 1) f_types_Attrs [.val tTypes x0, .val tI x1] = b_types_Attrs (run M k) (l_types_Attrs_0 (run M k) k) x0 x1 :=
  Eq.trans (b := b_types_Attrs (run M k) (lp_types_Attrs_0 k k) x0 x1) (by kernel_rfl) (by simp only [lp_types_Attrs_0_eq])
def b_attribute_attr (R : RunT) (x0 : D tTypes) (x1 : D tPattern) (x2 : D tSlot) : Res E :=
  (Option.bind (res .bool (R f_attribute_within [.val tI x2.1, .val tI (0 : Int), .val tI (IntKind.i64.wrap ((x1.1.1.length : Int) - (1 : Int)))])) (fun r1 => (cond (!r1) (some ⟨(.pair .str (.pair tI (.pair tI (.pair (.slice .str) .bool)))), ((⟨#[]⟩ : ByteArray), ((0 : Int), ((0 : Int), (([] : List (D .str)), false))))⟩) (cond (inB x2.1 (x1.1.1.length : Int)) (Option.bind (res (.pair (.slice tAttr) tI) (R f_types_Attrs [.val tTypes (x0.1, x0.2), .val tI (rd (E := E) (t := tI) x1.1.1 x2.1)])) (fun r2 => (Option.bind (res .bool (R f_attribute_within [.val tI x2.2.1, .val tI (0 : Int), .val tI (IntKind.i64.wrap ((r2.1.length : Int) - (1 : Int)))])) (fun r3 => (cond (!r3) (some ⟨(.pair .str (.pair tI (.pair tI (.pair (.slice .str) .bool)))), ((⟨#[]⟩ : ByteArray), ((0 : Int), ((0 : Int), (([] : List (D .str)), false))))⟩) (cond (inB x2.2.1 (r2.1.length : Int)) (some ⟨(.pair .str (.pair tI (.pair tI (.pair (.slice .str) .bool)))), ((List.getD r2.1 (Int.toNat x2.2.1) (dflt E tAttr)).1, (((List.getD r2.1 (Int.toNat x2.2.1) (dflt E tAttr)).2).1, ((((List.getD r2.1 (Int.toNat x2.2.1) (dflt E tAttr)).2).2).1, ((((List.getD r2.1 (Int.toNat x2.2.1) (dflt E tAttr)).2).2).2, true))))⟩) none)))))) none))))
theorem e_attribute_attr (k : Nat) (x0 : D tTypes) (x1 : D tPattern) (x2 : D tSlot) : run M (k + 1) f_attribute_attr [.val tTypes x0, .val tPattern x1, .val tSlot x2] = b_attribute_attr (run M k) x0 x1 x2 := by kernel_rfl
def b_difference_term (R : RunT) (x0 : D tI) (x1 : D tTerm) : Res E :=
  (some ⟨.bool, (cond (cond (cond (decide ((-1 : Int) ≤ x1.1)) (decide (x1.1 < x0)) false) (decide ((-1000000 : Int) ≤ x1.2)) false) (decide (x1.2 ≤ (1000000 : Int))) false)⟩)
theorem e_difference_term (k : Nat) (x0 : D tI) (x1 : D tTerm) : run M (k + 1) f_difference_term [.val tI x0, .val tTerm x1] = b_difference_term (run M k) x0 x1 := by kernel_rfl
def b_difference_one (R : RunT) (x0 : D tI) (x1 : D tTest) : Res E :=
  (cond (cond (!(decide (x1.1 = (1 : Int)))) (!(decide (x1.1 = (2 : Int)))) false) (some ⟨tI, (1 : Int)⟩) (Option.bind (res .bool (R f_difference_term [.val tI x0, .val tTerm (x1.2.1.1, x1.2.1.2)])) (fun r1 => (Option.bind (cond (!(!r1)) (res .bool (R f_difference_term [.val tI x0, .val tTerm (x1.2.2.1, x1.2.2.2)])) (some (dflt E .bool))) (fun r2 => (cond (cond (!r1) true (!r2)) (some ⟨tI, (6 : Int)⟩) (some ⟨tI, (0 : Int)⟩)))))))
theorem e_difference_one (k : Nat) (x0 : D tI) (x1 : D tTest) : run M (k + 1) f_difference_one [.val tI x0, .val tTest x1] = b_difference_one (run M k) x0 x1 := by kernel_rfl
abbrev V_difference_Valid_0 := (D tI) → (D (.slice tTest)) → (D tI) → (D tI) → Res E
def lp_difference_Valid_0 (k j : Nat) : V_difference_Valid_0 := fun v0 v17 v18 v19 =>
  loopAt M k 87 0 [] [] j ⟨30, [(0, .c (.leaf tI v0)), (17, .c (.leaf (.slice tTest) v17)), (18, .c (.leaf tI v18)), (19, .c (.leaf tI v19))], []⟩
def s_difference_Valid_0 (R : RunT) (self : V_difference_Valid_0) : V_difference_Valid_0 := fun v0 v17 v18 v19 =>
  (cond (decide (v19 < v18)) (cond (inB v19 (v17.length : Int)) (Option.bind (res tI (R f_difference_one [.val tI v0, .val tTest ((rd (E := E) (t := tTest) v17 v19).1, (((((rd (E := E) (t := tTest) v17 v19).2).1).1, (((rd (E := E) (t := tTest) v17 v19).2).1).2), ((((rd (E := E) (t := tTest) v17 v19).2).2).1, (((rd (E := E) (t := tTest) v17 v19).2).2).2)))])) (fun r1 => (cond (!(decide (r1 = (0 : Int)))) (some ⟨tI, r1⟩) (self v0 v17 v18 (IntKind.i64.wrap (v19 + (1 : Int))))))) none) (some ⟨tI, (0 : Int)⟩))
def l_difference_Valid_0 (R : RunT) : Nat → V_difference_Valid_0
  | 0 => fun _ _ _ _ => none
  | j + 1 => s_difference_Valid_0 R (l_difference_Valid_0 R j)
def b_difference_Valid (R : RunT) (c0 : V_difference_Valid_0) (x0 : D tI) (x1 : D (.slice tTest)) : Res E :=
  (cond (cond (decide (x0 < (0 : Int))) true (decide ((12 : Int) < x0))) (some ⟨tI, (6 : Int)⟩) (cond (decide ((40 : Int) < (x1.length : Int))) (some ⟨tI, (3 : Int)⟩) (c0 x0 x1 (x1.length : Int) (0 : Int))))
theorem lp_difference_Valid_0_eq (k j0 : Nat) : lp_difference_Valid_0 k j0 = l_difference_Valid_0 (run M k) j0 := by
  induction j0 with
  | zero => kernel_rfl
  | succ j0 ih => exact Eq.trans (b := s_difference_Valid_0 (run M k) (lp_difference_Valid_0 k j0)) (by kernel_rfl) (by simp only [ih]; rfl)
theorem e_difference_Valid (k : Nat) (x0 : D tI) (x1 : D (.slice tTest)) : run M (k + 1) f_difference_Valid [.val tI x0, .val (.slice tTest) x1] = b_difference_Valid (run M k) (l_difference_Valid_0 (run M k) k) x0 x1 :=
  Eq.trans (b := b_difference_Valid (run M k) (lp_difference_Valid_0 k k) x0 x1) (by kernel_rfl) (by simp only [lp_difference_Valid_0_eq])
abbrev V_slices_Index_bool_0 := (D (.slice .bool)) → (D .bool) → (D tI) → (D tI) → Res E
def lp_slices_Index_bool_0 (k j : Nat) : V_slices_Index_bool_0 := fun v0 v1 v7 v8 =>
  loopAt M k 155 0 [] [] j ⟨19, [(0, .c (.leaf (.slice .bool) v0)), (1, .c (.leaf .bool v1)), (7, .c (.leaf tI v7)), (8, .c (.leaf tI v8))], []⟩
def s_slices_Index_bool_0 (R : RunT) (self : V_slices_Index_bool_0) : V_slices_Index_bool_0 := fun v0 v1 v7 v8 =>
  (cond (decide (v8 < v7)) (cond (inB v8 (v0.length : Int)) (cond (v1 == (rd (E := E) (t := .bool) v0 v8)) (some ⟨tI, v8⟩) (self v0 v1 v7 (IntKind.i64.wrap (v8 + (1 : Int))))) none) (some ⟨tI, (-1 : Int)⟩))
def l_slices_Index_bool_0 (R : RunT) : Nat → V_slices_Index_bool_0
  | 0 => fun _ _ _ _ => none
  | j + 1 => s_slices_Index_bool_0 R (l_slices_Index_bool_0 R j)
def b_slices_Index_bool (R : RunT) (c0 : V_slices_Index_bool_0) (x0 : D (.slice .bool)) (x1 : D .bool) : Res E :=
  (c0 x0 x1 (x0.length : Int) (0 : Int))
theorem lp_slices_Index_bool_0_eq (k j0 : Nat) : lp_slices_Index_bool_0 k j0 = l_slices_Index_bool_0 (run M k) j0 := by
  induction j0 with
  | zero => kernel_rfl
  | succ j0 ih => exact Eq.trans (b := s_slices_Index_bool_0 (run M k) (lp_slices_Index_bool_0 k j0)) (by kernel_rfl) (by simp only [ih]; rfl)
theorem e_slices_Index_bool (k : Nat) (x0 : D (.slice .bool)) (x1 : D .bool) : run M (k + 1) f_slices_Index_bool [.val (.slice .bool) x0, .val .bool x1] = b_slices_Index_bool (run M k) (l_slices_Index_bool_0 (run M k) k) x0 x1 :=
  Eq.trans (b := b_slices_Index_bool (run M k) (lp_slices_Index_bool_0 k k) x0 x1) (by kernel_rfl) (by simp only [lp_slices_Index_bool_0_eq])
def b_slices_Contains_bool (R : RunT) (x0 : D (.slice .bool)) (x1 : D .bool) : Res E :=
  (Option.bind (res tI (R f_slices_Index_bool [.val (.slice .bool) x0, .val .bool x1])) (fun r1 => (some ⟨.bool, (decide ((0 : Int) ≤ r1))⟩)))
theorem e_slices_Contains_bool (k : Nat) (x0 : D (.slice .bool)) (x1 : D .bool) : run M (k + 1) f_slices_Contains_bool [.val (.slice .bool) x0, .val .bool x1] = b_slices_Contains_bool (run M k) x0 x1 := by kernel_rfl
abbrev V_attribute_Valid_0 := (D (.slice tSlot)) → (D tI) → (D tI) → (D (.slice tNodeType)) → (D (.slice tEdgeType)) → (D (.slice tI)) → (D (.slice tEdge)) → (D (.slice tSlot)) → (D tI) → (D (.slice tTest)) → (List (D .bool)) → Res E
def lp_attribute_Valid_0 (k j : Nat) : V_attribute_Valid_0 := fun v58 v59 v60 b2_0 b2_1 b3_0 b3_1 b3_2 b3_3 b3_4 t56 =>
  loopAt M k 39 0 [] [] j ⟨110, [(2, .c (.ptr 2 0 0)), (3, .c (.ptr 3 0 0)), (8, .c (.ref 56 0 none)), (58, .c (.leaf (.slice tSlot) v58)), (59, .c (.leaf tI v59)), (60, .c (.leaf tI v60))], [(2, 0, .box [.leaf (.slice tNodeType) b2_0, .leaf (.slice tEdgeType) b2_1]), (3, 0, .box [.leaf (.slice tI) b3_0, .leaf (.slice tEdge) b3_1, .leaf (.slice tSlot) b3_2, .leaf tI b3_3, .leaf (.slice tTest) b3_4]), (56, 0, .tok .bool t56)]⟩
def s_attribute_Valid_0 (R : RunT) (self : V_attribute_Valid_0) : V_attribute_Valid_0 := fun v58 v59 v60 b2_0 b2_1 b3_0 b3_1 b3_2 b3_3 b3_4 t56 =>
  (cond (decide (v60 < v59)) (cond (inB v60 (v58.length : Int)) (Option.bind (res (.pair .str (.pair tI (.pair tI (.pair (.slice .str) .bool)))) (R f_attribute_attr [.val tTypes (b2_0, b2_1), .val tPattern ((b3_0, b3_1), (b3_2, (b3_3, b3_4))), .val tSlot ((rd (E := E) (t := tSlot) v58 v60).1, (((rd (E := E) (t := tSlot) v58 v60).2).1, ((((rd (E := E) (t := tSlot) v58 v60).2).2).1, (((rd (E := E) (t := tSlot) v58 v60).2).2).2)))])) (fun r1 => (Option.bind (cond (!(!r1.2.2.2.2)) (res .bool (R f_attribute_within [.val tI ((((rd (E := E) (t := tSlot) v58 v60).2).2).1), .val tI (-1 : Int), .val tI (IntKind.i64.wrap (b3_3 - (1 : Int)))])) (some (dflt E .bool))) (fun r2 => (Option.bind (cond (!(cond (!r1.2.2.2.2) true (!r2))) (res .bool (R f_attribute_within [.val tI ((((rd (E := E) (t := tSlot) v58 v60).2).2).2), .val tI (-1000000 : Int), .val tI (1000000 : Int)])) (some (dflt E .bool))) (fun r3 => (cond (cond (cond (!r1.2.2.2.2) true (!r2)) true (!r3)) (some ⟨tI, (6 : Int)⟩) (cond (decide ((0 : Int) ≤ (((rd (E := E) (t := tSlot) v58 v60).2).2).1)) (cond (inB ((((rd (E := E) (t := tSlot) v58 v60).2).2).1) (t56.length : Int)) (self v58 v59 (IntKind.i64.wrap (v60 + (1 : Int))) b2_0 b2_1 b3_0 b3_1 b3_2 b3_3 b3_4 (List.set t56 (Int.toNat ((((rd (E := E) (t := tSlot) v58 v60).2).2).1)) true)) none) (self v58 v59 (IntKind.i64.wrap (v60 + (1 : Int))) b2_0 b2_1 b3_0 b3_1 b3_2 b3_3 b3_4 t56))))))))) none) (Option.bind (res tI (R f_difference_Valid [.val tI b3_3, .val (.slice tTest) b3_4])) (fun r4 => (cond (!(decide (r4 = (0 : Int)))) (some ⟨tI, r4⟩) (Option.bind (res .bool (R f_slices_Contains_bool [.val (.slice .bool) t56, .val .bool false])) (fun r5 => (cond r5 (some ⟨tI, (9 : Int)⟩) (some ⟨tI, (0 : Int)⟩))))))))
def l_attribute_Valid_0 (R : RunT) : Nat → V_attribute_Valid_0
  | 0 => fun _ _ _ _ _ _ _ _ _ _ _ => none
  | j + 1 => s_attribute_Valid_0 R (l_attribute_Valid_0 R j)
def b_attribute_Valid (R : RunT) (c0 : V_attribute_Valid_0) (x0 : D tTypes) (x1 : D tPattern) : Res E :=
  (Option.bind (res (.pair .str tI) (R f_types_Valid [.val tTypes (x0.1, x0.2)])) (fun r1 => (cond (!(decide (r1.2 = (0 : Int)))) (some ⟨tI, r1.2⟩) (Option.bind (res tI (R f_graph_Valid [.val tGraph (x1.1.1, x1.1.2)])) (fun r2 => (cond (!(decide (r2 = (0 : Int)))) (some ⟨tI, r2⟩) (Option.bind (res .bool (R f_slices_ContainsFunc_int [.val (.slice tI) x1.1.1, .fn f_attribute_Valid_1 [⟨tTypes, (x0.1, x0.2)⟩]])) (fun r3 => (Option.bind (cond (!r3) (res .bool (R f_slices_ContainsFunc_Edge [.val (.slice tEdge) x1.1.2, .fn f_attribute_Valid_2 [⟨tTypes, (x0.1, x0.2)⟩]])) (some (dflt E .bool))) (fun r4 => (cond (cond r3 true r4) (some ⟨tI, (13 : Int)⟩) (Option.bind (res .bool (R f_attribute_within [.val tI x1.2.2.1, .val tI (0 : Int), .val tI (12 : Int)])) (fun r5 => (cond (!r5) (some ⟨tI, (6 : Int)⟩) (cond (cond (decide ((10 : Int) < (x1.2.1.length : Int))) true (decide ((10 : Int) < (x1.2.2.2.length : Int)))) (some ⟨tI, (3 : Int)⟩) (cond ((inS (0 : Int) x1.2.2.1 x1.2.2.1) && (roomy (Int.toNat x1.2.2.1) 1)) (c0 x1.2.1 (x1.2.1.length : Int) (0 : Int) x0.1 x0.2 x1.1.1 x1.1.2 x1.2.1 x1.2.2.1 x1.2.2.2 (List.replicate (Int.toNat x1.2.2.1) (dflt E .bool))) none))))))))))))))))
theorem lp_attribute_Valid_0_eq (k j0 : Nat) : lp_attribute_Valid_0 k j0 = l_attribute_Valid_0 (run M k) j0 := by
  induction j0 with
  | zero => kernel_rfl
  | succ j0 ih => exact Eq.trans (b := s_attribute_Valid_0 (run M k) (lp_attribute_Valid_0 k j0)) (by kernel_rfl) (by simp only [ih]; rfl)
theorem e_attribute_Valid (k : Nat) (x0 : D tTypes) (x1 : D tPattern) : run M (k + 1) f_attribute_Valid [.val tTypes x0, .val tPattern x1] = b_attribute_Valid (run M k) (l_attribute_Valid_0 (run M k) k) x0 x1 :=
  Eq.trans (b := b_attribute_Valid (run M k) (lp_attribute_Valid_0 k k) x0 x1) (by kernel_rfl) (by simp only [lp_attribute_Valid_0_eq])
def b_condition_bare (R : RunT) (x0 : D (.nom 0)) : Res E :=
  (some ⟨.bool, (cond (decide ((IntKind.i64.wrap ((IntKind.i64.wrap ((IntKind.i64.wrap ((IntKind.i64.wrap ((IntKind.i64.wrap (((((((E.op 0 x0).2).2).1).1).length : Int) + ((((((E.op 0 x0).2).2).1).2).length : Int))) + (((((((E.op 0 x0).2).2).2).1).1).length : Int))) + (((((((E.op 0 x0).2).2).2).1).2).length : Int))) + (((((((E.op 0 x0).2).2).2).2).1).length : Int))) + ((((((((E.op 0 x0).2).2).2).2).2).2).length : Int))) = (0 : Int))) (decide (((((((E.op 0 x0).2).2).2).2).2).1 = (0 : Int))) false)⟩)
theorem e_condition_bare (k : Nat) (x0 : D (.nom 0)) : run M (k + 1) f_condition_bare [.val (.nom 0) x0] = b_condition_bare (run M k) x0 := by kernel_rfl
abbrev V_slices_IndexFunc_Condition_0 := (D (.slice (.nom 0))) → FuncId → (List (Dt E)) → (D tI) → (D tI) → Res E
def lp_slices_IndexFunc_Condition_0 (k j : Nat) : V_slices_IndexFunc_Condition_0 := fun v0 v1f v1c v7 v8 =>
  loopAt M k 219 0 [] [] j ⟨19, [(0, .c (.leaf (.slice (.nom 0)) v0)), (1, .c (.fnd v1f v1c)), (7, .c (.leaf tI v7)), (8, .c (.leaf tI v8))], []⟩
def s_slices_IndexFunc_Condition_0 (R : RunT) (self : V_slices_IndexFunc_Condition_0) : V_slices_IndexFunc_Condition_0 := fun v0 v1f v1c v7 v8 =>
  (cond (decide (v8 < v7)) (cond (inB v8 (v0.length : Int)) (Option.bind (res .bool (R v1f ([.val (.nom 0) (E.cl 0 ((E.op 0 (rd (E := E) (t := (.nom 0)) v0 v8)).1, (((E.op 0 (rd (E := E) (t := (.nom 0)) v0 v8)).2).1, ((((((E.op 0 (rd (E := E) (t := (.nom 0)) v0 v8)).2).2).1).1, ((((E.op 0 (rd (E := E) (t := (.nom 0)) v0 v8)).2).2).1).2), (((((((E.op 0 (rd (E := E) (t := (.nom 0)) v0 v8)).2).2).2).1).1, (((((E.op 0 (rd (E := E) (t := (.nom 0)) v0 v8)).2).2).2).1).2), ((((((E.op 0 (rd (E := E) (t := (.nom 0)) v0 v8)).2).2).2).2).1, (((((((E.op 0 (rd (E := E) (t := (.nom 0)) v0 v8)).2).2).2).2).2).1, ((((((E.op 0 (rd (E := E) (t := (.nom 0)) v0 v8)).2).2).2).2).2).2)))))))] ++ capArgs v1c))) (fun r1 => (cond r1 (some ⟨tI, v8⟩) (self v0 v1f v1c v7 (IntKind.i64.wrap (v8 + (1 : Int))))))) none) (some ⟨tI, (-1 : Int)⟩))
def l_slices_IndexFunc_Condition_0 (R : RunT) : Nat → V_slices_IndexFunc_Condition_0
  | 0 => fun _ _ _ _ _ => none
  | j + 1 => s_slices_IndexFunc_Condition_0 R (l_slices_IndexFunc_Condition_0 R j)
def b_slices_IndexFunc_Condition (R : RunT) (c0 : V_slices_IndexFunc_Condition_0) (x0 : D (.slice (.nom 0))) (x1 : FuncId) (x1c : List (Dt E)) : Res E :=
  (c0 x0 x1 x1c (x0.length : Int) (0 : Int))
theorem lp_slices_IndexFunc_Condition_0_eq (k j0 : Nat) : lp_slices_IndexFunc_Condition_0 k j0 = l_slices_IndexFunc_Condition_0 (run M k) j0 := by
  induction j0 with
  | zero => kernel_rfl
  | succ j0 ih => exact Eq.trans (b := s_slices_IndexFunc_Condition_0 (run M k) (lp_slices_IndexFunc_Condition_0 k j0)) (by kernel_rfl) (by simp only [ih]; rfl)
theorem e_slices_IndexFunc_Condition (k : Nat) (x0 : D (.slice (.nom 0))) (x1 : FuncId) (x1c : List (Dt E)) : run M (k + 1) f_slices_IndexFunc_Condition [.val (.slice (.nom 0)) x0, .fn x1 x1c] = b_slices_IndexFunc_Condition (run M k) (l_slices_IndexFunc_Condition_0 (run M k) k) x0 x1 x1c :=
  Eq.trans (b := b_slices_IndexFunc_Condition (run M k) (lp_slices_IndexFunc_Condition_0 k k) x0 x1 x1c) (by kernel_rfl) (by simp only [lp_slices_IndexFunc_Condition_0_eq])
def b_slices_ContainsFunc_Condition (R : RunT) (x0 : D (.slice (.nom 0))) (x1 : FuncId) (x1c : List (Dt E)) : Res E :=
  (Option.bind (res tI (R f_slices_IndexFunc_Condition [.val (.slice (.nom 0)) x0, .fn x1 x1c])) (fun r1 => (some ⟨.bool, (decide ((0 : Int) ≤ r1))⟩)))
theorem e_slices_ContainsFunc_Condition (k : Nat) (x0 : D (.slice (.nom 0))) (x1 : FuncId) (x1c : List (Dt E)) : run M (k + 1) f_slices_ContainsFunc_Condition [.val (.slice (.nom 0)) x0, .fn x1 x1c] = b_slices_ContainsFunc_Condition (run M k) x0 x1 x1c := by kernel_rfl
def b_condition_wellFormed_1 (R : RunT) (x0 : D (.nom 0)) : Res E :=
  (Option.bind (res .bool (R f_condition_wellFormed [.val (.nom 0) (E.cl 0 ((E.op 0 x0).1, (((E.op 0 x0).2).1, ((((((E.op 0 x0).2).2).1).1, ((((E.op 0 x0).2).2).1).2), (((((((E.op 0 x0).2).2).2).1).1, (((((E.op 0 x0).2).2).2).1).2), ((((((E.op 0 x0).2).2).2).2).1, (((((((E.op 0 x0).2).2).2).2).2).1, ((((((E.op 0 x0).2).2).2).2).2).2)))))))])) (fun r1 => (some ⟨.bool, !r1⟩)))
theorem e_condition_wellFormed_1 (k : Nat) (x0 : D (.nom 0)) : run M (k + 1) f_condition_wellFormed_1 [.val (.nom 0) x0] = b_condition_wellFormed_1 (run M k) x0 := by kernel_rfl
end
end Go.Proofs.AM

namespace Go.Proofs.AM
open Go
set_option maxRecDepth 100000
noncomputable section
def b_condition_wellFormed (R : RunT) (x0 : D (.nom 0)) : Res E :=
  (cond (decide ((E.op 0 x0).1 = (1 : Int))) (Option.bind (cond (decide (((((E.op 0 x0).2).1).length : Int) = (0 : Int))) (res .bool (R f_condition_bare [.val (.nom 0) (E.cl 0 ((E.op 0 x0).1, (((E.op 0 x0).2).1, ((((((E.op 0 x0).2).2).1).1, ((((E.op 0 x0).2).2).1).2), (((((((E.op 0 x0).2).2).2).1).1, (((((E.op 0 x0).2).2).2).1).2), ((((((E.op 0 x0).2).2).2).2).1, (((((((E.op 0 x0).2).2).2).2).2).1, ((((((E.op 0 x0).2).2).2).2).2).2)))))))])) (some (dflt E .bool))) (fun r1 => (Option.bind (cond (cond (decide (((((E.op 0 x0).2).1).length : Int) = (0 : Int))) r1 false) (res .bool (R f_slices_ContainsFunc_Condition [.val (.slice (.nom 0)) (((E.op 0 x0).2).1), .fn f_condition_wellFormed_1 []])) (some (dflt E .bool))) (fun r2 => (some ⟨.bool, (cond (cond (decide (((((E.op 0 x0).2).1).length : Int) = (0 : Int))) r1 false) (!r2) false)⟩))))) (cond (decide ((E.op 0 x0).1 = (2 : Int))) (Option.bind (cond (decide (((((E.op 0 x0).2).1).length : Int) = (1 : Int))) (res .bool (R f_condition_bare [.val (.nom 0) (E.cl 0 ((E.op 0 x0).1, (((E.op 0 x0).2).1, ((((((E.op 0 x0).2).2).1).1, ((((E.op 0 x0).2).2).1).2), (((((((E.op 0 x0).2).2).2).1).1, (((((E.op 0 x0).2).2).2).1).2), ((((((E.op 0 x0).2).2).2).2).1, (((((((E.op 0 x0).2).2).2).2).2).1, ((((((E.op 0 x0).2).2).2).2).2).2)))))))])) (some (dflt E .bool))) (fun r3 => (Option.bind (cond (cond (decide (((((E.op 0 x0).2).1).length : Int) = (1 : Int))) r3 false) (res .bool (R f_slices_ContainsFunc_Condition [.val (.slice (.nom 0)) (((E.op 0 x0).2).1), .fn f_condition_wellFormed_1 []])) (some (dflt E .bool))) (fun r4 => (some ⟨.bool, (cond (cond (decide (((((E.op 0 x0).2).1).length : Int) = (1 : Int))) r3 false) (!r4) false)⟩))))) (cond (decide ((E.op 0 x0).1 = (3 : Int))) (cond (decide ((E.op 0 x0).1 = (3 : Int))) (Option.bind (cond (decide ((1 : Int) ≤ ((((E.op 0 x0).2).1).length : Int))) (res .bool (R f_condition_bare [.val (.nom 0) (E.cl 0 ((E.op 0 x0).1, (((E.op 0 x0).2).1, ((((((E.op 0 x0).2).2).1).1, ((((E.op 0 x0).2).2).1).2), (((((((E.op 0 x0).2).2).2).1).1, (((((E.op 0 x0).2).2).2).1).2), ((((((E.op 0 x0).2).2).2).2).1, (((((((E.op 0 x0).2).2).2).2).2).1, ((((((E.op 0 x0).2).2).2).2).2).2)))))))])) (some (dflt E .bool))) (fun r5 => (Option.bind (cond (cond (decide ((1 : Int) ≤ ((((E.op 0 x0).2).1).length : Int))) r5 false) (res .bool (R f_slices_ContainsFunc_Condition [.val (.slice (.nom 0)) (((E.op 0 x0).2).1), .fn f_condition_wellFormed_1 []])) (some (dflt E .bool))) (fun r6 => (some ⟨.bool, (cond (cond (decide ((1 : Int) ≤ ((((E.op 0 x0).2).1).length : Int))) r5 false) (!r6) false)⟩))))) (cond (decide ((E.op 0 x0).1 = (5 : Int))) (Option.bind (cond (decide (((((E.op 0 x0).2).1).length : Int) = (1 : Int))) (res .bool (R f_slices_ContainsFunc_Condition [.val (.slice (.nom 0)) (((E.op 0 x0).2).1), .fn f_condition_wellFormed_1 []])) (some (dflt E .bool))) (fun r7 => (some ⟨.bool, (cond (decide (((((E.op 0 x0).2).1).length : Int) = (1 : Int))) (!r7) false)⟩))) (Option.bind (cond false (res .bool (R f_slices_ContainsFunc_Condition [.val (.slice (.nom 0)) (((E.op 0 x0).2).1), .fn f_condition_wellFormed_1 []])) (some (dflt E .bool))) (fun r8 => (some ⟨.bool, (cond false (!r8) false)⟩))))) (cond (decide ((E.op 0 x0).1 = (4 : Int))) (Option.bind (cond (decide ((1 : Int) ≤ ((((E.op 0 x0).2).1).length : Int))) (res .bool (R f_condition_bare [.val (.nom 0) (E.cl 0 ((E.op 0 x0).1, (((E.op 0 x0).2).1, ((((((E.op 0 x0).2).2).1).1, ((((E.op 0 x0).2).2).1).2), (((((((E.op 0 x0).2).2).2).1).1, (((((E.op 0 x0).2).2).2).1).2), ((((((E.op 0 x0).2).2).2).2).1, (((((((E.op 0 x0).2).2).2).2).2).1, ((((((E.op 0 x0).2).2).2).2).2).2)))))))])) (some (dflt E .bool))) (fun r9 => (Option.bind (cond (cond (decide ((1 : Int) ≤ ((((E.op 0 x0).2).1).length : Int))) r9 false) (res .bool (R f_slices_ContainsFunc_Condition [.val (.slice (.nom 0)) (((E.op 0 x0).2).1), .fn f_condition_wellFormed_1 []])) (some (dflt E .bool))) (fun r10 => (some ⟨.bool, (cond (cond (decide ((1 : Int) ≤ ((((E.op 0 x0).2).1).length : Int))) r9 false) (!r10) false)⟩))))) (cond (decide ((E.op 0 x0).1 = (5 : Int))) (Option.bind (cond (decide (((((E.op 0 x0).2).1).length : Int) = (1 : Int))) (res .bool (R f_slices_ContainsFunc_Condition [.val (.slice (.nom 0)) (((E.op 0 x0).2).1), .fn f_condition_wellFormed_1 []])) (some (dflt E .bool))) (fun r11 => (some ⟨.bool, (cond (decide (((((E.op 0 x0).2).1).length : Int) = (1 : Int))) (!r11) false)⟩))) (Option.bind (cond false (res .bool (R f_slices_ContainsFunc_Condition [.val (.slice (.nom 0)) (((E.op 0 x0).2).1), .fn f_condition_wellFormed_1 []])) (some (dflt E .bool))) (fun r12 => (some ⟨.bool, (cond false (!r12) false)⟩))))))))
theorem e_condition_wellFormed (k : Nat) (x0 : D (.nom 0)) : run M (k + 1) f_condition_wellFormed [.val (.nom 0) x0] = b_condition_wellFormed (run M k) x0 := by kernel_rfl
abbrev V_condition_measure_0 := (D tI) → (D tI) → (D (.slice (.nom 0))) → (D tI) → (D tI) → (D tI) → (D (.slice (.nom 0))) → (D (.slice tI)) → (D (.slice tI)) → (D (.slice tI)) → (D (.slice tEdge)) → (D (.slice tSlot)) → (D tI) → (D (.slice tTest)) → Res E
def lp_condition_measure_0 (k j : Nat) : V_condition_measure_0 := fun v4 v5 v11 v12 v13 b1_0 b1_1 b1_2 b1_3 b1_4 b1_5 b1_6 b1_7 b1_8 =>
  loopAt M k 90 0 [] [] j ⟨36, [(1, .c (.ptr 1 0 0)), (4, .c (.leaf tI v4)), (5, .c (.leaf tI v5)), (11, .c (.leaf (.slice (.nom 0)) v11)), (12, .c (.leaf tI v12)), (13, .c (.leaf tI v13))], [(1, 0, .box [.leaf tI b1_0, .leaf (.slice (.nom 0)) b1_1, .leaf (.slice tI) b1_2, .leaf (.slice tI) b1_3, .leaf (.slice tI) b1_4, .leaf (.slice tEdge) b1_5, .leaf (.slice tSlot) b1_6, .leaf tI b1_7, .leaf (.slice tTest) b1_8])]⟩
def s_condition_measure_0 (R : RunT) (self : V_condition_measure_0) : V_condition_measure_0 := fun v4 v5 v11 v12 v13 b1_0 b1_1 b1_2 b1_3 b1_4 b1_5 b1_6 b1_7 b1_8 =>
  (cond (decide (v13 < v12)) (cond (inB v13 (v11.length : Int)) (Option.bind (res tTerm (R f_condition_measure [.val (.nom 0) (E.cl 0 ((E.op 0 (rd (E := E) (t := (.nom 0)) v11 v13)).1, (((E.op 0 (rd (E := E) (t := (.nom 0)) v11 v13)).2).1, ((((((E.op 0 (rd (E := E) (t := (.nom 0)) v11 v13)).2).2).1).1, ((((E.op 0 (rd (E := E) (t := (.nom 0)) v11 v13)).2).2).1).2), (((((((E.op 0 (rd (E := E) (t := (.nom 0)) v11 v13)).2).2).2).1).1, (((((E.op 0 (rd (E := E) (t := (.nom 0)) v11 v13)).2).2).2).1).2), ((((((E.op 0 (rd (E := E) (t := (.nom 0)) v11 v13)).2).2).2).2).1, (((((((E.op 0 (rd (E := E) (t := (.nom 0)) v11 v13)).2).2).2).2).2).1, ((((((E.op 0 (rd (E := E) (t := (.nom 0)) v11 v13)).2).2).2).2).2).2)))))))])) (fun r1 => (self (IntKind.i64.wrap (v4 + r1.1)) (cond (decide (v5 < r1.2)) r1.2 v5) v11 v12 (IntKind.i64.wrap (v13 + (1 : Int))) b1_0 b1_1 b1_2 b1_3 b1_4 b1_5 b1_6 b1_7 b1_8))) none) (cond (decide (b1_0 = (5 : Int))) (some ⟨tTerm, (v4, (IntKind.i64.wrap (v5 + (1 : Int))))⟩) (some ⟨tTerm, (v4, v5)⟩)))
def l_condition_measure_0 (R : RunT) : Nat → V_condition_measure_0
  | 0 => fun _ _ _ _ _ _ _ _ _ _ _ _ _ _ => none
  | j + 1 => s_condition_measure_0 R (l_condition_measure_0 R j)
def b_condition_measure (R : RunT) (c0 : V_condition_measure_0) (x0 : D (.nom 0)) : Res E :=
  (c0 (1 : Int) (0 : Int) (((E.op 0 x0).2).1) ((((E.op 0 x0).2).1).length : Int) (0 : Int) ((E.op 0 x0).1) (((E.op 0 x0).2).1) (((((E.op 0 x0).2).2).1).1) (((((E.op 0 x0).2).2).1).2) ((((((E.op 0 x0).2).2).2).1).1) ((((((E.op 0 x0).2).2).2).1).2) ((((((E.op 0 x0).2).2).2).2).1) (((((((E.op 0 x0).2).2).2).2).2).1) (((((((E.op 0 x0).2).2).2).2).2).2))
theorem lp_condition_measure_0_eq (k j0 : Nat) : lp_condition_measure_0 k j0 = l_condition_measure_0 (run M k) j0 := by
  induction j0 with
  | zero => kernel_rfl
  | succ j0 ih => exact Eq.trans (b := s_condition_measure_0 (run M k) (lp_condition_measure_0 k j0)) (by kernel_rfl) (by simp only [ih]; rfl)
theorem e_condition_measure (k : Nat) (x0 : D (.nom 0)) : run M (k + 1) f_condition_measure [.val (.nom 0) x0] = b_condition_measure (run M k) (l_condition_measure_0 (run M k) k) x0 :=
  Eq.trans (b := b_condition_measure (run M k) (lp_condition_measure_0 k k) x0) (by kernel_rfl) (by simp only [lp_condition_measure_0_eq])
def b_condition_shape (R : RunT) (x0 : D (.nom 0)) : Res E :=
  (Option.bind (res .bool (R f_condition_wellFormed [.val (.nom 0) (E.cl 0 ((E.op 0 x0).1, (((E.op 0 x0).2).1, ((((((E.op 0 x0).2).2).1).1, ((((E.op 0 x0).2).2).1).2), (((((((E.op 0 x0).2).2).2).1).1, (((((E.op 0 x0).2).2).2).1).2), ((((((E.op 0 x0).2).2).2).2).1, (((((((E.op 0 x0).2).2).2).2).2).1, ((((((E.op 0 x0).2).2).2).2).2).2)))))))])) (fun r1 => (cond (!r1) (some ⟨tI, (1 : Int)⟩) (Option.bind (res tTerm (R f_condition_measure [.val (.nom 0) (E.cl 0 ((E.op 0 x0).1, (((E.op 0 x0).2).1, ((((((E.op 0 x0).2).2).1).1, ((((E.op 0 x0).2).2).1).2), (((((((E.op 0 x0).2).2).2).1).1, (((((E.op 0 x0).2).2).2).1).2), ((((((E.op 0 x0).2).2).2).2).1, (((((((E.op 0 x0).2).2).2).2).2).1, ((((((E.op 0 x0).2).2).2).2).2).2)))))))])) (fun r2 => (cond (cond (decide ((12 : Int) < r2.1)) true (decide ((3 : Int) < r2.2))) (some ⟨tI, (3 : Int)⟩) (some ⟨tI, (0 : Int)⟩)))))))
theorem e_condition_shape (k : Nat) (x0 : D (.nom 0)) : run M (k + 1) f_condition_shape [.val (.nom 0) x0] = b_condition_shape (run M k) x0 := by kernel_rfl
abbrev V_slices_IndexFunc_Slot_0 := (D (.slice tSlot)) → FuncId → (List (Dt E)) → (D tI) → (D tI) → Res E
def lp_slices_IndexFunc_Slot_0 (k j : Nat) : V_slices_IndexFunc_Slot_0 := fun v0 v1f v1c v7 v8 =>
  loopAt M k 220 0 [] [] j ⟨19, [(0, .c (.leaf (.slice tSlot) v0)), (1, .c (.fnd v1f v1c)), (7, .c (.leaf tI v7)), (8, .c (.leaf tI v8))], []⟩
def s_slices_IndexFunc_Slot_0 (R : RunT) (self : V_slices_IndexFunc_Slot_0) : V_slices_IndexFunc_Slot_0 := fun v0 v1f v1c v7 v8 =>
  (cond (decide (v8 < v7)) (cond (inB v8 (v0.length : Int)) (Option.bind (res .bool (R v1f ([.val tSlot ((rd (E := E) (t := tSlot) v0 v8).1, (((rd (E := E) (t := tSlot) v0 v8).2).1, ((((rd (E := E) (t := tSlot) v0 v8).2).2).1, (((rd (E := E) (t := tSlot) v0 v8).2).2).2)))] ++ capArgs v1c))) (fun r1 => (cond r1 (some ⟨tI, v8⟩) (self v0 v1f v1c v7 (IntKind.i64.wrap (v8 + (1 : Int))))))) none) (some ⟨tI, (-1 : Int)⟩))
def l_slices_IndexFunc_Slot_0 (R : RunT) : Nat → V_slices_IndexFunc_Slot_0
  | 0 => fun _ _ _ _ _ => none
  | j + 1 => s_slices_IndexFunc_Slot_0 R (l_slices_IndexFunc_Slot_0 R j)
def b_slices_IndexFunc_Slot (R : RunT) (c0 : V_slices_IndexFunc_Slot_0) (x0 : D (.slice tSlot)) (x1 : FuncId) (x1c : List (Dt E)) : Res E :=
  (c0 x0 x1 x1c (x0.length : Int) (0 : Int))
theorem lp_slices_IndexFunc_Slot_0_eq (k j0 : Nat) : lp_slices_IndexFunc_Slot_0 k j0 = l_slices_IndexFunc_Slot_0 (run M k) j0 := by
  induction j0 with
  | zero => kernel_rfl
  | succ j0 ih => exact Eq.trans (b := s_slices_IndexFunc_Slot_0 (run M k) (lp_slices_IndexFunc_Slot_0 k j0)) (by kernel_rfl) (by simp only [ih]; rfl)
theorem e_slices_IndexFunc_Slot (k : Nat) (x0 : D (.slice tSlot)) (x1 : FuncId) (x1c : List (Dt E)) : run M (k + 1) f_slices_IndexFunc_Slot [.val (.slice tSlot) x0, .fn x1 x1c] = b_slices_IndexFunc_Slot (run M k) (l_slices_IndexFunc_Slot_0 (run M k) k) x0 x1 x1c :=
  Eq.trans (b := b_slices_IndexFunc_Slot (run M k) (lp_slices_IndexFunc_Slot_0 k k) x0 x1 x1c) (by kernel_rfl) (by simp only [lp_slices_IndexFunc_Slot_0_eq])
def b_slices_ContainsFunc_Slot (R : RunT) (x0 : D (.slice tSlot)) (x1 : FuncId) (x1c : List (Dt E)) : Res E :=
  (Option.bind (res tI (R f_slices_IndexFunc_Slot [.val (.slice tSlot) x0, .fn x1 x1c])) (fun r1 => (some ⟨.bool, (decide ((0 : Int) ≤ r1))⟩)))
theorem e_slices_ContainsFunc_Slot (k : Nat) (x0 : D (.slice tSlot)) (x1 : FuncId) (x1c : List (Dt E)) : run M (k + 1) f_slices_ContainsFunc_Slot [.val (.slice tSlot) x0, .fn x1 x1c] = b_slices_ContainsFunc_Slot (run M k) x0 x1 x1c := by kernel_rfl
def b_condition_pattern_1 (R : RunT) (x0 : D tSlot) (x1 : D tI) : Res E :=
  (some ⟨.bool, (decide (x0.2.2.1 = x1))⟩)
theorem e_condition_pattern_1 (k : Nat) (x0 : D tSlot) (x1 : D tI) : run M (k + 1) f_condition_pattern_1 [.val tSlot x0, .ro tI x1] = b_condition_pattern_1 (run M k) x0 x1 := by kernel_rfl
abbrev V_condition_pattern_0 := (D tI) → (D (.slice tI)) → (D (.slice tEdge)) → (D (.slice tSlot)) → (D tI) → (D (.slice tTest)) → (D tI) → Res E
def lp_condition_pattern_0 (k j : Nat) : V_condition_pattern_0 := fun v7 b4_0 b4_1 b4_2 b4_3 b4_4 b8_0 =>
  loopAt M k 91 0 [] [] j ⟨29, [(4, .c (.ptr 4 0 0)), (7, .c (.leaf tI v7)), (8, .c (.ptr 8 0 0))], [(4, 0, .box [.leaf (.slice tI) b4_0, .leaf (.slice tEdge) b4_1, .leaf (.slice tSlot) b4_2, .leaf tI b4_3, .leaf (.slice tTest) b4_4]), (8, 0, .box [.leaf tI b8_0])]⟩
def s_condition_pattern_0 (R : RunT) (self : V_condition_pattern_0) : V_condition_pattern_0 := fun v7 b4_0 b4_1 b4_2 b4_3 b4_4 b8_0 =>
  (cond (decide (b8_0 < b4_3)) (Option.bind (res .bool (R f_slices_ContainsFunc_Slot [.val (.slice tSlot) b4_2, .fn f_condition_pattern_1 [⟨tI, b8_0⟩]])) (fun r1 => (cond (!r1) (some ⟨tI, v7⟩) (self v7 b4_0 b4_1 b4_2 b4_3 b4_4 (IntKind.i64.wrap (b8_0 + (1 : Int))))))) (some ⟨tI, (0 : Int)⟩))
def l_condition_pattern_0 (R : RunT) : Nat → V_condition_pattern_0
  | 0 => fun _ _ _ _ _ _ _ => none
  | j + 1 => s_condition_pattern_0 R (l_condition_pattern_0 R j)
def b_condition_pattern (R : RunT) (c0 : V_condition_pattern_0) (x0 : D tTypes) (x1 : D tPattern) (x2 : D tI) : Res E :=
  (Option.bind (res tI (R f_attribute_Valid [.val tTypes (x0.1, x0.2), .val tPattern ((x1.1.1, x1.1.2), (x1.2.1, (x1.2.2.1, x1.2.2.2)))])) (fun r1 => (cond (!(decide (r1 = (9 : Int)))) (some ⟨tI, r1⟩) (c0 r1 x1.1.1 x1.1.2 x1.2.1 x1.2.2.1 x1.2.2.2 x2))))
theorem lp_condition_pattern_0_eq (k j0 : Nat) : lp_condition_pattern_0 k j0 = l_condition_pattern_0 (run M k) j0 := by
  induction j0 with
  | zero => kernel_rfl
  | succ j0 ih => exact Eq.trans (b := s_condition_pattern_0 (run M k) (lp_condition_pattern_0 k j0)) (by kernel_rfl) (by simp only [ih]; rfl)
theorem e_condition_pattern (k : Nat) (x0 : D tTypes) (x1 : D tPattern) (x2 : D tI) : run M (k + 1) f_condition_pattern [.val tTypes x0, .val tPattern x1, .val tI x2] = b_condition_pattern (run M k) (l_condition_pattern_0 (run M k) k) x0 x1 x2 :=
  Eq.trans (b := b_condition_pattern (run M k) (lp_condition_pattern_0 k k) x0 x1 x2) (by kernel_rfl) (by simp only [lp_condition_pattern_0_eq])
abbrev V_morphism_Valid_0 := (D (.slice tI)) → (D tI) → (D tI) → (D (.slice tI)) → (D (.slice tEdge)) → (D (.slice tI)) → (D (.slice tEdge)) → (D (.slice tI)) → (D (.slice tI)) → Res E
def lp_morphism_Valid_0 (k j : Nat) : V_morphism_Valid_0 := fun v42 v43 v44 b3_0 b3_1 b4_0 b4_1 b5_0 b5_1 =>
  loopAt M k 92 0 [] [] j ⟨123, [(3, .c (.ptr 3 0 0)), (4, .c (.ptr 4 0 0)), (5, .c (.ptr 5 0 0)), (42, .c (.leaf (.slice tI) v42)), (43, .c (.leaf tI v43)), (44, .c (.leaf tI v44))], [(3, 0, .box [.leaf (.slice tI) b3_0, .leaf (.slice tEdge) b3_1]), (4, 0, .box [.leaf (.slice tI) b4_0, .leaf (.slice tEdge) b4_1]), (5, 0, .box [.leaf (.slice tI) b5_0, .leaf (.slice tI) b5_1])]⟩
abbrev V_morphism_Valid_2 := (D (.slice tI)) → (D tI) → (D tI) → (D (.slice tI)) → (D (.slice tEdge)) → (D (.slice tI)) → (D (.slice tEdge)) → (D (.slice tI)) → (D (.slice tI)) → Res E
def lp_morphism_Valid_2 (k j : Nat) : V_morphism_Valid_2 := fun v71 v72 v73 b3_0 b3_1 b4_0 b4_1 b5_0 b5_1 =>
  loopAt M k 92 2 [] [] j ⟨123, [(3, .c (.ptr 3 0 0)), (4, .c (.ptr 4 0 0)), (5, .c (.ptr 5 0 0)), (71, .c (.leaf (.slice tI) v71)), (72, .c (.leaf tI v72)), (73, .c (.leaf tI v73))], [(3, 0, .box [.leaf (.slice tI) b3_0, .leaf (.slice tEdge) b3_1]), (4, 0, .box [.leaf (.slice tI) b4_0, .leaf (.slice tEdge) b4_1]), (5, 0, .box [.leaf (.slice tI) b5_0, .leaf (.slice tI) b5_1])]⟩
def s_morphism_Valid_0 (R : RunT) (c2 : V_morphism_Valid_2) (self : V_morphism_Valid_0) : V_morphism_Valid_0 := fun v42 v43 v44 b3_0 b3_1 b4_0 b4_1 b5_0 b5_1 =>
  (cond (decide (v44 < v43)) (cond (inB v44 (v42.length : Int)) (cond (cond (decide ((rd (E := E) (t := tI) v42 v44) < (0 : Int))) true (decide ((b4_0.length : Int) ≤ (rd (E := E) (t := tI) v42 v44)))) (some ⟨tI, (6 : Int)⟩) (cond (inB (rd (E := E) (t := tI) v42 v44) (b4_0.length : Int)) (cond (inB v44 (b3_0.length : Int)) (cond (!(decide ((rd (E := E) (t := tI) b4_0 (rd (E := E) (t := tI) v42 v44)) = (rd (E := E) (t := tI) b3_0 v44)))) (some ⟨tI, (13 : Int)⟩) (self v42 v43 (IntKind.i64.wrap (v44 + (1 : Int))) b3_0 b3_1 b4_0 b4_1 b5_0 b5_1)) none) none)) none) (c2 b5_1 (b5_1.length : Int) (0 : Int) b3_0 b3_1 b4_0 b4_1 b5_0 b5_1))
def s_morphism_Valid_2 (R : RunT) (self : V_morphism_Valid_2) : V_morphism_Valid_2 := fun v71 v72 v73 b3_0 b3_1 b4_0 b4_1 b5_0 b5_1 =>
  (cond (decide (v73 < v72)) (cond (inB v73 (v71.length : Int)) (cond (cond (decide ((rd (E := E) (t := tI) v71 v73) < (0 : Int))) true (decide ((b4_1.length : Int) ≤ (rd (E := E) (t := tI) v71 v73)))) (some ⟨tI, (6 : Int)⟩) (cond (inB v73 (b3_1.length : Int)) (cond (inB (rd (E := E) (t := tI) v71 v73) (b4_1.length : Int)) (cond (!(decide ((rd (E := E) (t := tEdge) b3_1 v73).1 = (rd (E := E) (t := tEdge) b4_1 (rd (E := E) (t := tI) v71 v73)).1))) (some ⟨tI, (13 : Int)⟩) (cond (inB (((rd (E := E) (t := tEdge) b3_1 v73).2).1) (b5_0.length : Int)) (cond ((inB (((rd (E := E) (t := tEdge) b3_1 v73).2).2) (b5_0.length : Int)) || !(!(!(decide ((rd (E := E) (t := tI) b5_0 (((rd (E := E) (t := tEdge) b3_1 v73).2).1)) = ((rd (E := E) (t := tEdge) b4_1 (rd (E := E) (t := tI) v71 v73)).2).1))))) (cond (cond (!(decide ((rd (E := E) (t := tI) b5_0 (((rd (E := E) (t := tEdge) b3_1 v73).2).1)) = ((rd (E := E) (t := tEdge) b4_1 (rd (E := E) (t := tI) v71 v73)).2).1))) true (!(decide ((rd (E := E) (t := tI) b5_0 (((rd (E := E) (t := tEdge) b3_1 v73).2).2)) = ((rd (E := E) (t := tEdge) b4_1 (rd (E := E) (t := tI) v71 v73)).2).2)))) (some ⟨tI, (11 : Int)⟩) (self v71 v72 (IntKind.i64.wrap (v73 + (1 : Int))) b3_0 b3_1 b4_0 b4_1 b5_0 b5_1)) none) none)) none) none)) none) (some ⟨tI, (0 : Int)⟩))
def l_morphism_Valid_0 (R : RunT) (c2 : V_morphism_Valid_2) : Nat → V_morphism_Valid_0
  | 0 => fun _ _ _ _ _ _ _ _ _ => none
  | j + 1 => s_morphism_Valid_0 R c2 (l_morphism_Valid_0 R c2 j)
def l_morphism_Valid_2 (R : RunT) : Nat → V_morphism_Valid_2
  | 0 => fun _ _ _ _ _ _ _ _ _ => none
  | j + 1 => s_morphism_Valid_2 R (l_morphism_Valid_2 R j)
def b_morphism_Valid (R : RunT) (c0 : V_morphism_Valid_0) (x0 x1 : D tGraph) (x2 : D tMorphism) : Res E :=
  (Option.bind (res tI (R f_graph_Valid [.val tGraph (x0.1, x0.2)])) (fun r1 => (cond (!(decide (r1 = (0 : Int)))) (some ⟨tI, r1⟩) (Option.bind (res tI (R f_graph_Valid [.val tGraph (x1.1, x1.2)])) (fun r2 => (cond (!(decide (r2 = (0 : Int)))) (some ⟨tI, r2⟩) (cond (cond (!(decide ((x2.1.length : Int) = (x0.1.length : Int)))) true (!(decide ((x2.2.length : Int) = (x0.2.length : Int))))) (some ⟨tI, (20 : Int)⟩) (c0 x2.1 (x2.1.length : Int) (0 : Int) x0.1 x0.2 x1.1 x1.2 x2.1 x2.2))))))))
theorem lp_morphism_Valid_0_eq (k j0 : Nat) : lp_morphism_Valid_0 k j0 = l_morphism_Valid_0 (run M k) (lp_morphism_Valid_2 k k) j0 := by
  induction j0 with
  | zero => kernel_rfl
  | succ j0 ih => exact Eq.trans (b := s_morphism_Valid_0 (run M k) (lp_morphism_Valid_2 k k) (lp_morphism_Valid_0 k j0)) (by kernel_rfl) (by simp only [ih]; rfl)
theorem lp_morphism_Valid_2_eq (k j2 : Nat) : lp_morphism_Valid_2 k j2 = l_morphism_Valid_2 (run M k) j2 := by
  induction j2 with
  | zero => kernel_rfl
  | succ j2 ih => exact Eq.trans (b := s_morphism_Valid_2 (run M k) (lp_morphism_Valid_2 k j2)) (by kernel_rfl) (by simp only [ih]; rfl)
theorem e_morphism_Valid (k : Nat) (x0 x1 : D tGraph) (x2 : D tMorphism) : run M (k + 1) f_morphism_Valid [.val tGraph x0, .val tGraph x1, .val tMorphism x2] = b_morphism_Valid (run M k) (l_morphism_Valid_0 (run M k) (l_morphism_Valid_2 (run M k) k) k) x0 x1 x2 :=
  Eq.trans (b := b_morphism_Valid (run M k) (lp_morphism_Valid_0 k k) x0 x1 x2) (by kernel_rfl) (by simp only [lp_morphism_Valid_0_eq, lp_morphism_Valid_2_eq])
def b_slices_Clone_int (R : RunT) (x0 : D (.slice tI)) : Res E :=
  (cond (decide (0 < x0.length)) (cond (roomy (([] : List (D tI)).length + x0.length) 8) (some ⟨(.slice tI), (([] : List (D tI)) ++ x0)⟩) none) (meet E (some ⟨(.slice tI), ([] : List (D tI))⟩) (cond (roomy (([] : List (D tI)).length + x0.length) 8) (some ⟨(.slice tI), (([] : List (D tI)) ++ x0)⟩) none)))
theorem e_slices_Clone_int (k : Nat) (x0 : D (.slice tI)) : run M (k + 1) f_slices_Clone_int [.val (.slice tI) x0] = b_slices_Clone_int (run M k) x0 := by kernel_rfl
def b_morphism_images (R : RunT) (x0 : D (.slice tI)) : Res E :=
  (Option.bind (res (.slice tI) (R f_slices_Clone_int [.val (.slice tI) x0])) (fun r1 => (Option.bind (res (.slice tI) (R f_slices_Sort_int [.own tI r1])) (fun r2 => (cond (decide (r2.length = r1.length)) (Option.bind (res (.slice tI) (R f_slices_Compact_int [.take tI r2])) (fun r3 => (some ⟨tI, (r3.length : Int)⟩))) none)))))
theorem e_morphism_images (k : Nat) (x0 : D (.slice tI)) : run M (k + 1) f_morphism_images [.val (.slice tI) x0] = b_morphism_images (run M k) x0 := by kernel_rfl
def b_morphism_Injective (R : RunT) (x0 x1 : D tGraph) (x2 : D tMorphism) : Res E :=
  (Option.bind (res tI (R f_morphism_Valid [.val tGraph (x0.1, x0.2), .val tGraph (x1.1, x1.2), .val tMorphism (x2.1, x2.2)])) (fun r1 => (Option.bind (cond (decide (r1 = (0 : Int))) (res tI (R f_morphism_images [.val (.slice tI) x2.1])) (some (dflt E tI))) (fun r2 => (Option.bind (cond (cond (decide (r1 = (0 : Int))) (decide (r2 = (x2.1.length : Int))) false) (res tI (R f_morphism_images [.val (.slice tI) x2.2])) (some (dflt E tI))) (fun r3 => (some ⟨.bool, (cond (cond (decide (r1 = (0 : Int))) (decide (r2 = (x2.1.length : Int))) false) (decide (r3 = (x2.2.length : Int))) false)⟩)))))))
theorem e_morphism_Injective (k : Nat) (x0 x1 : D tGraph) (x2 : D tMorphism) : run M (k + 1) f_morphism_Injective [.val tGraph x0, .val tGraph x1, .val tMorphism x2] = b_morphism_Injective (run M k) x0 x1 x2 := by kernel_rfl
abbrev V_condition_inside_0 := (D (.slice (.nom 0))) → (D tI) → (D tI) → (D (.slice tNodeType)) → (D (.slice tEdgeType)) → (D (.slice tI)) → (D (.slice tEdge)) → (D (.slice tSlot)) → (D tI) → (D (.slice tTest)) → Res E
def lp_condition_inside_0 (k j : Nat) : V_condition_inside_0 := fun v51 v52 v53 b3_0 b3_1 b4_0 b4_1 b4_2 b4_3 b4_4 =>
  loopAt M k 41 0 [] [] j ⟨65, [(3, .c (.ptr 3 0 0)), (4, .c (.ptr 4 0 0)), (51, .c (.leaf (.slice (.nom 0)) v51)), (52, .c (.leaf tI v52)), (53, .c (.leaf tI v53))], [(3, 0, .box [.leaf (.slice tNodeType) b3_0, .leaf (.slice tEdgeType) b3_1]), (4, 0, .box [.leaf (.slice tI) b4_0, .leaf (.slice tEdge) b4_1, .leaf (.slice tSlot) b4_2, .leaf tI b4_3, .leaf (.slice tTest) b4_4])]⟩
def s_condition_inside_0 (R : RunT) (self : V_condition_inside_0) : V_condition_inside_0 := fun v51 v52 v53 b3_0 b3_1 b4_0 b4_1 b4_2 b4_3 b4_4 =>
  (cond (decide (v53 < v52)) (cond (inB v53 (v51.length : Int)) (Option.bind (res tI (R f_condition_inside [.val tTypes (b3_0, b3_1), .val tPattern ((b4_0, b4_1), (b4_2, (b4_3, b4_4))), .val (.nom 0) (E.cl 0 ((E.op 0 (rd (E := E) (t := (.nom 0)) v51 v53)).1, (((E.op 0 (rd (E := E) (t := (.nom 0)) v51 v53)).2).1, ((((((E.op 0 (rd (E := E) (t := (.nom 0)) v51 v53)).2).2).1).1, ((((E.op 0 (rd (E := E) (t := (.nom 0)) v51 v53)).2).2).1).2), (((((((E.op 0 (rd (E := E) (t := (.nom 0)) v51 v53)).2).2).2).1).1, (((((E.op 0 (rd (E := E) (t := (.nom 0)) v51 v53)).2).2).2).1).2), ((((((E.op 0 (rd (E := E) (t := (.nom 0)) v51 v53)).2).2).2).2).1, (((((((E.op 0 (rd (E := E) (t := (.nom 0)) v51 v53)).2).2).2).2).2).1, ((((((E.op 0 (rd (E := E) (t := (.nom 0)) v51 v53)).2).2).2).2).2).2)))))))])) (fun r1 => (cond (!(decide (r1 = (0 : Int)))) (some ⟨tI, r1⟩) (self v51 v52 (IntKind.i64.wrap (v53 + (1 : Int))) b3_0 b3_1 b4_0 b4_1 b4_2 b4_3 b4_4)))) none) (some ⟨tI, (0 : Int)⟩))
def l_condition_inside_0 (R : RunT) : Nat → V_condition_inside_0
  | 0 => fun _ _ _ _ _ _ _ _ _ _ => none
  | j + 1 => s_condition_inside_0 R (l_condition_inside_0 R j)
def b_condition_inside (R : RunT) (c0 : V_condition_inside_0) (x0 : D tTypes) (x1 : D tPattern) (x2 : D (.nom 0)) : Res E :=
  (cond (decide ((E.op 0 x2).1 = (5 : Int))) (cond (decide (((((((E.op 0 x2).2).2).2).2).2).1 < x1.2.2.1)) (some ⟨tI, (20 : Int)⟩) (Option.bind (res tI (R f_condition_pattern [.val tTypes (x0.1, x0.2), .val tPattern (((((((E.op 0 x2).2).2).2).1).1, (((((E.op 0 x2).2).2).2).1).2), ((((((E.op 0 x2).2).2).2).2).1, (((((((E.op 0 x2).2).2).2).2).2).1, ((((((E.op 0 x2).2).2).2).2).2).2))), .val tI x1.2.2.1])) (fun r1 => (cond (!(decide (r1 = (0 : Int)))) (some ⟨tI, r1⟩) (Option.bind (res tI (R f_morphism_Valid [.val tGraph (x1.1.1, x1.1.2), .val tGraph ((((((E.op 0 x2).2).2).2).1).1, (((((E.op 0 x2).2).2).2).1).2), .val tMorphism (((((E.op 0 x2).2).2).1).1, ((((E.op 0 x2).2).2).1).2)])) (fun r2 => (cond (!(decide (r2 = (0 : Int)))) (some ⟨tI, r2⟩) (Option.bind (res .bool (R f_morphism_Injective [.val tGraph (x1.1.1, x1.1.2), .val tGraph ((((((E.op 0 x2).2).2).2).1).1, (((((E.op 0 x2).2).2).2).1).2), .val tMorphism (((((E.op 0 x2).2).2).1).1, ((((E.op 0 x2).2).2).1).2)])) (fun r3 => (cond (!r3) (some ⟨tI, (1 : Int)⟩) (c0 (((E.op 0 x2).2).1) ((((E.op 0 x2).2).1).length : Int) (0 : Int) x0.1 x0.2 ((((((E.op 0 x2).2).2).2).1).1) ((((((E.op 0 x2).2).2).2).1).2) ((((((E.op 0 x2).2).2).2).2).1) (((((((E.op 0 x2).2).2).2).2).2).1) (((((((E.op 0 x2).2).2).2).2).2).2)))))))))))) (c0 (((E.op 0 x2).2).1) ((((E.op 0 x2).2).1).length : Int) (0 : Int) x0.1 x0.2 x1.1.1 x1.1.2 x1.2.1 x1.2.2.1 x1.2.2.2))
theorem lp_condition_inside_0_eq (k j0 : Nat) : lp_condition_inside_0 k j0 = l_condition_inside_0 (run M k) j0 := by
  induction j0 with
  | zero => kernel_rfl
  | succ j0 ih => exact Eq.trans (b := s_condition_inside_0 (run M k) (lp_condition_inside_0 k j0)) (by kernel_rfl) (by simp only [ih]; rfl)
theorem e_condition_inside (k : Nat) (x0 : D tTypes) (x1 : D tPattern) (x2 : D (.nom 0)) : run M (k + 1) f_condition_inside [.val tTypes x0, .val tPattern x1, .val (.nom 0) x2] = b_condition_inside (run M k) (l_condition_inside_0 (run M k) k) x0 x1 x2 :=
  Eq.trans (b := b_condition_inside (run M k) (lp_condition_inside_0 k k) x0 x1 x2) (by kernel_rfl) (by simp only [lp_condition_inside_0_eq])
def b_condition_Valid (R : RunT) (x0 : D tTypes) (x1 : D tPattern) (x2 : D (.nom 0)) : Res E :=
  (Option.bind (res tI (R f_attribute_Valid [.val tTypes (x0.1, x0.2), .val tPattern ((x1.1.1, x1.1.2), (x1.2.1, (x1.2.2.1, x1.2.2.2)))])) (fun r1 => (cond (!(decide (r1 = (0 : Int)))) (some ⟨tI, r1⟩) (Option.bind (res tI (R f_condition_shape [.val (.nom 0) (E.cl 0 ((E.op 0 x2).1, (((E.op 0 x2).2).1, ((((((E.op 0 x2).2).2).1).1, ((((E.op 0 x2).2).2).1).2), (((((((E.op 0 x2).2).2).2).1).1, (((((E.op 0 x2).2).2).2).1).2), ((((((E.op 0 x2).2).2).2).2).1, (((((((E.op 0 x2).2).2).2).2).2).1, ((((((E.op 0 x2).2).2).2).2).2).2)))))))])) (fun r2 => (cond (!(decide (r2 = (0 : Int)))) (some ⟨tI, r2⟩) (Option.bind (res tI (R f_condition_inside [.val tTypes (x0.1, x0.2), .val tPattern ((x1.1.1, x1.1.2), (x1.2.1, (x1.2.2.1, x1.2.2.2))), .val (.nom 0) (E.cl 0 ((E.op 0 x2).1, (((E.op 0 x2).2).1, ((((((E.op 0 x2).2).2).1).1, ((((E.op 0 x2).2).2).1).2), (((((((E.op 0 x2).2).2).2).1).1, (((((E.op 0 x2).2).2).2).1).2), ((((((E.op 0 x2).2).2).2).2).1, (((((((E.op 0 x2).2).2).2).2).2).1, ((((((E.op 0 x2).2).2).2).2).2).2)))))))])) (fun r3 => (some ⟨tI, r3⟩)))))))))
theorem e_condition_Valid (k : Nat) (x0 : D tTypes) (x1 : D tPattern) (x2 : D (.nom 0)) : run M (k + 1) f_condition_Valid [.val tTypes x0, .val tPattern x1, .val (.nom 0) x2] = b_condition_Valid (run M k) x0 x1 x2 := by kernel_rfl
abbrev V_slices_Equal_int_0 := (D (.slice tI)) → (D (.slice tI)) → (D tI) → (D tI) → Res E
def lp_slices_Equal_int_0 (k j : Nat) : V_slices_Equal_int_0 := fun v0 v1 v12 v13 =>
  loopAt M k 73 0 [] [] j ⟨26, [(0, .c (.leaf (.slice tI) v0)), (1, .c (.leaf (.slice tI) v1)), (12, .c (.leaf tI v12)), (13, .c (.leaf tI v13))], []⟩
def s_slices_Equal_int_0 (R : RunT) (self : V_slices_Equal_int_0) : V_slices_Equal_int_0 := fun v0 v1 v12 v13 =>
  (cond (decide (v13 < v12)) (cond (inB v13 (v0.length : Int)) (cond (inB v13 (v1.length : Int)) (cond (!(decide ((rd (E := E) (t := tI) v0 v13) = (rd (E := E) (t := tI) v1 v13)))) (some ⟨.bool, false⟩) (self v0 v1 v12 (IntKind.i64.wrap (v13 + (1 : Int))))) none) none) (some ⟨.bool, true⟩))
def l_slices_Equal_int_0 (R : RunT) : Nat → V_slices_Equal_int_0
  | 0 => fun _ _ _ _ => none
  | j + 1 => s_slices_Equal_int_0 R (l_slices_Equal_int_0 R j)
def b_slices_Equal_int (R : RunT) (c0 : V_slices_Equal_int_0) (x0 x1 : D (.slice tI)) : Res E :=
  (cond (!(decide ((x0.length : Int) = (x1.length : Int)))) (some ⟨.bool, false⟩) (c0 x0 x1 (x0.length : Int) (0 : Int)))
theorem lp_slices_Equal_int_0_eq (k j0 : Nat) : lp_slices_Equal_int_0 k j0 = l_slices_Equal_int_0 (run M k) j0 := by
  induction j0 with
  | zero => kernel_rfl
  | succ j0 ih => exact Eq.trans (b := s_slices_Equal_int_0 (run M k) (lp_slices_Equal_int_0 k j0)) (by kernel_rfl) (by simp only [ih]; rfl)
theorem e_slices_Equal_int (k : Nat) (x0 x1 : D (.slice tI)) : run M (k + 1) f_slices_Equal_int [.val (.slice tI) x0, .val (.slice tI) x1] = b_slices_Equal_int (run M k) (l_slices_Equal_int_0 (run M k) k) x0 x1 :=
  Eq.trans (b := b_slices_Equal_int (run M k) (lp_slices_Equal_int_0 k k) x0 x1) (by kernel_rfl) (by simp only [lp_slices_Equal_int_0_eq])
abbrev V_host_node_0 := (D (.slice tI)) → (D tI) → (D tI) → (List (D tAttr)) → Res E
def lp_host_node_0 (k j : Nat) : V_host_node_0 := fun v2 v34 v35 t1001600 =>
  loopAt M k 173 0 [] [] j ⟨57, [(2, .c (.leaf (.slice tI) v2)), (33, .c (.ref 1001600 0 none)), (34, .c (.leaf tI v34)), (35, .c (.leaf tI v35))], [(1001600, 0, .tok tAttr t1001600)]⟩
def s_host_node_0 (R : RunT) (self : V_host_node_0) : V_host_node_0 := fun v2 v34 v35 t1001600 =>
  (cond (decide (v35 < v34)) (cond (inB v35 (t1001600.length : Int)) (cond (inB v35 (v2.length : Int)) (cond ((inB v35 (v2.length : Int)) || !(!(decide ((rd (E := E) (t := tI) v2 v35) < ((List.getD t1001600 (Int.toNat v35) (dflt E tAttr)).2).1)))) (cond (cond (decide ((rd (E := E) (t := tI) v2 v35) < ((List.getD t1001600 (Int.toNat v35) (dflt E tAttr)).2).1)) true (decide ((((List.getD t1001600 (Int.toNat v35) (dflt E tAttr)).2).2).1 < (rd (E := E) (t := tI) v2 v35)))) (some ⟨tI, (6 : Int)⟩) (self v2 v34 (IntKind.i64.wrap (v35 + (1 : Int))) t1001600)) none) none) none) (some ⟨tI, (0 : Int)⟩))
def l_host_node_0 (R : RunT) : Nat → V_host_node_0
  | 0 => fun _ _ _ _ => none
  | j + 1 => s_host_node_0 R (l_host_node_0 R j)
def b_host_node (R : RunT) (c0 : V_host_node_0) (x0 : D tTypes) (x1 : D tI) (x2 : D (.slice tI)) : Res E :=
  (cond (decide ((x0.1.length : Int) ≤ x1)) (some ⟨tI, (6 : Int)⟩) (cond (inB x1 (x0.1.length : Int)) (cond ((((rd (E := E) (t := tNodeType) x0.1 x1).2).2).1) (some ⟨tI, (13 : Int)⟩) (Option.bind (res (.pair (.slice tAttr) tI) (R f_types_Attrs [.val tTypes (x0.1, x0.2), .val tI x1])) (fun r1 => (cond (!(decide ((x2.length : Int) = (r1.1.length : Int)))) (some ⟨tI, (20 : Int)⟩) (c0 x2 (r1.1.length : Int) (0 : Int) r1.1))))) none))
theorem lp_host_node_0_eq (k j0 : Nat) : lp_host_node_0 k j0 = l_host_node_0 (run M k) j0 := by
  induction j0 with
  | zero => kernel_rfl
  | succ j0 ih => exact Eq.trans (b := s_host_node_0 (run M k) (lp_host_node_0 k j0)) (by kernel_rfl) (by simp only [ih]; rfl)
theorem e_host_node (k : Nat) (x0 : D tTypes) (x1 : D tI) (x2 : D (.slice tI)) : run M (k + 1) f_host_node [.val tTypes x0, .val tI x1, .val (.slice tI) x2] = b_host_node (run M k) (l_host_node_0 (run M k) k) x0 x1 x2 :=
  Eq.trans (b := b_host_node (run M k) (lp_host_node_0 k k) x0 x1 x2) (by kernel_rfl) (by simp only [lp_host_node_0_eq])
abbrev V_slices_Index_int_0 := (D (.slice tI)) → (D tI) → (D tI) → (D tI) → Res E
def lp_slices_Index_int_0 (k j : Nat) : V_slices_Index_int_0 := fun v0 v1 v7 v8 =>
  loopAt M k 265 0 [] [] j ⟨19, [(0, .c (.leaf (.slice tI) v0)), (1, .c (.leaf tI v1)), (7, .c (.leaf tI v7)), (8, .c (.leaf tI v8))], []⟩
def s_slices_Index_int_0 (R : RunT) (self : V_slices_Index_int_0) : V_slices_Index_int_0 := fun v0 v1 v7 v8 =>
  (cond (decide (v8 < v7)) (cond (inB v8 (v0.length : Int)) (cond (decide (v1 = (rd (E := E) (t := tI) v0 v8))) (some ⟨tI, v8⟩) (self v0 v1 v7 (IntKind.i64.wrap (v8 + (1 : Int))))) none) (some ⟨tI, (-1 : Int)⟩))
def l_slices_Index_int_0 (R : RunT) : Nat → V_slices_Index_int_0
  | 0 => fun _ _ _ _ => none
  | j + 1 => s_slices_Index_int_0 R (l_slices_Index_int_0 R j)
def b_slices_Index_int (R : RunT) (c0 : V_slices_Index_int_0) (x0 : D (.slice tI)) (x1 : D tI) : Res E :=
  (c0 x0 x1 (x0.length : Int) (0 : Int))
theorem lp_slices_Index_int_0_eq (k j0 : Nat) : lp_slices_Index_int_0 k j0 = l_slices_Index_int_0 (run M k) j0 := by
  induction j0 with
  | zero => kernel_rfl
  | succ j0 ih => exact Eq.trans (b := s_slices_Index_int_0 (run M k) (lp_slices_Index_int_0 k j0)) (by kernel_rfl) (by simp only [ih]; rfl)
theorem e_slices_Index_int (k : Nat) (x0 : D (.slice tI)) (x1 : D tI) : run M (k + 1) f_slices_Index_int [.val (.slice tI) x0, .val tI x1] = b_slices_Index_int (run M k) (l_slices_Index_int_0 (run M k) k) x0 x1 :=
  Eq.trans (b := b_slices_Index_int (run M k) (lp_slices_Index_int_0 k k) x0 x1) (by kernel_rfl) (by simp only [lp_slices_Index_int_0_eq])
def b_slices_Contains_int (R : RunT) (x0 : D (.slice tI)) (x1 : D tI) : Res E :=
  (Option.bind (res tI (R f_slices_Index_int [.val (.slice tI) x0, .val tI x1])) (fun r1 => (some ⟨.bool, (decide ((0 : Int) ≤ r1))⟩)))
theorem e_slices_Contains_int (k : Nat) (x0 : D (.slice tI)) (x1 : D tI) : run M (k + 1) f_slices_Contains_int [.val (.slice tI) x0, .val tI x1] = b_slices_Contains_int (run M k) x0 x1 := by kernel_rfl
abbrev V_slices_Reverse_int_0 := (D tI) → (D tI) → (List (D tI)) → Res E
def lp_slices_Reverse_int_0 (k j : Nat) : V_slices_Reverse_int_0 := fun v2 v3 t100000 =>
  loopAt M k 282 0 [.own 0 tI] [] j ⟨28, [(0, .c (.ref 100000 0 none)), (2, .c (.leaf tI v2)), (3, .c (.leaf tI v3))], [(100000, 0, .tok tI t100000)]⟩
def s_slices_Reverse_int_0 (R : RunT) (self : V_slices_Reverse_int_0) : V_slices_Reverse_int_0 := fun v2 v3 t100000 =>
  (cond (decide (v2 < v3)) (cond (inB v3 (t100000.length : Int)) (cond (inB v2 (t100000.length : Int)) (cond (inB v2 (t100000.length : Int)) (cond (inB v3 ((List.set t100000 (Int.toNat v2) (List.getD t100000 (Int.toNat v3) (dflt E tI))).length : Int)) (self (IntKind.i64.wrap (v2 + (1 : Int))) (IntKind.i64.wrap (v3 - (1 : Int))) (List.set (List.set t100000 (Int.toNat v2) (List.getD t100000 (Int.toNat v3) (dflt E tI))) (Int.toNat v3) (List.getD t100000 (Int.toNat v2) (dflt E tI)))) none) none) none) none) (some ⟨(.slice tI), t100000⟩))
def l_slices_Reverse_int_0 (R : RunT) : Nat → V_slices_Reverse_int_0
  | 0 => fun _ _ _ => none
  | j + 1 => s_slices_Reverse_int_0 R (l_slices_Reverse_int_0 R j)
def b_slices_Reverse_int (R : RunT) (c0 : V_slices_Reverse_int_0) (x0 : List (D tI)) : Res E :=
  (c0 (0 : Int) (IntKind.i64.wrap ((x0.length : Int) - (1 : Int))) x0)
theorem lp_slices_Reverse_int_0_eq (k j0 : Nat) : lp_slices_Reverse_int_0 k j0 = l_slices_Reverse_int_0 (run M k) j0 := by
  induction j0 with
  | zero => kernel_rfl
  | succ j0 ih => exact Eq.trans (b := s_slices_Reverse_int_0 (run M k) (lp_slices_Reverse_int_0 k j0)) (by kernel_rfl) (by simp only [ih]; rfl)
theorem e_slices_Reverse_int (k : Nat) (x0 : List (D tI)) : run M (k + 1) f_slices_Reverse_int [.own tI x0] = b_slices_Reverse_int (run M k) (l_slices_Reverse_int_0 (run M k) k) x0 :=
  Eq.trans (b := b_slices_Reverse_int (run M k) (lp_slices_Reverse_int_0 k k) x0) (by kernel_rfl) (by simp only [lp_slices_Reverse_int_0_eq])
abbrev V_types_line_0 := (D tI) → (D (.slice tNodeType)) → (D (.slice tEdgeType)) → (List (D tI)) → Res E
def lp_types_line_0 (k j : Nat) : V_types_line_0 := fun v1 b2_0 b2_1 t500005 =>
  loopAt M k 256 0 [] [] j ⟨21, [(1, .c (.leaf tI v1)), (2, .c (.ptr 2 0 0)), (5, .c (.ref 500005 0 none))], [(2, 0, .box [.leaf (.slice tNodeType) b2_0, .leaf (.slice tEdgeType) b2_1]), (500005, 0, .tok tI t500005)]⟩
def s_types_line_0 (R : RunT) (self : V_types_line_0) : V_types_line_0 := fun v1 b2_0 b2_1 t500005 =>
  (cond (decide ((0 : Int) ≤ v1)) (cond (roomy (t500005.length + ([v1] : List (D tI)).length) 8) (cond (inB v1 (b2_0.length : Int)) (self (((rd (E := E) (t := tNodeType) b2_0 v1).2).1) b2_0 b2_1 (t500005 ++ ([v1] : List (D tI)))) none) none) (Option.bind (res (.slice tI) (R f_slices_Reverse_int [.own tI t500005])) (fun r1 => (cond (decide (r1.length = t500005.length)) (some ⟨(.slice tI), r1⟩) none))))
def l_types_line_0 (R : RunT) : Nat → V_types_line_0
  | 0 => fun _ _ _ _ => none
  | j + 1 => s_types_line_0 R (l_types_line_0 R j)
def b_types_line (R : RunT) (c0 : V_types_line_0) (x0 : D tTypes) (x1 : D tI) : Res E :=
  (c0 x1 x0.1 x0.2 ([] : List (D tI)))
theorem lp_types_line_0_eq (k j0 : Nat) : lp_types_line_0 k j0 = l_types_line_0 (run M k) j0 := by
  induction j0 with
  | zero => kernel_rfl
  | succ j0 ih => exact Eq.trans (b := s_types_line_0 (run M k) (lp_types_line_0 k j0)) (by kernel_rfl) (by simp only [ih]; rfl)
theorem e_types_line (k : Nat) (x0 : D tTypes) (x1 : D tI) : run M (k + 1) f_types_line [.val tTypes x0, .val tI x1] = b_types_line (run M k) (l_types_line_0 (run M k) k) x0 x1 :=
  Eq.trans (b := b_types_line (run M k) (lp_types_line_0 k k) x0 x1) (by kernel_rfl) (by simp only [lp_types_line_0_eq])
def b_types_is (R : RunT) (x0 : D tTypes) (x1 x2 : D tI) : Res E :=
  (Option.bind (res (.slice tI) (R f_types_line [.val tTypes (x0.1, x0.2), .val tI x1])) (fun r1 => (Option.bind (res .bool (R f_slices_Contains_int [.val (.slice tI) r1, .val tI x2])) (fun r2 => (some ⟨.bool, r2⟩)))))
theorem e_types_is (k : Nat) (x0 : D tTypes) (x1 x2 : D tI) : run M (k + 1) f_types_is [.val tTypes x0, .val tI x1, .val tI x2] = b_types_is (run M k) x0 x1 x2 := by kernel_rfl
def b_types_Fits (R : RunT) (x0 : D tTypes) (x1 x2 x3 : D tI) : Res E :=
  (Option.bind (res tI (R f_types_given [.val tTypes (x0.1, x0.2), .val (.slice tI) ([x2, x3] : List (D tI))])) (fun r1 => (cond (cond (cond (!(decide (r1 = (0 : Int)))) true (decide (x1 < (0 : Int)))) true (decide ((x0.2.length : Int) ≤ x1))) (some ⟨.bool, false⟩) (cond (inB x1 (x0.2.length : Int)) (Option.bind (res .bool (R f_types_is [.val tTypes (x0.1, x0.2), .val tI x2, .val tI (((rd (E := E) (t := tEdgeType) x0.2 x1).2).1)])) (fun r2 => (cond ((inB x1 (x0.2.length : Int)) || !r2) (Option.bind (cond r2 (res .bool (R f_types_is [.val tTypes (x0.1, x0.2), .val tI x3, .val tI ((((rd (E := E) (t := tEdgeType) x0.2 x1).2).2).1)])) (some (dflt E .bool))) (fun r3 => (some ⟨.bool, (cond r2 r3 false)⟩))) none))) none))))
theorem e_types_Fits (k : Nat) (x0 : D tTypes) (x1 x2 x3 : D tI) : run M (k + 1) f_types_Fits [.val tTypes x0, .val tI x1, .val tI x2, .val tI x3] = b_types_Fits (run M k) x0 x1 x2 x3 := by kernel_rfl
abbrev V_host_Valid_0 := (D (.slice tI)) → (D tI) → (D tI) → (D (.slice tNodeType)) → (D (.slice tEdgeType)) → (D (.slice tI)) → (D (.slice tEdge)) → (D (.slice (.slice tI))) → Res E
def lp_host_Valid_0 (k j : Nat) : V_host_Valid_0 := fun v38 v39 v40 b2_0 b2_1 b3_0 b3_1 b3_2 =>
  loopAt M k 108 0 [] [] j ⟨95, [(2, .c (.ptr 2 0 0)), (3, .c (.ptr 3 0 0)), (38, .c (.leaf (.slice tI) v38)), (39, .c (.leaf tI v39)), (40, .c (.leaf tI v40))], [(2, 0, .box [.leaf (.slice tNodeType) b2_0, .leaf (.slice tEdgeType) b2_1]), (3, 0, .box [.leaf (.slice tI) b3_0, .leaf (.slice tEdge) b3_1, .leaf (.slice (.slice tI)) b3_2])]⟩
abbrev V_host_Valid_2 := (D (.slice tEdge)) → (D tI) → (D tI) → (D (.slice tNodeType)) → (D (.slice tEdgeType)) → (D (.slice tI)) → (D (.slice tEdge)) → (D (.slice (.slice tI))) → Res E
def lp_host_Valid_2 (k j : Nat) : V_host_Valid_2 := fun v60 v61 v62 b2_0 b2_1 b3_0 b3_1 b3_2 =>
  loopAt M k 108 2 [] [] j ⟨95, [(2, .c (.ptr 2 0 0)), (3, .c (.ptr 3 0 0)), (60, .c (.leaf (.slice tEdge) v60)), (61, .c (.leaf tI v61)), (62, .c (.leaf tI v62))], [(2, 0, .box [.leaf (.slice tNodeType) b2_0, .leaf (.slice tEdgeType) b2_1]), (3, 0, .box [.leaf (.slice tI) b3_0, .leaf (.slice tEdge) b3_1, .leaf (.slice (.slice tI)) b3_2])]⟩
def s_host_Valid_0 (R : RunT) (c2 : V_host_Valid_2) (self : V_host_Valid_0) : V_host_Valid_0 := fun v38 v39 v40 b2_0 b2_1 b3_0 b3_1 b3_2 =>
  (cond (decide (v40 < v39)) (cond (inB v40 (v38.length : Int)) (cond (inB v40 (b3_2.length : Int)) (Option.bind (res tI (R f_host_node [.val tTypes (b2_0, b2_1), .val tI (rd (E := E) (t := tI) v38 v40), .val (.slice tI) (rd (E := E) (t := (.slice tI)) b3_2 v40)])) (fun r1 => (cond (!(decide (r1 = (0 : Int)))) (some ⟨tTerm, (v40, r1)⟩) (self v38 v39 (IntKind.i64.wrap (v40 + (1 : Int))) b2_0 b2_1 b3_0 b3_1 b3_2)))) none) none) (c2 b3_1 (b3_1.length : Int) (0 : Int) b2_0 b2_1 b3_0 b3_1 b3_2))
def s_host_Valid_2 (R : RunT) (self : V_host_Valid_2) : V_host_Valid_2 := fun v60 v61 v62 b2_0 b2_1 b3_0 b3_1 b3_2 =>
  (cond (decide (v62 < v61)) (cond (inB v62 (v60.length : Int)) (cond (decide ((b2_1.length : Int) ≤ (rd (E := E) (t := tEdge) v60 v62).1)) (some ⟨tTerm, (v62, (6 : Int))⟩) (cond (inB (((rd (E := E) (t := tEdge) v60 v62).2).1) (b3_0.length : Int)) (cond (inB (((rd (E := E) (t := tEdge) v60 v62).2).2) (b3_0.length : Int)) (Option.bind (res .bool (R f_types_Fits [.val tTypes (b2_0, b2_1), .val tI ((rd (E := E) (t := tEdge) v60 v62).1), .val tI (rd (E := E) (t := tI) b3_0 (((rd (E := E) (t := tEdge) v60 v62).2).1)), .val tI (rd (E := E) (t := tI) b3_0 (((rd (E := E) (t := tEdge) v60 v62).2).2))])) (fun r1 => (cond (!r1) (some ⟨tTerm, (v62, (13 : Int))⟩) (self v60 v61 (IntKind.i64.wrap (v62 + (1 : Int))) b2_0 b2_1 b3_0 b3_1 b3_2)))) none) none)) none) (some ⟨tTerm, ((-1 : Int), (0 : Int))⟩))
def l_host_Valid_0 (R : RunT) (c2 : V_host_Valid_2) : Nat → V_host_Valid_0
  | 0 => fun _ _ _ _ _ _ _ _ => none
  | j + 1 => s_host_Valid_0 R c2 (l_host_Valid_0 R c2 j)
def l_host_Valid_2 (R : RunT) : Nat → V_host_Valid_2
  | 0 => fun _ _ _ _ _ _ _ _ => none
  | j + 1 => s_host_Valid_2 R (l_host_Valid_2 R j)
def b_host_Valid (R : RunT) (c0 : V_host_Valid_0) (x0 : D tTypes) (x1 : D tHost) : Res E :=
  (Option.bind (res (.pair .str tI) (R f_types_Valid [.val tTypes (x0.1, x0.2)])) (fun r1 => (cond (!(decide (r1.2 = (0 : Int)))) (some ⟨tTerm, ((-1 : Int), r1.2)⟩) (Option.bind (res tI (R f_graph_Valid [.val tGraph (x1.1.1, x1.1.2)])) (fun r2 => (cond (!(decide (r2 = (0 : Int)))) (some ⟨tTerm, ((-1 : Int), r2)⟩) (cond (!(decide ((x1.2.length : Int) = (x1.1.1.length : Int)))) (some ⟨tTerm, ((-1 : Int), (20 : Int))⟩) (c0 x1.1.1 (x1.1.1.length : Int) (0 : Int) x0.1 x0.2 x1.1.1 x1.1.2 x1.2))))))))
theorem lp_host_Valid_0_eq (k j0 : Nat) : lp_host_Valid_0 k j0 = l_host_Valid_0 (run M k) (lp_host_Valid_2 k k) j0 := by
  induction j0 with
  | zero => kernel_rfl
  | succ j0 ih => exact Eq.trans (b := s_host_Valid_0 (run M k) (lp_host_Valid_2 k k) (lp_host_Valid_0 k j0)) (by kernel_rfl) (by simp only [ih]; rfl)
theorem lp_host_Valid_2_eq (k j2 : Nat) : lp_host_Valid_2 k j2 = l_host_Valid_2 (run M k) j2 := by
  induction j2 with
  | zero => kernel_rfl
  | succ j2 ih => exact Eq.trans (b := s_host_Valid_2 (run M k) (lp_host_Valid_2 k j2)) (by kernel_rfl) (by simp only [ih]; rfl)
theorem e_host_Valid (k : Nat) (x0 : D tTypes) (x1 : D tHost) : run M (k + 1) f_host_Valid [.val tTypes x0, .val tHost x1] = b_host_Valid (run M k) (l_host_Valid_0 (run M k) (l_host_Valid_2 (run M k) k) k) x0 x1 :=
  Eq.trans (b := b_host_Valid (run M k) (lp_host_Valid_0 k k) x0 x1) (by kernel_rfl) (by simp only [lp_host_Valid_0_eq, lp_host_Valid_2_eq])
def b_search_within_1 (R : RunT) (x0 : D tI) (x1 : D tTypes) : Res E :=
  (some ⟨.bool, (decide ((x1.1.length : Int) ≤ x0))⟩)
theorem e_search_within_1 (k : Nat) (x0 : D tI) (x1 : D tTypes) : run M (k + 1) f_search_within_1 [.val tI x0, .ro tTypes x1] = b_search_within_1 (run M k) x0 x1 := by kernel_rfl
def b_search_within_2 (R : RunT) (x0 : D tEdge) (x1 : D tTypes) : Res E :=
  (some ⟨.bool, (decide ((x1.2.length : Int) ≤ x0.1))⟩)
theorem e_search_within_2 (k : Nat) (x0 : D tEdge) (x1 : D tTypes) : run M (k + 1) f_search_within_2 [.val tEdge x0, .ro tTypes x1] = b_search_within_2 (run M k) x0 x1 := by kernel_rfl
def b_search_within (R : RunT) (x0 : D tTypes) (x1 : D tGraph) : Res E :=
  (Option.bind (res .bool (R f_slices_ContainsFunc_int [.val (.slice tI) x1.1, .fn f_search_within_1 [⟨tTypes, (x0.1, x0.2)⟩]])) (fun r1 => (Option.bind (cond (!r1) (res .bool (R f_slices_ContainsFunc_Edge [.val (.slice tEdge) x1.2, .fn f_search_within_2 [⟨tTypes, (x0.1, x0.2)⟩]])) (some (dflt E .bool))) (fun r2 => (some ⟨.bool, (cond (!r1) (!r2) false)⟩)))))
theorem e_search_within (k : Nat) (x0 : D tTypes) (x1 : D tGraph) : run M (k + 1) f_search_within [.val tTypes x0, .val tGraph x1] = b_search_within (run M k) x0 x1 := by kernel_rfl
abbrev V_search_valid_0 := (D tI) → (D tI) → (D (.slice tNodeType)) → (D (.slice tEdgeType)) → (D (.slice tI)) → (D (.slice tEdge)) → (D (.slice tI)) → (D (.slice tEdge)) → (List (D tGraph)) → Res E
def lp_search_valid_0 (k j : Nat) : V_search_valid_0 := fun v23 v24 b3_0 b3_1 b4_0 b4_1 b5_0 b5_1 t22 =>
  loopAt M k 62 0 [] [] j ⟨44, [(3, .c (.ptr 3 0 0)), (4, .c (.ptr 4 0 0)), (5, .c (.ptr 5 0 0)), (22, .c (.ref 22 0 none)), (23, .c (.leaf tI v23)), (24, .c (.leaf tI v24))], [(3, 0, .box [.leaf (.slice tNodeType) b3_0, .leaf (.slice tEdgeType) b3_1]), (4, 0, .box [.leaf (.slice tI) b4_0, .leaf (.slice tEdge) b4_1]), (5, 0, .box [.leaf (.slice tI) b5_0, .leaf (.slice tEdge) b5_1]), (22, 0, .tok tGraph t22)]⟩
def s_search_valid_0 (R : RunT) (self : V_search_valid_0) : V_search_valid_0 := fun v23 v24 b3_0 b3_1 b4_0 b4_1 b5_0 b5_1 t22 =>
  (cond (decide (v24 < v23)) (cond (inB v24 (t22.length : Int)) (Option.bind (res tI (R f_graph_Valid [.val tGraph ((List.getD t22 (Int.toNat v24) (dflt E tGraph)).1, (List.getD t22 (Int.toNat v24) (dflt E tGraph)).2)])) (fun r1 => (cond (!(decide (r1 = (0 : Int)))) (some ⟨tI, r1⟩) (self v23 (IntKind.i64.wrap (v24 + (1 : Int))) b3_0 b3_1 b4_0 b4_1 b5_0 b5_1 t22)))) none) (Option.bind (res .bool (R f_search_within [.val tTypes (b3_0, b3_1), .val tGraph (b4_0, b4_1)])) (fun r2 => (Option.bind (cond (!(!r2)) (res .bool (R f_search_within [.val tTypes (b3_0, b3_1), .val tGraph (b5_0, b5_1)])) (some (dflt E .bool))) (fun r3 => (cond (cond (!r2) true (!r3)) (some ⟨tI, (13 : Int)⟩) (some ⟨tI, (0 : Int)⟩)))))))
def l_search_valid_0 (R : RunT) : Nat → V_search_valid_0
  | 0 => fun _ _ _ _ _ _ _ _ _ => none
  | j + 1 => s_search_valid_0 R (l_search_valid_0 R j)
def b_search_valid (R : RunT) (c0 : V_search_valid_0) (x0 : D tTypes) (x1 x2 : D tGraph) : Res E :=
  (Option.bind (res (.pair .str tI) (R f_types_Valid [.val tTypes (x0.1, x0.2)])) (fun r1 => (cond (!(decide (r1.2 = (0 : Int)))) (some ⟨tI, r1.2⟩) (c0 (([(x1.1, x1.2), (x2.1, x2.2)] : List (D tGraph)).length : Int) (0 : Int) x0.1 x0.2 x1.1 x1.2 x2.1 x2.2 ([(x1.1, x1.2), (x2.1, x2.2)] : List (D tGraph))))))
theorem lp_search_valid_0_eq (k j0 : Nat) : lp_search_valid_0 k j0 = l_search_valid_0 (run M k) j0 := by
  induction j0 with
  | zero => kernel_rfl
  | succ j0 ih => exact Eq.trans (b := s_search_valid_0 (run M k) (lp_search_valid_0 k j0)) (by kernel_rfl) (by simp only [ih]; rfl)
theorem e_search_valid (k : Nat) (x0 : D tTypes) (x1 x2 : D tGraph) : run M (k + 1) f_search_valid [.val tTypes x0, .val tGraph x1, .val tGraph x2] = b_search_valid (run M k) (l_search_valid_0 (run M k) k) x0 x1 x2 :=
  Eq.trans (b := b_search_valid (run M k) (lp_search_valid_0 k k) x0 x1 x2) (by kernel_rfl) (by simp only [lp_search_valid_0_eq])
abbrev V_types_Below_0 := (D tI) → (D tI) → (D tI) → (D (.slice tNodeType)) → (D (.slice tEdgeType)) → (List (D tI)) → Res E
def lp_types_Below_0 (k j : Nat) : V_types_Below_0 := fun v1 v18 v19 b2_0 b2_1 t500007 =>
  loopAt M k 239 0 [] [] j ⟨32, [(1, .c (.leaf tI v1)), (2, .c (.ptr 2 0 0)), (7, .c (.ref 500007 0 none)), (18, .c (.leaf tI v18)), (19, .c (.leaf tI v19))], [(2, 0, .box [.leaf (.slice tNodeType) b2_0, .leaf (.slice tEdgeType) b2_1]), (500007, 0, .tok tI t500007)]⟩
def s_types_Below_0 (R : RunT) (self : V_types_Below_0) : V_types_Below_0 := fun v1 v18 v19 b2_0 b2_1 t500007 =>
  (cond (decide (v19 < v18)) (Option.bind (res .bool (R f_types_is [.val tTypes (b2_0, b2_1), .val tI v19, .val tI v1])) (fun r1 => (cond r1 (cond (roomy (t500007.length + ([v19] : List (D tI)).length) 8) (self v1 v18 (IntKind.i64.wrap (v19 + (1 : Int))) b2_0 b2_1 (t500007 ++ ([v19] : List (D tI)))) none) (self v1 v18 (IntKind.i64.wrap (v19 + (1 : Int))) b2_0 b2_1 t500007)))) (some ⟨(.pair (.slice tI) tI), (t500007, (0 : Int))⟩))
def l_types_Below_0 (R : RunT) : Nat → V_types_Below_0
  | 0 => fun _ _ _ _ _ _ => none
  | j + 1 => s_types_Below_0 R (l_types_Below_0 R j)
def b_types_Below (R : RunT) (c0 : V_types_Below_0) (x0 : D tTypes) (x1 : D tI) : Res E :=
  (Option.bind (res tI (R f_types_given [.val tTypes (x0.1, x0.2), .val (.slice tI) ([x1] : List (D tI))])) (fun r1 => (cond (!(decide (r1 = (0 : Int)))) (some ⟨(.pair (.slice tI) tI), (([] : List (D tI)), r1)⟩) (c0 x1 (x0.1.length : Int) (0 : Int) x0.1 x0.2 ([] : List (D tI))))))
theorem lp_types_Below_0_eq (k j0 : Nat) : lp_types_Below_0 k j0 = l_types_Below_0 (run M k) j0 := by
  induction j0 with
  | zero => kernel_rfl
  | succ j0 ih => exact Eq.trans (b := s_types_Below_0 (run M k) (lp_types_Below_0 k j0)) (by kernel_rfl) (by simp only [ih]; rfl)
theorem e_types_Below (k : Nat) (x0 : D tTypes) (x1 : D tI) : run M (k + 1) f_types_Below [.val tTypes x0, .val tI x1] = b_types_Below (run M k) (l_types_Below_0 (run M k) k) x0 x1 :=
  Eq.trans (b := b_types_Below (run M k) (lp_types_Below_0 k k) x0 x1) (by kernel_rfl) (by simp only [lp_types_Below_0_eq])
abbrev V_search_below_0 := (D tI) → (D tI) → (D (.slice tNodeType)) → (D (.slice tEdgeType)) → (List (D (.slice .bool))) → Res E
def lp_search_below_0 (k j : Nat) : V_search_below_0 := fun v12 v13 b1_0 b1_1 t500003 =>
  loopAt M k 197 0 [] [] j ⟨42, [(1, .c (.ptr 1 0 0)), (3, .c (.ref 500003 0 none)), (12, .c (.leaf tI v12)), (13, .c (.leaf tI v13))], [(1, 0, .box [.leaf (.slice tNodeType) b1_0, .leaf (.slice tEdgeType) b1_1]), (500003, 0, .tok (.slice .bool) t500003)]⟩
abbrev V_search_below_2 := (D tI) → (D tI) → (D tI) → (D tI) → (D (.slice tNodeType)) → (D (.slice tEdgeType)) → (List (D .bool)) → (List (D tI)) → (List (D (.slice .bool))) → Res E
def lp_search_below_2 (k j0 j : Nat) : V_search_below_2 := fun v12 v13 v27 v28 b1_0 b1_1 t19 t1001472 t500003 =>
  loopAt M k 197 2 [] [j0] j ⟨42, [(1, .c (.ptr 1 0 0)), (3, .c (.ref 500003 0 none)), (5, .c (.ref 19 0 none)), (12, .c (.leaf tI v12)), (13, .c (.leaf tI v13)), (26, .c (.ref 1001472 0 none)), (27, .c (.leaf tI v27)), (28, .c (.leaf tI v28))], [(1, 0, .box [.leaf (.slice tNodeType) b1_0, .leaf (.slice tEdgeType) b1_1]), (19, 0, .tok .bool t19), (1001472, 0, .tok tI t1001472), (500003, 0, .tok (.slice .bool) t500003)]⟩
def s_search_below_2 (R : RunT) (c0 : V_search_below_0) (self : V_search_below_2) : V_search_below_2 := fun v12 v13 v27 v28 b1_0 b1_1 t19 t1001472 t500003 =>
  (cond (decide (v28 < v27)) (cond (inB v28 (t1001472.length : Int)) (cond (inB (List.getD t1001472 (Int.toNat v28) (dflt E tI)) (t19.length : Int)) (self v12 v13 v27 (IntKind.i64.wrap (v28 + (1 : Int))) b1_0 b1_1 (List.set t19 (Int.toNat (List.getD t1001472 (Int.toNat v28) (dflt E tI))) true) t1001472 t500003) none) none) (cond (roomy (t500003.length + ([t19] : List (D (.slice .bool))).length) 24) (c0 v12 (IntKind.i64.wrap (v13 + (1 : Int))) b1_0 b1_1 (t500003 ++ ([t19] : List (D (.slice .bool))))) none))
def s_search_below_0 (R : RunT) (c2 : V_search_below_2) (self : V_search_below_0) : V_search_below_0 := fun v12 v13 b1_0 b1_1 t500003 =>
  (cond (decide (v13 < v12)) (cond ((inS (0 : Int) (b1_0.length : Int) (b1_0.length : Int)) && (roomy (Int.toNat (b1_0.length : Int)) 1)) (Option.bind (res (.pair (.slice tI) tI) (R f_types_Below [.val tTypes (b1_0, b1_1), .val tI v13])) (fun r1 => (c2 v12 v13 (r1.1.length : Int) (0 : Int) b1_0 b1_1 (List.replicate (Int.toNat (b1_0.length : Int)) (dflt E .bool)) r1.1 t500003))) none) (some ⟨(.slice (.slice .bool)), t500003⟩))
def l_search_below_2 (R : RunT) (c0 : V_search_below_0) : Nat → V_search_below_2
  | 0 => fun _ _ _ _ _ _ _ _ _ => none
  | j + 1 => s_search_below_2 R c0 (l_search_below_2 R c0 j)
def l_search_below_0 (R : RunT) : Nat → V_search_below_0
  | 0 => fun _ _ _ _ _ => none
  | j + 1 => s_search_below_0 R (l_search_below_2 R (l_search_below_0 R j) j) (l_search_below_0 R j)
def b_search_below (R : RunT) (c0 : V_search_below_0) (x0 : D tTypes) : Res E :=
  (c0 (x0.1.length : Int) (0 : Int) x0.1 x0.2 ([] : List (D (.slice .bool))))
theorem lp_search_below_2_eq (k j0 j2 : Nat) : lp_search_below_2 k j0 j2 = l_search_below_2 (run M k) (lp_search_below_0 k j0) j2 := by
  induction j2 with
  | zero => kernel_rfl
  | succ j2 ih => exact Eq.trans (b := s_search_below_2 (run M k) (lp_search_below_0 k j0) (lp_search_below_2 k j0 j2)) (by kernel_rfl) (by simp only [ih]; rfl)
theorem lp_search_below_0_eq (k j0 : Nat) : lp_search_below_0 k j0 = l_search_below_0 (run M k) j0 := by
  induction j0 with
  | zero => kernel_rfl
  | succ j0 ih => exact Eq.trans (b := s_search_below_0 (run M k) (lp_search_below_2 k j0 j0) (lp_search_below_0 k j0)) (by kernel_rfl) (by simp only [lp_search_below_2_eq, ih]; rfl)
theorem e_search_below (k : Nat) (x0 : D tTypes) : run M (k + 1) f_search_below [.val tTypes x0] = b_search_below (run M k) (l_search_below_0 (run M k) k) x0 :=
  Eq.trans (b := b_search_below (run M k) (lp_search_below_0 k k) x0) (by kernel_rfl) (by simp only [lp_search_below_2_eq, lp_search_below_0_eq])
abbrev V_search_shape_0 := (D (.slice tI)) → (D tI) → (D tI) → (D (.slice tI)) → (D (.slice tEdge)) → (D (.slice tI)) → (D (.slice tEdge)) → (D (.slice tI)) → (D (.slice tI)) → (List (D (.slice .bool))) → Res E
def lp_search_shape_0 (k j : Nat) : V_search_shape_0 := fun v35 v36 v37 b5_0 b5_1 b6_0 b6_1 b7_0 b7_1 t1002112 =>
  loopAt M k 175 0 [] [] j ⟨121, [(5, .c (.ptr 5 0 0)), (6, .c (.ptr 6 0 0)), (7, .c (.ptr 7 0 0)), (9, .c (.ref 1002112 0 none)), (35, .c (.leaf (.slice tI) v35)), (36, .c (.leaf tI v36)), (37, .c (.leaf tI v37))], [(5, 0, .box [.leaf (.slice tI) b5_0, .leaf (.slice tEdge) b5_1]), (6, 0, .box [.leaf (.slice tI) b6_0, .leaf (.slice tEdge) b6_1]), (7, 0, .box [.leaf (.slice tI) b7_0, .leaf (.slice tI) b7_1]), (1002112, 0, .tok (.slice .bool) t1002112)]⟩
abbrev V_search_shape_2 := (D (.slice tI)) → (D tI) → (D tI) → (D (.slice tI)) → (D (.slice tEdge)) → (D (.slice tI)) → (D (.slice tEdge)) → (D (.slice tI)) → (D (.slice tI)) → Res E
def lp_search_shape_2 (k j : Nat) : V_search_shape_2 := fun v69 v70 v71 b5_0 b5_1 b6_0 b6_1 b7_0 b7_1 =>
  loopAt M k 175 2 [] [] j ⟨121, [(5, .c (.ptr 5 0 0)), (6, .c (.ptr 6 0 0)), (7, .c (.ptr 7 0 0)), (69, .c (.leaf (.slice tI) v69)), (70, .c (.leaf tI v70)), (71, .c (.leaf tI v71))], [(5, 0, .box [.leaf (.slice tI) b5_0, .leaf (.slice tEdge) b5_1]), (6, 0, .box [.leaf (.slice tI) b6_0, .leaf (.slice tEdge) b6_1]), (7, 0, .box [.leaf (.slice tI) b7_0, .leaf (.slice tI) b7_1])]⟩
def s_search_shape_0 (R : RunT) (c2 : V_search_shape_2) (self : V_search_shape_0) : V_search_shape_0 := fun v35 v36 v37 b5_0 b5_1 b6_0 b6_1 b7_0 b7_1 t1002112 =>
  (cond (decide (v37 < v36)) (cond (inB v37 (v35.length : Int)) (cond (cond (decide ((rd (E := E) (t := tI) v35 v37) < (0 : Int))) true (decide ((b6_0.length : Int) ≤ (rd (E := E) (t := tI) v35 v37)))) (some ⟨tI, (6 : Int)⟩) (cond (inB v37 (b5_0.length : Int)) (cond (inB (rd (E := E) (t := tI) b5_0 v37) (t1002112.length : Int)) (cond (inB (rd (E := E) (t := tI) v35 v37) (b6_0.length : Int)) (cond (inB (rd (E := E) (t := tI) b6_0 (rd (E := E) (t := tI) v35 v37)) ((List.getD t1002112 (Int.toNat (rd (E := E) (t := tI) b5_0 v37)) (dflt E (.slice .bool))).length : Int)) (cond (!(rd (E := E) (t := .bool) (List.getD t1002112 (Int.toNat (rd (E := E) (t := tI) b5_0 v37)) (dflt E (.slice .bool))) (rd (E := E) (t := tI) b6_0 (rd (E := E) (t := tI) v35 v37)))) (some ⟨tI, (13 : Int)⟩) (self v35 v36 (IntKind.i64.wrap (v37 + (1 : Int))) b5_0 b5_1 b6_0 b6_1 b7_0 b7_1 t1002112)) none) none) none) none)) none) (c2 b7_1 (b7_1.length : Int) (0 : Int) b5_0 b5_1 b6_0 b6_1 b7_0 b7_1))
def s_search_shape_2 (R : RunT) (self : V_search_shape_2) : V_search_shape_2 := fun v69 v70 v71 b5_0 b5_1 b6_0 b6_1 b7_0 b7_1 =>
  (cond (decide (v71 < v70)) (cond (inB v71 (v69.length : Int)) (cond (cond (decide ((rd (E := E) (t := tI) v69 v71) < (0 : Int))) true (decide ((b6_1.length : Int) ≤ (rd (E := E) (t := tI) v69 v71)))) (some ⟨tI, (6 : Int)⟩) (cond (inB v71 (b5_1.length : Int)) (cond (inB (rd (E := E) (t := tI) v69 v71) (b6_1.length : Int)) (cond (!(decide ((rd (E := E) (t := tEdge) b5_1 v71).1 = (rd (E := E) (t := tEdge) b6_1 (rd (E := E) (t := tI) v69 v71)).1))) (some ⟨tI, (13 : Int)⟩) (cond (inB (((rd (E := E) (t := tEdge) b5_1 v71).2).1) (b7_0.length : Int)) (cond ((inB (((rd (E := E) (t := tEdge) b5_1 v71).2).2) (b7_0.length : Int)) || !(!(!(decide ((rd (E := E) (t := tI) b7_0 (((rd (E := E) (t := tEdge) b5_1 v71).2).1)) = ((rd (E := E) (t := tEdge) b6_1 (rd (E := E) (t := tI) v69 v71)).2).1))))) (cond (cond (!(decide ((rd (E := E) (t := tI) b7_0 (((rd (E := E) (t := tEdge) b5_1 v71).2).1)) = ((rd (E := E) (t := tEdge) b6_1 (rd (E := E) (t := tI) v69 v71)).2).1))) true (!(decide ((rd (E := E) (t := tI) b7_0 (((rd (E := E) (t := tEdge) b5_1 v71).2).2)) = ((rd (E := E) (t := tEdge) b6_1 (rd (E := E) (t := tI) v69 v71)).2).2)))) (some ⟨tI, (11 : Int)⟩) (self v69 v70 (IntKind.i64.wrap (v71 + (1 : Int))) b5_0 b5_1 b6_0 b6_1 b7_0 b7_1)) none) none)) none) none)) none) (some ⟨tI, (0 : Int)⟩))
def l_search_shape_0 (R : RunT) (c2 : V_search_shape_2) : Nat → V_search_shape_0
  | 0 => fun _ _ _ _ _ _ _ _ _ _ => none
  | j + 1 => s_search_shape_0 R c2 (l_search_shape_0 R c2 j)
def l_search_shape_2 (R : RunT) : Nat → V_search_shape_2
  | 0 => fun _ _ _ _ _ _ _ _ _ => none
  | j + 1 => s_search_shape_2 R (l_search_shape_2 R j)
def b_search_shape (R : RunT) (c0 : V_search_shape_0) (x0 : D tTypes) (x1 x2 : D tGraph) (x3 : D tMorphism) : Res E :=
  (cond (cond (!(decide ((x3.1.length : Int) = (x1.1.length : Int)))) true (!(decide ((x3.2.length : Int) = (x1.2.length : Int))))) (some ⟨tI, (20 : Int)⟩) (Option.bind (res (.slice (.slice .bool)) (R f_search_below [.val tTypes (x0.1, x0.2)])) (fun r1 => (c0 x3.1 (x3.1.length : Int) (0 : Int) x1.1 x1.2 x2.1 x2.2 x3.1 x3.2 r1))))
theorem lp_search_shape_0_eq (k j0 : Nat) : lp_search_shape_0 k j0 = l_search_shape_0 (run M k) (lp_search_shape_2 k k) j0 := by
  induction j0 with
  | zero => kernel_rfl
  | succ j0 ih => exact Eq.trans (b := s_search_shape_0 (run M k) (lp_search_shape_2 k k) (lp_search_shape_0 k j0)) (by kernel_rfl) (by simp only [ih]; rfl)
theorem lp_search_shape_2_eq (k j2 : Nat) : lp_search_shape_2 k j2 = l_search_shape_2 (run M k) j2 := by
  induction j2 with
  | zero => kernel_rfl
  | succ j2 ih => exact Eq.trans (b := s_search_shape_2 (run M k) (lp_search_shape_2 k j2)) (by kernel_rfl) (by simp only [ih]; rfl)
theorem e_search_shape (k : Nat) (x0 : D tTypes) (x1 x2 : D tGraph) (x3 : D tMorphism) : run M (k + 1) f_search_shape [.val tTypes x0, .val tGraph x1, .val tGraph x2, .val tMorphism x3] = b_search_shape (run M k) (l_search_shape_0 (run M k) (l_search_shape_2 (run M k) k) k) x0 x1 x2 x3 :=
  Eq.trans (b := b_search_shape (run M k) (lp_search_shape_0 k k) x0 x1 x2 x3) (by kernel_rfl) (by simp only [lp_search_shape_0_eq, lp_search_shape_2_eq])
end
end Go.Proofs.AM

namespace Go.Proofs.AM
open Go
set_option maxRecDepth 100000
noncomputable section
def b_search_Check (R : RunT) (x0 : D tTypes) (x1 x2 : D tGraph) (x3 : D tMorphism) (x4 : D .bool) : Res E :=
  (Option.bind (res tI (R f_search_valid [.val tTypes (x0.1, x0.2), .val tGraph (x1.1, x1.2), .val tGraph (x2.1, x2.2)])) (fun r1 => (cond (!(decide (r1 = (0 : Int)))) (some ⟨tI, r1⟩) (Option.bind (res tI (R f_search_shape [.val tTypes (x0.1, x0.2), .val tGraph (x1.1, x1.2), .val tGraph (x2.1, x2.2), .val tMorphism (x3.1, x3.2)])) (fun r2 => (cond (!(decide (r2 = (0 : Int)))) (some ⟨tI, r2⟩) (Option.bind (cond x4 (res .bool (R f_search_twice [.val (.slice tI) x3.1])) (some (dflt E .bool))) (fun r3 => (Option.bind (cond (x4 && !r3) (res .bool (R f_search_twice [.val (.slice tI) x3.2])) (some (dflt E .bool))) (fun r4 => (cond (cond x4 (cond r3 true r4) false) (some ⟨tI, (5 : Int)⟩) (some ⟨tI, (0 : Int)⟩))))))))))))
theorem e_search_Check (k : Nat) (x0 : D tTypes) (x1 x2 : D tGraph) (x3 : D tMorphism) (x4 : D .bool) : run M (k + 1) f_search_Check [.val tTypes x0, .val tGraph x1, .val tGraph x2, .val tMorphism x3, .val .bool x4] = b_search_Check (run M k) x0 x1 x2 x3 x4 := by kernel_rfl
def b_attribute_given (R : RunT) (x0 : D tTypes) (x1 : D tPattern) (x2 : D tHost) : Res E :=
  (Option.bind (res tI (R f_attribute_Valid [.val tTypes (x0.1, x0.2), .val tPattern ((x1.1.1, x1.1.2), (x1.2.1, (x1.2.2.1, x1.2.2.2)))])) (fun r1 => (cond (!(decide (r1 = (0 : Int)))) (some ⟨tI, r1⟩) (Option.bind (res tTerm (R f_host_Valid [.val tTypes (x0.1, x0.2), .val tHost ((x2.1.1, x2.1.2), x2.2)])) (fun r2 => (some ⟨tI, r2.2⟩))))))
theorem e_attribute_given (k : Nat) (x0 : D tTypes) (x1 : D tPattern) (x2 : D tHost) : run M (k + 1) f_attribute_given [.val tTypes x0, .val tPattern x1, .val tHost x2] = b_attribute_given (run M k) x0 x1 x2 := by kernel_rfl
def b_attribute_value (R : RunT) (x0 : D tTerm) (x1 : D (.slice tI)) : Res E :=
  (cond (decide (x0.1 < (0 : Int))) (some ⟨tI, x0.2⟩) (cond (inB x0.1 (x1.length : Int)) (some ⟨tI, (IntKind.i64.wrap ((rd (E := E) (t := tI) x1 x0.1) + x0.2))⟩) none))
theorem e_attribute_value (k : Nat) (x0 : D tTerm) (x1 : D (.slice tI)) : run M (k + 1) f_attribute_value [.val tTerm x0, .val (.slice tI) x1] = b_attribute_value (run M k) x0 x1 := by kernel_rfl
def b_difference_wide (R : RunT) (x0 x1 : D tI) : Res E :=
  (Option.bind (res (.pair (.int .u64) (.int .u64)) (R f_math_bits_Add64 [.val (.int .u64) (IntKind.u64.wrap (x0)), .val (.int .u64) (IntKind.u64.wrap (x1)), .val (.int .u64) (0 : Int)])) (fun r1 => (some ⟨(.pair tI (.int .u64)), ((IntKind.i64.wrap ((IntKind.i64.wrap ((Int.fdiv x0 (2 ^ (min (Int.toNat (63 : Int)) (IntKind.bits .i64)))) + (Int.fdiv x1 (2 ^ (min (Int.toNat (63 : Int)) (IntKind.bits .i64)))))) + (IntKind.i64.wrap (r1.2)))), r1.1)⟩)))
theorem e_difference_wide (k : Nat) (x0 x1 : D tI) : run M (k + 1) f_difference_wide [.val tI x0, .val tI x1] = b_difference_wide (run M k) x0 x1 := by kernel_rfl
def b_difference_Holds_1 (R : RunT) (x0 : D tTerm) (x1 : D (.slice tI)) : Res E :=
  (cond (decide (x0.1 = (-1 : Int))) (Option.bind (res (.pair tI (.int .u64)) (R f_difference_wide [.val tI (0 : Int), .val tI x0.2])) (fun r1 => (some ⟨(.pair tI (.pair (.int .u64) .bool)), (r1.1, (r1.2, true))⟩))) (cond (cond (decide (x0.1 < (0 : Int))) true (decide ((x1.length : Int) ≤ x0.1))) (some ⟨(.pair tI (.pair (.int .u64) .bool)), ((0 : Int), ((0 : Int), false))⟩) (cond (inB x0.1 (x1.length : Int)) (Option.bind (res (.pair tI (.int .u64)) (R f_difference_wide [.val tI (rd (E := E) (t := tI) x1 x0.1), .val tI x0.2])) (fun r2 => (some ⟨(.pair tI (.pair (.int .u64) .bool)), (r2.1, (r2.2, true))⟩))) none)))
theorem e_difference_Holds_1 (k : Nat) (x0 : D tTerm) (x1 : D (.slice tI)) : run M (k + 1) f_difference_Holds_1 [.val tTerm x0, .ro (.slice tI) x1] = b_difference_Holds_1 (run M k) x0 x1 := by kernel_rfl
abbrev V_cmp_Or_int_0 := (D tI) → (D (.slice tI)) → (D tI) → (D tI) → Res E
def lp_cmp_Or_int_0 (k j : Nat) : V_cmp_Or_int_0 := fun v3 v6 v7 v8 =>
  loopAt M k 261 0 [] [] j ⟨18, [(3, .c (.leaf tI v3)), (6, .c (.leaf (.slice tI) v6)), (7, .c (.leaf tI v7)), (8, .c (.leaf tI v8))], []⟩
def s_cmp_Or_int_0 (R : RunT) (self : V_cmp_Or_int_0) : V_cmp_Or_int_0 := fun v3 v6 v7 v8 =>
  (cond (decide (v8 < v7)) (cond (inB v8 (v6.length : Int)) (cond (!(decide ((rd (E := E) (t := tI) v6 v8) = v3))) (some ⟨tI, (rd (E := E) (t := tI) v6 v8)⟩) (self v3 v6 v7 (IntKind.i64.wrap (v8 + (1 : Int))))) none) (some ⟨tI, v3⟩))
def l_cmp_Or_int_0 (R : RunT) : Nat → V_cmp_Or_int_0
  | 0 => fun _ _ _ _ => none
  | j + 1 => s_cmp_Or_int_0 R (l_cmp_Or_int_0 R j)
def b_cmp_Or_int (R : RunT) (c0 : V_cmp_Or_int_0) (x0 : D (.slice tI)) : Res E :=
  (c0 (0 : Int) x0 (x0.length : Int) (0 : Int))
theorem lp_cmp_Or_int_0_eq (k j0 : Nat) : lp_cmp_Or_int_0 k j0 = l_cmp_Or_int_0 (run M k) j0 := by
  induction j0 with
  | zero => kernel_rfl
  | succ j0 ih => exact Eq.trans (b := s_cmp_Or_int_0 (run M k) (lp_cmp_Or_int_0 k j0)) (by kernel_rfl) (by simp only [ih]; rfl)
theorem e_cmp_Or_int (k : Nat) (x0 : D (.slice tI)) : run M (k + 1) f_cmp_Or_int [.val (.slice tI) x0] = b_cmp_Or_int (run M k) (l_cmp_Or_int_0 (run M k) k) x0 :=
  Eq.trans (b := b_cmp_Or_int (run M k) (lp_cmp_Or_int_0 k k) x0) (by kernel_rfl) (by simp only [lp_cmp_Or_int_0_eq])
def b_cmp_isNaN_int (R : RunT) (x0 : D tI) : Res E :=
  (some ⟨.bool, (!(decide (x0 = x0)))⟩)
theorem e_cmp_isNaN_int (k : Nat) (x0 : D tI) : run M (k + 1) f_cmp_isNaN_int [.val tI x0] = b_cmp_isNaN_int (run M k) x0 := by kernel_rfl
def b_cmp_Compare_int (R : RunT) (x0 x1 : D tI) : Res E :=
  (Option.bind (res .bool (R f_cmp_isNaN_int [.val tI x0])) (fun r1 => (Option.bind (res .bool (R f_cmp_isNaN_int [.val tI x1])) (fun r2 => (cond r1 (cond r2 (some ⟨tI, (0 : Int)⟩) (some ⟨tI, (-1 : Int)⟩)) (cond r2 (some ⟨tI, (1 : Int)⟩) (cond (decide (x0 < x1)) (some ⟨tI, (-1 : Int)⟩) (cond (decide (x1 < x0)) (some ⟨tI, (1 : Int)⟩) (some ⟨tI, (0 : Int)⟩)))))))))
theorem e_cmp_Compare_int (k : Nat) (x0 x1 : D tI) : run M (k + 1) f_cmp_Compare_int [.val tI x0, .val tI x1] = b_cmp_Compare_int (run M k) x0 x1 := by kernel_rfl
def b_cmp_isNaN_uint64 (R : RunT) (x0 : D (.int .u64)) : Res E :=
  (some ⟨.bool, (!(decide (x0 = x0)))⟩)
theorem e_cmp_isNaN_uint64 (k : Nat) (x0 : D (.int .u64)) : run M (k + 1) f_cmp_isNaN_uint64 [.val (.int .u64) x0] = b_cmp_isNaN_uint64 (run M k) x0 := by kernel_rfl
def b_cmp_Compare_uint64 (R : RunT) (x0 x1 : D (.int .u64)) : Res E :=
  (Option.bind (res .bool (R f_cmp_isNaN_uint64 [.val (.int .u64) x0])) (fun r1 => (Option.bind (res .bool (R f_cmp_isNaN_uint64 [.val (.int .u64) x1])) (fun r2 => (cond r1 (cond r2 (some ⟨tI, (0 : Int)⟩) (some ⟨tI, (-1 : Int)⟩)) (cond r2 (some ⟨tI, (1 : Int)⟩) (cond (decide (x0 < x1)) (some ⟨tI, (-1 : Int)⟩) (cond (decide (x1 < x0)) (some ⟨tI, (1 : Int)⟩) (some ⟨tI, (0 : Int)⟩)))))))))
theorem e_cmp_Compare_uint64 (k : Nat) (x0 x1 : D (.int .u64)) : run M (k + 1) f_cmp_Compare_uint64 [.val (.int .u64) x0, .val (.int .u64) x1] = b_cmp_Compare_uint64 (run M k) x0 x1 := by kernel_rfl
def b_difference_Holds (R : RunT) (x0 : D tTest) (x1 : D (.slice tI)) : Res E :=
  (Option.bind (res (.pair tI (.pair (.int .u64) .bool)) (R f_difference_Holds_1 [.val tTerm (x0.2.1.1, x0.2.1.2), .ro (.slice tI) x1])) (fun r1 => (Option.bind (res (.pair tI (.pair (.int .u64) .bool)) (R f_difference_Holds_1 [.val tTerm (x0.2.2.1, x0.2.2.2), .ro (.slice tI) x1])) (fun r2 => (cond (cond (!r1.2.2) true (!r2.2.2)) (some ⟨.bool, false⟩) (Option.bind (res tI (R f_cmp_Compare_int [.val tI r1.1, .val tI r2.1])) (fun r3 => (Option.bind (res tI (R f_cmp_Compare_uint64 [.val (.int .u64) r1.2.1, .val (.int .u64) r2.2.1])) (fun r4 => (Option.bind (res tI (R f_cmp_Or_int [.val (.slice tI) ([r3, r4] : List (D tI))])) (fun r5 => (some ⟨.bool, (cond (cond (decide (x0.1 = (1 : Int))) (decide (r5 ≤ (0 : Int))) false) true (cond (decide (x0.1 = (2 : Int))) (decide (r5 = (0 : Int))) false))⟩))))))))))))
theorem e_difference_Holds (k : Nat) (x0 : D tTest) (x1 : D (.slice tI)) : run M (k + 1) f_difference_Holds [.val tTest x0, .val (.slice tI) x1] = b_difference_Holds (run M k) x0 x1 := by kernel_rfl
abbrev V_attribute_solve_0 := (D (.slice tSlot)) → (D tI) → (D tI) → (D (.slice tI)) → (D (.slice tEdge)) → (D (.slice tSlot)) → (D tI) → (D (.slice tTest)) → (D (.slice tI)) → (D (.slice tEdge)) → (D (.slice (.slice tI))) → (D (.slice tI)) → (D (.slice tI)) → (List (D tI)) → (List (D .bool)) → Res E
def lp_attribute_solve_0 (k j : Nat) : V_attribute_solve_0 := fun v23 v24 v25 b3_0 b3_1 b3_2 b3_3 b3_4 b4_0 b4_1 b4_2 b5_0 b5_1 t18 t21 =>
  loopAt M k 178 0 [] [] j ⟨86, [(3, .c (.ptr 3 0 0)), (4, .c (.ptr 4 0 0)), (5, .c (.ptr 5 0 0)), (8, .c (.ref 18 0 none)), (9, .c (.ref 21 0 none)), (23, .c (.leaf (.slice tSlot) v23)), (24, .c (.leaf tI v24)), (25, .c (.leaf tI v25))], [(3, 0, .box [.leaf (.slice tI) b3_0, .leaf (.slice tEdge) b3_1, .leaf (.slice tSlot) b3_2, .leaf tI b3_3, .leaf (.slice tTest) b3_4]), (4, 0, .box [.leaf (.slice tI) b4_0, .leaf (.slice tEdge) b4_1, .leaf (.slice (.slice tI)) b4_2]), (5, 0, .box [.leaf (.slice tI) b5_0, .leaf (.slice tI) b5_1]), (18, 0, .tok tI t18), (21, 0, .tok .bool t21)]⟩
abbrev V_attribute_solve_2 := (D (.slice tTest)) → (D tI) → (D tI) → (List (D tI)) → Res E
def lp_attribute_solve_2 (k j : Nat) : V_attribute_solve_2 := fun v74 v75 v76 t18 =>
  loopAt M k 178 2 [] [] j ⟨86, [(8, .c (.ref 18 0 none)), (74, .c (.leaf (.slice tTest) v74)), (75, .c (.leaf tI v75)), (76, .c (.leaf tI v76))], [(18, 0, .tok tI t18)]⟩
def s_attribute_solve_0 (R : RunT) (c2 : V_attribute_solve_2) (self : V_attribute_solve_0) : V_attribute_solve_0 := fun v23 v24 v25 b3_0 b3_1 b3_2 b3_3 b3_4 b4_0 b4_1 b4_2 b5_0 b5_1 t18 t21 =>
  (cond (decide (v25 < v24)) (cond (inB v25 (v23.length : Int)) (cond (inB ((rd (E := E) (t := tSlot) v23 v25).1) (b5_0.length : Int)) (cond (inB (rd (E := E) (t := tI) b5_0 ((rd (E := E) (t := tSlot) v23 v25).1)) (b4_2.length : Int)) (cond (inB (((rd (E := E) (t := tSlot) v23 v25).2).1) ((rd (E := E) (t := (.slice tI)) b4_2 (rd (E := E) (t := tI) b5_0 ((rd (E := E) (t := tSlot) v23 v25).1))).length : Int)) (cond ((inB ((((rd (E := E) (t := tSlot) v23 v25).2).2).1) (t21.length : Int)) || !(decide ((0 : Int) ≤ (((rd (E := E) (t := tSlot) v23 v25).2).2).1))) (cond (cond (decide ((0 : Int) ≤ (((rd (E := E) (t := tSlot) v23 v25).2).2).1)) (!(List.getD t21 (Int.toNat ((((rd (E := E) (t := tSlot) v23 v25).2).2).1)) (dflt E .bool))) false) (cond (inB ((((rd (E := E) (t := tSlot) v23 v25).2).2).1) (t18.length : Int)) (cond (inB ((((rd (E := E) (t := tSlot) v23 v25).2).2).1) (t21.length : Int)) (Option.bind (res tI (R f_attribute_value [.val tTerm ((((rd (E := E) (t := tSlot) v23 v25).2).2).1, (((rd (E := E) (t := tSlot) v23 v25).2).2).2), .val (.slice tI) (List.set t18 (Int.toNat ((((rd (E := E) (t := tSlot) v23 v25).2).2).1)) (IntKind.i64.wrap ((rd (E := E) (t := tI) (rd (E := E) (t := (.slice tI)) b4_2 (rd (E := E) (t := tI) b5_0 ((rd (E := E) (t := tSlot) v23 v25).1))) (((rd (E := E) (t := tSlot) v23 v25).2).1)) - ((((rd (E := E) (t := tSlot) v23 v25).2).2).2))))])) (fun r1 => (cond (!(decide (r1 = (rd (E := E) (t := tI) (rd (E := E) (t := (.slice tI)) b4_2 (rd (E := E) (t := tI) b5_0 ((rd (E := E) (t := tSlot) v23 v25).1))) (((rd (E := E) (t := tSlot) v23 v25).2).1))))) (some ⟨(.pair (.slice tI) tI), (([] : List (D tI)), (11 : Int))⟩) (self v23 v24 (IntKind.i64.wrap (v25 + (1 : Int))) b3_0 b3_1 b3_2 b3_3 b3_4 b4_0 b4_1 b4_2 b5_0 b5_1 (List.set t18 (Int.toNat ((((rd (E := E) (t := tSlot) v23 v25).2).2).1)) (IntKind.i64.wrap ((rd (E := E) (t := tI) (rd (E := E) (t := (.slice tI)) b4_2 (rd (E := E) (t := tI) b5_0 ((rd (E := E) (t := tSlot) v23 v25).1))) (((rd (E := E) (t := tSlot) v23 v25).2).1)) - ((((rd (E := E) (t := tSlot) v23 v25).2).2).2)))) (List.set t21 (Int.toNat ((((rd (E := E) (t := tSlot) v23 v25).2).2).1)) true))))) none) none) (Option.bind (res tI (R f_attribute_value [.val tTerm ((((rd (E := E) (t := tSlot) v23 v25).2).2).1, (((rd (E := E) (t := tSlot) v23 v25).2).2).2), .val (.slice tI) t18])) (fun r2 => (cond (!(decide (r2 = (rd (E := E) (t := tI) (rd (E := E) (t := (.slice tI)) b4_2 (rd (E := E) (t := tI) b5_0 ((rd (E := E) (t := tSlot) v23 v25).1))) (((rd (E := E) (t := tSlot) v23 v25).2).1))))) (some ⟨(.pair (.slice tI) tI), (([] : List (D tI)), (11 : Int))⟩) (self v23 v24 (IntKind.i64.wrap (v25 + (1 : Int))) b3_0 b3_1 b3_2 b3_3 b3_4 b4_0 b4_1 b4_2 b5_0 b5_1 t18 t21))))) none) none) none) none) none) (c2 b3_4 (b3_4.length : Int) (0 : Int) t18))
def s_attribute_solve_2 (R : RunT) (self : V_attribute_solve_2) : V_attribute_solve_2 := fun v74 v75 v76 t18 =>
  (cond (decide (v76 < v75)) (cond (inB v76 (v74.length : Int)) (Option.bind (res .bool (R f_difference_Holds [.val tTest ((rd (E := E) (t := tTest) v74 v76).1, (((((rd (E := E) (t := tTest) v74 v76).2).1).1, (((rd (E := E) (t := tTest) v74 v76).2).1).2), ((((rd (E := E) (t := tTest) v74 v76).2).2).1, (((rd (E := E) (t := tTest) v74 v76).2).2).2))), .val (.slice tI) t18])) (fun r1 => (cond (!r1) (some ⟨(.pair (.slice tI) tI), (([] : List (D tI)), (16 : Int))⟩) (self v74 v75 (IntKind.i64.wrap (v76 + (1 : Int))) t18)))) none) (some ⟨(.pair (.slice tI) tI), (t18, (0 : Int))⟩))
def l_attribute_solve_0 (R : RunT) (c2 : V_attribute_solve_2) : Nat → V_attribute_solve_0
  | 0 => fun _ _ _ _ _ _ _ _ _ _ _ _ _ _ _ => none
  | j + 1 => s_attribute_solve_0 R c2 (l_attribute_solve_0 R c2 j)
def l_attribute_solve_2 (R : RunT) : Nat → V_attribute_solve_2
  | 0 => fun _ _ _ _ => none
  | j + 1 => s_attribute_solve_2 R (l_attribute_solve_2 R j)
def b_attribute_solve (R : RunT) (c0 : V_attribute_solve_0) (x0 : D tPattern) (x1 : D tHost) (x2 : D tMorphism) : Res E :=
  (cond ((inS (0 : Int) x0.2.2.1 x0.2.2.1) && (roomy (Int.toNat x0.2.2.1) 8)) (cond ((inS (0 : Int) x0.2.2.1 x0.2.2.1) && (roomy (Int.toNat x0.2.2.1) 1)) (c0 x0.2.1 (x0.2.1.length : Int) (0 : Int) x0.1.1 x0.1.2 x0.2.1 x0.2.2.1 x0.2.2.2 x1.1.1 x1.1.2 x1.2 x2.1 x2.2 (List.replicate (Int.toNat x0.2.2.1) (dflt E tI)) (List.replicate (Int.toNat x0.2.2.1) (dflt E .bool))) none) none)
theorem lp_attribute_solve_0_eq (k j0 : Nat) : lp_attribute_solve_0 k j0 = l_attribute_solve_0 (run M k) (lp_attribute_solve_2 k k) j0 := by
  induction j0 with
  | zero => kernel_rfl
  | succ j0 ih => exact Eq.trans (b := s_attribute_solve_0 (run M k) (lp_attribute_solve_2 k k) (lp_attribute_solve_0 k j0)) (by kernel_rfl) (by simp only [ih]; rfl)
theorem lp_attribute_solve_2_eq (k j2 : Nat) : lp_attribute_solve_2 k j2 = l_attribute_solve_2 (run M k) j2 := by
  induction j2 with
  | zero => kernel_rfl
  | succ j2 ih => exact Eq.trans (b := s_attribute_solve_2 (run M k) (lp_attribute_solve_2 k j2)) (by kernel_rfl) (by simp only [ih]; rfl)
theorem e_attribute_solve (k : Nat) (x0 : D tPattern) (x1 : D tHost) (x2 : D tMorphism) : run M (k + 1) f_attribute_solve [.val tPattern x0, .val tHost x1, .val tMorphism x2] = b_attribute_solve (run M k) (l_attribute_solve_0 (run M k) (l_attribute_solve_2 (run M k) k) k) x0 x1 x2 :=
  Eq.trans (b := b_attribute_solve (run M k) (lp_attribute_solve_0 k k) x0 x1 x2) (by kernel_rfl) (by simp only [lp_attribute_solve_0_eq, lp_attribute_solve_2_eq])
def b_attribute_Solve (R : RunT) (x0 : D tTypes) (x1 : D tPattern) (x2 : D tHost) (x3 : D tMorphism) : Res E :=
  (Option.bind (res tI (R f_attribute_given [.val tTypes (x0.1, x0.2), .val tPattern ((x1.1.1, x1.1.2), (x1.2.1, (x1.2.2.1, x1.2.2.2))), .val tHost ((x2.1.1, x2.1.2), x2.2)])) (fun r1 => (cond (!(decide (r1 = (0 : Int)))) (some ⟨(.pair (.slice tI) tI), (([] : List (D tI)), r1)⟩) (Option.bind (res tI (R f_search_Check [.val tTypes (x0.1, x0.2), .val tGraph (x1.1.1, x1.1.2), .val tGraph (x2.1.1, x2.1.2), .val tMorphism (x3.1, x3.2), .val .bool false])) (fun r2 => (cond (!(decide (r2 = (0 : Int)))) (some ⟨(.pair (.slice tI) tI), (([] : List (D tI)), r2)⟩) (Option.bind (res (.pair (.slice tI) tI) (R f_attribute_solve [.val tPattern ((x1.1.1, x1.1.2), (x1.2.1, (x1.2.2.1, x1.2.2.2))), .val tHost ((x2.1.1, x2.1.2), x2.2), .val tMorphism (x3.1, x3.2)])) (fun r3 => (some ⟨(.pair (.slice tI) tI), (r3.1, r3.2)⟩)))))))))
theorem e_attribute_Solve (k : Nat) (x0 : D tTypes) (x1 : D tPattern) (x2 : D tHost) (x3 : D tMorphism) : run M (k + 1) f_attribute_Solve [.val tTypes x0, .val tPattern x1, .val tHost x2, .val tMorphism x3] = b_attribute_Solve (run M k) x0 x1 x2 x3 := by kernel_rfl
def b_condition_given (R : RunT) (x0 : D tTypes) (x1 : D tPattern) (x2 : D (.nom 0)) (x3 : D tHost) (x4 : D tMatch) (x5 : D .bool) : Res E :=
  (Option.bind (res tI (R f_condition_Valid [.val tTypes (x0.1, x0.2), .val tPattern ((x1.1.1, x1.1.2), (x1.2.1, (x1.2.2.1, x1.2.2.2))), .val (.nom 0) (E.cl 0 ((E.op 0 x2).1, (((E.op 0 x2).2).1, ((((((E.op 0 x2).2).2).1).1, ((((E.op 0 x2).2).2).1).2), (((((((E.op 0 x2).2).2).2).1).1, (((((E.op 0 x2).2).2).2).1).2), ((((((E.op 0 x2).2).2).2).2).1, (((((((E.op 0 x2).2).2).2).2).2).1, ((((((E.op 0 x2).2).2).2).2).2).2)))))))])) (fun r1 => (cond (!(decide (r1 = (0 : Int)))) (some ⟨tI, r1⟩) (Option.bind (res tTerm (R f_host_Valid [.val tTypes (x0.1, x0.2), .val tHost ((x3.1.1, x3.1.2), x3.2)])) (fun r2 => (cond (!(decide (r2.2 = (0 : Int)))) (some ⟨tI, r2.2⟩) (Option.bind (res tI (R f_search_Check [.val tTypes (x0.1, x0.2), .val tGraph (x1.1.1, x1.1.2), .val tGraph (x3.1.1, x3.1.2), .val tMorphism (x4.1.1, x4.1.2), .val .bool x5])) (fun r3 => (cond (!(decide (r3 = (0 : Int)))) (some ⟨tI, r3⟩) (Option.bind (res (.pair (.slice tI) tI) (R f_attribute_Solve [.val tTypes (x0.1, x0.2), .val tPattern ((x1.1.1, x1.1.2), (x1.2.1, (x1.2.2.1, x1.2.2.2))), .val tHost ((x3.1.1, x3.1.2), x3.2), .val tMorphism (x4.1.1, x4.1.2)])) (fun r4 => (cond (!(decide (r4.2 = (0 : Int)))) (some ⟨tI, r4.2⟩) (Option.bind (res .bool (R f_slices_Equal_int [.val (.slice tI) r4.1, .val (.slice tI) x4.2])) (fun r5 => (cond (!r5) (some ⟨tI, (11 : Int)⟩) (some ⟨tI, (0 : Int)⟩))))))))))))))))
theorem e_condition_given (k : Nat) (x0 : D tTypes) (x1 : D tPattern) (x2 : D (.nom 0)) (x3 : D tHost) (x4 : D tMatch) (x5 : D .bool) : run M (k + 1) f_condition_given [.val tTypes x0, .val tPattern x1, .val (.nom 0) x2, .val tHost x3, .val tMatch x4, .val .bool x5] = b_condition_given (run M k) x0 x1 x2 x3 x4 x5 := by kernel_rfl
def b_search_open_1 (R : RunT) (x0 x1 : D tI) : Res E :=
  (some ⟨.bool, (cond (decide (x0 < (-1 : Int))) true (decide (x1 ≤ x0)))⟩)
theorem e_search_open_1 (k : Nat) (x0 x1 : D tI) : run M (k + 1) f_search_open_1 [.val tI x0, .ro tI x1] = b_search_open_1 (run M k) x0 x1 := by kernel_rfl
def b_search_open (R : RunT) (x0 : D (.slice tI)) (x1 : D tI) : Res E :=
  (Option.bind (res .bool (R f_slices_ContainsFunc_int [.val (.slice tI) x0, .fn f_search_open_1 [⟨tI, x1⟩]])) (fun r1 => (cond r1 (some ⟨tI, (6 : Int)⟩) (some ⟨tI, (0 : Int)⟩))))
theorem e_search_open (k : Nat) (x0 : D (.slice tI)) (x1 : D tI) : run M (k + 1) f_search_open [.val (.slice tI) x0, .val tI x1] = b_search_open (run M k) x0 x1 := by kernel_rfl
def b_search_given (R : RunT) (x0 : D (.opt tI)) (x1 : D tI) : Res E :=
  (nilBr E (Option.map List.length x0) (cond (inB x1 ((Option.getD x0 []).length : Int)) (some ⟨tI, (rd (E := E) (t := tI) (Option.getD x0 []) x1)⟩) none) (some ⟨tI, (-1 : Int)⟩))
theorem e_search_given (k : Nat) (x0 : D (.opt tI)) (x1 : D tI) : run M (k + 1) f_search_given [.val (.opt tI) x0, .val tI x1] = b_search_given (run M k) x0 x1 := by kernel_rfl
def b_search_finder_fits (R : RunT) (x0 : D (.pair tGraph (.pair tGraph (.pair (.slice (.slice .bool)) (.pair (.pair (.opt tI) (.opt tI)) (.pair .bool (.pair tI (.pair (.slice tI) (.pair (.slice tI) (.slice tMorphism)))))))))) (x1 x2 : D tI) : Res E :=
  (cond (inB x1 (x0.1.2.length : Int)) (Option.bind (res tI (R f_search_given [.val (.opt tI) x0.2.2.2.1.2, .val tI x1])) (fun r1 => (cond (cond (decide ((0 : Int) ≤ r1)) (!(decide (r1 = x2))) false) (some ⟨.bool, false⟩) (cond (inB x2 (x0.2.1.2.length : Int)) (cond (inB (((rd (E := E) (t := tEdge) x0.1.2 x1).2).1) (x0.2.2.2.2.2.2.1.length : Int)) (cond (inB (((rd (E := E) (t := tEdge) x0.1.2 x1).2).2) (x0.2.2.2.2.2.2.1.length : Int)) (some ⟨.bool, ((decide ((rd (E := E) (t := tEdge) x0.2.1.2 x2).1 = (rd (E := E) (t := tEdge) x0.1.2 x1).1)) && ((decide (((rd (E := E) (t := tEdge) x0.2.1.2 x2).2).1 = (rd (E := E) (t := tI) x0.2.2.2.2.2.2.1 (((rd (E := E) (t := tEdge) x0.1.2 x1).2).1)))) && (decide (((rd (E := E) (t := tEdge) x0.2.1.2 x2).2).2 = (rd (E := E) (t := tI) x0.2.2.2.2.2.2.1 (((rd (E := E) (t := tEdge) x0.1.2 x1).2).2))))))⟩) none) none) none)))) none)
theorem e_search_finder_fits (k : Nat) (x0 : D (.pair tGraph (.pair tGraph (.pair (.slice (.slice .bool)) (.pair (.pair (.opt tI) (.opt tI)) (.pair .bool (.pair tI (.pair (.slice tI) (.pair (.slice tI) (.slice tMorphism)))))))))) (x1 x2 : D tI) : run M (k + 1) f_search_finder_fits [.ro (.pair tGraph (.pair tGraph (.pair (.slice (.slice .bool)) (.pair (.pair (.opt tI) (.opt tI)) (.pair .bool (.pair tI (.pair (.slice tI) (.pair (.slice tI) (.slice tMorphism))))))))) x0, .val tI x1, .val tI x2] = b_search_finder_fits (run M k) x0 x1 x2 := by kernel_rfl
abbrev V_search_finder_possible_0 := (D (.pair tGraph (.pair tGraph (.pair (.slice (.slice .bool)) (.pair (.pair (.opt tI) (.opt tI)) (.pair .bool (.pair tI (.pair (.slice tI) (.pair (.slice tI) (.slice tMorphism)))))))))) → (D tI) → (D (.slice tEdge)) → (D tI) → (D tI) → Res E
def lp_search_finder_possible_0 (k j : Nat) : V_search_finder_possible_0 := fun v0 v3 v18 v19 v20 =>
  loopAt M k 242 0 [] [] j ⟨49, [(0, .c (.ro (.pair tGraph (.pair tGraph (.pair (.slice (.slice .bool)) (.pair (.pair (.opt tI) (.opt tI)) (.pair .bool (.pair tI (.pair (.slice tI) (.pair (.slice tI) (.slice tMorphism))))))))) v0 0)), (3, .c (.leaf tI v3)), (18, .c (.leaf (.slice tEdge) v18)), (19, .c (.leaf tI v19)), (20, .c (.leaf tI v20))], []⟩
abbrev V_search_finder_possible_2 := (D (.pair tGraph (.pair tGraph (.pair (.slice (.slice .bool)) (.pair (.pair (.opt tI) (.opt tI)) (.pair .bool (.pair tI (.pair (.slice tI) (.pair (.slice tI) (.slice tMorphism)))))))))) → (D tI) → (D tI) → (D .bool) → (D (.slice tEdge)) → (D tI) → (D tI) → (D tI) → (D tI) → Res E
def lp_search_finder_possible_2 (k j0 j : Nat) : V_search_finder_possible_2 := fun v0 v3 v4 v6 v18 v19 v20 v37 v38 =>
  loopAt M k 242 2 [] [j0] j ⟨49, [(0, .c (.ro (.pair tGraph (.pair tGraph (.pair (.slice (.slice .bool)) (.pair (.pair (.opt tI) (.opt tI)) (.pair .bool (.pair tI (.pair (.slice tI) (.pair (.slice tI) (.slice tMorphism))))))))) v0 0)), (3, .c (.leaf tI v3)), (4, .c (.leaf tI v4)), (6, .c (.leaf .bool v6)), (18, .c (.leaf (.slice tEdge) v18)), (19, .c (.leaf tI v19)), (20, .c (.leaf tI v20)), (37, .c (.leaf tI v37)), (38, .c (.leaf tI v38))], []⟩
def s_search_finder_possible_2 (R : RunT) (c0 : V_search_finder_possible_0) (self : V_search_finder_possible_2) : V_search_finder_possible_2 := fun v0 v3 v4 v6 v18 v19 v20 v37 v38 =>
  (cond (decide (v38 < v37)) (Option.bind (res .bool (R f_search_finder_fits [.ro (.pair tGraph (.pair tGraph (.pair (.slice (.slice .bool)) (.pair (.pair (.opt tI) (.opt tI)) (.pair .bool (.pair tI (.pair (.slice tI) (.pair (.slice tI) (.slice tMorphism))))))))) v0, .val tI v4, .val tI v38])) (fun r1 => (cond r1 (c0 v0 v3 v18 v19 (IntKind.i64.wrap (v20 + (1 : Int)))) (self v0 v3 v4 v6 v18 v19 v20 v37 (IntKind.i64.wrap (v38 + (1 : Int))))))) (cond (!v6) (some ⟨.bool, false⟩) (c0 v0 v3 v18 v19 (IntKind.i64.wrap (v20 + (1 : Int))))))
def s_search_finder_possible_0 (R : RunT) (c2 : V_search_finder_possible_2) (self : V_search_finder_possible_0) : V_search_finder_possible_0 := fun v0 v3 v18 v19 v20 =>
  (cond (decide (v20 < v19)) (cond (inB v20 (v18.length : Int)) (cond (!(decide ((cond (decide (((rd (E := E) (t := tEdge) v18 v20).2).1 < ((rd (E := E) (t := tEdge) v18 v20).2).2)) (((rd (E := E) (t := tEdge) v18 v20).2).2) (((rd (E := E) (t := tEdge) v18 v20).2).1)) = v3))) (self v0 v3 v18 v19 (IntKind.i64.wrap (v20 + (1 : Int)))) (c2 v0 v3 v20 false v18 v19 v20 (v0.2.1.2.length : Int) (0 : Int))) none) (some ⟨.bool, true⟩))
def l_search_finder_possible_2 (R : RunT) (c0 : V_search_finder_possible_0) : Nat → V_search_finder_possible_2
  | 0 => fun _ _ _ _ _ _ _ _ _ => none
  | j + 1 => s_search_finder_possible_2 R c0 (l_search_finder_possible_2 R c0 j)
def l_search_finder_possible_0 (R : RunT) : Nat → V_search_finder_possible_0
  | 0 => fun _ _ _ _ _ => none
  | j + 1 => s_search_finder_possible_0 R (l_search_finder_possible_2 R (l_search_finder_possible_0 R j) j) (l_search_finder_possible_0 R j)
def b_search_finder_possible (R : RunT) (c0 : V_search_finder_possible_0) (x0 : D (.pair tGraph (.pair tGraph (.pair (.slice (.slice .bool)) (.pair (.pair (.opt tI) (.opt tI)) (.pair .bool (.pair tI (.pair (.slice tI) (.pair (.slice tI) (.slice tMorphism)))))))))) : Res E :=
  (c0 x0 (IntKind.i64.wrap ((x0.2.2.2.2.2.2.1.length : Int) - (1 : Int))) x0.1.2 (x0.1.2.length : Int) (0 : Int))
theorem lp_search_finder_possible_2_eq (k j0 j2 : Nat) : lp_search_finder_possible_2 k j0 j2 = l_search_finder_possible_2 (run M k) (lp_search_finder_possible_0 k j0) j2 := by
  induction j2 with
  | zero => kernel_rfl
  | succ j2 ih => exact Eq.trans (b := s_search_finder_possible_2 (run M k) (lp_search_finder_possible_0 k j0) (lp_search_finder_possible_2 k j0 j2)) (by kernel_rfl) (by simp only [ih]; rfl)
theorem lp_search_finder_possible_0_eq (k j0 : Nat) : lp_search_finder_possible_0 k j0 = l_search_finder_possible_0 (run M k) j0 := by
  induction j0 with
  | zero => kernel_rfl
  | succ j0 ih => exact Eq.trans (b := s_search_finder_possible_0 (run M k) (lp_search_finder_possible_2 k j0 j0) (lp_search_finder_possible_0 k j0)) (by kernel_rfl) (by simp only [lp_search_finder_possible_2_eq, ih]; rfl)
theorem e_search_finder_possible (k : Nat) (x0 : D (.pair tGraph (.pair tGraph (.pair (.slice (.slice .bool)) (.pair (.pair (.opt tI) (.opt tI)) (.pair .bool (.pair tI (.pair (.slice tI) (.pair (.slice tI) (.slice tMorphism)))))))))) : run M (k + 1) f_search_finder_possible [.ro (.pair tGraph (.pair tGraph (.pair (.slice (.slice .bool)) (.pair (.pair (.opt tI) (.opt tI)) (.pair .bool (.pair tI (.pair (.slice tI) (.pair (.slice tI) (.slice tMorphism))))))))) x0] = b_search_finder_possible (run M k) (l_search_finder_possible_0 (run M k) k) x0 :=
  Eq.trans (b := b_search_finder_possible (run M k) (lp_search_finder_possible_0 k k) x0) (by kernel_rfl) (by simp only [lp_search_finder_possible_2_eq, lp_search_finder_possible_0_eq])
abbrev V_search_finder_find_1 := (D tI) → (D (.slice tI)) → (D tI) → (D tI) → (D (.slice tI)) → (D (.slice tEdge)) → (D (.slice tI)) → (D (.slice tEdge)) → (D (.opt tI)) → (D (.opt tI)) → (D .bool) → (D tI) → (List (D (.slice .bool))) → (List (D tI)) → (List (D tI)) → (List (D tMorphism)) → Res E
def lp_search_finder_find_1 (k j : Nat) : V_search_finder_find_1 := fun v2 v61 v62 v63 b100000_0 b100000_1 b100000_2 b100000_3 b100000_5 b100000_6 b100000_7 b100000_8 t7000004 t7000009 t7000010 t7000011 =>
  loopAt M k 198 1 [.rw 0 [((.slice tI), false), ((.slice tEdge), false), ((.slice tI), false), ((.slice tEdge), false), ((.slice (.slice .bool)), true), ((.opt tI), false), ((.opt tI), false), (.bool, false), (tI, false), ((.slice tI), true), ((.slice tI), true), ((.slice tMorphism), true)]] [] j ⟨208, [(0, .c (.ptr 100000 0 0)), (2, .c (.leaf tI v2)), (61, .c (.leaf (.slice tI) v61)), (62, .c (.leaf tI v62)), (63, .c (.leaf tI v63))], [(100000, 0, .box [.leaf (.slice tI) b100000_0, .leaf (.slice tEdge) b100000_1, .leaf (.slice tI) b100000_2, .leaf (.slice tEdge) b100000_3, .ref 7000004 0 none, .leaf (.opt tI) b100000_5, .leaf (.opt tI) b100000_6, .leaf .bool b100000_7, .leaf tI b100000_8, .ref 7000009 0 none, .ref 7000010 0 none, .ref 7000011 0 none]), (7000004, 0, .tok (.slice .bool) t7000004), (7000009, 0, .tok tI t7000009), (7000010, 0, .tok tI t7000010), (7000011, 0, .tok tMorphism t7000011)]⟩
abbrev V_search_finder_find_3 := (D tI) → (D tI) → (D tI) → (D (.slice tI)) → (D (.slice tEdge)) → (D (.slice tI)) → (D (.slice tEdge)) → (D (.opt tI)) → (D (.opt tI)) → (D .bool) → (D tI) → (List (D (.slice .bool))) → (List (D tI)) → (List (D tI)) → (List (D tMorphism)) → Res E
def lp_search_finder_find_3 (k j : Nat) : V_search_finder_find_3 := fun v6 v163 v164 b100000_0 b100000_1 b100000_2 b100000_3 b100000_5 b100000_6 b100000_7 b100000_8 t7000004 t7000009 t7000010 t7000011 =>
  loopAt M k 198 3 [.rw 0 [((.slice tI), false), ((.slice tEdge), false), ((.slice tI), false), ((.slice tEdge), false), ((.slice (.slice .bool)), true), ((.opt tI), false), ((.opt tI), false), (.bool, false), (tI, false), ((.slice tI), true), ((.slice tI), true), ((.slice tMorphism), true)]] [] j ⟨208, [(0, .c (.ptr 100000 0 0)), (6, .c (.leaf tI v6)), (163, .c (.leaf tI v163)), (164, .c (.leaf tI v164))], [(100000, 0, .box [.leaf (.slice tI) b100000_0, .leaf (.slice tEdge) b100000_1, .leaf (.slice tI) b100000_2, .leaf (.slice tEdge) b100000_3, .ref 7000004 0 none, .leaf (.opt tI) b100000_5, .leaf (.opt tI) b100000_6, .leaf .bool b100000_7, .leaf tI b100000_8, .ref 7000009 0 none, .ref 7000010 0 none, .ref 7000011 0 none]), (7000004, 0, .tok (.slice .bool) t7000004), (7000009, 0, .tok tI t7000009), (7000010, 0, .tok tI t7000010), (7000011, 0, .tok tMorphism t7000011)]⟩
def s_search_finder_find_1 (R : RunT) (self : V_search_finder_find_1) : V_search_finder_find_1 := fun v2 v61 v62 v63 b100000_0 b100000_1 b100000_2 b100000_3 b100000_5 b100000_6 b100000_7 b100000_8 t7000004 t7000009 t7000010 t7000011 =>
  (cond (decide (v63 < v62)) (cond (inB v63 (v61.length : Int)) (Option.bind (res tI (R f_search_given [.val (.opt tI) b100000_5, .val tI v2])) (fun r1 => (cond ((inB v2 (b100000_0.length : Int)) || !(!(cond (decide ((0 : Int) ≤ r1)) (!(decide (r1 = v63))) false))) (cond ((inB (rd (E := E) (t := tI) b100000_0 v2) (t7000004.length : Int)) || !(!(cond (decide ((0 : Int) ≤ r1)) (!(decide (r1 = v63))) false))) (cond ((inB (rd (E := E) (t := tI) v61 v63) ((List.getD t7000004 (Int.toNat (rd (E := E) (t := tI) b100000_0 v2)) (dflt E (.slice .bool))).length : Int)) || !(!(cond (decide ((0 : Int) ≤ r1)) (!(decide (r1 = v63))) false))) (Option.bind (cond (!(cond (cond (decide ((0 : Int) ≤ r1)) (!(decide (r1 = v63))) false) true (!(rd (E := E) (t := .bool) (List.getD t7000004 (Int.toNat (rd (E := E) (t := tI) b100000_0 v2)) (dflt E (.slice .bool))) (rd (E := E) (t := tI) v61 v63)))) && b100000_7) (res .bool (R f_slices_Contains_int [.val (.slice tI) t7000009, .val tI v63])) (some (dflt E .bool))) (fun r2 => (cond (cond (cond (cond (decide ((0 : Int) ≤ r1)) (!(decide (r1 = v63))) false) true (!(rd (E := E) (t := .bool) (List.getD t7000004 (Int.toNat (rd (E := E) (t := tI) b100000_0 v2)) (dflt E (.slice .bool))) (rd (E := E) (t := tI) v61 v63)))) true (cond b100000_7 r2 false)) (self v2 v61 v62 (IntKind.i64.wrap (v63 + (1 : Int))) b100000_0 b100000_1 b100000_2 b100000_3 b100000_5 b100000_6 b100000_7 b100000_8 t7000004 t7000009 t7000010 t7000011) (cond (roomy (t7000009.length + ([v63] : List (D tI)).length) 8) (Option.bind (res .bool (R f_search_finder_possible [.ro (.pair tGraph (.pair tGraph (.pair (.slice (.slice .bool)) (.pair (.pair (.opt tI) (.opt tI)) (.pair .bool (.pair tI (.pair (.slice tI) (.pair (.slice tI) (.slice tMorphism))))))))) ((b100000_0, b100000_1), ((b100000_2, b100000_3), (t7000004, ((b100000_5, b100000_6), (b100000_7, (b100000_8, ((t7000009 ++ ([v63] : List (D tI))), (t7000010, t7000011))))))))])) (fun r3 => (cond r3 (Option.bind (res (.pair (.slice tI) (.pair (.slice tEdge) (.pair (.slice tI) (.pair (.slice tEdge) (.pair (.slice (.slice .bool)) (.pair (.opt tI) (.pair (.opt tI) (.pair .bool (.pair tI (.pair (.slice tI) (.pair (.slice tI) (.slice tMorphism)))))))))))) (R f_search_finder_find [.rw [((.slice tI), false), ((.slice tEdge), false), ((.slice tI), false), ((.slice tEdge), false), ((.slice (.slice .bool)), true), ((.opt tI), false), ((.opt tI), false), (.bool, false), (tI, false), ((.slice tI), true), ((.slice tI), true), ((.slice tMorphism), true)] (b100000_0, (b100000_1, (b100000_2, (b100000_3, (t7000004, (b100000_5, (b100000_6, (b100000_7, (b100000_8, ((t7000009 ++ ([v63] : List (D tI))), (t7000010, t7000011)))))))))))])) (fun r4 => (cond (inS (0 : Int) v2 (r4.2.2.2.2.2.2.2.2.2.1.length : Int)) (self v2 v61 v62 (IntKind.i64.wrap (v63 + (1 : Int))) r4.1 r4.2.1 r4.2.2.1 r4.2.2.2.1 r4.2.2.2.2.2.1 r4.2.2.2.2.2.2.1 r4.2.2.2.2.2.2.2.1 r4.2.2.2.2.2.2.2.2.1 r4.2.2.2.2.1 ((List.drop (Int.toNat (0 : Int)) r4.2.2.2.2.2.2.2.2.2.1).take (Int.toNat (v2 - (0 : Int)))) r4.2.2.2.2.2.2.2.2.2.2.1 r4.2.2.2.2.2.2.2.2.2.2.2) none))) (cond (inS (0 : Int) v2 ((t7000009 ++ ([v63] : List (D tI))).length : Int)) (self v2 v61 v62 (IntKind.i64.wrap (v63 + (1 : Int))) b100000_0 b100000_1 b100000_2 b100000_3 b100000_5 b100000_6 b100000_7 b100000_8 t7000004 ((List.drop (Int.toNat (0 : Int)) (t7000009 ++ ([v63] : List (D tI)))).take (Int.toNat (v2 - (0 : Int)))) t7000010 t7000011) none)))) none)))) none) none) none))) none) (some ⟨(.pair (.slice tI) (.pair (.slice tEdge) (.pair (.slice tI) (.pair (.slice tEdge) (.pair (.slice (.slice .bool)) (.pair (.opt tI) (.pair (.opt tI) (.pair .bool (.pair tI (.pair (.slice tI) (.pair (.slice tI) (.slice tMorphism)))))))))))), (b100000_0, (b100000_1, (b100000_2, (b100000_3, (t7000004, (b100000_5, (b100000_6, (b100000_7, (b100000_8, (t7000009, (t7000010, t7000011)))))))))))⟩))
def s_search_finder_find_3 (R : RunT) (self : V_search_finder_find_3) : V_search_finder_find_3 := fun v6 v163 v164 b100000_0 b100000_1 b100000_2 b100000_3 b100000_5 b100000_6 b100000_7 b100000_8 t7000004 t7000009 t7000010 t7000011 =>
  (cond (decide (v164 < v163)) (Option.bind (res .bool (R f_search_finder_fits [.ro (.pair tGraph (.pair tGraph (.pair (.slice (.slice .bool)) (.pair (.pair (.opt tI) (.opt tI)) (.pair .bool (.pair tI (.pair (.slice tI) (.pair (.slice tI) (.slice tMorphism))))))))) ((b100000_0, b100000_1), ((b100000_2, b100000_3), (t7000004, ((b100000_5, b100000_6), (b100000_7, (b100000_8, (t7000009, (t7000010, t7000011)))))))), .val tI v6, .val tI v164])) (fun r1 => (Option.bind (cond (!(!r1) && b100000_7) (res .bool (R f_slices_Contains_int [.val (.slice tI) t7000010, .val tI v164])) (some (dflt E .bool))) (fun r2 => (cond (cond (!r1) true (cond b100000_7 r2 false)) (self v6 v163 (IntKind.i64.wrap (v164 + (1 : Int))) b100000_0 b100000_1 b100000_2 b100000_3 b100000_5 b100000_6 b100000_7 b100000_8 t7000004 t7000009 t7000010 t7000011) (cond (roomy (t7000010.length + ([v164] : List (D tI)).length) 8) (Option.bind (res (.pair (.slice tI) (.pair (.slice tEdge) (.pair (.slice tI) (.pair (.slice tEdge) (.pair (.slice (.slice .bool)) (.pair (.opt tI) (.pair (.opt tI) (.pair .bool (.pair tI (.pair (.slice tI) (.pair (.slice tI) (.slice tMorphism)))))))))))) (R f_search_finder_find [.rw [((.slice tI), false), ((.slice tEdge), false), ((.slice tI), false), ((.slice tEdge), false), ((.slice (.slice .bool)), true), ((.opt tI), false), ((.opt tI), false), (.bool, false), (tI, false), ((.slice tI), true), ((.slice tI), true), ((.slice tMorphism), true)] (b100000_0, (b100000_1, (b100000_2, (b100000_3, (t7000004, (b100000_5, (b100000_6, (b100000_7, (b100000_8, (t7000009, ((t7000010 ++ ([v164] : List (D tI))), t7000011)))))))))))])) (fun r3 => (cond (inS (0 : Int) v6 (r3.2.2.2.2.2.2.2.2.2.2.1.length : Int)) (self v6 v163 (IntKind.i64.wrap (v164 + (1 : Int))) r3.1 r3.2.1 r3.2.2.1 r3.2.2.2.1 r3.2.2.2.2.2.1 r3.2.2.2.2.2.2.1 r3.2.2.2.2.2.2.2.1 r3.2.2.2.2.2.2.2.2.1 r3.2.2.2.2.1 r3.2.2.2.2.2.2.2.2.2.1 ((List.drop (Int.toNat (0 : Int)) r3.2.2.2.2.2.2.2.2.2.2.1).take (Int.toNat (v6 - (0 : Int)))) r3.2.2.2.2.2.2.2.2.2.2.2) none))) none)))))) (some ⟨(.pair (.slice tI) (.pair (.slice tEdge) (.pair (.slice tI) (.pair (.slice tEdge) (.pair (.slice (.slice .bool)) (.pair (.opt tI) (.pair (.opt tI) (.pair .bool (.pair tI (.pair (.slice tI) (.pair (.slice tI) (.slice tMorphism)))))))))))), (b100000_0, (b100000_1, (b100000_2, (b100000_3, (t7000004, (b100000_5, (b100000_6, (b100000_7, (b100000_8, (t7000009, (t7000010, t7000011)))))))))))⟩))
def l_search_finder_find_1 (R : RunT) : Nat → V_search_finder_find_1
  | 0 => fun _ _ _ _ _ _ _ _ _ _ _ _ _ _ _ _ => none
  | j + 1 => s_search_finder_find_1 R (l_search_finder_find_1 R j)
def l_search_finder_find_3 (R : RunT) : Nat → V_search_finder_find_3
  | 0 => fun _ _ _ _ _ _ _ _ _ _ _ _ _ _ _ => none
  | j + 1 => s_search_finder_find_3 R (l_search_finder_find_3 R j)
def b_search_finder_find (R : RunT) (c1 : V_search_finder_find_1) (c3 : V_search_finder_find_3) (x0 : D (.pair (.slice tI) (.pair (.slice tEdge) (.pair (.slice tI) (.pair (.slice tEdge) (.pair (.slice (.slice .bool)) (.pair (.opt tI) (.pair (.opt tI) (.pair .bool (.pair tI (.pair (.slice tI) (.pair (.slice tI) (.slice tMorphism))))))))))))) : Res E :=
  (cond (decide ((x0.2.2.2.2.2.2.2.2.2.2.2.length : Int) = x0.2.2.2.2.2.2.2.2.1)) (some ⟨(.pair (.slice tI) (.pair (.slice tEdge) (.pair (.slice tI) (.pair (.slice tEdge) (.pair (.slice (.slice .bool)) (.pair (.opt tI) (.pair (.opt tI) (.pair .bool (.pair tI (.pair (.slice tI) (.pair (.slice tI) (.slice tMorphism)))))))))))), (x0.1, (x0.2.1, (x0.2.2.1, (x0.2.2.2.1, (x0.2.2.2.2.1, (x0.2.2.2.2.2.1, (x0.2.2.2.2.2.2.1, (x0.2.2.2.2.2.2.2.1, (x0.2.2.2.2.2.2.2.2.1, (x0.2.2.2.2.2.2.2.2.2.1, (x0.2.2.2.2.2.2.2.2.2.2.1, x0.2.2.2.2.2.2.2.2.2.2.2)))))))))))⟩) (cond (decide ((x0.2.2.2.2.2.2.2.2.2.1.length : Int) < (x0.1.length : Int))) (c1 (x0.2.2.2.2.2.2.2.2.2.1.length : Int) x0.2.2.1 (x0.2.2.1.length : Int) (0 : Int) x0.1 x0.2.1 x0.2.2.1 x0.2.2.2.1 x0.2.2.2.2.2.1 x0.2.2.2.2.2.2.1 x0.2.2.2.2.2.2.2.1 x0.2.2.2.2.2.2.2.2.1 x0.2.2.2.2.1 x0.2.2.2.2.2.2.2.2.2.1 x0.2.2.2.2.2.2.2.2.2.2.1 x0.2.2.2.2.2.2.2.2.2.2.2) (cond (decide ((x0.2.2.2.2.2.2.2.2.2.2.1.length : Int) < (x0.2.1.length : Int))) (c3 (x0.2.2.2.2.2.2.2.2.2.2.1.length : Int) (x0.2.2.2.1.length : Int) (0 : Int) x0.1 x0.2.1 x0.2.2.1 x0.2.2.2.1 x0.2.2.2.2.2.1 x0.2.2.2.2.2.2.1 x0.2.2.2.2.2.2.2.1 x0.2.2.2.2.2.2.2.2.1 x0.2.2.2.2.1 x0.2.2.2.2.2.2.2.2.2.1 x0.2.2.2.2.2.2.2.2.2.2.1 x0.2.2.2.2.2.2.2.2.2.2.2) (Option.bind (res (.slice tI) (R f_slices_Clone_int [.val (.slice tI) x0.2.2.2.2.2.2.2.2.2.1])) (fun r1 => (Option.bind (res (.slice tI) (R f_slices_Clone_int [.val (.slice tI) x0.2.2.2.2.2.2.2.2.2.2.1])) (fun r2 => (cond (roomy (x0.2.2.2.2.2.2.2.2.2.2.2.length + ([(r1, r2)] : List (D tMorphism)).length) 48) (some ⟨(.pair (.slice tI) (.pair (.slice tEdge) (.pair (.slice tI) (.pair (.slice tEdge) (.pair (.slice (.slice .bool)) (.pair (.opt tI) (.pair (.opt tI) (.pair .bool (.pair tI (.pair (.slice tI) (.pair (.slice tI) (.slice tMorphism)))))))))))), (x0.1, (x0.2.1, (x0.2.2.1, (x0.2.2.2.1, (x0.2.2.2.2.1, (x0.2.2.2.2.2.1, (x0.2.2.2.2.2.2.1, (x0.2.2.2.2.2.2.2.1, (x0.2.2.2.2.2.2.2.2.1, (x0.2.2.2.2.2.2.2.2.2.1, (x0.2.2.2.2.2.2.2.2.2.2.1, (x0.2.2.2.2.2.2.2.2.2.2.2 ++ ([(r1, r2)] : List (D tMorphism))))))))))))))⟩) none))))))))
theorem lp_search_finder_find_1_eq (k j1 : Nat) : lp_search_finder_find_1 k j1 = l_search_finder_find_1 (run M k) j1 := by
  induction j1 with
  | zero => kernel_rfl
  | succ j1 ih => exact Eq.trans (b := s_search_finder_find_1 (run M k) (lp_search_finder_find_1 k j1)) (by kernel_rfl) (by simp only [ih]; rfl)
theorem lp_search_finder_find_3_eq (k j3 : Nat) : lp_search_finder_find_3 k j3 = l_search_finder_find_3 (run M k) j3 := by
  induction j3 with
  | zero => kernel_rfl
  | succ j3 ih => exact Eq.trans (b := s_search_finder_find_3 (run M k) (lp_search_finder_find_3 k j3)) (by kernel_rfl) (by simp only [ih]; rfl)
theorem e_search_finder_find (k : Nat) (x0 : D (.pair (.slice tI) (.pair (.slice tEdge) (.pair (.slice tI) (.pair (.slice tEdge) (.pair (.slice (.slice .bool)) (.pair (.opt tI) (.pair (.opt tI) (.pair .bool (.pair tI (.pair (.slice tI) (.pair (.slice tI) (.slice tMorphism))))))))))))) : run M (k + 1) f_search_finder_find [.rw [((.slice tI), false), ((.slice tEdge), false), ((.slice tI), false), ((.slice tEdge), false), ((.slice (.slice .bool)), true), ((.opt tI), false), ((.opt tI), false), (.bool, false), (tI, false), ((.slice tI), true), ((.slice tI), true), ((.slice tMorphism), true)] x0] = b_search_finder_find (run M k) (l_search_finder_find_1 (run M k) k) (l_search_finder_find_3 (run M k) k) x0 :=
  Eq.trans (b := b_search_finder_find (run M k) (lp_search_finder_find_1 k k) (lp_search_finder_find_3 k k) x0) (by kernel_rfl) (by simp only [lp_search_finder_find_1_eq, lp_search_finder_find_3_eq])
def b_search_found (R : RunT) (x0 : D tTypes) (x1 x2 : D tGraph) (x3 : D (.pair (.opt tI) (.opt tI))) (x4 : D .bool) (x5 : D tI) : Res E :=
  (Option.bind (res (.slice (.slice .bool)) (R f_search_below [.val tTypes (x0.1, x0.2)])) (fun r1 => (Option.bind (res (.pair (.slice tI) (.pair (.slice tEdge) (.pair (.slice tI) (.pair (.slice tEdge) (.pair (.slice (.slice .bool)) (.pair (.opt tI) (.pair (.opt tI) (.pair .bool (.pair tI (.pair (.slice tI) (.pair (.slice tI) (.slice tMorphism)))))))))))) (R f_search_finder_find [.rw [((.slice tI), false), ((.slice tEdge), false), ((.slice tI), false), ((.slice tEdge), false), ((.slice (.slice .bool)), true), ((.opt tI), false), ((.opt tI), false), (.bool, false), (tI, false), ((.slice tI), true), ((.slice tI), true), ((.slice tMorphism), true)] (x1.1, (x1.2, (x2.1, (x2.2, (r1, (x3.1, (x3.2, (x4, (x5, (([] : List (D tI)), (([] : List (D tI)), ([] : List (D tMorphism)))))))))))))])) (fun r2 => (some ⟨(.slice tMorphism), r2.2.2.2.2.2.2.2.2.2.2.2⟩)))))
theorem e_search_found (k : Nat) (x0 : D tTypes) (x1 x2 : D tGraph) (x3 : D (.pair (.opt tI) (.opt tI))) (x4 : D .bool) (x5 : D tI) : run M (k + 1) f_search_found [.val tTypes x0, .val tGraph x1, .val tGraph x2, .val (.pair (.opt tI) (.opt tI)) x3, .val .bool x4, .val tI x5] = b_search_found (run M k) x0 x1 x2 x3 x4 x5 := by kernel_rfl
def b_search_all (R : RunT) (x0 : D tTypes) (x1 x2 : D tGraph) (x3 : D (.pair (.opt tI) (.opt tI))) (x4 : D .bool) : Res E :=
  (Option.bind (res (.slice tMorphism) (R f_search_found [.val tTypes (x0.1, x0.2), .val tGraph (x1.1, x1.2), .val tGraph (x2.1, x2.2), .val (.pair (.opt tI) (.opt tI)) (x3.1, x3.2), .val .bool x4, .val tI (5001 : Int)])) (fun r1 => (cond (decide ((5000 : Int) < (r1.length : Int))) (some ⟨(.pair (.slice tMorphism) tI), (([] : List (D tMorphism)), (3 : Int))⟩) (some ⟨(.pair (.slice tMorphism) tI), (r1, (0 : Int))⟩))))
theorem e_search_all (k : Nat) (x0 : D tTypes) (x1 x2 : D tGraph) (x3 : D (.pair (.opt tI) (.opt tI))) (x4 : D .bool) : run M (k + 1) f_search_all [.val tTypes x0, .val tGraph x1, .val tGraph x2, .val (.pair (.opt tI) (.opt tI)) x3, .val .bool x4] = b_search_all (run M k) x0 x1 x2 x3 x4 := by kernel_rfl
def b_search_Extend (R : RunT) (x0 : D tTypes) (x1 x2 : D tGraph) (x3 : D tMorphism) (x4 : D .bool) : Res E :=
  (Option.bind (res tI (R f_search_valid [.val tTypes (x0.1, x0.2), .val tGraph (x1.1, x1.2), .val tGraph (x2.1, x2.2)])) (fun r1 => (cond (!(decide (r1 = (0 : Int)))) (some ⟨(.pair (.slice tMorphism) tI), (([] : List (D tMorphism)), r1)⟩) (cond (cond (!(decide ((x3.1.length : Int) = (x1.1.length : Int)))) true (!(decide ((x3.2.length : Int) = (x1.2.length : Int))))) (some ⟨(.pair (.slice tMorphism) tI), (([] : List (D tMorphism)), (20 : Int))⟩) (Option.bind (res tI (R f_search_open [.val (.slice tI) x3.1, .val tI (x2.1.length : Int)])) (fun r2 => (cond (!(decide (r2 = (0 : Int)))) (some ⟨(.pair (.slice tMorphism) tI), (([] : List (D tMorphism)), r2)⟩) (Option.bind (res tI (R f_search_open [.val (.slice tI) x3.2, .val tI (x2.2.length : Int)])) (fun r3 => (cond (!(decide (r3 = (0 : Int)))) (some ⟨(.pair (.slice tMorphism) tI), (([] : List (D tMorphism)), r3)⟩) (Option.bind (res (.pair (.slice tMorphism) tI) (R f_search_all [.val tTypes (x0.1, x0.2), .val tGraph (x1.1, x1.2), .val tGraph (x2.1, x2.2), .val (.pair (.opt tI) (.opt tI)) ((some x3.1 : Option (List (D tI))), (some x3.2 : Option (List (D tI)))), .val .bool x4])) (fun r4 => (some ⟨(.pair (.slice tMorphism) tI), (r4.1, r4.2)⟩)))))))))))))
theorem e_search_Extend (k : Nat) (x0 : D tTypes) (x1 x2 : D tGraph) (x3 : D tMorphism) (x4 : D .bool) : run M (k + 1) f_search_Extend [.val tTypes x0, .val tGraph x1, .val tGraph x2, .val tMorphism x3, .val .bool x4] = b_search_Extend (run M k) x0 x1 x2 x3 x4 := by kernel_rfl
def b_math_bits_Mul64 (R : RunT) (x0 x1 : D (.int .u64)) : Res E :=
  (some ⟨(.pair (.int .u64) (.int .u64)), ((IntKind.u64.wrap ((IntKind.u64.wrap ((IntKind.u64.wrap ((Int.fdiv x0 (2 ^ (min (Int.toNat (32 : Int)) (IntKind.bits .u64)))) * (Int.fdiv x1 (2 ^ (min (Int.toNat (32 : Int)) (IntKind.bits .u64)))))) + (Int.fdiv (IntKind.u64.wrap ((IntKind.u64.wrap ((Int.fdiv x0 (2 ^ (min (Int.toNat (32 : Int)) (IntKind.bits .u64)))) * (IntKind.u64.wrap (((BitVec.ofInt (IntKind.bits .u64) x1 &&& BitVec.ofInt (IntKind.bits .u64) (4294967295 : Int)).toNat : Int))))) + (Int.fdiv (IntKind.u64.wrap ((IntKind.u64.wrap (((BitVec.ofInt (IntKind.bits .u64) x0 &&& BitVec.ofInt (IntKind.bits .u64) (4294967295 : Int)).toNat : Int))) * (IntKind.u64.wrap (((BitVec.ofInt (IntKind.bits .u64) x1 &&& BitVec.ofInt (IntKind.bits .u64) (4294967295 : Int)).toNat : Int))))) (2 ^ (min (Int.toNat (32 : Int)) (IntKind.bits .u64)))))) (2 ^ (min (Int.toNat (32 : Int)) (IntKind.bits .u64)))))) + (Int.fdiv (IntKind.u64.wrap ((IntKind.u64.wrap (((BitVec.ofInt (IntKind.bits .u64) (IntKind.u64.wrap ((IntKind.u64.wrap ((Int.fdiv x0 (2 ^ (min (Int.toNat (32 : Int)) (IntKind.bits .u64)))) * (IntKind.u64.wrap (((BitVec.ofInt (IntKind.bits .u64) x1 &&& BitVec.ofInt (IntKind.bits .u64) (4294967295 : Int)).toNat : Int))))) + (Int.fdiv (IntKind.u64.wrap ((IntKind.u64.wrap (((BitVec.ofInt (IntKind.bits .u64) x0 &&& BitVec.ofInt (IntKind.bits .u64) (4294967295 : Int)).toNat : Int))) * (IntKind.u64.wrap (((BitVec.ofInt (IntKind.bits .u64) x1 &&& BitVec.ofInt (IntKind.bits .u64) (4294967295 : Int)).toNat : Int))))) (2 ^ (min (Int.toNat (32 : Int)) (IntKind.bits .u64)))))) &&& BitVec.ofInt (IntKind.bits .u64) (4294967295 : Int)).toNat : Int))) + (IntKind.u64.wrap ((IntKind.u64.wrap (((BitVec.ofInt (IntKind.bits .u64) x0 &&& BitVec.ofInt (IntKind.bits .u64) (4294967295 : Int)).toNat : Int))) * (Int.fdiv x1 (2 ^ (min (Int.toNat (32 : Int)) (IntKind.bits .u64)))))))) (2 ^ (min (Int.toNat (32 : Int)) (IntKind.bits .u64)))))), (IntKind.u64.wrap (x0 * x1)))⟩)
theorem e_math_bits_Mul64 (k : Nat) (x0 x1 : D (.int .u64)) : run M (k + 1) f_math_bits_Mul64 [.val (.int .u64) x0, .val (.int .u64) x1] = b_math_bits_Mul64 (run M k) x0 x1 := by kernel_rfl
def b_math_bits_Mul (R : RunT) (x0 x1 : D (.int .u64)) : Res E :=
  (Option.bind (res (.pair (.int .u64) (.int .u64)) (R f_math_bits_Mul64 [.val (.int .u64) x0, .val (.int .u64) x1])) (fun r1 => (some ⟨(.pair (.int .u64) (.int .u64)), (r1.1, r1.2)⟩)))
theorem e_math_bits_Mul (k : Nat) (x0 x1 : D (.int .u64)) : run M (k + 1) f_math_bits_Mul [.val (.int .u64) x0, .val (.int .u64) x1] = b_math_bits_Mul (run M k) x0 x1 := by kernel_rfl
abbrev V_slices_Repeat_int_0 := (D tI) → (List (D tI)) → Res E
def lp_slices_Repeat_int_0 (k j : Nat) : V_slices_Repeat_int_0 := fun v8 t30 =>
  loopAt M k 235 0 [] [] j ⟨48, [(7, .c (.ref 30 0 none)), (8, .c (.leaf tI v8))], [(30, 0, .tok tI t30)]⟩
def s_slices_Repeat_int_0 (R : RunT) (self : V_slices_Repeat_int_0) : V_slices_Repeat_int_0 := fun v8 t30 =>
  (cond (decide (v8 < (t30.length : Int))) (cond (inS v8 (t30.length : Int) (t30.length : Int)) (cond (inS (0 : Int) v8 (t30.length : Int)) (self (IntKind.i64.wrap (v8 + (((min (((List.drop (Int.toNat (0 : Int)) t30).take (Int.toNat (v8 - (0 : Int)))).length) (Int.toNat ((t30.length : Int) - v8))) : Nat) : Int))) (splice t30 (Int.toNat v8) (List.take (min (((List.drop (Int.toNat (0 : Int)) t30).take (Int.toNat (v8 - (0 : Int)))).length) (Int.toNat ((t30.length : Int) - v8))) ((List.drop (Int.toNat (0 : Int)) t30).take (Int.toNat (v8 - (0 : Int))))))) none) none) (some ⟨(.slice tI), t30⟩))
def l_slices_Repeat_int_0 (R : RunT) : Nat → V_slices_Repeat_int_0
  | 0 => fun _ _ => none
  | j + 1 => s_slices_Repeat_int_0 R (l_slices_Repeat_int_0 R j)
def b_slices_Repeat_int (R : RunT) (c0 : V_slices_Repeat_int_0) (x0 : D (.slice tI)) (x1 : D tI) : Res E :=
  (cond (decide (x1 < (0 : Int))) none (Option.bind (res (.pair (.int .u64) (.int .u64)) (R f_math_bits_Mul [.val (.int .u64) (IntKind.u64.wrap ((x0.length : Int))), .val (.int .u64) (IntKind.u64.wrap (x1))])) (fun r1 => (cond (cond (decide ((0 : Int) < r1.1)) true (decide ((9223372036854775807 : Int) < r1.2))) none (cond ((inS (0 : Int) (IntKind.i64.wrap (r1.2)) (IntKind.i64.wrap (r1.2))) && (roomy (Int.toNat (IntKind.i64.wrap (r1.2))) 8)) (c0 (((min (x0.length) ((List.replicate (Int.toNat (IntKind.i64.wrap (r1.2))) (dflt E tI)).length)) : Nat) : Int) (splice (List.replicate (Int.toNat (IntKind.i64.wrap (r1.2))) (dflt E tI)) 0 (List.take (min (x0.length) ((List.replicate (Int.toNat (IntKind.i64.wrap (r1.2))) (dflt E tI)).length)) x0))) none)))))
theorem lp_slices_Repeat_int_0_eq (k j0 : Nat) : lp_slices_Repeat_int_0 k j0 = l_slices_Repeat_int_0 (run M k) j0 := by
  induction j0 with
  | zero => kernel_rfl
  | succ j0 ih => exact Eq.trans (b := s_slices_Repeat_int_0 (run M k) (lp_slices_Repeat_int_0 k j0)) (by kernel_rfl) (by simp only [ih]; rfl)
theorem e_slices_Repeat_int (k : Nat) (x0 : D (.slice tI)) (x1 : D tI) : run M (k + 1) f_slices_Repeat_int [.val (.slice tI) x0, .val tI x1] = b_slices_Repeat_int (run M k) (l_slices_Repeat_int_0 (run M k) k) x0 x1 :=
  Eq.trans (b := b_slices_Repeat_int (run M k) (lp_slices_Repeat_int_0 k k) x0 x1) (by kernel_rfl) (by simp only [lp_slices_Repeat_int_0_eq])
abbrev V_condition_placed_0 := (D (.slice tI)) → (D (.slice tI)) → (D tI) → (D tI) → (List (D tI)) → Res E
def lp_condition_placed_0 (k j : Nat) : V_condition_placed_0 := fun v2 v13 v14 v15 t1000768 =>
  loopAt M k 181 0 [] [] j ⟨29, [(2, .c (.leaf (.slice tI) v2)), (7, .c (.ref 1000768 0 none)), (13, .c (.leaf (.slice tI) v13)), (14, .c (.leaf tI v14)), (15, .c (.leaf tI v15))], [(1000768, 0, .tok tI t1000768)]⟩
def s_condition_placed_0 (R : RunT) (self : V_condition_placed_0) : V_condition_placed_0 := fun v2 v13 v14 v15 t1000768 =>
  (cond (decide (v15 < v14)) (cond (inB v15 (v13.length : Int)) (cond (inB v15 (v2.length : Int)) (cond (inB (rd (E := E) (t := tI) v13 v15) (t1000768.length : Int)) (self v2 v13 v14 (IntKind.i64.wrap (v15 + (1 : Int))) (List.set t1000768 (Int.toNat (rd (E := E) (t := tI) v13 v15)) (rd (E := E) (t := tI) v2 v15))) none) none) none) (some ⟨(.slice tI), t1000768⟩))
def l_condition_placed_0 (R : RunT) : Nat → V_condition_placed_0
  | 0 => fun _ _ _ _ _ => none
  | j + 1 => s_condition_placed_0 R (l_condition_placed_0 R j)
def b_condition_placed (R : RunT) (c0 : V_condition_placed_0) (x0 : D tI) (x1 x2 : D (.slice tI)) : Res E :=
  (Option.bind (res (.slice tI) (R f_slices_Repeat_int [.val (.slice tI) ([(-1 : Int)] : List (D tI)), .val tI x0])) (fun r1 => (c0 x2 x1 (x1.length : Int) (0 : Int) r1)))
theorem lp_condition_placed_0_eq (k j0 : Nat) : lp_condition_placed_0 k j0 = l_condition_placed_0 (run M k) j0 := by
  induction j0 with
  | zero => kernel_rfl
  | succ j0 ih => exact Eq.trans (b := s_condition_placed_0 (run M k) (lp_condition_placed_0 k j0)) (by kernel_rfl) (by simp only [ih]; rfl)
theorem e_condition_placed (k : Nat) (x0 : D tI) (x1 x2 : D (.slice tI)) : run M (k + 1) f_condition_placed [.val tI x0, .val (.slice tI) x1, .val (.slice tI) x2] = b_condition_placed (run M k) (l_condition_placed_0 (run M k) k) x0 x1 x2 :=
  Eq.trans (b := b_condition_placed (run M k) (lp_condition_placed_0 k k) x0 x1 x2) (by kernel_rfl) (by simp only [lp_condition_placed_0_eq])
def b_attribute_Term (R : RunT) (x0 : D tTerm) (x1 : D (.slice tI)) : Res E :=
  (Option.bind (res .bool (R f_attribute_within [.val tI x0.1, .val tI (-1 : Int), .val tI (IntKind.i64.wrap ((x1.length : Int) - (1 : Int)))])) (fun r1 => (cond (!r1) (some ⟨tTerm, ((0 : Int), (6 : Int))⟩) (Option.bind (res tI (R f_attribute_value [.val tTerm (x0.1, x0.2), .val (.slice tI) x1])) (fun r2 => (some ⟨tTerm, (r2, (0 : Int))⟩))))))
theorem e_attribute_Term (k : Nat) (x0 : D tTerm) (x1 : D (.slice tI)) : run M (k + 1) f_attribute_Term [.val tTerm x0, .val (.slice tI) x1] = b_attribute_Term (run M k) x0 x1 := by kernel_rfl
end
end Go.Proofs.AM
