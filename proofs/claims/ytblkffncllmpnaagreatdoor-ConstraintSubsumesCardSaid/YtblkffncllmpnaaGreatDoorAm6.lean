/- Helpers of this claim: an abstract machine over the model, proved sound; what it computes. Part 6. -/
import Derived.Test.YtblkffncllmpnaaGreatDoorAm4
import Derived.KernelRfl
namespace Go.Proofs.AM
open Go
set_option maxRecDepth 100000
abbrev D (t : Ty) : Type := den E.Γ t
abbrev RunT : Type := FuncId → List (Arg E) → Res E
abbrev f_w42_ConstraintValid : FuncId := 3
abbrev f_w42_ConstraintSubsumes : FuncId := 4
abbrev f_w42_awake : FuncId := 7
abbrev f_r04_Few : FuncId := 8
abbrev f_r42_Few : FuncId := 9
abbrev f_constraint_Condition : FuncId := 10
abbrev f_r42_Condition : FuncId := 11
abbrev f_constraint_Valid : FuncId := 12
abbrev f_r42_Valid : FuncId := 13
abbrev f_r33_Same : FuncId := 14
abbrev f_w42_few : FuncId := 15
abbrev f_constraint_Subsumes : FuncId := 16
abbrev f_r42_Subsumes : FuncId := 17
abbrev f_r06_Same : FuncId := 18
abbrev f_r42_Format : FuncId := 20
abbrev f_r42_Bounded : FuncId := 21
abbrev f_r42_Leaf : FuncId := 23
abbrev f_constraint_Multiplicities : FuncId := 25
abbrev f_host_Excesses : FuncId := 26
abbrev f_constraint_Violations : FuncId := 27
abbrev f_r04_Example : FuncId := 28
abbrev f_r05_Few : FuncId := 29
abbrev f_r06_Few : FuncId := 30
abbrev f_constraint_shape : FuncId := 31
abbrev f_constraint_not : FuncId := 32
abbrev f_constraint_exists : FuncId := 33
abbrev f_r42_Shape : FuncId := 34
abbrev f_r42_exists : FuncId := 35
abbrev f_r42_not : FuncId := 36
abbrev f_types_Valid : FuncId := 37
abbrev f_constraint_leaves : FuncId := 38
abbrev f_slices_ContainsFunc_Extension : FuncId := 39
abbrev f_constraint_Valid_1 : FuncId := 40
abbrev f_r04_Valid : FuncId := 41
abbrev f_r42_Leaves : FuncId := 42
abbrev f_r05_Same : FuncId := 43
abbrev f_constraint_embedding_places : FuncId := 44
abbrev f_r33_Extensions : FuncId := 45
abbrev f_r02_SameInts : FuncId := 46
abbrev f_r42_lines : FuncId := 50
abbrev f_r42_names : FuncId := 51
abbrev f_r04_Fits : FuncId := 52
abbrev f_constraint_bounded : FuncId := 53
abbrev f_constraint_sides : FuncId := 54
abbrev f_constraint_leaf : FuncId := 55
abbrev f_types_Is : FuncId := 56
abbrev f_constraint_side_ends : FuncId := 57
abbrev f_constraint_side_least : FuncId := 58
abbrev f_constraint_side_greatest : FuncId := 59
abbrev f_strconv_Itoa : FuncId := 60
abbrev f_host_valid : FuncId := 61
abbrev f_host_excesses : FuncId := 62
abbrev f_search_All : FuncId := 63
abbrev f_constraint_extended : FuncId := 64
abbrev f_token_IsName : FuncId := 65
abbrev f_graph_Valid : FuncId := 66
abbrev f_constraint_large : FuncId := 67
abbrev f_morphism_Valid : FuncId := 68
abbrev f_morphism_Injective : FuncId := 69
abbrev f_slices_Clone_int : FuncId := 70
abbrev f_constraint_copied : FuncId := 71
abbrev f_r01_IsName : FuncId := 72
abbrev f_r05_Valid : FuncId := 73
abbrev f_r42_large : FuncId := 74
abbrev f_r06_Valid : FuncId := 75
abbrev f_r06_Injective : FuncId := 76
abbrev f_types_node : FuncId := 77
abbrev f_types_edge : FuncId := 78
abbrev f_slices_ContainsFunc_Edge : FuncId := 79
abbrev f_constraint_leaves_1 : FuncId := 80
abbrev f_types_Fits : FuncId := 81
abbrev f_slices_IndexFunc_Extension : FuncId := 82
abbrev f_r04_node : FuncId := 83
abbrev f_r04_edge : FuncId := 84
abbrev f_r05_SameInts : FuncId := 85
abbrev f_constraint_embedding_links : FuncId := 86
abbrev f_slices_Contains_int : FuncId := 87
abbrev f_r33_finder_nodes : FuncId := 88
abbrev f_constraint_names : FuncId := 90
abbrev f_r06_Back : FuncId := 91
abbrev f_r01_Digits : FuncId := 92
abbrev f_r04_given : FuncId := 93
abbrev f_r04_in : FuncId := 94
abbrev f_r04_Below1 : FuncId := 95
abbrev f_slices_ContainsFunc_NodeType : FuncId := 96
abbrev f_constraint_leaf_1 : FuncId := 97
abbrev f_types_given : FuncId := 98
abbrev f_types_is : FuncId := 99
abbrev f_constraint_side_link : FuncId := 100
abbrev f_partition_All : FuncId := 101
abbrev f_partition_Quotient : FuncId := 102
abbrev f_constraint_choices : FuncId := 103
abbrev f_host_Valid : FuncId := 105
abbrev f_search_valid : FuncId := 106
abbrev f_search_all : FuncId := 107
abbrev f_constraint_open : FuncId := 108
abbrev f_search_Extend : FuncId := 109
abbrev f_token_whole : FuncId := 110
abbrev f_slices_ContainsFunc_int : FuncId := 111
abbrev f_graph_Valid_1 : FuncId := 112
abbrev f_graph_within : FuncId := 113
abbrev f_graph_Valid_2 : FuncId := 114
abbrev f_graph_fits : FuncId := 115
abbrev f_morphism_images : FuncId := 116
abbrev f_slices_Clone_Edge : FuncId := 117
abbrev f_r01_Right : FuncId := 118
abbrev f_r05_kind : FuncId := 119
abbrev f_r05_right : FuncId := 120
abbrev f_r06_Distinct : FuncId := 121
abbrev f_types_node_1 : FuncId := 122
abbrev f_types_attrs : FuncId := 123
abbrev f_types_attribute : FuncId := 124
abbrev f_types_edge_1 : FuncId := 125
abbrev f_slices_ContainsFunc_EdgeType : FuncId := 126
abbrev f_types_edge_2 : FuncId := 127
abbrev f_types_bounded : FuncId := 128
abbrev f_slices_IndexFunc_Edge : FuncId := 129
abbrev f_r04_attrs : FuncId := 130
abbrev f_r04_attribute : FuncId := 131
abbrev f_r04_bound : FuncId := 132
abbrev f_slices_Index_int : FuncId := 133
abbrev f_r33_finder_edges : FuncId := 134
abbrev f_r33_index : FuncId := 135
abbrev f_r33_used : FuncId := 136
abbrev f_slices_IndexFunc_NodeType : FuncId := 138
abbrev f_types_given_1 : FuncId := 139
abbrev f_types_line : FuncId := 140
abbrev f_partition_one : FuncId := 141
abbrev f_host_node : FuncId := 143
abbrev f_search_within : FuncId := 144
abbrev f_search_found : FuncId := 145
abbrev f_slices_Repeat_int : FuncId := 146
abbrev f_search_open : FuncId := 147
abbrev f_token_next : FuncId := 148
abbrev f_slices_IndexFunc_int : FuncId := 149
abbrev f_slices_Sort_int : FuncId := 150
abbrev f_slices_Compact_int : FuncId := 151
abbrev f_r01_text : FuncId := 152
abbrev f_r01_one : FuncId := 153
abbrev f_slices_ContainsFunc_Attr : FuncId := 154
abbrev f_types_attribute_1 : FuncId := 155
abbrev f_types_names : FuncId := 156
abbrev f_slices_IndexFunc_EdgeType : FuncId := 157
abbrev f_r04_names : FuncId := 158
abbrev f_slices_Reverse_int : FuncId := 159
abbrev f_partition_right : FuncId := 160
abbrev f_types_Attrs : FuncId := 165
abbrev f_search_within_1 : FuncId := 166
abbrev f_search_within_2 : FuncId := 167
abbrev f_search_below : FuncId := 168
abbrev f_search_finder_find : FuncId := 169
abbrev f_math_bits_Mul : FuncId := 170
abbrev f_search_open_1 : FuncId := 171
abbrev f_token_letter : FuncId := 172
abbrev f_token_run : FuncId := 173
abbrev f_token_part : FuncId := 174
abbrev f_token_digit : FuncId := 175
abbrev f_token_quoted : FuncId := 176
abbrev f_token_pair : FuncId := 177
abbrev f_strings_IndexByte : FuncId := 178
abbrev f_r01_letter : FuncId := 181
abbrev f_r01_digit : FuncId := 182
abbrev f_r01_run : FuncId := 183
abbrev f_r01_quoted : FuncId := 184
abbrev f_r01_signs : FuncId := 185
abbrev f_slices_IndexFunc_Attr : FuncId := 186
abbrev f_slices_Contains_string : FuncId := 187
abbrev f_slices_Clone_string : FuncId := 193
abbrev f_types_Below : FuncId := 194
abbrev f_search_given : FuncId := 195
abbrev f_search_finder_possible : FuncId := 196
abbrev f_search_finder_fits : FuncId := 197
abbrev f_math_bits_Mul32 : FuncId := 198
abbrev f_math_bits_Mul64 : FuncId := 199
abbrev f_token_quoted_1 : FuncId := 200
abbrev f_slices_Index_string : FuncId := 212
end Go.Proofs.AM

namespace Go.Proofs.AM
open Go
set_option maxRecDepth 100000
noncomputable def b_token_letter (R : RunT) (x0 : D tU8) : Res E :=
  (some ⟨.bool, (cond (cond (decide ((97 : Int) ≤ x0)) (decide (x0 ≤ (122 : Int))) false) true (cond (decide ((65 : Int) ≤ x0)) (decide (x0 ≤ (90 : Int))) false))⟩)
theorem e_token_letter (k : Nat) (x0 : D tU8) : run M (k + 1) f_token_letter [.val tU8 x0] = b_token_letter (run M k) x0 := by kernel_rfl
abbrev V_token_run_0 := (D .str) → FuncId → (List (Dt E)) → (D tI) → Res E
noncomputable def lp_token_run_0 (k : Nat) (j : Nat) (v0 : D .str) (v1f : FuncId) (v1c : List (Dt E)) (v5 : D tI) : Res E :=
  loopAt M k 173 0 [] [] j ⟨20, [(0, .c (.leaf .str v0)), (1, .c (.fnd v1f v1c)), (5, .c (.leaf tI v5))], []⟩
noncomputable def s_token_run_0 (R : RunT) (self : V_token_run_0) (v0 : D .str) (v1f : FuncId) (v1c : List (Dt E)) (v5 : D tI) : Res E :=
  (cond ((inB v5 (v0.size : Int)) || !(decide (v5 < (v0.size : Int)))) (Option.bind (cond (decide (v5 < (v0.size : Int))) (res .bool (R v1f ([.val tU8 (bt v0 v5)] ++ capArgs v1c))) (some (dflt E .bool))) (fun r1 => (cond (cond (decide (v5 < (v0.size : Int))) r1 false) (self v0 v1f v1c (IntKind.i64.wrap (v5 + (1 : Int)))) (some ⟨tI, v5⟩)))) none)
noncomputable def l_token_run_0 (R : RunT) : Nat → V_token_run_0
  | 0 => fun _ _ _ _ => none
  | j + 1 => s_token_run_0 R (l_token_run_0 R j)
noncomputable def b_token_run (R : RunT) (c0 : V_token_run_0) (x0 : D .str) (x1 : FuncId) (x1c : List (Dt E)) : Res E :=
  (c0 x0 x1 x1c (0 : Int))
theorem lp_token_run_0_step (k : Nat) (j0 : Nat) : lp_token_run_0 k (j0 + 1) = s_token_run_0 (run M k) (lp_token_run_0 k j0) := by kernel_rfl
theorem lp_token_run_0_zero (k : Nat) : lp_token_run_0 k 0 = fun _ _ _ _ => none := by kernel_rfl
theorem lp_token_run_0_eq (k : Nat) (j0 : Nat) : lp_token_run_0 k j0 = l_token_run_0 (run M k) j0 := by
  induction j0 with
  | zero => exact lp_token_run_0_zero k
  | succ j0 ih => rw [lp_token_run_0_step]; simp only [ih]; rfl
theorem e0_token_run (k : Nat) (x0 : D .str) (x1 : FuncId) (x1c : List (Dt E)) : run M (k + 1) 173 [.val .str x0, .fn x1 x1c] = b_token_run (run M k) (lp_token_run_0 k k) x0 x1 x1c := by kernel_rfl
theorem e_token_run (k : Nat) (x0 : D .str) (x1 : FuncId) (x1c : List (Dt E)) : run M (k + 1) f_token_run [.val .str x0, .fn x1 x1c] = b_token_run (run M k) (l_token_run_0 (run M k) k) x0 x1 x1c := by
  rw [show run M (k + 1) f_token_run = run M (k + 1) 173 from rfl, e0_token_run]; simp only [lp_token_run_0_eq]
noncomputable def b_token_digit (R : RunT) (x0 : D tU8) : Res E :=
  (some ⟨.bool, (cond (decide ((48 : Int) ≤ x0)) (decide (x0 ≤ (57 : Int))) false)⟩)
theorem e_token_digit (k : Nat) (x0 : D tU8) : run M (k + 1) f_token_digit [.val tU8 x0] = b_token_digit (run M k) x0 := by kernel_rfl
noncomputable def b_token_part (R : RunT) (x0 : D tU8) : Res E :=
  (Option.bind (res .bool (R f_token_letter [.val tU8 x0])) (fun r1 => (Option.bind (cond (!r1) (res .bool (R f_token_digit [.val tU8 x0])) (some (dflt E .bool))) (fun r2 => (some ⟨.bool, (cond (cond r1 true r2) true (decide (x0 = (95 : Int))))⟩)))))
theorem e_token_part (k : Nat) (x0 : D tU8) : run M (k + 1) f_token_part [.val tU8 x0] = b_token_part (run M k) x0 := by kernel_rfl
noncomputable def b_token_quoted_1 (R : RunT) (x0 : D tU8) : Res E :=
  (some ⟨.bool, (cond (cond (decide ((32 : Int) ≤ x0)) (decide (x0 ≤ (126 : Int))) false) (!(decide (x0 = (34 : Int)))) false)⟩)
theorem e_token_quoted_1 (k : Nat) (x0 : D tU8) : run M (k + 1) f_token_quoted_1 [.val tU8 x0] = b_token_quoted_1 (run M k) x0 := by kernel_rfl
noncomputable def b_token_quoted (R : RunT) (x0 : D .str) : Res E :=
  (cond (inS (1 : Int) (x0.size : Int) (x0.size : Int)) (Option.bind (res tI (R f_token_run [.val .str (subS x0 (1 : Int) (x0.size : Int)), .fn f_token_quoted_1 []])) (fun r1 => (cond ((inB (IntKind.i64.wrap ((1 : Int) + r1)) (x0.size : Int)) || !(!(decide ((IntKind.i64.wrap ((1 : Int) + r1)) = (x0.size : Int))))) (cond (cond (decide ((IntKind.i64.wrap ((1 : Int) + r1)) = (x0.size : Int))) true (!(decide ((bt x0 (IntKind.i64.wrap ((1 : Int) + r1))) = (34 : Int))))) (some ⟨tTerm, ((0 : Int), (2 : Int))⟩) (cond (decide ((60 : Int) < r1)) (some ⟨tTerm, ((0 : Int), (3 : Int))⟩) (some ⟨tTerm, ((IntKind.i64.wrap (r1 + (2 : Int))), (0 : Int))⟩))) none))) none)
theorem e_token_quoted (k : Nat) (x0 : D .str) : run M (k + 1) f_token_quoted [.val .str x0] = b_token_quoted (run M k) x0 := by kernel_rfl
abbrev V_slices_Index_string_0 := (D (.slice .str)) → (D .str) → (D tI) → (D tI) → Res E
noncomputable def lp_slices_Index_string_0 (k : Nat) (j : Nat) (v0 : D (.slice .str)) (v1 : D .str) (v7 : D tI) (v8 : D tI) : Res E :=
  loopAt M k 212 0 [] [] j ⟨19, [(0, .c (.leaf (.slice .str) v0)), (1, .c (.leaf .str v1)), (7, .c (.leaf tI v7)), (8, .c (.leaf tI v8))], []⟩
noncomputable def s_slices_Index_string_0 (R : RunT) (self : V_slices_Index_string_0) (v0 : D (.slice .str)) (v1 : D .str) (v7 : D tI) (v8 : D tI) : Res E :=
  (cond (decide (v8 < v7)) (cond (inB v8 (v0.length : Int)) (cond (beqS v1 (rd (E := E) (t := .str) v0 v8)) (some ⟨tI, v8⟩) (self v0 v1 v7 (IntKind.i64.wrap (v8 + (1 : Int))))) none) (some ⟨tI, (-1 : Int)⟩))
noncomputable def l_slices_Index_string_0 (R : RunT) : Nat → V_slices_Index_string_0
  | 0 => fun _ _ _ _ => none
  | j + 1 => s_slices_Index_string_0 R (l_slices_Index_string_0 R j)
noncomputable def b_slices_Index_string (R : RunT) (c0 : V_slices_Index_string_0) (x0 : D (.slice .str)) (x1 : D .str) : Res E :=
  (c0 x0 x1 (x0.length : Int) (0 : Int))
theorem lp_slices_Index_string_0_step (k : Nat) (j0 : Nat) : lp_slices_Index_string_0 k (j0 + 1) = s_slices_Index_string_0 (run M k) (lp_slices_Index_string_0 k j0) := by kernel_rfl
theorem lp_slices_Index_string_0_zero (k : Nat) : lp_slices_Index_string_0 k 0 = fun _ _ _ _ => none := by kernel_rfl
theorem lp_slices_Index_string_0_eq (k : Nat) (j0 : Nat) : lp_slices_Index_string_0 k j0 = l_slices_Index_string_0 (run M k) j0 := by
  induction j0 with
  | zero => exact lp_slices_Index_string_0_zero k
  | succ j0 ih => rw [lp_slices_Index_string_0_step]; simp only [ih]; rfl
theorem e0_slices_Index_string (k : Nat) (x0 : D (.slice .str)) (x1 : D .str) : run M (k + 1) 212 [.val (.slice .str) x0, .val .str x1] = b_slices_Index_string (run M k) (lp_slices_Index_string_0 k k) x0 x1 := by kernel_rfl
theorem e_slices_Index_string (k : Nat) (x0 : D (.slice .str)) (x1 : D .str) : run M (k + 1) f_slices_Index_string [.val (.slice .str) x0, .val .str x1] = b_slices_Index_string (run M k) (l_slices_Index_string_0 (run M k) k) x0 x1 := by
  rw [show run M (k + 1) f_slices_Index_string = run M (k + 1) 212 from rfl, e0_slices_Index_string]; simp only [lp_slices_Index_string_0_eq]
noncomputable def b_slices_Contains_string (R : RunT) (x0 : D (.slice .str)) (x1 : D .str) : Res E :=
  (Option.bind (res tI (R f_slices_Index_string [.val (.slice .str) x0, .val .str x1])) (fun r1 => (some ⟨.bool, (decide ((0 : Int) ≤ r1))⟩)))
theorem e_slices_Contains_string (k : Nat) (x0 : D (.slice .str)) (x1 : D .str) : run M (k + 1) f_slices_Contains_string [.val (.slice .str) x0, .val .str x1] = b_slices_Contains_string (run M k) x0 x1 := by kernel_rfl
noncomputable def b_token_pair (R : RunT) (x0 : D .str) : Res E :=
  (cond ((inS (0 : Int) (2 : Int) (x0.size : Int)) || !(decide ((2 : Int) ≤ (x0.size : Int)))) (Option.bind (cond (decide ((2 : Int) ≤ (x0.size : Int))) (res .bool (R f_slices_Contains_string [.val (.slice .str) ([(⟨#[45, 62]⟩ : ByteArray), (⟨#[60, 61]⟩ : ByteArray), (⟨#[62, 61]⟩ : ByteArray), (⟨#[61, 61]⟩ : ByteArray), (⟨#[33, 61]⟩ : ByteArray)] : List (D .str)), .val .str (subS x0 (0 : Int) (2 : Int))])) (some (dflt E .bool))) (fun r1 => (some ⟨.bool, (cond (decide ((2 : Int) ≤ (x0.size : Int))) r1 false)⟩))) none)
theorem e_token_pair (k : Nat) (x0 : D .str) : run M (k + 1) f_token_pair [.val .str x0] = b_token_pair (run M k) x0 := by kernel_rfl
noncomputable def b_token_next (R : RunT) (x0 : D .str) : Res E :=
  (cond (inB (0 : Int) (x0.size : Int)) (Option.bind (res .bool (R f_token_letter [.val tU8 (bt x0 (0 : Int))])) (fun r1 => (cond r1 (Option.bind (res tI (R f_token_run [.val .str x0, .fn f_token_part []])) (fun r2 => (cond (decide ((20 : Int) < r2)) (some ⟨tEdge, ((0 : Int), ((0 : Int), (3 : Int)))⟩) (some ⟨tEdge, ((1 : Int), (r2, (0 : Int)))⟩)))) (Option.bind (res .bool (R f_token_digit [.val tU8 (bt x0 (0 : Int))])) (fun r3 => (cond r3 (Option.bind (res tI (R f_token_run [.val .str x0, .fn f_token_digit []])) (fun r4 => (cond (decide ((9 : Int) < r4)) (some ⟨tEdge, ((0 : Int), ((0 : Int), (3 : Int)))⟩) (some ⟨tEdge, ((2 : Int), (r4, (0 : Int)))⟩)))) (cond (decide ((bt x0 (0 : Int)) = (34 : Int))) (Option.bind (res tTerm (R f_token_quoted [.val .str x0])) (fun r5 => (some ⟨tEdge, ((3 : Int), (r5.1, r5.2))⟩))) (Option.bind (res .bool (R f_token_pair [.val .str x0])) (fun r6 => (cond r6 (some ⟨tEdge, ((4 : Int), ((2 : Int), (0 : Int)))⟩) (Option.bind (res tI (R f_strings_IndexByte [.val .str (⟨#[123, 125, 40, 41, 91, 93, 44, 59, 58, 61, 43, 45, 42, 60, 62, 33, 38, 124, 46, 63]⟩ : ByteArray), .val tU8 (bt x0 (0 : Int))])) (fun r7 => (cond (decide ((0 : Int) ≤ r7)) (some ⟨tEdge, ((4 : Int), ((1 : Int), (0 : Int)))⟩) (some ⟨tEdge, ((0 : Int), ((0 : Int), (2 : Int)))⟩)))))))))))))) none)
theorem e_token_next (k : Nat) (x0 : D .str) : run M (k + 1) f_token_next [.val .str x0] = b_token_next (run M k) x0 := by kernel_rfl
noncomputable def b_token_whole (R : RunT) (x0 : D tToken) : Res E :=
  (cond (decide (x0.1 = (3 : Int))) (cond (decide ((⟨#[34]⟩ : ByteArray).size + x0.2.1.size ≤ 9223372036854775807)) (cond (decide ((appS (⟨#[34]⟩ : ByteArray) x0.2.1).size + (⟨#[34]⟩ : ByteArray).size ≤ 9223372036854775807)) (cond (beqS (appS (appS (⟨#[34]⟩ : ByteArray) x0.2.1) (⟨#[34]⟩ : ByteArray)) (⟨#[]⟩ : ByteArray)) (some ⟨(.pair .str .bool), ((⟨#[]⟩ : ByteArray), false)⟩) (Option.bind (res tEdge (R f_token_next [.val .str (appS (appS (⟨#[34]⟩ : ByteArray) x0.2.1) (⟨#[34]⟩ : ByteArray))])) (fun r1 => (some ⟨(.pair .str .bool), ((appS (appS (⟨#[34]⟩ : ByteArray) x0.2.1) (⟨#[34]⟩ : ByteArray)), (cond (cond (decide (r1.2.2 = (0 : Int))) (decide (r1.1 = x0.1)) false) (decide (r1.2.1 = ((appS (appS (⟨#[34]⟩ : ByteArray) x0.2.1) (⟨#[34]⟩ : ByteArray)).size : Int))) false))⟩)))) none) none) (cond (beqS x0.2.1 (⟨#[]⟩ : ByteArray)) (some ⟨(.pair .str .bool), ((⟨#[]⟩ : ByteArray), false)⟩) (Option.bind (res tEdge (R f_token_next [.val .str x0.2.1])) (fun r2 => (some ⟨(.pair .str .bool), (x0.2.1, (cond (cond (decide (r2.2.2 = (0 : Int))) (decide (r2.1 = x0.1)) false) (decide (r2.2.1 = (x0.2.1.size : Int))) false))⟩)))))
theorem e_token_whole (k : Nat) (x0 : D tToken) : run M (k + 1) f_token_whole [.val tToken x0] = b_token_whole (run M k) x0 := by kernel_rfl
noncomputable def b_token_IsName (R : RunT) (x0 : D .str) : Res E :=
  (Option.bind (res (.pair .str .bool) (R f_token_whole [.val tToken ((1 : Int), (x0, (0 : Int)))])) (fun r1 => (some ⟨.bool, r1.2⟩)))
theorem e_token_IsName (k : Nat) (x0 : D .str) : run M (k + 1) f_token_IsName [.val .str x0] = b_token_IsName (run M k) x0 := by kernel_rfl
abbrev V_slices_IndexFunc_Edge_0 := (D (.slice tEdge)) → FuncId → (List (Dt E)) → (D tI) → (D tI) → Res E
noncomputable def lp_slices_IndexFunc_Edge_0 (k : Nat) (j : Nat) (v0 : D (.slice tEdge)) (v1f : FuncId) (v1c : List (Dt E)) (v7 : D tI) (v8 : D tI) : Res E :=
  loopAt M k 129 0 [] [] j ⟨19, [(0, .c (.leaf (.slice tEdge) v0)), (1, .c (.fnd v1f v1c)), (7, .c (.leaf tI v7)), (8, .c (.leaf tI v8))], []⟩
noncomputable def s_slices_IndexFunc_Edge_0 (R : RunT) (self : V_slices_IndexFunc_Edge_0) (v0 : D (.slice tEdge)) (v1f : FuncId) (v1c : List (Dt E)) (v7 : D tI) (v8 : D tI) : Res E :=
  (cond (decide (v8 < v7)) (cond (inB v8 (v0.length : Int)) (Option.bind (res .bool (R v1f ([.val tEdge ((rd (E := E) (t := tEdge) v0 v8).1, (((rd (E := E) (t := tEdge) v0 v8).2).1, ((rd (E := E) (t := tEdge) v0 v8).2).2))] ++ capArgs v1c))) (fun r1 => (cond r1 (some ⟨tI, v8⟩) (self v0 v1f v1c v7 (IntKind.i64.wrap (v8 + (1 : Int))))))) none) (some ⟨tI, (-1 : Int)⟩))
noncomputable def l_slices_IndexFunc_Edge_0 (R : RunT) : Nat → V_slices_IndexFunc_Edge_0
  | 0 => fun _ _ _ _ _ => none
  | j + 1 => s_slices_IndexFunc_Edge_0 R (l_slices_IndexFunc_Edge_0 R j)
noncomputable def b_slices_IndexFunc_Edge (R : RunT) (c0 : V_slices_IndexFunc_Edge_0) (x0 : D (.slice tEdge)) (x1 : FuncId) (x1c : List (Dt E)) : Res E :=
  (c0 x0 x1 x1c (x0.length : Int) (0 : Int))
theorem lp_slices_IndexFunc_Edge_0_step (k : Nat) (j0 : Nat) : lp_slices_IndexFunc_Edge_0 k (j0 + 1) = s_slices_IndexFunc_Edge_0 (run M k) (lp_slices_IndexFunc_Edge_0 k j0) := by kernel_rfl
theorem lp_slices_IndexFunc_Edge_0_zero (k : Nat) : lp_slices_IndexFunc_Edge_0 k 0 = fun _ _ _ _ _ => none := by kernel_rfl
theorem lp_slices_IndexFunc_Edge_0_eq (k : Nat) (j0 : Nat) : lp_slices_IndexFunc_Edge_0 k j0 = l_slices_IndexFunc_Edge_0 (run M k) j0 := by
  induction j0 with
  | zero => exact lp_slices_IndexFunc_Edge_0_zero k
  | succ j0 ih => rw [lp_slices_IndexFunc_Edge_0_step]; simp only [ih]; rfl
theorem e0_slices_IndexFunc_Edge (k : Nat) (x0 : D (.slice tEdge)) (x1 : FuncId) (x1c : List (Dt E)) : run M (k + 1) 129 [.val (.slice tEdge) x0, .fn x1 x1c] = b_slices_IndexFunc_Edge (run M k) (lp_slices_IndexFunc_Edge_0 k k) x0 x1 x1c := by kernel_rfl
theorem e_slices_IndexFunc_Edge (k : Nat) (x0 : D (.slice tEdge)) (x1 : FuncId) (x1c : List (Dt E)) : run M (k + 1) f_slices_IndexFunc_Edge [.val (.slice tEdge) x0, .fn x1 x1c] = b_slices_IndexFunc_Edge (run M k) (l_slices_IndexFunc_Edge_0 (run M k) k) x0 x1 x1c := by
  rw [show run M (k + 1) f_slices_IndexFunc_Edge = run M (k + 1) 129 from rfl, e0_slices_IndexFunc_Edge]; simp only [lp_slices_IndexFunc_Edge_0_eq]
noncomputable def b_slices_ContainsFunc_Edge (R : RunT) (x0 : D (.slice tEdge)) (x1 : FuncId) (x1c : List (Dt E)) : Res E :=
  (Option.bind (res tI (R f_slices_IndexFunc_Edge [.val (.slice tEdge) x0, .fn x1 x1c])) (fun r1 => (some ⟨.bool, (decide ((0 : Int) ≤ r1))⟩)))
theorem e_slices_ContainsFunc_Edge (k : Nat) (x0 : D (.slice tEdge)) (x1 : FuncId) (x1c : List (Dt E)) : run M (k + 1) f_slices_ContainsFunc_Edge [.val (.slice tEdge) x0, .fn x1 x1c] = b_slices_ContainsFunc_Edge (run M k) x0 x1 x1c := by kernel_rfl
abbrev V_slices_IndexFunc_int_0 := (D (.slice tI)) → FuncId → (List (Dt E)) → (D tI) → (D tI) → Res E
noncomputable def lp_slices_IndexFunc_int_0 (k : Nat) (j : Nat) (v0 : D (.slice tI)) (v1f : FuncId) (v1c : List (Dt E)) (v7 : D tI) (v8 : D tI) : Res E :=
  loopAt M k 149 0 [] [] j ⟨19, [(0, .c (.leaf (.slice tI) v0)), (1, .c (.fnd v1f v1c)), (7, .c (.leaf tI v7)), (8, .c (.leaf tI v8))], []⟩
noncomputable def s_slices_IndexFunc_int_0 (R : RunT) (self : V_slices_IndexFunc_int_0) (v0 : D (.slice tI)) (v1f : FuncId) (v1c : List (Dt E)) (v7 : D tI) (v8 : D tI) : Res E :=
  (cond (decide (v8 < v7)) (cond (inB v8 (v0.length : Int)) (Option.bind (res .bool (R v1f ([.val tI (rd (E := E) (t := tI) v0 v8)] ++ capArgs v1c))) (fun r1 => (cond r1 (some ⟨tI, v8⟩) (self v0 v1f v1c v7 (IntKind.i64.wrap (v8 + (1 : Int))))))) none) (some ⟨tI, (-1 : Int)⟩))
noncomputable def l_slices_IndexFunc_int_0 (R : RunT) : Nat → V_slices_IndexFunc_int_0
  | 0 => fun _ _ _ _ _ => none
  | j + 1 => s_slices_IndexFunc_int_0 R (l_slices_IndexFunc_int_0 R j)
noncomputable def b_slices_IndexFunc_int (R : RunT) (c0 : V_slices_IndexFunc_int_0) (x0 : D (.slice tI)) (x1 : FuncId) (x1c : List (Dt E)) : Res E :=
  (c0 x0 x1 x1c (x0.length : Int) (0 : Int))
theorem lp_slices_IndexFunc_int_0_step (k : Nat) (j0 : Nat) : lp_slices_IndexFunc_int_0 k (j0 + 1) = s_slices_IndexFunc_int_0 (run M k) (lp_slices_IndexFunc_int_0 k j0) := by kernel_rfl
theorem lp_slices_IndexFunc_int_0_zero (k : Nat) : lp_slices_IndexFunc_int_0 k 0 = fun _ _ _ _ _ => none := by kernel_rfl
theorem lp_slices_IndexFunc_int_0_eq (k : Nat) (j0 : Nat) : lp_slices_IndexFunc_int_0 k j0 = l_slices_IndexFunc_int_0 (run M k) j0 := by
  induction j0 with
  | zero => exact lp_slices_IndexFunc_int_0_zero k
  | succ j0 ih => rw [lp_slices_IndexFunc_int_0_step]; simp only [ih]; rfl
theorem e0_slices_IndexFunc_int (k : Nat) (x0 : D (.slice tI)) (x1 : FuncId) (x1c : List (Dt E)) : run M (k + 1) 149 [.val (.slice tI) x0, .fn x1 x1c] = b_slices_IndexFunc_int (run M k) (lp_slices_IndexFunc_int_0 k k) x0 x1 x1c := by kernel_rfl
theorem e_slices_IndexFunc_int (k : Nat) (x0 : D (.slice tI)) (x1 : FuncId) (x1c : List (Dt E)) : run M (k + 1) f_slices_IndexFunc_int [.val (.slice tI) x0, .fn x1 x1c] = b_slices_IndexFunc_int (run M k) (l_slices_IndexFunc_int_0 (run M k) k) x0 x1 x1c := by
  rw [show run M (k + 1) f_slices_IndexFunc_int = run M (k + 1) 149 from rfl, e0_slices_IndexFunc_int]; simp only [lp_slices_IndexFunc_int_0_eq]
noncomputable def b_slices_ContainsFunc_int (R : RunT) (x0 : D (.slice tI)) (x1 : FuncId) (x1c : List (Dt E)) : Res E :=
  (Option.bind (res tI (R f_slices_IndexFunc_int [.val (.slice tI) x0, .fn x1 x1c])) (fun r1 => (some ⟨.bool, (decide ((0 : Int) ≤ r1))⟩)))
theorem e_slices_ContainsFunc_int (k : Nat) (x0 : D (.slice tI)) (x1 : FuncId) (x1c : List (Dt E)) : run M (k + 1) f_slices_ContainsFunc_int [.val (.slice tI) x0, .fn x1 x1c] = b_slices_ContainsFunc_int (run M k) x0 x1 x1c := by kernel_rfl
noncomputable def b_graph_within (R : RunT) (x0 : D tI) (x1 : D tI) : Res E :=
  (some ⟨.bool, (cond (decide ((0 : Int) ≤ x0)) (decide (x0 ≤ x1)) false)⟩)
theorem e_graph_within (k : Nat) (x0 : D tI) (x1 : D tI) : run M (k + 1) f_graph_within [.val tI x0, .val tI x1] = b_graph_within (run M k) x0 x1 := by kernel_rfl
noncomputable def b_graph_Valid_1 (R : RunT) (x0 : D tI) : Res E :=
  (Option.bind (res .bool (R f_graph_within [.val tI x0, .val tI (99 : Int)])) (fun r1 => (some ⟨.bool, !r1⟩)))
theorem e_graph_Valid_1 (k : Nat) (x0 : D tI) : run M (k + 1) f_graph_Valid_1 [.val tI x0] = b_graph_Valid_1 (run M k) x0 := by kernel_rfl
noncomputable def b_graph_fits (R : RunT) (x0 : D tEdge) (x1 : D tI) : Res E :=
  (Option.bind (res .bool (R f_graph_within [.val tI x0.1, .val tI (99 : Int)])) (fun r1 => (Option.bind (cond r1 (res .bool (R f_graph_within [.val tI x0.2.1, .val tI (IntKind.i64.wrap (x1 - (1 : Int)))])) (some (dflt E .bool))) (fun r2 => (Option.bind (cond (cond r1 r2 false) (res .bool (R f_graph_within [.val tI x0.2.2, .val tI (IntKind.i64.wrap (x1 - (1 : Int)))])) (some (dflt E .bool))) (fun r3 => (some ⟨.bool, (cond (cond r1 r2 false) r3 false)⟩)))))))
theorem e_graph_fits (k : Nat) (x0 : D tEdge) (x1 : D tI) : run M (k + 1) f_graph_fits [.val tEdge x0, .val tI x1] = b_graph_fits (run M k) x0 x1 := by kernel_rfl
noncomputable def b_graph_Valid_2 (R : RunT) (x0 : D tEdge) (x1 : D tGraph) : Res E :=
  (Option.bind (res .bool (R f_graph_fits [.val tEdge (x0.1, (x0.2.1, x0.2.2)), .val tI (x1.1.length : Int)])) (fun r1 => (some ⟨.bool, !r1⟩)))
theorem e_graph_Valid_2 (k : Nat) (x0 : D tEdge) (x1 : D tGraph) : run M (k + 1) f_graph_Valid_2 [.val tEdge x0, .ro tGraph x1] = b_graph_Valid_2 (run M k) x0 x1 := by kernel_rfl
noncomputable def b_graph_Valid (R : RunT) (x0 : D tGraph) : Res E :=
  (cond (cond (decide ((40 : Int) < (x0.1.length : Int))) true (decide ((80 : Int) < (x0.2.length : Int)))) (some ⟨tI, (3 : Int)⟩) (Option.bind (res .bool (R f_slices_ContainsFunc_int [.val (.slice tI) x0.1, .fn f_graph_Valid_1 []])) (fun r1 => (cond r1 (some ⟨tI, (6 : Int)⟩) (Option.bind (res .bool (R f_slices_ContainsFunc_Edge [.val (.slice tEdge) x0.2, .fn f_graph_Valid_2 [⟨tGraph, (x0.1, x0.2)⟩]])) (fun r2 => (cond r2 (some ⟨tI, (6 : Int)⟩) (some ⟨tI, (0 : Int)⟩))))))))
theorem e_graph_Valid (k : Nat) (x0 : D tGraph) : run M (k + 1) f_graph_Valid [.val tGraph x0] = b_graph_Valid (run M k) x0 := by kernel_rfl
noncomputable def b_constraint_large (R : RunT) (x0 : D tGraph) : Res E :=
  (some ⟨.bool, (cond (decide ((6 : Int) < (x0.1.length : Int))) true (decide ((8 : Int) < (x0.2.length : Int))))⟩)
theorem e_constraint_large (k : Nat) (x0 : D tGraph) : run M (k + 1) f_constraint_large [.val tGraph x0] = b_constraint_large (run M k) x0 := by kernel_rfl
abbrev V_morphism_Valid_0 := (D (.slice tI)) → (D tI) → (D tI) → (D (.slice tI)) → (D (.slice tEdge)) → (D (.slice tI)) → (D (.slice tEdge)) → (D (.slice tI)) → (D (.slice tI)) → Res E
noncomputable def lp_morphism_Valid_0 (k : Nat) (j : Nat) (v42 : D (.slice tI)) (v43 : D tI) (v44 : D tI) (b3_0 : D (.slice tI)) (b3_1 : D (.slice tEdge)) (b4_0 : D (.slice tI)) (b4_1 : D (.slice tEdge)) (b5_0 : D (.slice tI)) (b5_1 : D (.slice tI)) : Res E :=
  loopAt M k 68 0 [] [] j ⟨123, [(3, .c (.ptr 3 0 0)), (4, .c (.ptr 4 0 0)), (5, .c (.ptr 5 0 0)), (42, .c (.leaf (.slice tI) v42)), (43, .c (.leaf tI v43)), (44, .c (.leaf tI v44))], [(3, 0, .box [.leaf (.slice tI) b3_0, .leaf (.slice tEdge) b3_1]), (4, 0, .box [.leaf (.slice tI) b4_0, .leaf (.slice tEdge) b4_1]), (5, 0, .box [.leaf (.slice tI) b5_0, .leaf (.slice tI) b5_1])]⟩
abbrev V_morphism_Valid_2 := (D (.slice tI)) → (D tI) → (D tI) → (D (.slice tI)) → (D (.slice tEdge)) → (D (.slice tI)) → (D (.slice tEdge)) → (D (.slice tI)) → (D (.slice tI)) → Res E
noncomputable def lp_morphism_Valid_2 (k : Nat) (j : Nat) (v71 : D (.slice tI)) (v72 : D tI) (v73 : D tI) (b3_0 : D (.slice tI)) (b3_1 : D (.slice tEdge)) (b4_0 : D (.slice tI)) (b4_1 : D (.slice tEdge)) (b5_0 : D (.slice tI)) (b5_1 : D (.slice tI)) : Res E :=
  loopAt M k 68 2 [] [] j ⟨123, [(3, .c (.ptr 3 0 0)), (4, .c (.ptr 4 0 0)), (5, .c (.ptr 5 0 0)), (71, .c (.leaf (.slice tI) v71)), (72, .c (.leaf tI v72)), (73, .c (.leaf tI v73))], [(3, 0, .box [.leaf (.slice tI) b3_0, .leaf (.slice tEdge) b3_1]), (4, 0, .box [.leaf (.slice tI) b4_0, .leaf (.slice tEdge) b4_1]), (5, 0, .box [.leaf (.slice tI) b5_0, .leaf (.slice tI) b5_1])]⟩
noncomputable def s_morphism_Valid_0 (R : RunT) (c2 : V_morphism_Valid_2) (self : V_morphism_Valid_0) (v42 : D (.slice tI)) (v43 : D tI) (v44 : D tI) (b3_0 : D (.slice tI)) (b3_1 : D (.slice tEdge)) (b4_0 : D (.slice tI)) (b4_1 : D (.slice tEdge)) (b5_0 : D (.slice tI)) (b5_1 : D (.slice tI)) : Res E :=
  (cond (decide (v44 < v43)) (cond (inB v44 (v42.length : Int)) (cond (cond (decide ((rd (E := E) (t := tI) v42 v44) < (0 : Int))) true (decide ((b4_0.length : Int) ≤ (rd (E := E) (t := tI) v42 v44)))) (some ⟨tI, (6 : Int)⟩) (cond (inB (rd (E := E) (t := tI) v42 v44) (b4_0.length : Int)) (cond (inB v44 (b3_0.length : Int)) (cond (!(decide ((rd (E := E) (t := tI) b4_0 (rd (E := E) (t := tI) v42 v44)) = (rd (E := E) (t := tI) b3_0 v44)))) (some ⟨tI, (13 : Int)⟩) (self v42 v43 (IntKind.i64.wrap (v44 + (1 : Int))) b3_0 b3_1 b4_0 b4_1 b5_0 b5_1)) none) none)) none) (c2 b5_1 (b5_1.length : Int) (0 : Int) b3_0 b3_1 b4_0 b4_1 b5_0 b5_1))
noncomputable def s_morphism_Valid_2 (R : RunT) (self : V_morphism_Valid_2) (v71 : D (.slice tI)) (v72 : D tI) (v73 : D tI) (b3_0 : D (.slice tI)) (b3_1 : D (.slice tEdge)) (b4_0 : D (.slice tI)) (b4_1 : D (.slice tEdge)) (b5_0 : D (.slice tI)) (b5_1 : D (.slice tI)) : Res E :=
  (cond (decide (v73 < v72)) (cond (inB v73 (v71.length : Int)) (cond (cond (decide ((rd (E := E) (t := tI) v71 v73) < (0 : Int))) true (decide ((b4_1.length : Int) ≤ (rd (E := E) (t := tI) v71 v73)))) (some ⟨tI, (6 : Int)⟩) (cond (inB v73 (b3_1.length : Int)) (cond (inB (rd (E := E) (t := tI) v71 v73) (b4_1.length : Int)) (cond (!(decide ((rd (E := E) (t := tEdge) b3_1 v73).1 = (rd (E := E) (t := tEdge) b4_1 (rd (E := E) (t := tI) v71 v73)).1))) (some ⟨tI, (13 : Int)⟩) (cond (inB (((rd (E := E) (t := tEdge) b3_1 v73).2).1) (b5_0.length : Int)) (cond ((inB (((rd (E := E) (t := tEdge) b3_1 v73).2).2) (b5_0.length : Int)) || !(!(!(decide ((rd (E := E) (t := tI) b5_0 (((rd (E := E) (t := tEdge) b3_1 v73).2).1)) = ((rd (E := E) (t := tEdge) b4_1 (rd (E := E) (t := tI) v71 v73)).2).1))))) (cond (cond (!(decide ((rd (E := E) (t := tI) b5_0 (((rd (E := E) (t := tEdge) b3_1 v73).2).1)) = ((rd (E := E) (t := tEdge) b4_1 (rd (E := E) (t := tI) v71 v73)).2).1))) true (!(decide ((rd (E := E) (t := tI) b5_0 (((rd (E := E) (t := tEdge) b3_1 v73).2).2)) = ((rd (E := E) (t := tEdge) b4_1 (rd (E := E) (t := tI) v71 v73)).2).2)))) (some ⟨tI, (11 : Int)⟩) (self v71 v72 (IntKind.i64.wrap (v73 + (1 : Int))) b3_0 b3_1 b4_0 b4_1 b5_0 b5_1)) none) none)) none) none)) none) (some ⟨tI, (0 : Int)⟩))
noncomputable def l_morphism_Valid_0 (R : RunT) (c2 : V_morphism_Valid_2) : Nat → V_morphism_Valid_0
  | 0 => fun _ _ _ _ _ _ _ _ _ => none
  | j + 1 => s_morphism_Valid_0 R c2 (l_morphism_Valid_0 R c2 j)
noncomputable def l_morphism_Valid_2 (R : RunT) : Nat → V_morphism_Valid_2
  | 0 => fun _ _ _ _ _ _ _ _ _ => none
  | j + 1 => s_morphism_Valid_2 R (l_morphism_Valid_2 R j)
noncomputable def b_morphism_Valid (R : RunT) (c0 : V_morphism_Valid_0) (x0 : D tGraph) (x1 : D tGraph) (x2 : D tMorphism) : Res E :=
  (Option.bind (res tI (R f_graph_Valid [.val tGraph (x0.1, x0.2)])) (fun r1 => (cond (!(decide (r1 = (0 : Int)))) (some ⟨tI, r1⟩) (Option.bind (res tI (R f_graph_Valid [.val tGraph (x1.1, x1.2)])) (fun r2 => (cond (!(decide (r2 = (0 : Int)))) (some ⟨tI, r2⟩) (cond (cond (!(decide ((x2.1.length : Int) = (x0.1.length : Int)))) true (!(decide ((x2.2.length : Int) = (x0.2.length : Int))))) (some ⟨tI, (20 : Int)⟩) (c0 x2.1 (x2.1.length : Int) (0 : Int) x0.1 x0.2 x1.1 x1.2 x2.1 x2.2))))))))
theorem lp_morphism_Valid_0_step (k : Nat) (j0 : Nat) : lp_morphism_Valid_0 k (j0 + 1) = s_morphism_Valid_0 (run M k) (lp_morphism_Valid_2 k k) (lp_morphism_Valid_0 k j0) := by kernel_rfl
theorem lp_morphism_Valid_0_zero (k : Nat) : lp_morphism_Valid_0 k 0 = fun _ _ _ _ _ _ _ _ _ => none := by kernel_rfl
theorem lp_morphism_Valid_0_eq (k : Nat) (j0 : Nat) : lp_morphism_Valid_0 k j0 = l_morphism_Valid_0 (run M k) (lp_morphism_Valid_2 k k) j0 := by
  induction j0 with
  | zero => exact lp_morphism_Valid_0_zero k
  | succ j0 ih => rw [lp_morphism_Valid_0_step]; simp only [ih]; rfl
theorem lp_morphism_Valid_2_step (k : Nat) (j2 : Nat) : lp_morphism_Valid_2 k (j2 + 1) = s_morphism_Valid_2 (run M k) (lp_morphism_Valid_2 k j2) := by kernel_rfl
theorem lp_morphism_Valid_2_zero (k : Nat) : lp_morphism_Valid_2 k 0 = fun _ _ _ _ _ _ _ _ _ => none := by kernel_rfl
theorem lp_morphism_Valid_2_eq (k : Nat) (j2 : Nat) : lp_morphism_Valid_2 k j2 = l_morphism_Valid_2 (run M k) j2 := by
  induction j2 with
  | zero => exact lp_morphism_Valid_2_zero k
  | succ j2 ih => rw [lp_morphism_Valid_2_step]; simp only [ih]; rfl
theorem e0_morphism_Valid (k : Nat) (x0 : D tGraph) (x1 : D tGraph) (x2 : D tMorphism) : run M (k + 1) 68 [.val tGraph x0, .val tGraph x1, .val tMorphism x2] = b_morphism_Valid (run M k) (lp_morphism_Valid_0 k k) x0 x1 x2 := by kernel_rfl
theorem e_morphism_Valid (k : Nat) (x0 : D tGraph) (x1 : D tGraph) (x2 : D tMorphism) : run M (k + 1) f_morphism_Valid [.val tGraph x0, .val tGraph x1, .val tMorphism x2] = b_morphism_Valid (run M k) (l_morphism_Valid_0 (run M k) (l_morphism_Valid_2 (run M k) k) k) x0 x1 x2 := by
  rw [show run M (k + 1) f_morphism_Valid = run M (k + 1) 68 from rfl, e0_morphism_Valid]; simp only [lp_morphism_Valid_0_eq, lp_morphism_Valid_2_eq]
noncomputable def b_slices_Clone_int (R : RunT) (x0 : D (.slice tI)) : Res E :=
  (cond (decide (0 < x0.length)) (cond (roomy (([] : List (D tI)).length + x0.length) 8) (some ⟨(.slice tI), (([] : List (D tI)) ++ x0)⟩) none) (meet E (some ⟨(.slice tI), ([] : List (D tI))⟩) (cond (roomy (([] : List (D tI)).length + x0.length) 8) (some ⟨(.slice tI), (([] : List (D tI)) ++ x0)⟩) none)))
theorem e_slices_Clone_int (k : Nat) (x0 : D (.slice tI)) : run M (k + 1) f_slices_Clone_int [.val (.slice tI) x0] = b_slices_Clone_int (run M k) x0 := by kernel_rfl
noncomputable def b_morphism_images (R : RunT) (x0 : D (.slice tI)) : Res E :=
  (Option.bind (res (.slice tI) (R f_slices_Clone_int [.val (.slice tI) x0])) (fun r1 => (Option.bind (res (.slice tI) (R f_slices_Sort_int [.own tI r1])) (fun r2 => (cond (decide (r2.length = r1.length)) (Option.bind (res (.slice tI) (R f_slices_Compact_int [.take tI r2])) (fun r3 => (some ⟨tI, (r3.length : Int)⟩))) none)))))
theorem e_morphism_images (k : Nat) (x0 : D (.slice tI)) : run M (k + 1) f_morphism_images [.val (.slice tI) x0] = b_morphism_images (run M k) x0 := by kernel_rfl
noncomputable def b_morphism_Injective (R : RunT) (x0 : D tGraph) (x1 : D tGraph) (x2 : D tMorphism) : Res E :=
  (Option.bind (res tI (R f_morphism_Valid [.val tGraph (x0.1, x0.2), .val tGraph (x1.1, x1.2), .val tMorphism (x2.1, x2.2)])) (fun r1 => (Option.bind (cond (decide (r1 = (0 : Int))) (res tI (R f_morphism_images [.val (.slice tI) x2.1])) (some (dflt E tI))) (fun r2 => (Option.bind (cond (cond (decide (r1 = (0 : Int))) (decide (r2 = (x2.1.length : Int))) false) (res tI (R f_morphism_images [.val (.slice tI) x2.2])) (some (dflt E tI))) (fun r3 => (some ⟨.bool, (cond (cond (decide (r1 = (0 : Int))) (decide (r2 = (x2.1.length : Int))) false) (decide (r3 = (x2.2.length : Int))) false)⟩)))))))
theorem e_morphism_Injective (k : Nat) (x0 : D tGraph) (x1 : D tGraph) (x2 : D tMorphism) : run M (k + 1) f_morphism_Injective [.val tGraph x0, .val tGraph x1, .val tMorphism x2] = b_morphism_Injective (run M k) x0 x1 x2 := by kernel_rfl
abbrev V_constraint_shape_1 := (D (.slice tExtension)) → (D tI) → (D tI) → (D .str) → (D tI) → (D (.slice tI)) → (D (.slice tEdge)) → (D (.slice tExtension)) → Res E
noncomputable def lp_constraint_shape_1 (k : Nat) (j : Nat) (v57 : D (.slice tExtension)) (v58 : D tI) (v59 : D tI) (b1_0 : D .str) (b1_1 : D tI) (b1_2 : D (.slice tI)) (b1_3 : D (.slice tEdge)) (b1_4 : D (.slice tExtension)) : Res E :=
  loopAt M k 31 1 [] [] j ⟨85, [(1, .c (.ptr 1 0 0)), (57, .c (.leaf (.slice tExtension) v57)), (58, .c (.leaf tI v58)), (59, .c (.leaf tI v59))], [(1, 0, .box [.leaf .str b1_0, .leaf tI b1_1, .leaf (.slice tI) b1_2, .leaf (.slice tEdge) b1_3, .leaf (.slice tExtension) b1_4])]⟩
noncomputable def s_constraint_shape_1 (R : RunT) (self : V_constraint_shape_1) (v57 : D (.slice tExtension)) (v58 : D tI) (v59 : D tI) (b1_0 : D .str) (b1_1 : D tI) (b1_2 : D (.slice tI)) (b1_3 : D (.slice tEdge)) (b1_4 : D (.slice tExtension)) : Res E :=
  (cond (decide (v59 < v58)) (cond (inB v59 (v57.length : Int)) (Option.bind (res tI (R f_morphism_Valid [.val tGraph (b1_2, b1_3), .val tGraph (((rd (E := E) (t := tExtension) v57 v59).2).1, ((rd (E := E) (t := tExtension) v57 v59).2).2), .val tMorphism (((rd (E := E) (t := tExtension) v57 v59).1).1, ((rd (E := E) (t := tExtension) v57 v59).1).2)])) (fun r1 => (cond (!(decide (r1 = (0 : Int)))) (some ⟨tI, r1⟩) (Option.bind (res .bool (R f_constraint_large [.val tGraph (((rd (E := E) (t := tExtension) v57 v59).2).1, ((rd (E := E) (t := tExtension) v57 v59).2).2)])) (fun r2 => (cond r2 (some ⟨tI, (3 : Int)⟩) (Option.bind (res .bool (R f_morphism_Injective [.val tGraph (b1_2, b1_3), .val tGraph (((rd (E := E) (t := tExtension) v57 v59).2).1, ((rd (E := E) (t := tExtension) v57 v59).2).2), .val tMorphism (((rd (E := E) (t := tExtension) v57 v59).1).1, ((rd (E := E) (t := tExtension) v57 v59).1).2)])) (fun r3 => (cond (!r3) (some ⟨tI, (1 : Int)⟩) (self v57 v58 (IntKind.i64.wrap (v59 + (1 : Int))) b1_0 b1_1 b1_2 b1_3 b1_4)))))))))) none) (some ⟨tI, (0 : Int)⟩))
noncomputable def l_constraint_shape_1 (R : RunT) : Nat → V_constraint_shape_1
  | 0 => fun _ _ _ _ _ _ _ _ => none
  | j + 1 => s_constraint_shape_1 R (l_constraint_shape_1 R j)
noncomputable def b_constraint_shape (R : RunT) (c1 : V_constraint_shape_1) (x0 : D tConstraint) : Res E :=
  (Option.bind (res .bool (R f_token_IsName [.val .str x0.1])) (fun r1 => (cond (!r1) (some ⟨tI, (2 : Int)⟩) (cond (cond (cond (!(decide (x0.2.1 = (1 : Int)))) (!(decide (x0.2.1 = (2 : Int)))) false) true (cond (decide (x0.2.1 = (1 : Int))) (decide ((0 : Int) < (x0.2.2.2.length : Int))) false)) (some ⟨tI, (1 : Int)⟩) (cond (cond (decide (x0.2.1 = (2 : Int))) (decide ((x0.2.2.2.length : Int) = (0 : Int))) false) (some ⟨tI, (7 : Int)⟩) (cond (decide ((6 : Int) < (x0.2.2.2.length : Int))) (some ⟨tI, (3 : Int)⟩) (Option.bind (res tI (R f_graph_Valid [.val tGraph (x0.2.2.1.1, x0.2.2.1.2)])) (fun r2 => (cond (!(decide (r2 = (0 : Int)))) (some ⟨tI, r2⟩) (Option.bind (res .bool (R f_constraint_large [.val tGraph (x0.2.2.1.1, x0.2.2.1.2)])) (fun r3 => (cond r3 (some ⟨tI, (3 : Int)⟩) (c1 x0.2.2.2 (x0.2.2.2.length : Int) (0 : Int) x0.1 x0.2.1 x0.2.2.1.1 x0.2.2.1.2 x0.2.2.2)))))))))))))
theorem lp_constraint_shape_1_step (k : Nat) (j1 : Nat) : lp_constraint_shape_1 k (j1 + 1) = s_constraint_shape_1 (run M k) (lp_constraint_shape_1 k j1) := by kernel_rfl
theorem lp_constraint_shape_1_zero (k : Nat) : lp_constraint_shape_1 k 0 = fun _ _ _ _ _ _ _ _ => none := by kernel_rfl
theorem lp_constraint_shape_1_eq (k : Nat) (j1 : Nat) : lp_constraint_shape_1 k j1 = l_constraint_shape_1 (run M k) j1 := by
  induction j1 with
  | zero => exact lp_constraint_shape_1_zero k
  | succ j1 ih => rw [lp_constraint_shape_1_step]; simp only [ih]; rfl
theorem e0_constraint_shape (k : Nat) (x0 : D tConstraint) : run M (k + 1) 31 [.val tConstraint x0] = b_constraint_shape (run M k) (lp_constraint_shape_1 k k) x0 := by kernel_rfl
theorem e_constraint_shape (k : Nat) (x0 : D tConstraint) : run M (k + 1) f_constraint_shape [.val tConstraint x0] = b_constraint_shape (run M k) (l_constraint_shape_1 (run M k) k) x0 := by
  rw [show run M (k + 1) f_constraint_shape = run M (k + 1) 31 from rfl, e0_constraint_shape]; simp only [lp_constraint_shape_1_eq]
abbrev V_slices_IndexFunc_NodeType_0 := (D (.slice tNodeType)) → FuncId → (List (Dt E)) → (D tI) → (D tI) → Res E
noncomputable def lp_slices_IndexFunc_NodeType_0 (k : Nat) (j : Nat) (v0 : D (.slice tNodeType)) (v1f : FuncId) (v1c : List (Dt E)) (v7 : D tI) (v8 : D tI) : Res E :=
  loopAt M k 138 0 [] [] j ⟨19, [(0, .c (.leaf (.slice tNodeType) v0)), (1, .c (.fnd v1f v1c)), (7, .c (.leaf tI v7)), (8, .c (.leaf tI v8))], []⟩
noncomputable def s_slices_IndexFunc_NodeType_0 (R : RunT) (self : V_slices_IndexFunc_NodeType_0) (v0 : D (.slice tNodeType)) (v1f : FuncId) (v1c : List (Dt E)) (v7 : D tI) (v8 : D tI) : Res E :=
  (cond (decide (v8 < v7)) (cond (inB v8 (v0.length : Int)) (Option.bind (res .bool (R v1f ([.val tNodeType ((rd (E := E) (t := tNodeType) v0 v8).1, (((rd (E := E) (t := tNodeType) v0 v8).2).1, ((((rd (E := E) (t := tNodeType) v0 v8).2).2).1, (((rd (E := E) (t := tNodeType) v0 v8).2).2).2)))] ++ capArgs v1c))) (fun r1 => (cond r1 (some ⟨tI, v8⟩) (self v0 v1f v1c v7 (IntKind.i64.wrap (v8 + (1 : Int))))))) none) (some ⟨tI, (-1 : Int)⟩))
noncomputable def l_slices_IndexFunc_NodeType_0 (R : RunT) : Nat → V_slices_IndexFunc_NodeType_0
  | 0 => fun _ _ _ _ _ => none
  | j + 1 => s_slices_IndexFunc_NodeType_0 R (l_slices_IndexFunc_NodeType_0 R j)
noncomputable def b_slices_IndexFunc_NodeType (R : RunT) (c0 : V_slices_IndexFunc_NodeType_0) (x0 : D (.slice tNodeType)) (x1 : FuncId) (x1c : List (Dt E)) : Res E :=
  (c0 x0 x1 x1c (x0.length : Int) (0 : Int))
theorem lp_slices_IndexFunc_NodeType_0_step (k : Nat) (j0 : Nat) : lp_slices_IndexFunc_NodeType_0 k (j0 + 1) = s_slices_IndexFunc_NodeType_0 (run M k) (lp_slices_IndexFunc_NodeType_0 k j0) := by kernel_rfl
theorem lp_slices_IndexFunc_NodeType_0_zero (k : Nat) : lp_slices_IndexFunc_NodeType_0 k 0 = fun _ _ _ _ _ => none := by kernel_rfl
theorem lp_slices_IndexFunc_NodeType_0_eq (k : Nat) (j0 : Nat) : lp_slices_IndexFunc_NodeType_0 k j0 = l_slices_IndexFunc_NodeType_0 (run M k) j0 := by
  induction j0 with
  | zero => exact lp_slices_IndexFunc_NodeType_0_zero k
  | succ j0 ih => rw [lp_slices_IndexFunc_NodeType_0_step]; simp only [ih]; rfl
theorem e0_slices_IndexFunc_NodeType (k : Nat) (x0 : D (.slice tNodeType)) (x1 : FuncId) (x1c : List (Dt E)) : run M (k + 1) 138 [.val (.slice tNodeType) x0, .fn x1 x1c] = b_slices_IndexFunc_NodeType (run M k) (lp_slices_IndexFunc_NodeType_0 k k) x0 x1 x1c := by kernel_rfl
theorem e_slices_IndexFunc_NodeType (k : Nat) (x0 : D (.slice tNodeType)) (x1 : FuncId) (x1c : List (Dt E)) : run M (k + 1) f_slices_IndexFunc_NodeType [.val (.slice tNodeType) x0, .fn x1 x1c] = b_slices_IndexFunc_NodeType (run M k) (l_slices_IndexFunc_NodeType_0 (run M k) k) x0 x1 x1c := by
  rw [show run M (k + 1) f_slices_IndexFunc_NodeType = run M (k + 1) 138 from rfl, e0_slices_IndexFunc_NodeType]; simp only [lp_slices_IndexFunc_NodeType_0_eq]
noncomputable def b_slices_ContainsFunc_NodeType (R : RunT) (x0 : D (.slice tNodeType)) (x1 : FuncId) (x1c : List (Dt E)) : Res E :=
  (Option.bind (res tI (R f_slices_IndexFunc_NodeType [.val (.slice tNodeType) x0, .fn x1 x1c])) (fun r1 => (some ⟨.bool, (decide ((0 : Int) ≤ r1))⟩)))
theorem e_slices_ContainsFunc_NodeType (k : Nat) (x0 : D (.slice tNodeType)) (x1 : FuncId) (x1c : List (Dt E)) : run M (k + 1) f_slices_ContainsFunc_NodeType [.val (.slice tNodeType) x0, .fn x1 x1c] = b_slices_ContainsFunc_NodeType (run M k) x0 x1 x1c := by kernel_rfl
noncomputable def b_types_node_1 (R : RunT) (x0 : D tNodeType) (x1 : D tNodeType) : Res E :=
  (some ⟨.bool, (beqS x0.1 x1.1)⟩)
theorem e_types_node_1 (k : Nat) (x0 : D tNodeType) (x1 : D tNodeType) : run M (k + 1) f_types_node_1 [.val tNodeType x0, .ro tNodeType x1] = b_types_node_1 (run M k) x0 x1 := by kernel_rfl
noncomputable def b_types_attrs (R : RunT) (x0 : D tTypes) (x1 : D tI) : Res E :=
  (cond (inB x1 (x0.1.length : Int)) (cond (decide ((0 : Int) ≤ ((rd (E := E) (t := tNodeType) x0.1 x1).2).1)) (Option.bind (res (.slice tAttr) (R f_types_attrs [.val tTypes (x0.1, x0.2), .val tI (((rd (E := E) (t := tNodeType) x0.1 x1).2).1)])) (fun r1 => (cond (inB x1 (x0.1.length : Int)) (cond (roomy (r1.length + ((((rd (E := E) (t := tNodeType) x0.1 x1).2).2).2).length) 56) (some ⟨(.slice tAttr), (r1 ++ ((((rd (E := E) (t := tNodeType) x0.1 x1).2).2).2))⟩) none) none))) (cond (inB x1 (x0.1.length : Int)) (cond (roomy (((((rd (E := E) (t := tNodeType) x0.1 x1).2).2).2).length) 56) (some ⟨(.slice tAttr), (((rd (E := E) (t := tNodeType) x0.1 x1).2).2).2⟩) none) none)) none)
theorem e_types_attrs (k : Nat) (x0 : D tTypes) (x1 : D tI) : run M (k + 1) f_types_attrs [.val tTypes x0, .val tI x1] = b_types_attrs (run M k) x0 x1 := by kernel_rfl
abbrev V_slices_IndexFunc_Attr_0 := (D (.slice tAttr)) → FuncId → (List (Dt E)) → (D tI) → (D tI) → Res E
noncomputable def lp_slices_IndexFunc_Attr_0 (k : Nat) (j : Nat) (v0 : D (.slice tAttr)) (v1f : FuncId) (v1c : List (Dt E)) (v7 : D tI) (v8 : D tI) : Res E :=
  loopAt M k 186 0 [] [] j ⟨19, [(0, .c (.leaf (.slice tAttr) v0)), (1, .c (.fnd v1f v1c)), (7, .c (.leaf tI v7)), (8, .c (.leaf tI v8))], []⟩
noncomputable def s_slices_IndexFunc_Attr_0 (R : RunT) (self : V_slices_IndexFunc_Attr_0) (v0 : D (.slice tAttr)) (v1f : FuncId) (v1c : List (Dt E)) (v7 : D tI) (v8 : D tI) : Res E :=
  (cond (decide (v8 < v7)) (cond (inB v8 (v0.length : Int)) (Option.bind (res .bool (R v1f ([.val tAttr ((rd (E := E) (t := tAttr) v0 v8).1, (((rd (E := E) (t := tAttr) v0 v8).2).1, ((((rd (E := E) (t := tAttr) v0 v8).2).2).1, (((rd (E := E) (t := tAttr) v0 v8).2).2).2)))] ++ capArgs v1c))) (fun r1 => (cond r1 (some ⟨tI, v8⟩) (self v0 v1f v1c v7 (IntKind.i64.wrap (v8 + (1 : Int))))))) none) (some ⟨tI, (-1 : Int)⟩))
noncomputable def l_slices_IndexFunc_Attr_0 (R : RunT) : Nat → V_slices_IndexFunc_Attr_0
  | 0 => fun _ _ _ _ _ => none
  | j + 1 => s_slices_IndexFunc_Attr_0 R (l_slices_IndexFunc_Attr_0 R j)
noncomputable def b_slices_IndexFunc_Attr (R : RunT) (c0 : V_slices_IndexFunc_Attr_0) (x0 : D (.slice tAttr)) (x1 : FuncId) (x1c : List (Dt E)) : Res E :=
  (c0 x0 x1 x1c (x0.length : Int) (0 : Int))
theorem lp_slices_IndexFunc_Attr_0_step (k : Nat) (j0 : Nat) : lp_slices_IndexFunc_Attr_0 k (j0 + 1) = s_slices_IndexFunc_Attr_0 (run M k) (lp_slices_IndexFunc_Attr_0 k j0) := by kernel_rfl
theorem lp_slices_IndexFunc_Attr_0_zero (k : Nat) : lp_slices_IndexFunc_Attr_0 k 0 = fun _ _ _ _ _ => none := by kernel_rfl
theorem lp_slices_IndexFunc_Attr_0_eq (k : Nat) (j0 : Nat) : lp_slices_IndexFunc_Attr_0 k j0 = l_slices_IndexFunc_Attr_0 (run M k) j0 := by
  induction j0 with
  | zero => exact lp_slices_IndexFunc_Attr_0_zero k
  | succ j0 ih => rw [lp_slices_IndexFunc_Attr_0_step]; simp only [ih]; rfl
theorem e0_slices_IndexFunc_Attr (k : Nat) (x0 : D (.slice tAttr)) (x1 : FuncId) (x1c : List (Dt E)) : run M (k + 1) 186 [.val (.slice tAttr) x0, .fn x1 x1c] = b_slices_IndexFunc_Attr (run M k) (lp_slices_IndexFunc_Attr_0 k k) x0 x1 x1c := by kernel_rfl
theorem e_slices_IndexFunc_Attr (k : Nat) (x0 : D (.slice tAttr)) (x1 : FuncId) (x1c : List (Dt E)) : run M (k + 1) f_slices_IndexFunc_Attr [.val (.slice tAttr) x0, .fn x1 x1c] = b_slices_IndexFunc_Attr (run M k) (l_slices_IndexFunc_Attr_0 (run M k) k) x0 x1 x1c := by
  rw [show run M (k + 1) f_slices_IndexFunc_Attr = run M (k + 1) 186 from rfl, e0_slices_IndexFunc_Attr]; simp only [lp_slices_IndexFunc_Attr_0_eq]
noncomputable def b_slices_ContainsFunc_Attr (R : RunT) (x0 : D (.slice tAttr)) (x1 : FuncId) (x1c : List (Dt E)) : Res E :=
  (Option.bind (res tI (R f_slices_IndexFunc_Attr [.val (.slice tAttr) x0, .fn x1 x1c])) (fun r1 => (some ⟨.bool, (decide ((0 : Int) ≤ r1))⟩)))
theorem e_slices_ContainsFunc_Attr (k : Nat) (x0 : D (.slice tAttr)) (x1 : FuncId) (x1c : List (Dt E)) : run M (k + 1) f_slices_ContainsFunc_Attr [.val (.slice tAttr) x0, .fn x1 x1c] = b_slices_ContainsFunc_Attr (run M k) x0 x1 x1c := by kernel_rfl
noncomputable def b_types_attribute_1 (R : RunT) (x0 : D tAttr) (x1 : D tAttr) : Res E :=
  (some ⟨.bool, (beqS x0.1 x1.1)⟩)
theorem e_types_attribute_1 (k : Nat) (x0 : D tAttr) (x1 : D tAttr) : run M (k + 1) f_types_attribute_1 [.val tAttr x0, .ro tAttr x1] = b_types_attribute_1 (run M k) x0 x1 := by kernel_rfl
abbrev V_types_names_0 := (D (.slice .str)) → (D (.slice .str)) → (D tI) → (D tI) → Res E
noncomputable def lp_types_names_0 (k : Nat) (j : Nat) (v0 : D (.slice .str)) (v8 : D (.slice .str)) (v9 : D tI) (v10 : D tI) : Res E :=
  loopAt M k 156 0 [] [] j ⟨26, [(0, .c (.leaf (.slice .str) v0)), (8, .c (.leaf (.slice .str) v8)), (9, .c (.leaf tI v9)), (10, .c (.leaf tI v10))], []⟩
noncomputable def s_types_names_0 (R : RunT) (self : V_types_names_0) (v0 : D (.slice .str)) (v8 : D (.slice .str)) (v9 : D tI) (v10 : D tI) : Res E :=
  (cond (decide (v10 < v9)) (cond (inB v10 (v8.length : Int)) (Option.bind (res .bool (R f_token_IsName [.val .str (rd (E := E) (t := .str) v8 v10)])) (fun r1 => (cond (!r1) (some ⟨tI, (2 : Int)⟩) (cond (inS (0 : Int) v10 (v0.length : Int)) (Option.bind (res .bool (R f_slices_Contains_string [.val (.slice .str) (sub v0 (0 : Int) v10), .val .str (rd (E := E) (t := .str) v8 v10)])) (fun r2 => (cond r2 (some ⟨tI, (5 : Int)⟩) (self v0 v8 v9 (IntKind.i64.wrap (v10 + (1 : Int))))))) none)))) none) (some ⟨tI, (0 : Int)⟩))
noncomputable def l_types_names_0 (R : RunT) : Nat → V_types_names_0
  | 0 => fun _ _ _ _ => none
  | j + 1 => s_types_names_0 R (l_types_names_0 R j)
noncomputable def b_types_names (R : RunT) (c0 : V_types_names_0) (x0 : D (.slice .str)) : Res E :=
  (cond (decide ((20 : Int) < (x0.length : Int))) (some ⟨tI, (3 : Int)⟩) (c0 x0 x0 (x0.length : Int) (0 : Int)))
theorem lp_types_names_0_step (k : Nat) (j0 : Nat) : lp_types_names_0 k (j0 + 1) = s_types_names_0 (run M k) (lp_types_names_0 k j0) := by kernel_rfl
theorem lp_types_names_0_zero (k : Nat) : lp_types_names_0 k 0 = fun _ _ _ _ => none := by kernel_rfl
theorem lp_types_names_0_eq (k : Nat) (j0 : Nat) : lp_types_names_0 k j0 = l_types_names_0 (run M k) j0 := by
  induction j0 with
  | zero => exact lp_types_names_0_zero k
  | succ j0 ih => rw [lp_types_names_0_step]; simp only [ih]; rfl
theorem e0_types_names (k : Nat) (x0 : D (.slice .str)) : run M (k + 1) 156 [.val (.slice .str) x0] = b_types_names (run M k) (lp_types_names_0 k k) x0 := by kernel_rfl
theorem e_types_names (k : Nat) (x0 : D (.slice .str)) : run M (k + 1) f_types_names [.val (.slice .str) x0] = b_types_names (run M k) (l_types_names_0 (run M k) k) x0 := by
  rw [show run M (k + 1) f_types_names = run M (k + 1) 156 from rfl, e0_types_names]; simp only [lp_types_names_0_eq]
noncomputable def b_types_attribute (R : RunT) (x0 : D tAttr) (x1 : D (.slice tAttr)) : Res E :=
  (Option.bind (res .bool (R f_token_IsName [.val .str x0.1])) (fun r1 => (cond (!r1) (some ⟨tI, (2 : Int)⟩) (Option.bind (res .bool (R f_slices_ContainsFunc_Attr [.val (.slice tAttr) x1, .fn f_types_attribute_1 [⟨tAttr, (x0.1, (x0.2.1, (x0.2.2.1, x0.2.2.2)))⟩]])) (fun r2 => (cond r2 (some ⟨tI, (5 : Int)⟩) (Option.bind (res tI (R f_types_names [.val (.slice .str) x0.2.2.2])) (fun r3 => (cond (!(decide (r3 = (0 : Int)))) (some ⟨tI, r3⟩) (cond (decide ((0 : Int) < (x0.2.2.2.length : Int))) (cond (!(cond (decide (x0.2.1 = (0 : Int))) (decide (x0.2.2.1 = (IntKind.i64.wrap ((x0.2.2.2.length : Int) - (1 : Int))))) false)) (some ⟨tI, (6 : Int)⟩) (some ⟨tI, (0 : Int)⟩)) (cond (!(cond (cond (decide ((-1000000 : Int) ≤ x0.2.1)) (decide (x0.2.1 ≤ x0.2.2.1)) false) (decide (x0.2.2.1 ≤ (1000000 : Int))) false)) (some ⟨tI, (6 : Int)⟩) (some ⟨tI, (0 : Int)⟩))))))))))))
theorem e_types_attribute (k : Nat) (x0 : D tAttr) (x1 : D (.slice tAttr)) : run M (k + 1) f_types_attribute [.val tAttr x0, .val (.slice tAttr) x1] = b_types_attribute (run M k) x0 x1 := by kernel_rfl
abbrev V_types_node_1 := (D tI) → (List (D tAttr)) → Res E
noncomputable def lp_types_node_1 (k : Nat) (j : Nat) (v7 : D tI) (t1002752 : List (D tAttr)) : Res E :=
  loopAt M k 77 1 [] [] j ⟨70, [(6, .c (.ref 1002752 0 none)), (7, .c (.leaf tI v7))], [(1002752, 0, .tok tAttr t1002752)]⟩
noncomputable def s_types_node_1 (R : RunT) (self : V_types_node_1) (v7 : D tI) (t1002752 : List (D tAttr)) : Res E :=
  (cond (decide (v7 < (t1002752.length : Int))) (cond (inB v7 (t1002752.length : Int)) (cond (inS (0 : Int) v7 (t1002752.length : Int)) (Option.bind (res tI (R f_types_attribute [.val tAttr ((List.getD t1002752 (Int.toNat v7) (dflt E tAttr)).1, (((List.getD t1002752 (Int.toNat v7) (dflt E tAttr)).2).1, ((((List.getD t1002752 (Int.toNat v7) (dflt E tAttr)).2).2).1, (((List.getD t1002752 (Int.toNat v7) (dflt E tAttr)).2).2).2))), .val (.slice tAttr) ((List.drop (Int.toNat (0 : Int)) t1002752).take (Int.toNat (v7 - (0 : Int))))])) (fun r1 => (cond (!(decide (r1 = (0 : Int)))) (some ⟨tI, r1⟩) (self (IntKind.i64.wrap (v7 + (1 : Int))) t1002752)))) none) none) (some ⟨tI, (0 : Int)⟩))
noncomputable def l_types_node_1 (R : RunT) : Nat → V_types_node_1
  | 0 => fun _ _ => none
  | j + 1 => s_types_node_1 R (l_types_node_1 R j)
noncomputable def b_types_node (R : RunT) (c1 : V_types_node_1) (x0 : D tTypes) (x1 : D tI) : Res E :=
  (cond (inB x1 (x0.1.length : Int)) (Option.bind (res .bool (R f_token_IsName [.val .str ((rd (E := E) (t := tNodeType) x0.1 x1).1)])) (fun r1 => (cond (!r1) (some ⟨tI, (2 : Int)⟩) (cond (inS (0 : Int) x1 (x0.1.length : Int)) (Option.bind (res .bool (R f_slices_ContainsFunc_NodeType [.val (.slice tNodeType) (sub x0.1 (0 : Int) x1), .fn f_types_node_1 [⟨tNodeType, ((rd (E := E) (t := tNodeType) x0.1 x1).1, (((rd (E := E) (t := tNodeType) x0.1 x1).2).1, ((((rd (E := E) (t := tNodeType) x0.1 x1).2).2).1, (((rd (E := E) (t := tNodeType) x0.1 x1).2).2).2)))⟩]])) (fun r2 => (cond r2 (some ⟨tI, (5 : Int)⟩) (cond (cond (decide (((rd (E := E) (t := tNodeType) x0.1 x1).2).1 < (-1 : Int))) true (decide (x1 ≤ ((rd (E := E) (t := tNodeType) x0.1 x1).2).1))) (some ⟨tI, (6 : Int)⟩) (cond (decide ((4 : Int) < (((((rd (E := E) (t := tNodeType) x0.1 x1).2).2).2).length : Int))) (some ⟨tI, (3 : Int)⟩) (Option.bind (res (.slice tAttr) (R f_types_attrs [.val tTypes (x0.1, x0.2), .val tI x1])) (fun r3 => (cond (decide ((8 : Int) < (r3.length : Int))) (some ⟨tI, (3 : Int)⟩) (c1 (IntKind.i64.wrap ((r3.length : Int) - (((((rd (E := E) (t := tNodeType) x0.1 x1).2).2).2).length : Int))) r3))))))))) none)))) none)
theorem lp_types_node_1_step (k : Nat) (j1 : Nat) : lp_types_node_1 k (j1 + 1) = s_types_node_1 (run M k) (lp_types_node_1 k j1) := by kernel_rfl
theorem lp_types_node_1_zero (k : Nat) : lp_types_node_1 k 0 = fun _ _ => none := by kernel_rfl
theorem lp_types_node_1_eq (k : Nat) (j1 : Nat) : lp_types_node_1 k j1 = l_types_node_1 (run M k) j1 := by
  induction j1 with
  | zero => exact lp_types_node_1_zero k
  | succ j1 ih => rw [lp_types_node_1_step]; simp only [ih]; rfl
theorem e0_types_node (k : Nat) (x0 : D tTypes) (x1 : D tI) : run M (k + 1) 77 [.val tTypes x0, .val tI x1] = b_types_node (run M k) (lp_types_node_1 k k) x0 x1 := by kernel_rfl
theorem e_types_node (k : Nat) (x0 : D tTypes) (x1 : D tI) : run M (k + 1) f_types_node [.val tTypes x0, .val tI x1] = b_types_node (run M k) (l_types_node_1 (run M k) k) x0 x1 := by
  rw [show run M (k + 1) f_types_node = run M (k + 1) 77 from rfl, e0_types_node]; simp only [lp_types_node_1_eq]
noncomputable def b_types_edge_1 (R : RunT) (x0 : D tI) (x1 : D tTypes) : Res E :=
  (some ⟨.bool, (cond (decide ((0 : Int) ≤ x0)) (decide (x0 < (x1.1.length : Int))) false)⟩)
theorem e_types_edge_1 (k : Nat) (x0 : D tI) (x1 : D tTypes) : run M (k + 1) f_types_edge_1 [.val tI x0, .ro tTypes x1] = b_types_edge_1 (run M k) x0 x1 := by kernel_rfl
abbrev V_slices_IndexFunc_EdgeType_0 := (D (.slice tEdgeType)) → FuncId → (List (Dt E)) → (D tI) → (D tI) → Res E
noncomputable def lp_slices_IndexFunc_EdgeType_0 (k : Nat) (j : Nat) (v0 : D (.slice tEdgeType)) (v1f : FuncId) (v1c : List (Dt E)) (v7 : D tI) (v8 : D tI) : Res E :=
  loopAt M k 157 0 [] [] j ⟨19, [(0, .c (.leaf (.slice tEdgeType) v0)), (1, .c (.fnd v1f v1c)), (7, .c (.leaf tI v7)), (8, .c (.leaf tI v8))], []⟩
noncomputable def s_slices_IndexFunc_EdgeType_0 (R : RunT) (self : V_slices_IndexFunc_EdgeType_0) (v0 : D (.slice tEdgeType)) (v1f : FuncId) (v1c : List (Dt E)) (v7 : D tI) (v8 : D tI) : Res E :=
  (cond (decide (v8 < v7)) (cond (inB v8 (v0.length : Int)) (Option.bind (res .bool (R v1f ([.val tEdgeType ((rd (E := E) (t := tEdgeType) v0 v8).1, (((rd (E := E) (t := tEdgeType) v0 v8).2).1, ((((rd (E := E) (t := tEdgeType) v0 v8).2).2).1, (((((rd (E := E) (t := tEdgeType) v0 v8).2).2).2).1, ((((((rd (E := E) (t := tEdgeType) v0 v8).2).2).2).2).1, (((((((rd (E := E) (t := tEdgeType) v0 v8).2).2).2).2).2).1, ((((((rd (E := E) (t := tEdgeType) v0 v8).2).2).2).2).2).2))))))] ++ capArgs v1c))) (fun r1 => (cond r1 (some ⟨tI, v8⟩) (self v0 v1f v1c v7 (IntKind.i64.wrap (v8 + (1 : Int))))))) none) (some ⟨tI, (-1 : Int)⟩))
noncomputable def l_slices_IndexFunc_EdgeType_0 (R : RunT) : Nat → V_slices_IndexFunc_EdgeType_0
  | 0 => fun _ _ _ _ _ => none
  | j + 1 => s_slices_IndexFunc_EdgeType_0 R (l_slices_IndexFunc_EdgeType_0 R j)
noncomputable def b_slices_IndexFunc_EdgeType (R : RunT) (c0 : V_slices_IndexFunc_EdgeType_0) (x0 : D (.slice tEdgeType)) (x1 : FuncId) (x1c : List (Dt E)) : Res E :=
  (c0 x0 x1 x1c (x0.length : Int) (0 : Int))
theorem lp_slices_IndexFunc_EdgeType_0_step (k : Nat) (j0 : Nat) : lp_slices_IndexFunc_EdgeType_0 k (j0 + 1) = s_slices_IndexFunc_EdgeType_0 (run M k) (lp_slices_IndexFunc_EdgeType_0 k j0) := by kernel_rfl
theorem lp_slices_IndexFunc_EdgeType_0_zero (k : Nat) : lp_slices_IndexFunc_EdgeType_0 k 0 = fun _ _ _ _ _ => none := by kernel_rfl
theorem lp_slices_IndexFunc_EdgeType_0_eq (k : Nat) (j0 : Nat) : lp_slices_IndexFunc_EdgeType_0 k j0 = l_slices_IndexFunc_EdgeType_0 (run M k) j0 := by
  induction j0 with
  | zero => exact lp_slices_IndexFunc_EdgeType_0_zero k
  | succ j0 ih => rw [lp_slices_IndexFunc_EdgeType_0_step]; simp only [ih]; rfl
theorem e0_slices_IndexFunc_EdgeType (k : Nat) (x0 : D (.slice tEdgeType)) (x1 : FuncId) (x1c : List (Dt E)) : run M (k + 1) 157 [.val (.slice tEdgeType) x0, .fn x1 x1c] = b_slices_IndexFunc_EdgeType (run M k) (lp_slices_IndexFunc_EdgeType_0 k k) x0 x1 x1c := by kernel_rfl
theorem e_slices_IndexFunc_EdgeType (k : Nat) (x0 : D (.slice tEdgeType)) (x1 : FuncId) (x1c : List (Dt E)) : run M (k + 1) f_slices_IndexFunc_EdgeType [.val (.slice tEdgeType) x0, .fn x1 x1c] = b_slices_IndexFunc_EdgeType (run M k) (l_slices_IndexFunc_EdgeType_0 (run M k) k) x0 x1 x1c := by
  rw [show run M (k + 1) f_slices_IndexFunc_EdgeType = run M (k + 1) 157 from rfl, e0_slices_IndexFunc_EdgeType]; simp only [lp_slices_IndexFunc_EdgeType_0_eq]
noncomputable def b_slices_ContainsFunc_EdgeType (R : RunT) (x0 : D (.slice tEdgeType)) (x1 : FuncId) (x1c : List (Dt E)) : Res E :=
  (Option.bind (res tI (R f_slices_IndexFunc_EdgeType [.val (.slice tEdgeType) x0, .fn x1 x1c])) (fun r1 => (some ⟨.bool, (decide ((0 : Int) ≤ r1))⟩)))
theorem e_slices_ContainsFunc_EdgeType (k : Nat) (x0 : D (.slice tEdgeType)) (x1 : FuncId) (x1c : List (Dt E)) : run M (k + 1) f_slices_ContainsFunc_EdgeType [.val (.slice tEdgeType) x0, .fn x1 x1c] = b_slices_ContainsFunc_EdgeType (run M k) x0 x1 x1c := by kernel_rfl
noncomputable def b_types_edge_2 (R : RunT) (x0 : D tEdgeType) (x1 : D tEdgeType) : Res E :=
  (some ⟨.bool, (beqS x0.1 x1.1)⟩)
theorem e_types_edge_2 (k : Nat) (x0 : D tEdgeType) (x1 : D tEdgeType) : run M (k + 1) f_types_edge_2 [.val tEdgeType x0, .ro tEdgeType x1] = b_types_edge_2 (run M k) x0 x1 := by kernel_rfl
noncomputable def b_types_bounded (R : RunT) (x0 : D tI) (x1 : D tI) : Res E :=
  (some ⟨.bool, (cond (cond (decide ((0 : Int) ≤ x0)) (decide (x0 ≤ (40 : Int))) false) (cond (decide (x1 = (-1 : Int))) true (cond (decide (x0 ≤ x1)) (decide (x1 ≤ (40 : Int))) false)) false)⟩)
theorem e_types_bounded (k : Nat) (x0 : D tI) (x1 : D tI) : run M (k + 1) f_types_bounded [.val tI x0, .val tI x1] = b_types_bounded (run M k) x0 x1 := by kernel_rfl
noncomputable def b_types_edge (R : RunT) (x0 : D tTypes) (x1 : D tI) : Res E :=
  (cond (inB x1 (x0.2.length : Int)) (Option.bind (res .bool (R f_token_IsName [.val .str ((rd (E := E) (t := tEdgeType) x0.2 x1).1)])) (fun r1 => (cond (!r1) (some ⟨tI, (2 : Int)⟩) (cond (inS (0 : Int) x1 (x0.2.length : Int)) (Option.bind (res .bool (R f_slices_ContainsFunc_EdgeType [.val (.slice tEdgeType) (sub x0.2 (0 : Int) x1), .fn f_types_edge_2 [⟨tEdgeType, ((rd (E := E) (t := tEdgeType) x0.2 x1).1, (((rd (E := E) (t := tEdgeType) x0.2 x1).2).1, ((((rd (E := E) (t := tEdgeType) x0.2 x1).2).2).1, (((((rd (E := E) (t := tEdgeType) x0.2 x1).2).2).2).1, ((((((rd (E := E) (t := tEdgeType) x0.2 x1).2).2).2).2).1, (((((((rd (E := E) (t := tEdgeType) x0.2 x1).2).2).2).2).2).1, ((((((rd (E := E) (t := tEdgeType) x0.2 x1).2).2).2).2).2).2))))))⟩]])) (fun r2 => (cond r2 (some ⟨tI, (5 : Int)⟩) (Option.bind (res .bool (R f_types_edge_1 [.val tI (((rd (E := E) (t := tEdgeType) x0.2 x1).2).1), .ro tTypes (x0.1, x0.2)])) (fun r3 => (Option.bind (cond (!(!r3)) (res .bool (R f_types_edge_1 [.val tI ((((rd (E := E) (t := tEdgeType) x0.2 x1).2).2).1), .ro tTypes (x0.1, x0.2)])) (some (dflt E .bool))) (fun r4 => (cond (cond (!r3) true (!r4)) (cond (cond (!r3) true (!r4)) (some ⟨tI, (6 : Int)⟩) (some ⟨tI, (0 : Int)⟩)) (Option.bind (res .bool (R f_types_bounded [.val tI (((((rd (E := E) (t := tEdgeType) x0.2 x1).2).2).2).1), .val tI ((((((rd (E := E) (t := tEdgeType) x0.2 x1).2).2).2).2).1)])) (fun r5 => (Option.bind (cond (!(!r5)) (res .bool (R f_types_bounded [.val tI (((((((rd (E := E) (t := tEdgeType) x0.2 x1).2).2).2).2).2).1), .val tI (((((((rd (E := E) (t := tEdgeType) x0.2 x1).2).2).2).2).2).2)])) (some (dflt E .bool))) (fun r6 => (cond (cond (!r5) true (!r6)) (some ⟨tI, (6 : Int)⟩) (some ⟨tI, (0 : Int)⟩)))))))))))))) none)))) none)
theorem e_types_edge (k : Nat) (x0 : D tTypes) (x1 : D tI) : run M (k + 1) f_types_edge [.val tTypes x0, .val tI x1] = b_types_edge (run M k) x0 x1 := by kernel_rfl
end Go.Proofs.AM

namespace Go.Proofs.AM
open Go
set_option maxRecDepth 100000
abbrev V_types_Valid_1 := (D (.slice tNodeType)) → (D tI) → (D tI) → (D (.slice tNodeType)) → (D (.slice tEdgeType)) → Res E
noncomputable def lp_types_Valid_1 (k : Nat) (j : Nat) (v27 : D (.slice tNodeType)) (v28 : D tI) (v29 : D tI) (b1_0 : D (.slice tNodeType)) (b1_1 : D (.slice tEdgeType)) : Res E :=
  loopAt M k 37 1 [] [] j ⟨60, [(1, .c (.ptr 1 0 0)), (27, .c (.leaf (.slice tNodeType) v27)), (28, .c (.leaf tI v28)), (29, .c (.leaf tI v29))], [(1, 0, .box [.leaf (.slice tNodeType) b1_0, .leaf (.slice tEdgeType) b1_1])]⟩
abbrev V_types_Valid_3 := (D (.slice tEdgeType)) → (D tI) → (D tI) → (D (.slice tNodeType)) → (D (.slice tEdgeType)) → Res E
noncomputable def lp_types_Valid_3 (k : Nat) (j : Nat) (v44 : D (.slice tEdgeType)) (v45 : D tI) (v46 : D tI) (b1_0 : D (.slice tNodeType)) (b1_1 : D (.slice tEdgeType)) : Res E :=
  loopAt M k 37 3 [] [] j ⟨60, [(1, .c (.ptr 1 0 0)), (44, .c (.leaf (.slice tEdgeType) v44)), (45, .c (.leaf tI v45)), (46, .c (.leaf tI v46))], [(1, 0, .box [.leaf (.slice tNodeType) b1_0, .leaf (.slice tEdgeType) b1_1])]⟩
noncomputable def s_types_Valid_1 (R : RunT) (c3 : V_types_Valid_3) (self : V_types_Valid_1) (v27 : D (.slice tNodeType)) (v28 : D tI) (v29 : D tI) (b1_0 : D (.slice tNodeType)) (b1_1 : D (.slice tEdgeType)) : Res E :=
  (cond (decide (v29 < v28)) (cond (inB v29 (v27.length : Int)) (Option.bind (res tI (R f_types_node [.val tTypes (b1_0, b1_1), .val tI v29])) (fun r1 => (cond (!(decide (r1 = (0 : Int)))) (some ⟨(.pair .str tI), ((rd (E := E) (t := tNodeType) v27 v29).1, r1)⟩) (self v27 v28 (IntKind.i64.wrap (v29 + (1 : Int))) b1_0 b1_1)))) none) (c3 b1_1 (b1_1.length : Int) (0 : Int) b1_0 b1_1))
noncomputable def s_types_Valid_3 (R : RunT) (self : V_types_Valid_3) (v44 : D (.slice tEdgeType)) (v45 : D tI) (v46 : D tI) (b1_0 : D (.slice tNodeType)) (b1_1 : D (.slice tEdgeType)) : Res E :=
  (cond (decide (v46 < v45)) (cond (inB v46 (v44.length : Int)) (Option.bind (res tI (R f_types_edge [.val tTypes (b1_0, b1_1), .val tI v46])) (fun r1 => (cond (!(decide (r1 = (0 : Int)))) (some ⟨(.pair .str tI), ((rd (E := E) (t := tEdgeType) v44 v46).1, r1)⟩) (self v44 v45 (IntKind.i64.wrap (v46 + (1 : Int))) b1_0 b1_1)))) none) (some ⟨(.pair .str tI), ((⟨#[]⟩ : ByteArray), (0 : Int))⟩))
noncomputable def l_types_Valid_1 (R : RunT) (c3 : V_types_Valid_3) : Nat → V_types_Valid_1
  | 0 => fun _ _ _ _ _ => none
  | j + 1 => s_types_Valid_1 R c3 (l_types_Valid_1 R c3 j)
noncomputable def l_types_Valid_3 (R : RunT) : Nat → V_types_Valid_3
  | 0 => fun _ _ _ _ _ => none
  | j + 1 => s_types_Valid_3 R (l_types_Valid_3 R j)
noncomputable def b_types_Valid (R : RunT) (c1 : V_types_Valid_1) (x0 : D tTypes) : Res E :=
  (cond (decide ((x0.1.length : Int) = (0 : Int))) (some ⟨(.pair .str tI), ((⟨#[]⟩ : ByteArray), (7 : Int))⟩) (cond (cond (decide ((12 : Int) < (x0.1.length : Int))) true (decide ((20 : Int) < (x0.2.length : Int)))) (some ⟨(.pair .str tI), ((⟨#[]⟩ : ByteArray), (3 : Int))⟩) (c1 x0.1 (x0.1.length : Int) (0 : Int) x0.1 x0.2)))
theorem lp_types_Valid_1_step (k : Nat) (j1 : Nat) : lp_types_Valid_1 k (j1 + 1) = s_types_Valid_1 (run M k) (lp_types_Valid_3 k k) (lp_types_Valid_1 k j1) := by kernel_rfl
theorem lp_types_Valid_1_zero (k : Nat) : lp_types_Valid_1 k 0 = fun _ _ _ _ _ => none := by kernel_rfl
theorem lp_types_Valid_1_eq (k : Nat) (j1 : Nat) : lp_types_Valid_1 k j1 = l_types_Valid_1 (run M k) (lp_types_Valid_3 k k) j1 := by
  induction j1 with
  | zero => exact lp_types_Valid_1_zero k
  | succ j1 ih => rw [lp_types_Valid_1_step]; simp only [ih]; rfl
theorem lp_types_Valid_3_step (k : Nat) (j3 : Nat) : lp_types_Valid_3 k (j3 + 1) = s_types_Valid_3 (run M k) (lp_types_Valid_3 k j3) := by kernel_rfl
theorem lp_types_Valid_3_zero (k : Nat) : lp_types_Valid_3 k 0 = fun _ _ _ _ _ => none := by kernel_rfl
theorem lp_types_Valid_3_eq (k : Nat) (j3 : Nat) : lp_types_Valid_3 k j3 = l_types_Valid_3 (run M k) j3 := by
  induction j3 with
  | zero => exact lp_types_Valid_3_zero k
  | succ j3 ih => rw [lp_types_Valid_3_step]; simp only [ih]; rfl
theorem e0_types_Valid (k : Nat) (x0 : D tTypes) : run M (k + 1) 37 [.val tTypes x0] = b_types_Valid (run M k) (lp_types_Valid_1 k k) x0 := by kernel_rfl
theorem e_types_Valid (k : Nat) (x0 : D tTypes) : run M (k + 1) f_types_Valid [.val tTypes x0] = b_types_Valid (run M k) (l_types_Valid_1 (run M k) (l_types_Valid_3 (run M k) k) k) x0 := by
  rw [show run M (k + 1) f_types_Valid = run M (k + 1) 37 from rfl, e0_types_Valid]; simp only [lp_types_Valid_1_eq, lp_types_Valid_3_eq]
noncomputable def b_constraint_leaf_1 (R : RunT) (x0 : D tNodeType) (x1 : D tI) : Res E :=
  (some ⟨.bool, (decide (x0.2.1 = x1))⟩)
theorem e_constraint_leaf_1 (k : Nat) (x0 : D tNodeType) (x1 : D tI) : run M (k + 1) f_constraint_leaf_1 [.val tNodeType x0, .ro tI x1] = b_constraint_leaf_1 (run M k) x0 x1 := by kernel_rfl
noncomputable def b_constraint_leaf (R : RunT) (x0 : D tTypes) (x1 : D tI) : Res E :=
  (Option.bind (res .bool (R f_slices_ContainsFunc_NodeType [.val (.slice tNodeType) x0.1, .fn f_constraint_leaf_1 [⟨tI, x1⟩]])) (fun r1 => (some ⟨.bool, !r1⟩)))
theorem e_constraint_leaf (k : Nat) (x0 : D tTypes) (x1 : D tI) : run M (k + 1) f_constraint_leaf [.val tTypes x0, .val tI x1] = b_constraint_leaf (run M k) x0 x1 := by kernel_rfl
noncomputable def b_types_given_1 (R : RunT) (x0 : D tI) (x1 : D tTypes) : Res E :=
  (some ⟨.bool, (cond (decide (x0 < (0 : Int))) true (decide ((x1.1.length : Int) ≤ x0)))⟩)
theorem e_types_given_1 (k : Nat) (x0 : D tI) (x1 : D tTypes) : run M (k + 1) f_types_given_1 [.val tI x0, .ro tTypes x1] = b_types_given_1 (run M k) x0 x1 := by kernel_rfl
noncomputable def b_types_given (R : RunT) (x0 : D tTypes) (x1 : D (.slice tI)) : Res E :=
  (Option.bind (res (.pair .str tI) (R f_types_Valid [.val tTypes (x0.1, x0.2)])) (fun r1 => (cond (!(decide (r1.2 = (0 : Int)))) (some ⟨tI, r1.2⟩) (Option.bind (res .bool (R f_slices_ContainsFunc_int [.val (.slice tI) x1, .fn f_types_given_1 [⟨tTypes, (x0.1, x0.2)⟩]])) (fun r2 => (cond r2 (some ⟨tI, (6 : Int)⟩) (some ⟨tI, (0 : Int)⟩)))))))
theorem e_types_given (k : Nat) (x0 : D tTypes) (x1 : D (.slice tI)) : run M (k + 1) f_types_given [.val tTypes x0, .val (.slice tI) x1] = b_types_given (run M k) x0 x1 := by kernel_rfl
abbrev V_slices_Index_int_0 := (D (.slice tI)) → (D tI) → (D tI) → (D tI) → Res E
noncomputable def lp_slices_Index_int_0 (k : Nat) (j : Nat) (v0 : D (.slice tI)) (v1 : D tI) (v7 : D tI) (v8 : D tI) : Res E :=
  loopAt M k 133 0 [] [] j ⟨19, [(0, .c (.leaf (.slice tI) v0)), (1, .c (.leaf tI v1)), (7, .c (.leaf tI v7)), (8, .c (.leaf tI v8))], []⟩
noncomputable def s_slices_Index_int_0 (R : RunT) (self : V_slices_Index_int_0) (v0 : D (.slice tI)) (v1 : D tI) (v7 : D tI) (v8 : D tI) : Res E :=
  (cond (decide (v8 < v7)) (cond (inB v8 (v0.length : Int)) (cond (decide (v1 = (rd (E := E) (t := tI) v0 v8))) (some ⟨tI, v8⟩) (self v0 v1 v7 (IntKind.i64.wrap (v8 + (1 : Int))))) none) (some ⟨tI, (-1 : Int)⟩))
noncomputable def l_slices_Index_int_0 (R : RunT) : Nat → V_slices_Index_int_0
  | 0 => fun _ _ _ _ => none
  | j + 1 => s_slices_Index_int_0 R (l_slices_Index_int_0 R j)
noncomputable def b_slices_Index_int (R : RunT) (c0 : V_slices_Index_int_0) (x0 : D (.slice tI)) (x1 : D tI) : Res E :=
  (c0 x0 x1 (x0.length : Int) (0 : Int))
theorem lp_slices_Index_int_0_step (k : Nat) (j0 : Nat) : lp_slices_Index_int_0 k (j0 + 1) = s_slices_Index_int_0 (run M k) (lp_slices_Index_int_0 k j0) := by kernel_rfl
theorem lp_slices_Index_int_0_zero (k : Nat) : lp_slices_Index_int_0 k 0 = fun _ _ _ _ => none := by kernel_rfl
theorem lp_slices_Index_int_0_eq (k : Nat) (j0 : Nat) : lp_slices_Index_int_0 k j0 = l_slices_Index_int_0 (run M k) j0 := by
  induction j0 with
  | zero => exact lp_slices_Index_int_0_zero k
  | succ j0 ih => rw [lp_slices_Index_int_0_step]; simp only [ih]; rfl
theorem e0_slices_Index_int (k : Nat) (x0 : D (.slice tI)) (x1 : D tI) : run M (k + 1) 133 [.val (.slice tI) x0, .val tI x1] = b_slices_Index_int (run M k) (lp_slices_Index_int_0 k k) x0 x1 := by kernel_rfl
theorem e_slices_Index_int (k : Nat) (x0 : D (.slice tI)) (x1 : D tI) : run M (k + 1) f_slices_Index_int [.val (.slice tI) x0, .val tI x1] = b_slices_Index_int (run M k) (l_slices_Index_int_0 (run M k) k) x0 x1 := by
  rw [show run M (k + 1) f_slices_Index_int = run M (k + 1) 133 from rfl, e0_slices_Index_int]; simp only [lp_slices_Index_int_0_eq]
noncomputable def b_slices_Contains_int (R : RunT) (x0 : D (.slice tI)) (x1 : D tI) : Res E :=
  (Option.bind (res tI (R f_slices_Index_int [.val (.slice tI) x0, .val tI x1])) (fun r1 => (some ⟨.bool, (decide ((0 : Int) ≤ r1))⟩)))
theorem e_slices_Contains_int (k : Nat) (x0 : D (.slice tI)) (x1 : D tI) : run M (k + 1) f_slices_Contains_int [.val (.slice tI) x0, .val tI x1] = b_slices_Contains_int (run M k) x0 x1 := by kernel_rfl
abbrev V_slices_Reverse_int_0 := (D tI) → (D tI) → (List (D tI)) → Res E
noncomputable def lp_slices_Reverse_int_0 (k : Nat) (j : Nat) (v2 : D tI) (v3 : D tI) (t100000 : List (D tI)) : Res E :=
  loopAt M k 159 0 [.own 0 tI] [] j ⟨28, [(0, .c (.ref 100000 0 none)), (2, .c (.leaf tI v2)), (3, .c (.leaf tI v3))], [(100000, 0, .tok tI t100000)]⟩
noncomputable def s_slices_Reverse_int_0 (R : RunT) (self : V_slices_Reverse_int_0) (v2 : D tI) (v3 : D tI) (t100000 : List (D tI)) : Res E :=
  (cond (decide (v2 < v3)) (cond (inB v3 (t100000.length : Int)) (cond (inB v2 (t100000.length : Int)) (cond (inB v2 (t100000.length : Int)) (cond (inB v3 ((List.set t100000 (Int.toNat v2) (List.getD t100000 (Int.toNat v3) (dflt E tI))).length : Int)) (self (IntKind.i64.wrap (v2 + (1 : Int))) (IntKind.i64.wrap (v3 - (1 : Int))) (List.set (List.set t100000 (Int.toNat v2) (List.getD t100000 (Int.toNat v3) (dflt E tI))) (Int.toNat v3) (List.getD t100000 (Int.toNat v2) (dflt E tI)))) none) none) none) none) (some ⟨(.slice tI), t100000⟩))
noncomputable def l_slices_Reverse_int_0 (R : RunT) : Nat → V_slices_Reverse_int_0
  | 0 => fun _ _ _ => none
  | j + 1 => s_slices_Reverse_int_0 R (l_slices_Reverse_int_0 R j)
noncomputable def b_slices_Reverse_int (R : RunT) (c0 : V_slices_Reverse_int_0) (x0 : List (D tI)) : Res E :=
  (c0 (0 : Int) (IntKind.i64.wrap ((x0.length : Int) - (1 : Int))) x0)
theorem lp_slices_Reverse_int_0_step (k : Nat) (j0 : Nat) : lp_slices_Reverse_int_0 k (j0 + 1) = s_slices_Reverse_int_0 (run M k) (lp_slices_Reverse_int_0 k j0) := by kernel_rfl
theorem lp_slices_Reverse_int_0_zero (k : Nat) : lp_slices_Reverse_int_0 k 0 = fun _ _ _ => none := by kernel_rfl
theorem lp_slices_Reverse_int_0_eq (k : Nat) (j0 : Nat) : lp_slices_Reverse_int_0 k j0 = l_slices_Reverse_int_0 (run M k) j0 := by
  induction j0 with
  | zero => exact lp_slices_Reverse_int_0_zero k
  | succ j0 ih => rw [lp_slices_Reverse_int_0_step]; simp only [ih]; rfl
theorem e0_slices_Reverse_int (k : Nat) (x0 : List (D tI)) : run M (k + 1) 159 [.own tI x0] = b_slices_Reverse_int (run M k) (lp_slices_Reverse_int_0 k k) x0 := by kernel_rfl
theorem e_slices_Reverse_int (k : Nat) (x0 : List (D tI)) : run M (k + 1) f_slices_Reverse_int [.own tI x0] = b_slices_Reverse_int (run M k) (l_slices_Reverse_int_0 (run M k) k) x0 := by
  rw [show run M (k + 1) f_slices_Reverse_int = run M (k + 1) 159 from rfl, e0_slices_Reverse_int]; simp only [lp_slices_Reverse_int_0_eq]
abbrev V_types_line_0 := (D tI) → (D (.slice tNodeType)) → (D (.slice tEdgeType)) → (List (D tI)) → Res E
noncomputable def lp_types_line_0 (k : Nat) (j : Nat) (v1 : D tI) (b2_0 : D (.slice tNodeType)) (b2_1 : D (.slice tEdgeType)) (t500005 : List (D tI)) : Res E :=
  loopAt M k 140 0 [] [] j ⟨21, [(1, .c (.leaf tI v1)), (2, .c (.ptr 2 0 0)), (5, .c (.ref 500005 0 none))], [(2, 0, .box [.leaf (.slice tNodeType) b2_0, .leaf (.slice tEdgeType) b2_1]), (500005, 0, .tok tI t500005)]⟩
noncomputable def s_types_line_0 (R : RunT) (self : V_types_line_0) (v1 : D tI) (b2_0 : D (.slice tNodeType)) (b2_1 : D (.slice tEdgeType)) (t500005 : List (D tI)) : Res E :=
  (cond (decide ((0 : Int) ≤ v1)) (cond (roomy (t500005.length + ([v1] : List (D tI)).length) 8) (cond (inB v1 (b2_0.length : Int)) (self (((rd (E := E) (t := tNodeType) b2_0 v1).2).1) b2_0 b2_1 (t500005 ++ ([v1] : List (D tI)))) none) none) (Option.bind (res (.slice tI) (R f_slices_Reverse_int [.own tI t500005])) (fun r1 => (cond (decide (r1.length = t500005.length)) (some ⟨(.slice tI), r1⟩) none))))
noncomputable def l_types_line_0 (R : RunT) : Nat → V_types_line_0
  | 0 => fun _ _ _ _ => none
  | j + 1 => s_types_line_0 R (l_types_line_0 R j)
noncomputable def b_types_line (R : RunT) (c0 : V_types_line_0) (x0 : D tTypes) (x1 : D tI) : Res E :=
  (c0 x1 x0.1 x0.2 ([] : List (D tI)))
theorem lp_types_line_0_step (k : Nat) (j0 : Nat) : lp_types_line_0 k (j0 + 1) = s_types_line_0 (run M k) (lp_types_line_0 k j0) := by kernel_rfl
theorem lp_types_line_0_zero (k : Nat) : lp_types_line_0 k 0 = fun _ _ _ _ => none := by kernel_rfl
theorem lp_types_line_0_eq (k : Nat) (j0 : Nat) : lp_types_line_0 k j0 = l_types_line_0 (run M k) j0 := by
  induction j0 with
  | zero => exact lp_types_line_0_zero k
  | succ j0 ih => rw [lp_types_line_0_step]; simp only [ih]; rfl
theorem e0_types_line (k : Nat) (x0 : D tTypes) (x1 : D tI) : run M (k + 1) 140 [.val tTypes x0, .val tI x1] = b_types_line (run M k) (lp_types_line_0 k k) x0 x1 := by kernel_rfl
theorem e_types_line (k : Nat) (x0 : D tTypes) (x1 : D tI) : run M (k + 1) f_types_line [.val tTypes x0, .val tI x1] = b_types_line (run M k) (l_types_line_0 (run M k) k) x0 x1 := by
  rw [show run M (k + 1) f_types_line = run M (k + 1) 140 from rfl, e0_types_line]; simp only [lp_types_line_0_eq]
noncomputable def b_types_is (R : RunT) (x0 : D tTypes) (x1 : D tI) (x2 : D tI) : Res E :=
  (Option.bind (res (.slice tI) (R f_types_line [.val tTypes (x0.1, x0.2), .val tI x1])) (fun r1 => (Option.bind (res .bool (R f_slices_Contains_int [.val (.slice tI) r1, .val tI x2])) (fun r2 => (some ⟨.bool, r2⟩)))))
theorem e_types_is (k : Nat) (x0 : D tTypes) (x1 : D tI) (x2 : D tI) : run M (k + 1) f_types_is [.val tTypes x0, .val tI x1, .val tI x2] = b_types_is (run M k) x0 x1 x2 := by kernel_rfl
noncomputable def b_types_Fits (R : RunT) (x0 : D tTypes) (x1 : D tI) (x2 : D tI) (x3 : D tI) : Res E :=
  (Option.bind (res tI (R f_types_given [.val tTypes (x0.1, x0.2), .val (.slice tI) ([x2, x3] : List (D tI))])) (fun r1 => (cond (cond (cond (!(decide (r1 = (0 : Int)))) true (decide (x1 < (0 : Int)))) true (decide ((x0.2.length : Int) ≤ x1))) (some ⟨.bool, false⟩) (cond (inB x1 (x0.2.length : Int)) (Option.bind (res .bool (R f_types_is [.val tTypes (x0.1, x0.2), .val tI x2, .val tI (((rd (E := E) (t := tEdgeType) x0.2 x1).2).1)])) (fun r2 => (cond ((inB x1 (x0.2.length : Int)) || !r2) (Option.bind (cond r2 (res .bool (R f_types_is [.val tTypes (x0.1, x0.2), .val tI x3, .val tI ((((rd (E := E) (t := tEdgeType) x0.2 x1).2).2).1)])) (some (dflt E .bool))) (fun r3 => (some ⟨.bool, (cond r2 r3 false)⟩))) none))) none))))
theorem e_types_Fits (k : Nat) (x0 : D tTypes) (x1 : D tI) (x2 : D tI) (x3 : D tI) : run M (k + 1) f_types_Fits [.val tTypes x0, .val tI x1, .val tI x2, .val tI x3] = b_types_Fits (run M k) x0 x1 x2 x3 := by kernel_rfl
noncomputable def b_constraint_leaves_1 (R : RunT) (x0 : D tEdge) (x1 : D tTypes) (x2 : D tGraph) : Res E :=
  (cond (inB x0.2.1 (x2.1.length : Int)) (cond (inB x0.2.2 (x2.1.length : Int)) (Option.bind (res .bool (R f_types_Fits [.val tTypes (x1.1, x1.2), .val tI x0.1, .val tI (rd (E := E) (t := tI) x2.1 x0.2.1), .val tI (rd (E := E) (t := tI) x2.1 x0.2.2)])) (fun r1 => (some ⟨.bool, !r1⟩))) none) none)
theorem e_constraint_leaves_1 (k : Nat) (x0 : D tEdge) (x1 : D tTypes) (x2 : D tGraph) : run M (k + 1) f_constraint_leaves_1 [.val tEdge x0, .ro tTypes x1, .ro tGraph x2] = b_constraint_leaves_1 (run M k) x0 x1 x2 := by kernel_rfl
abbrev V_constraint_leaves_0 := (D (.slice tI)) → (D tI) → (D tI) → (D (.slice tNodeType)) → (D (.slice tEdgeType)) → (D (.slice tI)) → (D (.slice tEdge)) → Res E
noncomputable def lp_constraint_leaves_0 (k : Nat) (j : Nat) (v8 : D (.slice tI)) (v9 : D tI) (v10 : D tI) (b2_0 : D (.slice tNodeType)) (b2_1 : D (.slice tEdgeType)) (b3_0 : D (.slice tI)) (b3_1 : D (.slice tEdge)) : Res E :=
  loopAt M k 38 0 [] [] j ⟨31, [(2, .c (.ptr 2 0 0)), (3, .c (.ptr 3 0 0)), (8, .c (.leaf (.slice tI) v8)), (9, .c (.leaf tI v9)), (10, .c (.leaf tI v10))], [(2, 0, .box [.leaf (.slice tNodeType) b2_0, .leaf (.slice tEdgeType) b2_1]), (3, 0, .box [.leaf (.slice tI) b3_0, .leaf (.slice tEdge) b3_1])]⟩
noncomputable def s_constraint_leaves_0 (R : RunT) (self : V_constraint_leaves_0) (v8 : D (.slice tI)) (v9 : D tI) (v10 : D tI) (b2_0 : D (.slice tNodeType)) (b2_1 : D (.slice tEdgeType)) (b3_0 : D (.slice tI)) (b3_1 : D (.slice tEdge)) : Res E :=
  (cond (decide (v10 < v9)) (cond (inB v10 (v8.length : Int)) (Option.bind (cond (!(decide ((b2_0.length : Int) ≤ (rd (E := E) (t := tI) v8 v10)))) (res .bool (R f_constraint_leaf [.val tTypes (b2_0, b2_1), .val tI (rd (E := E) (t := tI) v8 v10)])) (some (dflt E .bool))) (fun r1 => (cond (cond (decide ((b2_0.length : Int) ≤ (rd (E := E) (t := tI) v8 v10))) true (!r1)) (some ⟨.bool, false⟩) (self v8 v9 (IntKind.i64.wrap (v10 + (1 : Int))) b2_0 b2_1 b3_0 b3_1)))) none) (Option.bind (res .bool (R f_slices_ContainsFunc_Edge [.val (.slice tEdge) b3_1, .fn f_constraint_leaves_1 [⟨tTypes, (b2_0, b2_1)⟩, ⟨tGraph, (b3_0, b3_1)⟩]])) (fun r2 => (some ⟨.bool, !r2⟩))))
noncomputable def l_constraint_leaves_0 (R : RunT) : Nat → V_constraint_leaves_0
  | 0 => fun _ _ _ _ _ _ _ => none
  | j + 1 => s_constraint_leaves_0 R (l_constraint_leaves_0 R j)
noncomputable def b_constraint_leaves (R : RunT) (c0 : V_constraint_leaves_0) (x0 : D tTypes) (x1 : D tGraph) : Res E :=
  (c0 x1.1 (x1.1.length : Int) (0 : Int) x0.1 x0.2 x1.1 x1.2)
theorem lp_constraint_leaves_0_step (k : Nat) (j0 : Nat) : lp_constraint_leaves_0 k (j0 + 1) = s_constraint_leaves_0 (run M k) (lp_constraint_leaves_0 k j0) := by kernel_rfl
theorem lp_constraint_leaves_0_zero (k : Nat) : lp_constraint_leaves_0 k 0 = fun _ _ _ _ _ _ _ => none := by kernel_rfl
theorem lp_constraint_leaves_0_eq (k : Nat) (j0 : Nat) : lp_constraint_leaves_0 k j0 = l_constraint_leaves_0 (run M k) j0 := by
  induction j0 with
  | zero => exact lp_constraint_leaves_0_zero k
  | succ j0 ih => rw [lp_constraint_leaves_0_step]; simp only [ih]; rfl
theorem e0_constraint_leaves (k : Nat) (x0 : D tTypes) (x1 : D tGraph) : run M (k + 1) 38 [.val tTypes x0, .val tGraph x1] = b_constraint_leaves (run M k) (lp_constraint_leaves_0 k k) x0 x1 := by kernel_rfl
theorem e_constraint_leaves (k : Nat) (x0 : D tTypes) (x1 : D tGraph) : run M (k + 1) f_constraint_leaves [.val tTypes x0, .val tGraph x1] = b_constraint_leaves (run M k) (l_constraint_leaves_0 (run M k) k) x0 x1 := by
  rw [show run M (k + 1) f_constraint_leaves = run M (k + 1) 38 from rfl, e0_constraint_leaves]; simp only [lp_constraint_leaves_0_eq]
abbrev V_slices_IndexFunc_Extension_0 := (D (.slice tExtension)) → FuncId → (List (Dt E)) → (D tI) → (D tI) → Res E
noncomputable def lp_slices_IndexFunc_Extension_0 (k : Nat) (j : Nat) (v0 : D (.slice tExtension)) (v1f : FuncId) (v1c : List (Dt E)) (v7 : D tI) (v8 : D tI) : Res E :=
  loopAt M k 82 0 [] [] j ⟨19, [(0, .c (.leaf (.slice tExtension) v0)), (1, .c (.fnd v1f v1c)), (7, .c (.leaf tI v7)), (8, .c (.leaf tI v8))], []⟩
noncomputable def s_slices_IndexFunc_Extension_0 (R : RunT) (self : V_slices_IndexFunc_Extension_0) (v0 : D (.slice tExtension)) (v1f : FuncId) (v1c : List (Dt E)) (v7 : D tI) (v8 : D tI) : Res E :=
  (cond (decide (v8 < v7)) (cond (inB v8 (v0.length : Int)) (Option.bind (res .bool (R v1f ([.val tExtension ((((rd (E := E) (t := tExtension) v0 v8).1).1, ((rd (E := E) (t := tExtension) v0 v8).1).2), (((rd (E := E) (t := tExtension) v0 v8).2).1, ((rd (E := E) (t := tExtension) v0 v8).2).2))] ++ capArgs v1c))) (fun r1 => (cond r1 (some ⟨tI, v8⟩) (self v0 v1f v1c v7 (IntKind.i64.wrap (v8 + (1 : Int))))))) none) (some ⟨tI, (-1 : Int)⟩))
noncomputable def l_slices_IndexFunc_Extension_0 (R : RunT) : Nat → V_slices_IndexFunc_Extension_0
  | 0 => fun _ _ _ _ _ => none
  | j + 1 => s_slices_IndexFunc_Extension_0 R (l_slices_IndexFunc_Extension_0 R j)
noncomputable def b_slices_IndexFunc_Extension (R : RunT) (c0 : V_slices_IndexFunc_Extension_0) (x0 : D (.slice tExtension)) (x1 : FuncId) (x1c : List (Dt E)) : Res E :=
  (c0 x0 x1 x1c (x0.length : Int) (0 : Int))
theorem lp_slices_IndexFunc_Extension_0_step (k : Nat) (j0 : Nat) : lp_slices_IndexFunc_Extension_0 k (j0 + 1) = s_slices_IndexFunc_Extension_0 (run M k) (lp_slices_IndexFunc_Extension_0 k j0) := by kernel_rfl
theorem lp_slices_IndexFunc_Extension_0_zero (k : Nat) : lp_slices_IndexFunc_Extension_0 k 0 = fun _ _ _ _ _ => none := by kernel_rfl
theorem lp_slices_IndexFunc_Extension_0_eq (k : Nat) (j0 : Nat) : lp_slices_IndexFunc_Extension_0 k j0 = l_slices_IndexFunc_Extension_0 (run M k) j0 := by
  induction j0 with
  | zero => exact lp_slices_IndexFunc_Extension_0_zero k
  | succ j0 ih => rw [lp_slices_IndexFunc_Extension_0_step]; simp only [ih]; rfl
theorem e0_slices_IndexFunc_Extension (k : Nat) (x0 : D (.slice tExtension)) (x1 : FuncId) (x1c : List (Dt E)) : run M (k + 1) 82 [.val (.slice tExtension) x0, .fn x1 x1c] = b_slices_IndexFunc_Extension (run M k) (lp_slices_IndexFunc_Extension_0 k k) x0 x1 x1c := by kernel_rfl
theorem e_slices_IndexFunc_Extension (k : Nat) (x0 : D (.slice tExtension)) (x1 : FuncId) (x1c : List (Dt E)) : run M (k + 1) f_slices_IndexFunc_Extension [.val (.slice tExtension) x0, .fn x1 x1c] = b_slices_IndexFunc_Extension (run M k) (l_slices_IndexFunc_Extension_0 (run M k) k) x0 x1 x1c := by
  rw [show run M (k + 1) f_slices_IndexFunc_Extension = run M (k + 1) 82 from rfl, e0_slices_IndexFunc_Extension]; simp only [lp_slices_IndexFunc_Extension_0_eq]
noncomputable def b_slices_ContainsFunc_Extension (R : RunT) (x0 : D (.slice tExtension)) (x1 : FuncId) (x1c : List (Dt E)) : Res E :=
  (Option.bind (res tI (R f_slices_IndexFunc_Extension [.val (.slice tExtension) x0, .fn x1 x1c])) (fun r1 => (some ⟨.bool, (decide ((0 : Int) ≤ r1))⟩)))
theorem e_slices_ContainsFunc_Extension (k : Nat) (x0 : D (.slice tExtension)) (x1 : FuncId) (x1c : List (Dt E)) : run M (k + 1) f_slices_ContainsFunc_Extension [.val (.slice tExtension) x0, .fn x1 x1c] = b_slices_ContainsFunc_Extension (run M k) x0 x1 x1c := by kernel_rfl
noncomputable def b_constraint_Valid_1 (R : RunT) (x0 : D tExtension) (x1 : D tTypes) : Res E :=
  (Option.bind (res .bool (R f_constraint_leaves [.val tTypes (x1.1, x1.2), .val tGraph (x0.2.1, x0.2.2)])) (fun r1 => (some ⟨.bool, !r1⟩)))
theorem e_constraint_Valid_1 (k : Nat) (x0 : D tExtension) (x1 : D tTypes) : run M (k + 1) f_constraint_Valid_1 [.val tExtension x0, .ro tTypes x1] = b_constraint_Valid_1 (run M k) x0 x1 := by kernel_rfl
noncomputable def b_constraint_Valid (R : RunT) (x0 : D tTypes) (x1 : D tConstraint) : Res E :=
  (Option.bind (res (.pair .str tI) (R f_types_Valid [.val tTypes (x0.1, x0.2)])) (fun r1 => (cond (!(decide (r1.2 = (0 : Int)))) (some ⟨tI, r1.2⟩) (Option.bind (res tI (R f_constraint_shape [.val tConstraint (x1.1, (x1.2.1, ((x1.2.2.1.1, x1.2.2.1.2), x1.2.2.2)))])) (fun r2 => (cond (!(decide (r2 = (0 : Int)))) (some ⟨tI, r2⟩) (Option.bind (res .bool (R f_constraint_leaves [.val tTypes (x0.1, x0.2), .val tGraph (x1.2.2.1.1, x1.2.2.1.2)])) (fun r3 => (Option.bind (cond (!(!r3)) (res .bool (R f_slices_ContainsFunc_Extension [.val (.slice tExtension) x1.2.2.2, .fn f_constraint_Valid_1 [⟨tTypes, (x0.1, x0.2)⟩]])) (some (dflt E .bool))) (fun r4 => (cond (cond (!r3) true r4) (some ⟨tI, (13 : Int)⟩) (some ⟨tI, (0 : Int)⟩))))))))))))
theorem e_constraint_Valid (k : Nat) (x0 : D tTypes) (x1 : D tConstraint) : run M (k + 1) f_constraint_Valid [.val tTypes x0, .val tConstraint x1] = b_constraint_Valid (run M k) x0 x1 := by kernel_rfl
abbrev V_constraint_sides_0 := (D (.slice tEdgeType)) → (D tI) → (D tI) → (List (D tSide)) → Res E
noncomputable def lp_constraint_sides_0 (k : Nat) (j : Nat) (v7 : D (.slice tEdgeType)) (v8 : D tI) (v9 : D tI) (t500003 : List (D tSide)) : Res E :=
  loopAt M k 54 0 [] [] j ⟨39, [(3, .c (.ref 500003 0 none)), (7, .c (.leaf (.slice tEdgeType) v7)), (8, .c (.leaf tI v8)), (9, .c (.leaf tI v9))], [(500003, 0, .tok tSide t500003)]⟩
noncomputable def s_constraint_sides_0 (R : RunT) (self : V_constraint_sides_0) (v7 : D (.slice tEdgeType)) (v8 : D tI) (v9 : D tI) (t500003 : List (D tSide)) : Res E :=
  (cond (decide (v9 < v8)) (cond (inB v9 (v7.length : Int)) (cond (roomy (t500003.length + ([(v9, (true, (((rd (E := E) (t := tEdgeType) v7 v9).2).1, ((((rd (E := E) (t := tEdgeType) v7 v9).2).2).1, (((((rd (E := E) (t := tEdgeType) v7 v9).2).2).2).1, (((((rd (E := E) (t := tEdgeType) v7 v9).2).2).2).2).1))))), (v9, (false, ((((rd (E := E) (t := tEdgeType) v7 v9).2).2).1, (((rd (E := E) (t := tEdgeType) v7 v9).2).1, (((((((rd (E := E) (t := tEdgeType) v7 v9).2).2).2).2).2).1, ((((((rd (E := E) (t := tEdgeType) v7 v9).2).2).2).2).2).2)))))] : List (D tSide)).length) 48) (self v7 v8 (IntKind.i64.wrap (v9 + (1 : Int))) (t500003 ++ ([(v9, (true, (((rd (E := E) (t := tEdgeType) v7 v9).2).1, ((((rd (E := E) (t := tEdgeType) v7 v9).2).2).1, (((((rd (E := E) (t := tEdgeType) v7 v9).2).2).2).1, (((((rd (E := E) (t := tEdgeType) v7 v9).2).2).2).2).1))))), (v9, (false, ((((rd (E := E) (t := tEdgeType) v7 v9).2).2).1, (((rd (E := E) (t := tEdgeType) v7 v9).2).1, (((((((rd (E := E) (t := tEdgeType) v7 v9).2).2).2).2).2).1, ((((((rd (E := E) (t := tEdgeType) v7 v9).2).2).2).2).2).2)))))] : List (D tSide)))) none) none) (some ⟨(.slice tSide), t500003⟩))
noncomputable def l_constraint_sides_0 (R : RunT) : Nat → V_constraint_sides_0
  | 0 => fun _ _ _ _ => none
  | j + 1 => s_constraint_sides_0 R (l_constraint_sides_0 R j)
noncomputable def b_constraint_sides (R : RunT) (c0 : V_constraint_sides_0) (x0 : D tTypes) : Res E :=
  (c0 x0.2 (x0.2.length : Int) (0 : Int) ([] : List (D tSide)))
theorem lp_constraint_sides_0_step (k : Nat) (j0 : Nat) : lp_constraint_sides_0 k (j0 + 1) = s_constraint_sides_0 (run M k) (lp_constraint_sides_0 k j0) := by kernel_rfl
theorem lp_constraint_sides_0_zero (k : Nat) : lp_constraint_sides_0 k 0 = fun _ _ _ _ => none := by kernel_rfl
theorem lp_constraint_sides_0_eq (k : Nat) (j0 : Nat) : lp_constraint_sides_0 k j0 = l_constraint_sides_0 (run M k) j0 := by
  induction j0 with
  | zero => exact lp_constraint_sides_0_zero k
  | succ j0 ih => rw [lp_constraint_sides_0_step]; simp only [ih]; rfl
theorem e0_constraint_sides (k : Nat) (x0 : D tTypes) : run M (k + 1) 54 [.val tTypes x0] = b_constraint_sides (run M k) (lp_constraint_sides_0 k k) x0 := by kernel_rfl
theorem e_constraint_sides (k : Nat) (x0 : D tTypes) : run M (k + 1) f_constraint_sides [.val tTypes x0] = b_constraint_sides (run M k) (l_constraint_sides_0 (run M k) k) x0 := by
  rw [show run M (k + 1) f_constraint_sides = run M (k + 1) 54 from rfl, e0_constraint_sides]; simp only [lp_constraint_sides_0_eq]
abbrev V_constraint_bounded_0 := (D (.slice tNodeType)) → (D tI) → (D tI) → (D (.slice tNodeType)) → (D (.slice tEdgeType)) → Res E
noncomputable def lp_constraint_bounded_0 (k : Nat) (j : Nat) (v18 : D (.slice tNodeType)) (v19 : D tI) (v20 : D tI) (b1_0 : D (.slice tNodeType)) (b1_1 : D (.slice tEdgeType)) : Res E :=
  loopAt M k 53 0 [] [] j ⟨51, [(1, .c (.ptr 1 0 0)), (18, .c (.leaf (.slice tNodeType) v18)), (19, .c (.leaf tI v19)), (20, .c (.leaf tI v20))], [(1, 0, .box [.leaf (.slice tNodeType) b1_0, .leaf (.slice tEdgeType) b1_1])]⟩
abbrev V_constraint_bounded_2 := (D tI) → (D tI) → (List (D tSide)) → Res E
noncomputable def lp_constraint_bounded_2 (k : Nat) (j : Nat) (v37 : D tI) (v38 : D tI) (t1002304 : List (D tSide)) : Res E :=
  loopAt M k 53 2 [] [] j ⟨51, [(36, .c (.ref 1002304 0 none)), (37, .c (.leaf tI v37)), (38, .c (.leaf tI v38))], [(1002304, 0, .tok tSide t1002304)]⟩
noncomputable def s_constraint_bounded_0 (R : RunT) (c2 : V_constraint_bounded_2) (self : V_constraint_bounded_0) (v18 : D (.slice tNodeType)) (v19 : D tI) (v20 : D tI) (b1_0 : D (.slice tNodeType)) (b1_1 : D (.slice tEdgeType)) : Res E :=
  (cond (decide (v20 < v19)) (cond (inB v20 (v18.length : Int)) (Option.bind (cond (!((((rd (E := E) (t := tNodeType) v18 v20).2).2).1)) (res .bool (R f_constraint_leaf [.val tTypes (b1_0, b1_1), .val tI v20])) (some (dflt E .bool))) (fun r1 => (cond (cond (!((((rd (E := E) (t := tNodeType) v18 v20).2).2).1)) (!r1) false) (some ⟨tI, (13 : Int)⟩) (self v18 v19 (IntKind.i64.wrap (v20 + (1 : Int))) b1_0 b1_1)))) none) (Option.bind (res (.slice tSide) (R f_constraint_sides [.val tTypes (b1_0, b1_1)])) (fun r2 => (c2 (r2.length : Int) (0 : Int) r2))))
noncomputable def s_constraint_bounded_2 (R : RunT) (self : V_constraint_bounded_2) (v37 : D tI) (v38 : D tI) (t1002304 : List (D tSide)) : Res E :=
  (cond (decide (v38 < v37)) (cond (inB v38 (t1002304.length : Int)) (cond (cond (decide ((1 : Int) < (((((List.getD t1002304 (Int.toNat v38) (dflt E tSide)).2).2).2).2).1)) true (decide ((2 : Int) < (((((List.getD t1002304 (Int.toNat v38) (dflt E tSide)).2).2).2).2).2))) (some ⟨tI, (6 : Int)⟩) (self v37 (IntKind.i64.wrap (v38 + (1 : Int))) t1002304)) none) (some ⟨tI, (0 : Int)⟩))
noncomputable def l_constraint_bounded_0 (R : RunT) (c2 : V_constraint_bounded_2) : Nat → V_constraint_bounded_0
  | 0 => fun _ _ _ _ _ => none
  | j + 1 => s_constraint_bounded_0 R c2 (l_constraint_bounded_0 R c2 j)
noncomputable def l_constraint_bounded_2 (R : RunT) : Nat → V_constraint_bounded_2
  | 0 => fun _ _ _ => none
  | j + 1 => s_constraint_bounded_2 R (l_constraint_bounded_2 R j)
noncomputable def b_constraint_bounded (R : RunT) (c0 : V_constraint_bounded_0) (x0 : D tTypes) : Res E :=
  (Option.bind (res (.pair .str tI) (R f_types_Valid [.val tTypes (x0.1, x0.2)])) (fun r1 => (cond (!(decide (r1.2 = (0 : Int)))) (some ⟨tI, r1.2⟩) (c0 x0.1 (x0.1.length : Int) (0 : Int) x0.1 x0.2))))
theorem lp_constraint_bounded_0_step (k : Nat) (j0 : Nat) : lp_constraint_bounded_0 k (j0 + 1) = s_constraint_bounded_0 (run M k) (lp_constraint_bounded_2 k k) (lp_constraint_bounded_0 k j0) := by kernel_rfl
theorem lp_constraint_bounded_0_zero (k : Nat) : lp_constraint_bounded_0 k 0 = fun _ _ _ _ _ => none := by kernel_rfl
theorem lp_constraint_bounded_0_eq (k : Nat) (j0 : Nat) : lp_constraint_bounded_0 k j0 = l_constraint_bounded_0 (run M k) (lp_constraint_bounded_2 k k) j0 := by
  induction j0 with
  | zero => exact lp_constraint_bounded_0_zero k
  | succ j0 ih => rw [lp_constraint_bounded_0_step]; simp only [ih]; rfl
theorem lp_constraint_bounded_2_step (k : Nat) (j2 : Nat) : lp_constraint_bounded_2 k (j2 + 1) = s_constraint_bounded_2 (run M k) (lp_constraint_bounded_2 k j2) := by kernel_rfl
theorem lp_constraint_bounded_2_zero (k : Nat) : lp_constraint_bounded_2 k 0 = fun _ _ _ => none := by kernel_rfl
theorem lp_constraint_bounded_2_eq (k : Nat) (j2 : Nat) : lp_constraint_bounded_2 k j2 = l_constraint_bounded_2 (run M k) j2 := by
  induction j2 with
  | zero => exact lp_constraint_bounded_2_zero k
  | succ j2 ih => rw [lp_constraint_bounded_2_step]; simp only [ih]; rfl
theorem e0_constraint_bounded (k : Nat) (x0 : D tTypes) : run M (k + 1) 53 [.val tTypes x0] = b_constraint_bounded (run M k) (lp_constraint_bounded_0 k k) x0 := by kernel_rfl
theorem e_constraint_bounded (k : Nat) (x0 : D tTypes) : run M (k + 1) f_constraint_bounded [.val tTypes x0] = b_constraint_bounded (run M k) (l_constraint_bounded_0 (run M k) (l_constraint_bounded_2 (run M k) k) k) x0 := by
  rw [show run M (k + 1) f_constraint_bounded = run M (k + 1) 53 from rfl, e0_constraint_bounded]; simp only [lp_constraint_bounded_0_eq, lp_constraint_bounded_2_eq]
noncomputable def b_types_Is (R : RunT) (x0 : D tTypes) (x1 : D tI) (x2 : D tI) : Res E :=
  (Option.bind (res tI (R f_types_given [.val tTypes (x0.1, x0.2), .val (.slice tI) ([x1, x2] : List (D tI))])) (fun r1 => (Option.bind (cond (decide (r1 = (0 : Int))) (res .bool (R f_types_is [.val tTypes (x0.1, x0.2), .val tI x1, .val tI x2])) (some (dflt E .bool))) (fun r2 => (some ⟨.bool, (cond (decide (r1 = (0 : Int))) r2 false)⟩)))))
theorem e_types_Is (k : Nat) (x0 : D tTypes) (x1 : D tI) (x2 : D tI) : run M (k + 1) f_types_Is [.val tTypes x0, .val tI x1, .val tI x2] = b_types_Is (run M k) x0 x1 x2 := by kernel_rfl
abbrev V_constraint_side_ends_0 := (D tI) → (D tI) → (D tI) → (D .bool) → (D tI) → (D tI) → (D tI) → (D tI) → (D (.slice tNodeType)) → (D (.slice tEdgeType)) → (List (D tI)) → Res E
noncomputable def lp_constraint_side_ends_0 (k : Nat) (j : Nat) (v19 : D tI) (v20 : D tI) (b3_0 : D tI) (b3_1 : D .bool) (b3_2 : D tI) (b3_3 : D tI) (b3_4 : D tI) (b3_5 : D tI) (b4_0 : D (.slice tNodeType)) (b4_1 : D (.slice tEdgeType)) (t500007 : List (D tI)) : Res E :=
  loopAt M k 57 0 [] [] j ⟨39, [(3, .c (.ptr 3 0 0)), (4, .c (.ptr 4 0 0)), (7, .c (.ref 500007 0 none)), (19, .c (.leaf tI v19)), (20, .c (.leaf tI v20))], [(3, 0, .box [.leaf tI b3_0, .leaf .bool b3_1, .leaf tI b3_2, .leaf tI b3_3, .leaf tI b3_4, .leaf tI b3_5]), (4, 0, .box [.leaf (.slice tNodeType) b4_0, .leaf (.slice tEdgeType) b4_1]), (500007, 0, .tok tI t500007)]⟩
noncomputable def s_constraint_side_ends_0 (R : RunT) (self : V_constraint_side_ends_0) (v19 : D tI) (v20 : D tI) (b3_0 : D tI) (b3_1 : D .bool) (b3_2 : D tI) (b3_3 : D tI) (b3_4 : D tI) (b3_5 : D tI) (b4_0 : D (.slice tNodeType)) (b4_1 : D (.slice tEdgeType)) (t500007 : List (D tI)) : Res E :=
  (cond (decide (v20 < v19)) (Option.bind (res .bool (R f_constraint_leaf [.val tTypes (b4_0, b4_1), .val tI v20])) (fun r1 => (Option.bind (cond r1 (res .bool (R f_types_Is [.val tTypes (b4_0, b4_1), .val tI v20, .val tI b3_3])) (some (dflt E .bool))) (fun r2 => (cond (cond r1 r2 false) (cond (roomy (t500007.length + ([v20] : List (D tI)).length) 8) (self v19 (IntKind.i64.wrap (v20 + (1 : Int))) b3_0 b3_1 b3_2 b3_3 b3_4 b3_5 b4_0 b4_1 (t500007 ++ ([v20] : List (D tI)))) none) (self v19 (IntKind.i64.wrap (v20 + (1 : Int))) b3_0 b3_1 b3_2 b3_3 b3_4 b3_5 b4_0 b4_1 t500007)))))) (some ⟨(.slice tI), t500007⟩))
noncomputable def l_constraint_side_ends_0 (R : RunT) : Nat → V_constraint_side_ends_0
  | 0 => fun _ _ _ _ _ _ _ _ _ _ _ => none
  | j + 1 => s_constraint_side_ends_0 R (l_constraint_side_ends_0 R j)
noncomputable def b_constraint_side_ends (R : RunT) (c0 : V_constraint_side_ends_0) (x0 : D tSide) (x1 : D tTypes) (x2 : D tI) : Res E :=
  (Option.bind (res .bool (R f_types_Is [.val tTypes (x1.1, x1.2), .val tI x2, .val tI x0.2.2.2.1])) (fun r1 => (cond r1 (cond (roomy (([(-1 : Int)] : List (D tI)).length) 8) (c0 (x1.1.length : Int) (0 : Int) x0.1 x0.2.1 x0.2.2.1 x0.2.2.2.1 x0.2.2.2.2.1 x0.2.2.2.2.2 x1.1 x1.2 ([(-1 : Int)] : List (D tI))) none) (c0 (x1.1.length : Int) (0 : Int) x0.1 x0.2.1 x0.2.2.1 x0.2.2.2.1 x0.2.2.2.2.1 x0.2.2.2.2.2 x1.1 x1.2 ([] : List (D tI))))))
theorem lp_constraint_side_ends_0_step (k : Nat) (j0 : Nat) : lp_constraint_side_ends_0 k (j0 + 1) = s_constraint_side_ends_0 (run M k) (lp_constraint_side_ends_0 k j0) := by kernel_rfl
theorem lp_constraint_side_ends_0_zero (k : Nat) : lp_constraint_side_ends_0 k 0 = fun _ _ _ _ _ _ _ _ _ _ _ => none := by kernel_rfl
theorem lp_constraint_side_ends_0_eq (k : Nat) (j0 : Nat) : lp_constraint_side_ends_0 k j0 = l_constraint_side_ends_0 (run M k) j0 := by
  induction j0 with
  | zero => exact lp_constraint_side_ends_0_zero k
  | succ j0 ih => rw [lp_constraint_side_ends_0_step]; simp only [ih]; rfl
theorem e0_constraint_side_ends (k : Nat) (x0 : D tSide) (x1 : D tTypes) (x2 : D tI) : run M (k + 1) 57 [.val tSide x0, .val tTypes x1, .val tI x2] = b_constraint_side_ends (run M k) (lp_constraint_side_ends_0 k k) x0 x1 x2 := by kernel_rfl
theorem e_constraint_side_ends (k : Nat) (x0 : D tSide) (x1 : D tTypes) (x2 : D tI) : run M (k + 1) f_constraint_side_ends [.val tSide x0, .val tTypes x1, .val tI x2] = b_constraint_side_ends (run M k) (l_constraint_side_ends_0 (run M k) k) x0 x1 x2 := by
  rw [show run M (k + 1) f_constraint_side_ends = run M (k + 1) 57 from rfl, e0_constraint_side_ends]; simp only [lp_constraint_side_ends_0_eq]
noncomputable def b_constraint_side_link (R : RunT) (x0 : D tSide) (x1 : D tI) : Res E :=
  (cond x0.2.1 (some ⟨tEdge, (x0.1, ((0 : Int), x1))⟩) (some ⟨tEdge, (x0.1, (x1, (0 : Int)))⟩))
theorem e_constraint_side_link (k : Nat) (x0 : D tSide) (x1 : D tI) : run M (k + 1) f_constraint_side_link [.val tSide x0, .val tI x1] = b_constraint_side_link (run M k) x0 x1 := by kernel_rfl
abbrev V_constraint_side_least_0 := (D tI) → (D (.slice tI)) → (D tI) → (D tI) → (D tI) → (D .bool) → (D tI) → (D tI) → (D tI) → (D tI) → (D .str) → (D tI) → (D .str) → (D tI) → (List (D tI)) → (List (D tExtension)) → Res E
noncomputable def lp_constraint_side_least_0 (k : Nat) (j : Nat) (v1 : D tI) (v22 : D (.slice tI)) (v23 : D tI) (v24 : D tI) (b3_0 : D tI) (b3_1 : D .bool) (b3_2 : D tI) (b3_3 : D tI) (b3_4 : D tI) (b3_5 : D tI) (b6_0 : D .str) (b6_1 : D tI) (b8_0 : D .str) (b8_1 : D tI) (t13 : List (D tI)) (t600516 : List (D tExtension)) : Res E :=
  loopAt M k 58 0 [] [] j ⟨54, [(1, .c (.leaf tI v1)), (3, .c (.ptr 3 0 0)), (6, .c (.ptr 6 0 0)), (8, .c (.ptr 8 0 0)), (22, .c (.leaf (.slice tI) v22)), (23, .c (.leaf tI v23)), (24, .c (.leaf tI v24))], [(3, 0, .box [.leaf tI b3_0, .leaf .bool b3_1, .leaf tI b3_2, .leaf tI b3_3, .leaf tI b3_4, .leaf tI b3_5]), (6, 0, .box [.leaf .str b6_0, .leaf tI b6_1, .nilS, .nilS, .nilS]), (8, 0, .box [.leaf .str b8_0, .leaf tI b8_1, .ref 13 0 none, .nilS, .ref 600516 0 none]), (13, 0, .tok tI t13), (600516, 0, .tok tExtension t600516)]⟩
noncomputable def s_constraint_side_least_0 (R : RunT) (self : V_constraint_side_least_0) (v1 : D tI) (v22 : D (.slice tI)) (v23 : D tI) (v24 : D tI) (b3_0 : D tI) (b3_1 : D .bool) (b3_2 : D tI) (b3_3 : D tI) (b3_4 : D tI) (b3_5 : D tI) (b6_0 : D .str) (b6_1 : D tI) (b8_0 : D .str) (b8_1 : D tI) (t13 : List (D tI)) (t600516 : List (D tExtension)) : Res E :=
  (cond (decide (v24 < v23)) (cond (inB v24 (v22.length : Int)) (Option.bind (res tEdge (R f_constraint_side_link [.val tSide (b3_0, (b3_1, (b3_2, (b3_3, (b3_4, b3_5))))), .val tI (0 : Int)])) (fun r1 => (cond (!(decide ((rd (E := E) (t := tI) v22 v24) = (-1 : Int)))) (Option.bind (res tEdge (R f_constraint_side_link [.val tSide (b3_0, (b3_1, (b3_2, (b3_3, (b3_4, b3_5))))), .val tI (1 : Int)])) (fun r2 => (cond (roomy (t600516.length + ([((([(0 : Int)] : List (D tI)), ([] : List (D tI))), (([v1, (rd (E := E) (t := tI) v22 v24)] : List (D tI)), ([(r2.1, (r2.2.1, r2.2.2))] : List (D tEdge))))] : List (D tExtension)).length) 96) (self v1 v22 v23 (IntKind.i64.wrap (v24 + (1 : Int))) b3_0 b3_1 b3_2 b3_3 b3_4 b3_5 b6_0 b6_1 b8_0 b8_1 t13 (t600516 ++ ([((([(0 : Int)] : List (D tI)), ([] : List (D tI))), (([v1, (rd (E := E) (t := tI) v22 v24)] : List (D tI)), ([(r2.1, (r2.2.1, r2.2.2))] : List (D tEdge))))] : List (D tExtension)))) none))) (cond (roomy (t600516.length + ([((([(0 : Int)] : List (D tI)), ([] : List (D tI))), (([v1] : List (D tI)), ([(r1.1, (r1.2.1, r1.2.2))] : List (D tEdge))))] : List (D tExtension)).length) 96) (self v1 v22 v23 (IntKind.i64.wrap (v24 + (1 : Int))) b3_0 b3_1 b3_2 b3_3 b3_4 b3_5 b6_0 b6_1 b8_0 b8_1 t13 (t600516 ++ ([((([(0 : Int)] : List (D tI)), ([] : List (D tI))), (([v1] : List (D tI)), ([(r1.1, (r1.2.1, r1.2.2))] : List (D tEdge))))] : List (D tExtension)))) none)))) none) (some ⟨(.pair .str (.pair tI (.pair (.slice tI) (.pair (.slice tEdge) (.slice tExtension))))), (b8_0, (b8_1, (t13, (([] : List (D tEdge)), t600516))))⟩))
noncomputable def l_constraint_side_least_0 (R : RunT) : Nat → V_constraint_side_least_0
  | 0 => fun _ _ _ _ _ _ _ _ _ _ _ _ _ _ _ _ => none
  | j + 1 => s_constraint_side_least_0 R (l_constraint_side_least_0 R j)
noncomputable def b_constraint_side_least (R : RunT) (c0 : V_constraint_side_least_0) (x0 : D tSide) (x1 : D tI) (x2 : D (.slice tI)) : Res E :=
  (cond (decide ((x2.length : Int) = (0 : Int))) (some ⟨(.pair .str (.pair tI (.pair (.slice tI) (.pair (.slice tEdge) (.slice tExtension))))), ((⟨#[]⟩ : ByteArray), ((1 : Int), (([x1] : List (D tI)), (([] : List (D tEdge)), ([] : List (D tExtension))))))⟩) (c0 x1 x2 (x2.length : Int) (0 : Int) x0.1 x0.2.1 x0.2.2.1 x0.2.2.2.1 x0.2.2.2.2.1 x0.2.2.2.2.2 (⟨#[]⟩ : ByteArray) (0 : Int) (⟨#[]⟩ : ByteArray) (2 : Int) ([x1] : List (D tI)) ([] : List (D tExtension))))
theorem lp_constraint_side_least_0_step (k : Nat) (j0 : Nat) : lp_constraint_side_least_0 k (j0 + 1) = s_constraint_side_least_0 (run M k) (lp_constraint_side_least_0 k j0) := by kernel_rfl
theorem lp_constraint_side_least_0_zero (k : Nat) : lp_constraint_side_least_0 k 0 = fun _ _ _ _ _ _ _ _ _ _ _ _ _ _ _ _ => none := by kernel_rfl
theorem lp_constraint_side_least_0_eq (k : Nat) (j0 : Nat) : lp_constraint_side_least_0 k j0 = l_constraint_side_least_0 (run M k) j0 := by
  induction j0 with
  | zero => exact lp_constraint_side_least_0_zero k
  | succ j0 ih => rw [lp_constraint_side_least_0_step]; simp only [ih]; rfl
theorem e0_constraint_side_least (k : Nat) (x0 : D tSide) (x1 : D tI) (x2 : D (.slice tI)) : run M (k + 1) 58 [.val tSide x0, .val tI x1, .val (.slice tI) x2] = b_constraint_side_least (run M k) (lp_constraint_side_least_0 k k) x0 x1 x2 := by kernel_rfl
theorem e_constraint_side_least (k : Nat) (x0 : D tSide) (x1 : D tI) (x2 : D (.slice tI)) : run M (k + 1) f_constraint_side_least [.val tSide x0, .val tI x1, .val (.slice tI) x2] = b_constraint_side_least (run M k) (l_constraint_side_least_0 (run M k) k) x0 x1 x2 := by
  rw [show run M (k + 1) f_constraint_side_least = run M (k + 1) 58 from rfl, e0_constraint_side_least]; simp only [lp_constraint_side_least_0_eq]
abbrev V_partition_All_0 := (D tI) → (D tI) → (List (D (.slice tI))) → Res E
noncomputable def lp_partition_All_0 (k : Nat) (j : Nat) (v15 : D tI) (v16 : D tI) (t500004 : List (D (.slice tI))) : Res E :=
  loopAt M k 101 0 [] [] j ⟨54, [(4, .c (.ref 500004 0 none)), (15, .c (.leaf tI v15)), (16, .c (.leaf tI v16))], [(500004, 0, .tok (.slice tI) t500004)]⟩
abbrev V_partition_All_2 := (D tI) → (D tI) → (D tI) → (D tI) → (D tI) → (List (D (.slice tI))) → (List (D (.slice tI))) → Res E
noncomputable def lp_partition_All_2 (k : Nat) (j0 : Nat) (j : Nat) (v5 : D tI) (v15 : D tI) (v16 : D tI) (v20 : D tI) (v21 : D tI) (t500004 : List (D (.slice tI))) (t500006 : List (D (.slice tI))) : Res E :=
  loopAt M k 101 2 [] [j0] j ⟨54, [(5, .c (.leaf tI v5)), (6, .c (.ref 500006 0 none)), (15, .c (.leaf tI v15)), (16, .c (.leaf tI v16)), (19, .c (.ref 500004 0 none)), (20, .c (.leaf tI v20)), (21, .c (.leaf tI v21))], [(500004, 0, .tok (.slice tI) t500004), (500006, 0, .tok (.slice tI) t500006)]⟩
abbrev V_partition_All_4 := (D tI) → (D (.slice tI)) → (D tI) → (D tI) → (D tI) → (D tI) → (D tI) → (D tI) → (List (D (.slice tI))) → (List (D (.slice tI))) → Res E
noncomputable def lp_partition_All_4 (k : Nat) (j0 j2 : Nat) (j : Nat) (v5 : D tI) (v8 : D (.slice tI)) (v15 : D tI) (v16 : D tI) (v20 : D tI) (v21 : D tI) (v26 : D tI) (v27 : D tI) (t500004 : List (D (.slice tI))) (t500006 : List (D (.slice tI))) : Res E :=
  loopAt M k 101 4 [] [j0, j2] j ⟨54, [(5, .c (.leaf tI v5)), (6, .c (.ref 500006 0 none)), (8, .c (.leaf (.slice tI) v8)), (15, .c (.leaf tI v15)), (16, .c (.leaf tI v16)), (19, .c (.ref 500004 0 none)), (20, .c (.leaf tI v20)), (21, .c (.leaf tI v21)), (26, .c (.leaf tI v26)), (27, .c (.leaf tI v27))], [(500004, 0, .tok (.slice tI) t500004), (500006, 0, .tok (.slice tI) t500006)]⟩
noncomputable def s_partition_All_4 (R : RunT) (c2 : V_partition_All_2) (self : V_partition_All_4) (v5 : D tI) (v8 : D (.slice tI)) (v15 : D tI) (v16 : D tI) (v20 : D tI) (v21 : D tI) (v26 : D tI) (v27 : D tI) (t500004 : List (D (.slice tI))) (t500006 : List (D (.slice tI))) : Res E :=
  (cond (decide (v27 < v26)) (cond ((inB v27 (v8.length : Int)) || !(!(decide (v27 = v5)))) (cond (cond (decide (v27 = v5)) true (decide ((rd (E := E) (t := tI) v8 v27) = v27))) (Option.bind (res (.slice tI) (R f_slices_Clone_int [.val (.slice tI) v8])) (fun r1 => (cond (roomy (r1.length + ([v27] : List (D tI)).length) 8) (cond (roomy (t500006.length + ([(r1 ++ ([v27] : List (D tI)))] : List (D (.slice tI))).length) 24) (self v5 v8 v15 v16 v20 v21 v26 (IntKind.i64.wrap (v27 + (1 : Int))) t500004 (t500006 ++ ([(r1 ++ ([v27] : List (D tI)))] : List (D (.slice tI))))) none) none))) (self v5 v8 v15 v16 v20 v21 v26 (IntKind.i64.wrap (v27 + (1 : Int))) t500004 t500006)) none) (c2 v5 v15 v16 v20 (IntKind.i64.wrap (v21 + (1 : Int))) t500004 t500006))
noncomputable def s_partition_All_2 (R : RunT) (c4 : V_partition_All_4) (c0 : V_partition_All_0) (self : V_partition_All_2) (v5 : D tI) (v15 : D tI) (v16 : D tI) (v20 : D tI) (v21 : D tI) (t500004 : List (D (.slice tI))) (t500006 : List (D (.slice tI))) : Res E :=
  (cond (decide (v21 < v20)) (cond (inB v21 (t500004.length : Int)) (c4 v5 (List.getD t500004 (Int.toNat v21) (dflt E (.slice tI))) v15 v16 v20 v21 (IntKind.i64.wrap (v5 + (1 : Int))) (0 : Int) t500004 t500006) none) (c0 v15 (IntKind.i64.wrap (v16 + (1 : Int))) t500006))
noncomputable def s_partition_All_0 (R : RunT) (c2 : V_partition_All_2) (self : V_partition_All_0) (v15 : D tI) (v16 : D tI) (t500004 : List (D (.slice tI))) : Res E :=
  (cond (decide (v16 < v15)) (c2 v16 v15 v16 (t500004.length : Int) (0 : Int) t500004 ([] : List (D (.slice tI)))) (some ⟨(.pair (.slice (.slice tI)) tI), (t500004, (0 : Int))⟩))
noncomputable def l_partition_All_4 (R : RunT) (c2 : V_partition_All_2) : Nat → V_partition_All_4
  | 0 => fun _ _ _ _ _ _ _ _ _ _ => none
  | j + 1 => s_partition_All_4 R c2 (l_partition_All_4 R c2 j)
noncomputable def l_partition_All_2 (R : RunT) (c0 : V_partition_All_0) : Nat → V_partition_All_2
  | 0 => fun _ _ _ _ _ _ _ => none
  | j + 1 => s_partition_All_2 R (l_partition_All_4 R (l_partition_All_2 R c0 j) j) c0 (l_partition_All_2 R c0 j)
noncomputable def l_partition_All_0 (R : RunT) : Nat → V_partition_All_0
  | 0 => fun _ _ _ => none
  | j + 1 => s_partition_All_0 R (l_partition_All_2 R (l_partition_All_0 R j) j) (l_partition_All_0 R j)
noncomputable def b_partition_All (R : RunT) (c0 : V_partition_All_0) (x0 : D tI) : Res E :=
  (cond (decide ((7 : Int) < x0)) (some ⟨(.pair (.slice (.slice tI)) tI), (([] : List (D (.slice tI))), (3 : Int))⟩) (cond (decide (x0 < (0 : Int))) (some ⟨(.pair (.slice (.slice tI)) tI), (([] : List (D (.slice tI))), (6 : Int))⟩) (c0 x0 (0 : Int) ([([] : List (D tI))] : List (D (.slice tI))))))
theorem lp_partition_All_4_step (k : Nat) (j0 : Nat) (j2 : Nat) (j4 : Nat) : lp_partition_All_4 k j0 j2 (j4 + 1) = s_partition_All_4 (run M k) (lp_partition_All_2 k j0 j2) (lp_partition_All_4 k j0 j2 j4) := by kernel_rfl
theorem lp_partition_All_4_zero (k : Nat) (j0 : Nat) (j2 : Nat) : lp_partition_All_4 k j0 j2 0 = fun _ _ _ _ _ _ _ _ _ _ => none := by kernel_rfl
theorem lp_partition_All_4_eq (k : Nat) (j0 : Nat) (j2 : Nat) (j4 : Nat) : lp_partition_All_4 k j0 j2 j4 = l_partition_All_4 (run M k) (lp_partition_All_2 k j0 j2) j4 := by
  induction j4 with
  | zero => exact lp_partition_All_4_zero k j0 j2
  | succ j4 ih => rw [lp_partition_All_4_step]; simp only [ih]; rfl
theorem lp_partition_All_2_step (k : Nat) (j0 : Nat) (j2 : Nat) : lp_partition_All_2 k j0 (j2 + 1) = s_partition_All_2 (run M k) (lp_partition_All_4 k j0 j2 j2) (lp_partition_All_0 k j0) (lp_partition_All_2 k j0 j2) := by kernel_rfl
theorem lp_partition_All_2_zero (k : Nat) (j0 : Nat) : lp_partition_All_2 k j0 0 = fun _ _ _ _ _ _ _ => none := by kernel_rfl
theorem lp_partition_All_2_eq (k : Nat) (j0 : Nat) (j2 : Nat) : lp_partition_All_2 k j0 j2 = l_partition_All_2 (run M k) (lp_partition_All_0 k j0) j2 := by
  induction j2 with
  | zero => exact lp_partition_All_2_zero k j0
  | succ j2 ih => rw [lp_partition_All_2_step]; simp only [lp_partition_All_4_eq, ih]; rfl
theorem lp_partition_All_0_step (k : Nat) (j0 : Nat) : lp_partition_All_0 k (j0 + 1) = s_partition_All_0 (run M k) (lp_partition_All_2 k j0 j0) (lp_partition_All_0 k j0) := by kernel_rfl
theorem lp_partition_All_0_zero (k : Nat) : lp_partition_All_0 k 0 = fun _ _ _ => none := by kernel_rfl
theorem lp_partition_All_0_eq (k : Nat) (j0 : Nat) : lp_partition_All_0 k j0 = l_partition_All_0 (run M k) j0 := by
  induction j0 with
  | zero => exact lp_partition_All_0_zero k
  | succ j0 ih => rw [lp_partition_All_0_step]; simp only [lp_partition_All_2_eq, ih]; rfl
theorem e0_partition_All (k : Nat) (x0 : D tI) : run M (k + 1) 101 [.val tI x0] = b_partition_All (run M k) (lp_partition_All_0 k k) x0 := by kernel_rfl
theorem e_partition_All (k : Nat) (x0 : D tI) : run M (k + 1) f_partition_All [.val tI x0] = b_partition_All (run M k) (l_partition_All_0 (run M k) k) x0 := by
  rw [show run M (k + 1) f_partition_All = run M (k + 1) 101 from rfl, e0_partition_All]; simp only [lp_partition_All_0_eq]
abbrev V_partition_right_0 := (D (.slice tI)) → (D (.slice tI)) → (D tI) → (D tI) → Res E
noncomputable def lp_partition_right_0 (k : Nat) (j : Nat) (v0 : D (.slice tI)) (v5 : D (.slice tI)) (v6 : D tI) (v7 : D tI) : Res E :=
  loopAt M k 160 0 [] [] j ⟨28, [(0, .c (.leaf (.slice tI) v0)), (5, .c (.leaf (.slice tI) v5)), (6, .c (.leaf tI v6)), (7, .c (.leaf tI v7))], []⟩
noncomputable def s_partition_right_0 (R : RunT) (self : V_partition_right_0) (v0 : D (.slice tI)) (v5 : D (.slice tI)) (v6 : D tI) (v7 : D tI) : Res E :=
  (cond (decide (v7 < v6)) (cond (inB v7 (v5.length : Int)) (cond ((inB (rd (E := E) (t := tI) v5 v7) (v0.length : Int)) || !(!(cond (decide ((rd (E := E) (t := tI) v5 v7) < (0 : Int))) true (decide (v7 < (rd (E := E) (t := tI) v5 v7)))))) (cond (cond (cond (decide ((rd (E := E) (t := tI) v5 v7) < (0 : Int))) true (decide (v7 < (rd (E := E) (t := tI) v5 v7)))) true (!(decide ((rd (E := E) (t := tI) v0 (rd (E := E) (t := tI) v5 v7)) = (rd (E := E) (t := tI) v5 v7))))) (some ⟨.bool, false⟩) (self v0 v5 v6 (IntKind.i64.wrap (v7 + (1 : Int))))) none) none) (some ⟨.bool, true⟩))
noncomputable def l_partition_right_0 (R : RunT) : Nat → V_partition_right_0
  | 0 => fun _ _ _ _ => none
  | j + 1 => s_partition_right_0 R (l_partition_right_0 R j)
noncomputable def b_partition_right (R : RunT) (c0 : V_partition_right_0) (x0 : D (.slice tI)) : Res E :=
  (c0 x0 x0 (x0.length : Int) (0 : Int))
theorem lp_partition_right_0_step (k : Nat) (j0 : Nat) : lp_partition_right_0 k (j0 + 1) = s_partition_right_0 (run M k) (lp_partition_right_0 k j0) := by kernel_rfl
theorem lp_partition_right_0_zero (k : Nat) : lp_partition_right_0 k 0 = fun _ _ _ _ => none := by kernel_rfl
theorem lp_partition_right_0_eq (k : Nat) (j0 : Nat) : lp_partition_right_0 k j0 = l_partition_right_0 (run M k) j0 := by
  induction j0 with
  | zero => exact lp_partition_right_0_zero k
  | succ j0 ih => rw [lp_partition_right_0_step]; simp only [ih]; rfl
theorem e0_partition_right (k : Nat) (x0 : D (.slice tI)) : run M (k + 1) 160 [.val (.slice tI) x0] = b_partition_right (run M k) (lp_partition_right_0 k k) x0 := by kernel_rfl
theorem e_partition_right (k : Nat) (x0 : D (.slice tI)) : run M (k + 1) f_partition_right [.val (.slice tI) x0] = b_partition_right (run M k) (l_partition_right_0 (run M k) k) x0 := by
  rw [show run M (k + 1) f_partition_right = run M (k + 1) 160 from rfl, e0_partition_right]; simp only [lp_partition_right_0_eq]
noncomputable def b_partition_one (R : RunT) (x0 : D (.slice tI)) : Res E :=
  (cond (decide ((80 : Int) < (x0.length : Int))) (some ⟨tI, (3 : Int)⟩) (Option.bind (res .bool (R f_partition_right [.val (.slice tI) x0])) (fun r1 => (cond (!r1) (some ⟨tI, (1 : Int)⟩) (some ⟨tI, (0 : Int)⟩)))))
theorem e_partition_one (k : Nat) (x0 : D (.slice tI)) : run M (k + 1) f_partition_one [.val (.slice tI) x0] = b_partition_one (run M k) x0 := by kernel_rfl
abbrev V_partition_Quotient_0 := (D tI) → (D (.slice tI)) → (D tI) → (D tI) → (List (D tI)) → Res E
noncomputable def lp_partition_Quotient_0 (k : Nat) (j : Nat) (v7 : D tI) (v15 : D (.slice tI)) (v16 : D tI) (v17 : D tI) (t500006 : List (D tI)) : Res E :=
  loopAt M k 102 0 [] [] j ⟨41, [(6, .c (.ref 500006 0 none)), (7, .c (.leaf tI v7)), (15, .c (.leaf (.slice tI) v15)), (16, .c (.leaf tI v16)), (17, .c (.leaf tI v17))], [(500006, 0, .tok tI t500006)]⟩
noncomputable def s_partition_Quotient_0 (R : RunT) (self : V_partition_Quotient_0) (v7 : D tI) (v15 : D (.slice tI)) (v16 : D tI) (v17 : D tI) (t500006 : List (D tI)) : Res E :=
  (cond (decide (v17 < v16)) (cond (inB v17 (v15.length : Int)) (cond (decide ((rd (E := E) (t := tI) v15 v17) = v17)) (cond (roomy (t500006.length + ([v7] : List (D tI)).length) 8) (self (IntKind.i64.wrap (v7 + (1 : Int))) v15 v16 (IntKind.i64.wrap (v17 + (1 : Int))) (t500006 ++ ([v7] : List (D tI)))) none) (cond (inB (rd (E := E) (t := tI) v15 v17) (t500006.length : Int)) (cond (roomy (t500006.length + ([(List.getD t500006 (Int.toNat (rd (E := E) (t := tI) v15 v17)) (dflt E tI))] : List (D tI)).length) 8) (self v7 v15 v16 (IntKind.i64.wrap (v17 + (1 : Int))) (t500006 ++ ([(List.getD t500006 (Int.toNat (rd (E := E) (t := tI) v15 v17)) (dflt E tI))] : List (D tI)))) none) none)) none) (some ⟨(.pair (.slice tI) tTerm), (t500006, (v7, (0 : Int)))⟩))
noncomputable def l_partition_Quotient_0 (R : RunT) : Nat → V_partition_Quotient_0
  | 0 => fun _ _ _ _ _ => none
  | j + 1 => s_partition_Quotient_0 R (l_partition_Quotient_0 R j)
noncomputable def b_partition_Quotient (R : RunT) (c0 : V_partition_Quotient_0) (x0 : D (.slice tI)) : Res E :=
  (Option.bind (res tI (R f_partition_one [.val (.slice tI) x0])) (fun r1 => (cond (!(decide (r1 = (0 : Int)))) (some ⟨(.pair (.slice tI) tTerm), (([] : List (D tI)), ((0 : Int), r1))⟩) (c0 (0 : Int) x0 (x0.length : Int) (0 : Int) ([] : List (D tI))))))
theorem lp_partition_Quotient_0_step (k : Nat) (j0 : Nat) : lp_partition_Quotient_0 k (j0 + 1) = s_partition_Quotient_0 (run M k) (lp_partition_Quotient_0 k j0) := by kernel_rfl
theorem lp_partition_Quotient_0_zero (k : Nat) : lp_partition_Quotient_0 k 0 = fun _ _ _ _ _ => none := by kernel_rfl
theorem lp_partition_Quotient_0_eq (k : Nat) (j0 : Nat) : lp_partition_Quotient_0 k j0 = l_partition_Quotient_0 (run M k) j0 := by
  induction j0 with
  | zero => exact lp_partition_Quotient_0_zero k
  | succ j0 ih => rw [lp_partition_Quotient_0_step]; simp only [ih]; rfl
theorem e0_partition_Quotient (k : Nat) (x0 : D (.slice tI)) : run M (k + 1) 102 [.val (.slice tI) x0] = b_partition_Quotient (run M k) (lp_partition_Quotient_0 k k) x0 := by kernel_rfl
theorem e_partition_Quotient (k : Nat) (x0 : D (.slice tI)) : run M (k + 1) f_partition_Quotient [.val (.slice tI) x0] = b_partition_Quotient (run M k) (l_partition_Quotient_0 (run M k) k) x0 := by
  rw [show run M (k + 1) f_partition_Quotient = run M (k + 1) 102 from rfl, e0_partition_Quotient]; simp only [lp_partition_Quotient_0_eq]
end Go.Proofs.AM

namespace Go.Proofs.AM
open Go
set_option maxRecDepth 100000
abbrev V_constraint_choices_0 := (D (.slice tI)) → (D tI) → (D tI) → (List (D (.slice tI))) → Res E
noncomputable def lp_constraint_choices_0 (k : Nat) (j : Nat) (v0 : D (.slice tI)) (v12 : D tI) (v13 : D tI) (t500005 : List (D (.slice tI))) : Res E :=
  loopAt M k 103 0 [] [] j ⟨47, [(0, .c (.leaf (.slice tI) v0)), (5, .c (.ref 500005 0 none)), (12, .c (.leaf tI v12)), (13, .c (.leaf tI v13))], [(500005, 0, .tok (.slice tI) t500005)]⟩
abbrev V_constraint_choices_2 := (D (.slice tI)) → (D tI) → (D tI) → (D tI) → (D tI) → (List (D (.slice tI))) → (List (D (.slice tI))) → Res E
noncomputable def lp_constraint_choices_2 (k : Nat) (j0 : Nat) (j : Nat) (v0 : D (.slice tI)) (v12 : D tI) (v13 : D tI) (v16 : D tI) (v17 : D tI) (t500005 : List (D (.slice tI))) (t500006 : List (D (.slice tI))) : Res E :=
  loopAt M k 103 2 [] [j0] j ⟨47, [(0, .c (.leaf (.slice tI) v0)), (6, .c (.ref 500006 0 none)), (12, .c (.leaf tI v12)), (13, .c (.leaf tI v13)), (15, .c (.ref 500005 0 none)), (16, .c (.leaf tI v16)), (17, .c (.leaf tI v17))], [(500005, 0, .tok (.slice tI) t500005), (500006, 0, .tok (.slice tI) t500006)]⟩
abbrev V_constraint_choices_4 := (D (.slice tI)) → (D (.slice tI)) → (D tI) → (D tI) → (D tI) → (D tI) → (D (.slice tI)) → (D tI) → (D tI) → (List (D (.slice tI))) → (List (D (.slice tI))) → Res E
noncomputable def lp_constraint_choices_4 (k : Nat) (j0 j2 : Nat) (j : Nat) (v0 : D (.slice tI)) (v8 : D (.slice tI)) (v12 : D tI) (v13 : D tI) (v16 : D tI) (v17 : D tI) (v21 : D (.slice tI)) (v22 : D tI) (v23 : D tI) (t500005 : List (D (.slice tI))) (t500006 : List (D (.slice tI))) : Res E :=
  loopAt M k 103 4 [] [j0, j2] j ⟨47, [(0, .c (.leaf (.slice tI) v0)), (6, .c (.ref 500006 0 none)), (8, .c (.leaf (.slice tI) v8)), (12, .c (.leaf tI v12)), (13, .c (.leaf tI v13)), (15, .c (.ref 500005 0 none)), (16, .c (.leaf tI v16)), (17, .c (.leaf tI v17)), (21, .c (.leaf (.slice tI) v21)), (22, .c (.leaf tI v22)), (23, .c (.leaf tI v23))], [(500005, 0, .tok (.slice tI) t500005), (500006, 0, .tok (.slice tI) t500006)]⟩
noncomputable def s_constraint_choices_4 (R : RunT) (c2 : V_constraint_choices_2) (self : V_constraint_choices_4) (v0 : D (.slice tI)) (v8 : D (.slice tI)) (v12 : D tI) (v13 : D tI) (v16 : D tI) (v17 : D tI) (v21 : D (.slice tI)) (v22 : D tI) (v23 : D tI) (t500005 : List (D (.slice tI))) (t500006 : List (D (.slice tI))) : Res E :=
  (cond (decide (v23 < v22)) (cond (inB v23 (v21.length : Int)) (Option.bind (cond (!(!(decide ((rd (E := E) (t := tI) v21 v23) = (-1 : Int))))) (res .bool (R f_slices_Contains_int [.val (.slice tI) v8, .val tI (-1 : Int)])) (some (dflt E .bool))) (fun r1 => (cond (cond (!(decide ((rd (E := E) (t := tI) v21 v23) = (-1 : Int)))) true (!r1)) (Option.bind (res (.slice tI) (R f_slices_Clone_int [.val (.slice tI) v8])) (fun r2 => (cond (roomy (r2.length + ([(rd (E := E) (t := tI) v21 v23)] : List (D tI)).length) 8) (cond (roomy (t500006.length + ([(r2 ++ ([(rd (E := E) (t := tI) v21 v23)] : List (D tI)))] : List (D (.slice tI))).length) 24) (self v0 v8 v12 v13 v16 v17 v21 v22 (IntKind.i64.wrap (v23 + (1 : Int))) t500005 (t500006 ++ ([(r2 ++ ([(rd (E := E) (t := tI) v21 v23)] : List (D tI)))] : List (D (.slice tI))))) none) none))) (self v0 v8 v12 v13 v16 v17 v21 v22 (IntKind.i64.wrap (v23 + (1 : Int))) t500005 t500006)))) none) (c2 v0 v12 v13 v16 (IntKind.i64.wrap (v17 + (1 : Int))) t500005 t500006))
noncomputable def s_constraint_choices_2 (R : RunT) (c4 : V_constraint_choices_4) (c0 : V_constraint_choices_0) (self : V_constraint_choices_2) (v0 : D (.slice tI)) (v12 : D tI) (v13 : D tI) (v16 : D tI) (v17 : D tI) (t500005 : List (D (.slice tI))) (t500006 : List (D (.slice tI))) : Res E :=
  (cond (decide (v17 < v16)) (cond (inB v17 (t500005.length : Int)) (c4 v0 (List.getD t500005 (Int.toNat v17) (dflt E (.slice tI))) v12 v13 v16 v17 v0 (v0.length : Int) (0 : Int) t500005 t500006) none) (c0 v0 v12 (IntKind.i64.wrap (v13 + (1 : Int))) t500006))
noncomputable def s_constraint_choices_0 (R : RunT) (c2 : V_constraint_choices_2) (self : V_constraint_choices_0) (v0 : D (.slice tI)) (v12 : D tI) (v13 : D tI) (t500005 : List (D (.slice tI))) : Res E :=
  (cond (decide (v13 < v12)) (c2 v0 v12 v13 (t500005.length : Int) (0 : Int) t500005 ([] : List (D (.slice tI)))) (some ⟨(.slice (.slice tI)), t500005⟩))
noncomputable def l_constraint_choices_4 (R : RunT) (c2 : V_constraint_choices_2) : Nat → V_constraint_choices_4
  | 0 => fun _ _ _ _ _ _ _ _ _ _ _ => none
  | j + 1 => s_constraint_choices_4 R c2 (l_constraint_choices_4 R c2 j)
noncomputable def l_constraint_choices_2 (R : RunT) (c0 : V_constraint_choices_0) : Nat → V_constraint_choices_2
  | 0 => fun _ _ _ _ _ _ _ => none
  | j + 1 => s_constraint_choices_2 R (l_constraint_choices_4 R (l_constraint_choices_2 R c0 j) j) c0 (l_constraint_choices_2 R c0 j)
noncomputable def l_constraint_choices_0 (R : RunT) : Nat → V_constraint_choices_0
  | 0 => fun _ _ _ _ => none
  | j + 1 => s_constraint_choices_0 R (l_constraint_choices_2 R (l_constraint_choices_0 R j) j) (l_constraint_choices_0 R j)
noncomputable def b_constraint_choices (R : RunT) (c0 : V_constraint_choices_0) (x0 : D (.slice tI)) (x1 : D tI) : Res E :=
  (c0 x0 x1 (0 : Int) ([([] : List (D tI))] : List (D (.slice tI))))
theorem lp_constraint_choices_4_step (k : Nat) (j0 : Nat) (j2 : Nat) (j4 : Nat) : lp_constraint_choices_4 k j0 j2 (j4 + 1) = s_constraint_choices_4 (run M k) (lp_constraint_choices_2 k j0 j2) (lp_constraint_choices_4 k j0 j2 j4) := by kernel_rfl
theorem lp_constraint_choices_4_zero (k : Nat) (j0 : Nat) (j2 : Nat) : lp_constraint_choices_4 k j0 j2 0 = fun _ _ _ _ _ _ _ _ _ _ _ => none := by kernel_rfl
theorem lp_constraint_choices_4_eq (k : Nat) (j0 : Nat) (j2 : Nat) (j4 : Nat) : lp_constraint_choices_4 k j0 j2 j4 = l_constraint_choices_4 (run M k) (lp_constraint_choices_2 k j0 j2) j4 := by
  induction j4 with
  | zero => exact lp_constraint_choices_4_zero k j0 j2
  | succ j4 ih => rw [lp_constraint_choices_4_step]; simp only [ih]; rfl
theorem lp_constraint_choices_2_step (k : Nat) (j0 : Nat) (j2 : Nat) : lp_constraint_choices_2 k j0 (j2 + 1) = s_constraint_choices_2 (run M k) (lp_constraint_choices_4 k j0 j2 j2) (lp_constraint_choices_0 k j0) (lp_constraint_choices_2 k j0 j2) := by kernel_rfl
theorem lp_constraint_choices_2_zero (k : Nat) (j0 : Nat) : lp_constraint_choices_2 k j0 0 = fun _ _ _ _ _ _ _ => none := by kernel_rfl
theorem lp_constraint_choices_2_eq (k : Nat) (j0 : Nat) (j2 : Nat) : lp_constraint_choices_2 k j0 j2 = l_constraint_choices_2 (run M k) (lp_constraint_choices_0 k j0) j2 := by
  induction j2 with
  | zero => exact lp_constraint_choices_2_zero k j0
  | succ j2 ih => rw [lp_constraint_choices_2_step]; simp only [lp_constraint_choices_4_eq, ih]; rfl
theorem lp_constraint_choices_0_step (k : Nat) (j0 : Nat) : lp_constraint_choices_0 k (j0 + 1) = s_constraint_choices_0 (run M k) (lp_constraint_choices_2 k j0 j0) (lp_constraint_choices_0 k j0) := by kernel_rfl
theorem lp_constraint_choices_0_zero (k : Nat) : lp_constraint_choices_0 k 0 = fun _ _ _ _ => none := by kernel_rfl
theorem lp_constraint_choices_0_eq (k : Nat) (j0 : Nat) : lp_constraint_choices_0 k j0 = l_constraint_choices_0 (run M k) j0 := by
  induction j0 with
  | zero => exact lp_constraint_choices_0_zero k
  | succ j0 ih => rw [lp_constraint_choices_0_step]; simp only [lp_constraint_choices_2_eq, ih]; rfl
theorem e0_constraint_choices (k : Nat) (x0 : D (.slice tI)) (x1 : D tI) : run M (k + 1) 103 [.val (.slice tI) x0, .val tI x1] = b_constraint_choices (run M k) (lp_constraint_choices_0 k k) x0 x1 := by kernel_rfl
theorem e_constraint_choices (k : Nat) (x0 : D (.slice tI)) (x1 : D tI) : run M (k + 1) f_constraint_choices [.val (.slice tI) x0, .val tI x1] = b_constraint_choices (run M k) (l_constraint_choices_0 (run M k) k) x0 x1 := by
  rw [show run M (k + 1) f_constraint_choices = run M (k + 1) 103 from rfl, e0_constraint_choices]; simp only [lp_constraint_choices_0_eq]
abbrev V_constraint_side_greatest_0 := (D tI) → (D (.slice tI)) → (D tI) → (D tI) → (D tI) → (D .bool) → (D tI) → (D tI) → (D tI) → (D tI) → (List (D (.slice tI))) → (List (D tConstraint)) → Res E
noncomputable def lp_constraint_side_greatest_0 (k : Nat) (j : Nat) (v1 : D tI) (v2 : D (.slice tI)) (v35 : D tI) (v36 : D tI) (b3_0 : D tI) (b3_1 : D .bool) (b3_2 : D tI) (b3_3 : D tI) (b3_4 : D tI) (b3_5 : D tI) (t1001792 : List (D (.slice tI))) (t500010 : List (D tConstraint)) : Res E :=
  loopAt M k 59 0 [] [] j ⟨110, [(1, .c (.leaf tI v1)), (2, .c (.leaf (.slice tI) v2)), (3, .c (.ptr 3 0 0)), (10, .c (.ref 500010 0 none)), (34, .c (.ref 1001792 0 none)), (35, .c (.leaf tI v35)), (36, .c (.leaf tI v36))], [(3, 0, .box [.leaf tI b3_0, .leaf .bool b3_1, .leaf tI b3_2, .leaf tI b3_3, .leaf tI b3_4, .leaf tI b3_5]), (1001792, 0, .tok (.slice tI) t1001792), (500010, 0, .tok tConstraint t500010)]⟩
abbrev V_constraint_side_greatest_2 := (D tI) → (D (.slice tI)) → (D tI) → (D tI) → (D tI) → (D tI) → (D tI) → (D tI) → (D .bool) → (D tI) → (D tI) → (D tI) → (D tI) → (List (D tI)) → (List (D (.slice tI))) → (List (D (.slice tI))) → (List (D tConstraint)) → Res E
noncomputable def lp_constraint_side_greatest_2 (k : Nat) (j0 : Nat) (j : Nat) (v1 : D tI) (v2 : D (.slice tI)) (v14 : D tI) (v35 : D tI) (v36 : D tI) (v52 : D tI) (v53 : D tI) (b3_0 : D tI) (b3_1 : D .bool) (b3_2 : D tI) (b3_3 : D tI) (b3_4 : D tI) (b3_5 : D tI) (t1002688 : List (D tI)) (t1001792 : List (D (.slice tI))) (t1003264 : List (D (.slice tI))) (t500010 : List (D tConstraint)) : Res E :=
  loopAt M k 59 2 [] [j0] j ⟨110, [(1, .c (.leaf tI v1)), (2, .c (.leaf (.slice tI) v2)), (3, .c (.ptr 3 0 0)), (10, .c (.ref 500010 0 none)), (13, .c (.ref 1002688 0 none)), (14, .c (.leaf tI v14)), (34, .c (.ref 1001792 0 none)), (35, .c (.leaf tI v35)), (36, .c (.leaf tI v36)), (51, .c (.ref 1003264 0 none)), (52, .c (.leaf tI v52)), (53, .c (.leaf tI v53))], [(3, 0, .box [.leaf tI b3_0, .leaf .bool b3_1, .leaf tI b3_2, .leaf tI b3_3, .leaf tI b3_4, .leaf tI b3_5]), (1002688, 0, .tok tI t1002688), (1001792, 0, .tok (.slice tI) t1001792), (1003264, 0, .tok (.slice tI) t1003264), (500010, 0, .tok tConstraint t500010)]⟩
abbrev V_constraint_side_greatest_4 := (D tI) → (D (.slice tI)) → (D tI) → (D tI) → (D tI) → (D tI) → (D tI) → (D (.slice tI)) → (D tI) → (D tI) → (D tI) → (D .bool) → (D tI) → (D tI) → (D tI) → (D tI) → (List (D tI)) → (List (D tI)) → (List (D (.slice tI))) → (List (D (.slice tI))) → (List (D tI)) → (List (D tConstraint)) → Res E
noncomputable def lp_constraint_side_greatest_4 (k : Nat) (j0 j2 : Nat) (j : Nat) (v1 : D tI) (v2 : D (.slice tI)) (v14 : D tI) (v35 : D tI) (v36 : D tI) (v52 : D tI) (v53 : D tI) (v62 : D (.slice tI)) (v63 : D tI) (v64 : D tI) (b3_0 : D tI) (b3_1 : D .bool) (b3_2 : D tI) (b3_3 : D tI) (b3_4 : D tI) (b3_5 : D tI) (t1002688 : List (D tI)) (t61 : List (D tI)) (t1001792 : List (D (.slice tI))) (t1003264 : List (D (.slice tI))) (t601152 : List (D tI)) (t500010 : List (D tConstraint)) : Res E :=
  loopAt M k 59 4 [] [j0, j2] j ⟨110, [(1, .c (.leaf tI v1)), (2, .c (.leaf (.slice tI) v2)), (3, .c (.ptr 3 0 0)), (10, .c (.ref 500010 0 none)), (13, .c (.ref 1002688 0 none)), (14, .c (.leaf tI v14)), (18, .c (.ptr 18 0 0)), (19, .c (.ref 61 0 none)), (34, .c (.ref 1001792 0 none)), (35, .c (.leaf tI v35)), (36, .c (.leaf tI v36)), (51, .c (.ref 1003264 0 none)), (52, .c (.leaf tI v52)), (53, .c (.leaf tI v53)), (62, .c (.leaf (.slice tI) v62)), (63, .c (.leaf tI v63)), (64, .c (.leaf tI v64))], [(3, 0, .box [.leaf tI b3_0, .leaf .bool b3_1, .leaf tI b3_2, .leaf tI b3_3, .leaf tI b3_4, .leaf tI b3_5]), (1002688, 0, .tok tI t1002688), (18, 0, .box [.ref 601152 0 none, .nilS]), (61, 0, .tok tI t61), (1001792, 0, .tok (.slice tI) t1001792), (1003264, 0, .tok (.slice tI) t1003264), (601152, 0, .tok tI t601152), (500010, 0, .tok tConstraint t500010)]⟩
abbrev V_constraint_side_greatest_6 := (D tI) → (D (.slice tI)) → (D tI) → (D tI) → (D tI) → (D tI) → (D tI) → (D tI) → (D tI) → (D tI) → (D .bool) → (D tI) → (D tI) → (D tI) → (D tI) → (List (D tI)) → (List (D tI)) → (List (D tI)) → (List (D (.slice tI))) → (List (D (.slice tI))) → (List (D tEdge)) → (List (D tConstraint)) → Res E
noncomputable def lp_constraint_side_greatest_6 (k : Nat) (j0 j2 : Nat) (j : Nat) (v1 : D tI) (v2 : D (.slice tI)) (v14 : D tI) (v35 : D tI) (v36 : D tI) (v52 : D tI) (v53 : D tI) (v85 : D tI) (v86 : D tI) (b3_0 : D tI) (b3_1 : D .bool) (b3_2 : D tI) (b3_3 : D tI) (b3_4 : D tI) (b3_5 : D tI) (t1002688 : List (D tI)) (t601152 : List (D tI)) (t61 : List (D tI)) (t1001792 : List (D (.slice tI))) (t1003264 : List (D (.slice tI))) (t601153 : List (D tEdge)) (t500010 : List (D tConstraint)) : Res E :=
  loopAt M k 59 6 [] [j0, j2] j ⟨110, [(1, .c (.leaf tI v1)), (2, .c (.leaf (.slice tI) v2)), (3, .c (.ptr 3 0 0)), (10, .c (.ref 500010 0 none)), (13, .c (.ref 1002688 0 none)), (14, .c (.leaf tI v14)), (18, .c (.ptr 18 0 0)), (19, .c (.ref 61 0 none)), (34, .c (.ref 1001792 0 none)), (35, .c (.leaf tI v35)), (36, .c (.leaf tI v36)), (51, .c (.ref 1003264 0 none)), (52, .c (.leaf tI v52)), (53, .c (.leaf tI v53)), (84, .c (.ref 1002688 0 none)), (85, .c (.leaf tI v85)), (86, .c (.leaf tI v86))], [(3, 0, .box [.leaf tI b3_0, .leaf .bool b3_1, .leaf tI b3_2, .leaf tI b3_3, .leaf tI b3_4, .leaf tI b3_5]), (1002688, 0, .tok tI t1002688), (18, 0, .box [.ref 601152 0 none, .ref 601153 0 none]), (601152, 0, .tok tI t601152), (61, 0, .tok tI t61), (1001792, 0, .tok (.slice tI) t1001792), (1003264, 0, .tok (.slice tI) t1003264), (601153, 0, .tok tEdge t601153), (500010, 0, .tok tConstraint t500010)]⟩
noncomputable def s_constraint_side_greatest_4 (R : RunT) (c6 : V_constraint_side_greatest_6) (self : V_constraint_side_greatest_4) (v1 : D tI) (v2 : D (.slice tI)) (v14 : D tI) (v35 : D tI) (v36 : D tI) (v52 : D tI) (v53 : D tI) (v62 : D (.slice tI)) (v63 : D tI) (v64 : D tI) (b3_0 : D tI) (b3_1 : D .bool) (b3_2 : D tI) (b3_3 : D tI) (b3_4 : D tI) (b3_5 : D tI) (t1002688 : List (D tI)) (t61 : List (D tI)) (t1001792 : List (D (.slice tI))) (t1003264 : List (D (.slice tI))) (t601152 : List (D tI)) (t500010 : List (D tConstraint)) : Res E :=
  (cond (decide (v64 < v63)) (cond (inB v64 (v62.length : Int)) (cond (!(decide ((rd (E := E) (t := tI) v62 v64) = (-1 : Int)))) (cond (inB v64 (t61.length : Int)) (cond (roomy (t601152.length + ([(rd (E := E) (t := tI) v62 v64)] : List (D tI)).length) 8) (self v1 v2 v14 v35 v36 v52 v53 v62 v63 (IntKind.i64.wrap (v64 + (1 : Int))) b3_0 b3_1 b3_2 b3_3 b3_4 b3_5 t1002688 (List.set t61 (Int.toNat v64) (t601152.length : Int)) t1001792 t1003264 (t601152 ++ ([(rd (E := E) (t := tI) v62 v64)] : List (D tI))) t500010) none) none) (self v1 v2 v14 v35 v36 v52 v53 v62 v63 (IntKind.i64.wrap (v64 + (1 : Int))) b3_0 b3_1 b3_2 b3_3 b3_4 b3_5 t1002688 t61 t1001792 t1003264 t601152 t500010)) none) (c6 v1 v2 v14 v35 v36 v52 v53 (t1002688.length : Int) (0 : Int) b3_0 b3_1 b3_2 b3_3 b3_4 b3_5 t1002688 t601152 t61 t1001792 t1003264 ([] : List (D tEdge)) t500010))
noncomputable def s_constraint_side_greatest_6 (R : RunT) (c2 : V_constraint_side_greatest_2) (self : V_constraint_side_greatest_6) (v1 : D tI) (v2 : D (.slice tI)) (v14 : D tI) (v35 : D tI) (v36 : D tI) (v52 : D tI) (v53 : D tI) (v85 : D tI) (v86 : D tI) (b3_0 : D tI) (b3_1 : D .bool) (b3_2 : D tI) (b3_3 : D tI) (b3_4 : D tI) (b3_5 : D tI) (t1002688 : List (D tI)) (t601152 : List (D tI)) (t61 : List (D tI)) (t1001792 : List (D (.slice tI))) (t1003264 : List (D (.slice tI))) (t601153 : List (D tEdge)) (t500010 : List (D tConstraint)) : Res E :=
  (cond (decide (v86 < v85)) (cond (inB v86 (t1002688.length : Int)) (cond (inB (List.getD t1002688 (Int.toNat v86) (dflt E tI)) (t61.length : Int)) (Option.bind (res tEdge (R f_constraint_side_link [.val tSide (b3_0, (b3_1, (b3_2, (b3_3, (b3_4, b3_5))))), .val tI (List.getD t61 (Int.toNat (List.getD t1002688 (Int.toNat v86) (dflt E tI))) (dflt E tI))])) (fun r1 => (cond (roomy (t601153.length + ([(r1.1, (r1.2.1, r1.2.2))] : List (D tEdge)).length) 24) (self v1 v2 v14 v35 v36 v52 v53 v85 (IntKind.i64.wrap (v86 + (1 : Int))) b3_0 b3_1 b3_2 b3_3 b3_4 b3_5 t1002688 t601152 t61 t1001792 t1003264 (t601153 ++ ([(r1.1, (r1.2.1, r1.2.2))] : List (D tEdge))) t500010) none))) none) none) (cond (roomy (t500010.length + ([((⟨#[]⟩ : ByteArray), ((1 : Int), ((t601152, t601153), ([] : List (D tExtension)))))] : List (D tConstraint)).length) 96) (c2 v1 v2 v14 v35 v36 v52 (IntKind.i64.wrap (v53 + (1 : Int))) b3_0 b3_1 b3_2 b3_3 b3_4 b3_5 t1002688 t1001792 t1003264 (t500010 ++ ([((⟨#[]⟩ : ByteArray), ((1 : Int), ((t601152, t601153), ([] : List (D tExtension)))))] : List (D tConstraint)))) none))
noncomputable def s_constraint_side_greatest_2 (R : RunT) (c4 : V_constraint_side_greatest_4) (c0 : V_constraint_side_greatest_0) (self : V_constraint_side_greatest_2) (v1 : D tI) (v2 : D (.slice tI)) (v14 : D tI) (v35 : D tI) (v36 : D tI) (v52 : D tI) (v53 : D tI) (b3_0 : D tI) (b3_1 : D .bool) (b3_2 : D tI) (b3_3 : D tI) (b3_4 : D tI) (b3_5 : D tI) (t1002688 : List (D tI)) (t1001792 : List (D (.slice tI))) (t1003264 : List (D (.slice tI))) (t500010 : List (D tConstraint)) : Res E :=
  (cond (decide (v53 < v52)) (cond (inB v53 (t1003264.length : Int)) (cond ((inS (0 : Int) v14 v14) && (roomy (Int.toNat v14) 8)) (c4 v1 v2 v14 v35 v36 v52 v53 (List.getD t1003264 (Int.toNat v53) (dflt E (.slice tI))) ((List.getD t1003264 (Int.toNat v53) (dflt E (.slice tI))).length : Int) (0 : Int) b3_0 b3_1 b3_2 b3_3 b3_4 b3_5 t1002688 (List.replicate (Int.toNat v14) (dflt E tI)) t1001792 t1003264 ([v1] : List (D tI)) t500010) none) none) (c0 v1 v2 v35 (IntKind.i64.wrap (v36 + (1 : Int))) b3_0 b3_1 b3_2 b3_3 b3_4 b3_5 t1001792 t500010))
noncomputable def s_constraint_side_greatest_0 (R : RunT) (c2 : V_constraint_side_greatest_2) (self : V_constraint_side_greatest_0) (v1 : D tI) (v2 : D (.slice tI)) (v35 : D tI) (v36 : D tI) (b3_0 : D tI) (b3_1 : D .bool) (b3_2 : D tI) (b3_3 : D tI) (b3_4 : D tI) (b3_5 : D tI) (t1001792 : List (D (.slice tI))) (t500010 : List (D tConstraint)) : Res E :=
  (cond (decide (v36 < v35)) (cond (inB v36 (t1001792.length : Int)) (Option.bind (res (.pair (.slice tI) tTerm) (R f_partition_Quotient [.val (.slice tI) (List.getD t1001792 (Int.toNat v36) (dflt E (.slice tI)))])) (fun r1 => (cond (!(decide (r1.2.2 = (0 : Int)))) (some ⟨(.pair (.slice tConstraint) tI), (([] : List (D tConstraint)), r1.2.2)⟩) (Option.bind (res (.slice (.slice tI)) (R f_constraint_choices [.val (.slice tI) v2, .val tI r1.2.1])) (fun r2 => (c2 v1 v2 r1.2.1 v35 v36 (r2.length : Int) (0 : Int) b3_0 b3_1 b3_2 b3_3 b3_4 b3_5 r1.1 t1001792 r2 t500010)))))) none) (some ⟨(.pair (.slice tConstraint) tI), (t500010, (0 : Int))⟩))
noncomputable def l_constraint_side_greatest_4 (R : RunT) (c6 : V_constraint_side_greatest_6) : Nat → V_constraint_side_greatest_4
  | 0 => fun _ _ _ _ _ _ _ _ _ _ _ _ _ _ _ _ _ _ _ _ _ _ => none
  | j + 1 => s_constraint_side_greatest_4 R c6 (l_constraint_side_greatest_4 R c6 j)
noncomputable def l_constraint_side_greatest_6 (R : RunT) (c2 : V_constraint_side_greatest_2) : Nat → V_constraint_side_greatest_6
  | 0 => fun _ _ _ _ _ _ _ _ _ _ _ _ _ _ _ _ _ _ _ _ _ _ => none
  | j + 1 => s_constraint_side_greatest_6 R c2 (l_constraint_side_greatest_6 R c2 j)
noncomputable def l_constraint_side_greatest_2 (R : RunT) (c0 : V_constraint_side_greatest_0) : Nat → V_constraint_side_greatest_2
  | 0 => fun _ _ _ _ _ _ _ _ _ _ _ _ _ _ _ _ _ => none
  | j + 1 => s_constraint_side_greatest_2 R (l_constraint_side_greatest_4 R (l_constraint_side_greatest_6 R (l_constraint_side_greatest_2 R c0 j) j) j) c0 (l_constraint_side_greatest_2 R c0 j)
noncomputable def l_constraint_side_greatest_0 (R : RunT) : Nat → V_constraint_side_greatest_0
  | 0 => fun _ _ _ _ _ _ _ _ _ _ _ _ => none
  | j + 1 => s_constraint_side_greatest_0 R (l_constraint_side_greatest_2 R (l_constraint_side_greatest_0 R j) j) (l_constraint_side_greatest_0 R j)
noncomputable def b_constraint_side_greatest (R : RunT) (c0 : V_constraint_side_greatest_0) (x0 : D tSide) (x1 : D tI) (x2 : D (.slice tI)) : Res E :=
  (Option.bind (res (.pair (.slice (.slice tI)) tI) (R f_partition_All [.val tI (IntKind.i64.wrap (x0.2.2.2.2.2 + (1 : Int)))])) (fun r1 => (cond (!(decide (r1.2 = (0 : Int)))) (some ⟨(.pair (.slice tConstraint) tI), (([] : List (D tConstraint)), r1.2)⟩) (c0 x1 x2 (r1.1.length : Int) (0 : Int) x0.1 x0.2.1 x0.2.2.1 x0.2.2.2.1 x0.2.2.2.2.1 x0.2.2.2.2.2 r1.1 ([] : List (D tConstraint))))))
theorem lp_constraint_side_greatest_4_step (k : Nat) (j0 : Nat) (j2 : Nat) (j4 : Nat) : lp_constraint_side_greatest_4 k j0 j2 (j4 + 1) = s_constraint_side_greatest_4 (run M k) (lp_constraint_side_greatest_6 k j0 j2 j2) (lp_constraint_side_greatest_4 k j0 j2 j4) := by kernel_rfl
theorem lp_constraint_side_greatest_4_zero (k : Nat) (j0 : Nat) (j2 : Nat) : lp_constraint_side_greatest_4 k j0 j2 0 = fun _ _ _ _ _ _ _ _ _ _ _ _ _ _ _ _ _ _ _ _ _ _ => none := by kernel_rfl
theorem lp_constraint_side_greatest_4_eq (k : Nat) (j0 : Nat) (j2 : Nat) (j4 : Nat) : lp_constraint_side_greatest_4 k j0 j2 j4 = l_constraint_side_greatest_4 (run M k) (lp_constraint_side_greatest_6 k j0 j2 j2) j4 := by
  induction j4 with
  | zero => exact lp_constraint_side_greatest_4_zero k j0 j2
  | succ j4 ih => rw [lp_constraint_side_greatest_4_step]; simp only [ih]; rfl
theorem lp_constraint_side_greatest_6_step (k : Nat) (j0 : Nat) (j2 : Nat) (j6 : Nat) : lp_constraint_side_greatest_6 k j0 j2 (j6 + 1) = s_constraint_side_greatest_6 (run M k) (lp_constraint_side_greatest_2 k j0 j2) (lp_constraint_side_greatest_6 k j0 j2 j6) := by kernel_rfl
theorem lp_constraint_side_greatest_6_zero (k : Nat) (j0 : Nat) (j2 : Nat) : lp_constraint_side_greatest_6 k j0 j2 0 = fun _ _ _ _ _ _ _ _ _ _ _ _ _ _ _ _ _ _ _ _ _ _ => none := by kernel_rfl
theorem lp_constraint_side_greatest_6_eq (k : Nat) (j0 : Nat) (j2 : Nat) (j6 : Nat) : lp_constraint_side_greatest_6 k j0 j2 j6 = l_constraint_side_greatest_6 (run M k) (lp_constraint_side_greatest_2 k j0 j2) j6 := by
  induction j6 with
  | zero => exact lp_constraint_side_greatest_6_zero k j0 j2
  | succ j6 ih => rw [lp_constraint_side_greatest_6_step]; simp only [ih]; rfl
theorem lp_constraint_side_greatest_2_step (k : Nat) (j0 : Nat) (j2 : Nat) : lp_constraint_side_greatest_2 k j0 (j2 + 1) = s_constraint_side_greatest_2 (run M k) (lp_constraint_side_greatest_4 k j0 j2 j2) (lp_constraint_side_greatest_0 k j0) (lp_constraint_side_greatest_2 k j0 j2) := by kernel_rfl
theorem lp_constraint_side_greatest_2_zero (k : Nat) (j0 : Nat) : lp_constraint_side_greatest_2 k j0 0 = fun _ _ _ _ _ _ _ _ _ _ _ _ _ _ _ _ _ => none := by kernel_rfl
theorem lp_constraint_side_greatest_2_eq (k : Nat) (j0 : Nat) (j2 : Nat) : lp_constraint_side_greatest_2 k j0 j2 = l_constraint_side_greatest_2 (run M k) (lp_constraint_side_greatest_0 k j0) j2 := by
  induction j2 with
  | zero => exact lp_constraint_side_greatest_2_zero k j0
  | succ j2 ih => rw [lp_constraint_side_greatest_2_step]; simp only [lp_constraint_side_greatest_4_eq, lp_constraint_side_greatest_6_eq, ih]; rfl
theorem lp_constraint_side_greatest_0_step (k : Nat) (j0 : Nat) : lp_constraint_side_greatest_0 k (j0 + 1) = s_constraint_side_greatest_0 (run M k) (lp_constraint_side_greatest_2 k j0 j0) (lp_constraint_side_greatest_0 k j0) := by kernel_rfl
theorem lp_constraint_side_greatest_0_zero (k : Nat) : lp_constraint_side_greatest_0 k 0 = fun _ _ _ _ _ _ _ _ _ _ _ _ => none := by kernel_rfl
theorem lp_constraint_side_greatest_0_eq (k : Nat) (j0 : Nat) : lp_constraint_side_greatest_0 k j0 = l_constraint_side_greatest_0 (run M k) j0 := by
  induction j0 with
  | zero => exact lp_constraint_side_greatest_0_zero k
  | succ j0 ih => rw [lp_constraint_side_greatest_0_step]; simp only [lp_constraint_side_greatest_2_eq, ih]; rfl
theorem e0_constraint_side_greatest (k : Nat) (x0 : D tSide) (x1 : D tI) (x2 : D (.slice tI)) : run M (k + 1) 59 [.val tSide x0, .val tI x1, .val (.slice tI) x2] = b_constraint_side_greatest (run M k) (lp_constraint_side_greatest_0 k k) x0 x1 x2 := by kernel_rfl
theorem e_constraint_side_greatest (k : Nat) (x0 : D tSide) (x1 : D tI) (x2 : D (.slice tI)) : run M (k + 1) f_constraint_side_greatest [.val tSide x0, .val tI x1, .val (.slice tI) x2] = b_constraint_side_greatest (run M k) (l_constraint_side_greatest_0 (run M k) k) x0 x1 x2 := by
  rw [show run M (k + 1) f_constraint_side_greatest = run M (k + 1) 59 from rfl, e0_constraint_side_greatest]; simp only [lp_constraint_side_greatest_0_eq]
abbrev V_constraint_Multiplicities_0 := (D tI) → (D tI) → (D (.slice tNodeType)) → (D (.slice tEdgeType)) → (List (D tSide)) → (List (D tConstraint)) → Res E
noncomputable def lp_constraint_Multiplicities_0 (k : Nat) (j : Nat) (v21 : D tI) (v22 : D tI) (b1_0 : D (.slice tNodeType)) (b1_1 : D (.slice tEdgeType)) (t1001280 : List (D tSide)) (t500005 : List (D tConstraint)) : Res E :=
  loopAt M k 25 0 [] [] j ⟨98, [(1, .c (.ptr 1 0 0)), (5, .c (.ref 500005 0 none)), (20, .c (.ref 1001280 0 none)), (21, .c (.leaf tI v21)), (22, .c (.leaf tI v22))], [(1, 0, .box [.leaf (.slice tNodeType) b1_0, .leaf (.slice tEdgeType) b1_1]), (1001280, 0, .tok tSide t1001280), (500005, 0, .tok tConstraint t500005)]⟩
abbrev V_constraint_Multiplicities_2 := (D tI) → (D tI) → (D tI) → (D tI) → (D (.slice tNodeType)) → (D (.slice tEdgeType)) → (D tI) → (D .bool) → (D tI) → (D tI) → (D tI) → (D tI) → (List (D tSide)) → (List (D tConstraint)) → Res E
noncomputable def lp_constraint_Multiplicities_2 (k : Nat) (j0 : Nat) (j : Nat) (v21 : D tI) (v22 : D tI) (v28 : D tI) (v29 : D tI) (b1_0 : D (.slice tNodeType)) (b1_1 : D (.slice tEdgeType)) (b7_0 : D tI) (b7_1 : D .bool) (b7_2 : D tI) (b7_3 : D tI) (b7_4 : D tI) (b7_5 : D tI) (t1001280 : List (D tSide)) (t500005 : List (D tConstraint)) : Res E :=
  loopAt M k 25 2 [] [j0] j ⟨98, [(1, .c (.ptr 1 0 0)), (5, .c (.ref 500005 0 none)), (7, .c (.ptr 7 0 0)), (20, .c (.ref 1001280 0 none)), (21, .c (.leaf tI v21)), (22, .c (.leaf tI v22)), (28, .c (.leaf tI v28)), (29, .c (.leaf tI v29))], [(1, 0, .box [.leaf (.slice tNodeType) b1_0, .leaf (.slice tEdgeType) b1_1]), (7, 0, .box [.leaf tI b7_0, .leaf .bool b7_1, .leaf tI b7_2, .leaf tI b7_3, .leaf tI b7_4, .leaf tI b7_5]), (1001280, 0, .tok tSide t1001280), (500005, 0, .tok tConstraint t500005)]⟩
abbrev V_constraint_Multiplicities_4 := (D tI) → (D tI) → (List (D tConstraint)) → Res E
noncomputable def lp_constraint_Multiplicities_4 (k : Nat) (j : Nat) (v85 : D tI) (v86 : D tI) (t500005 : List (D tConstraint)) : Res E :=
  loopAt M k 25 4 [] [] j ⟨98, [(5, .c (.ref 500005 0 none)), (85, .c (.leaf tI v85)), (86, .c (.leaf tI v86))], [(500005, 0, .tok tConstraint t500005)]⟩
noncomputable def s_constraint_Multiplicities_2 (R : RunT) (c0 : V_constraint_Multiplicities_0) (self : V_constraint_Multiplicities_2) (v21 : D tI) (v22 : D tI) (v28 : D tI) (v29 : D tI) (b1_0 : D (.slice tNodeType)) (b1_1 : D (.slice tEdgeType)) (b7_0 : D tI) (b7_1 : D .bool) (b7_2 : D tI) (b7_3 : D tI) (b7_4 : D tI) (b7_5 : D tI) (t1001280 : List (D tSide)) (t500005 : List (D tConstraint)) : Res E :=
  (cond (decide (v29 < v28)) (Option.bind (res .bool (R f_constraint_leaf [.val tTypes (b1_0, b1_1), .val tI v29])) (fun r1 => (Option.bind (cond (!(!r1)) (res .bool (R f_types_Is [.val tTypes (b1_0, b1_1), .val tI v29, .val tI b7_2])) (some (dflt E .bool))) (fun r2 => (cond (cond (!r1) true (!r2)) (self v21 v22 v28 (IntKind.i64.wrap (v29 + (1 : Int))) b1_0 b1_1 b7_0 b7_1 b7_2 b7_3 b7_4 b7_5 t1001280 t500005) (Option.bind (res (.slice tI) (R f_constraint_side_ends [.val tSide (b7_0, (b7_1, (b7_2, (b7_3, (b7_4, b7_5))))), .val tTypes (b1_0, b1_1), .val tI v29])) (fun r3 => (cond (decide (b7_4 = (1 : Int))) (Option.bind (res (.pair .str (.pair tI (.pair (.slice tI) (.pair (.slice tEdge) (.slice tExtension))))) (R f_constraint_side_least [.val tSide (b7_0, (b7_1, (b7_2, (b7_3, (b7_4, b7_5))))), .val tI v29, .val (.slice tI) r3])) (fun r4 => (cond (decide ((6 : Int) < (r4.2.2.2.2.length : Int))) (some ⟨(.pair (.slice tConstraint) tI), (([] : List (D tConstraint)), (3 : Int))⟩) (cond (roomy (t500005.length + ([(r4.1, (r4.2.1, ((r4.2.2.1, r4.2.2.2.1), r4.2.2.2.2)))] : List (D tConstraint)).length) 96) (cond (decide ((0 : Int) ≤ b7_5)) (Option.bind (res (.pair (.slice tConstraint) tI) (R f_constraint_side_greatest [.val tSide (b7_0, (b7_1, (b7_2, (b7_3, (b7_4, b7_5))))), .val tI v29, .val (.slice tI) r3])) (fun r5 => (cond (!(decide (r5.2 = (0 : Int)))) (some ⟨(.pair (.slice tConstraint) tI), (([] : List (D tConstraint)), r5.2)⟩) (cond (roomy ((t500005 ++ ([(r4.1, (r4.2.1, ((r4.2.2.1, r4.2.2.2.1), r4.2.2.2.2)))] : List (D tConstraint))).length + r5.1.length) 96) (cond (decide ((100 : Int) < (((t500005 ++ ([(r4.1, (r4.2.1, ((r4.2.2.1, r4.2.2.2.1), r4.2.2.2.2)))] : List (D tConstraint))) ++ r5.1).length : Int))) (some ⟨(.pair (.slice tConstraint) tI), (([] : List (D tConstraint)), (3 : Int))⟩) (self v21 v22 v28 (IntKind.i64.wrap (v29 + (1 : Int))) b1_0 b1_1 b7_0 b7_1 b7_2 b7_3 b7_4 b7_5 t1001280 ((t500005 ++ ([(r4.1, (r4.2.1, ((r4.2.2.1, r4.2.2.2.1), r4.2.2.2.2)))] : List (D tConstraint))) ++ r5.1))) none)))) (cond (decide ((100 : Int) < ((t500005 ++ ([(r4.1, (r4.2.1, ((r4.2.2.1, r4.2.2.2.1), r4.2.2.2.2)))] : List (D tConstraint))).length : Int))) (some ⟨(.pair (.slice tConstraint) tI), (([] : List (D tConstraint)), (3 : Int))⟩) (self v21 v22 v28 (IntKind.i64.wrap (v29 + (1 : Int))) b1_0 b1_1 b7_0 b7_1 b7_2 b7_3 b7_4 b7_5 t1001280 (t500005 ++ ([(r4.1, (r4.2.1, ((r4.2.2.1, r4.2.2.2.1), r4.2.2.2.2)))] : List (D tConstraint)))))) none)))) (cond (decide ((0 : Int) ≤ b7_5)) (Option.bind (res (.pair (.slice tConstraint) tI) (R f_constraint_side_greatest [.val tSide (b7_0, (b7_1, (b7_2, (b7_3, (b7_4, b7_5))))), .val tI v29, .val (.slice tI) r3])) (fun r6 => (cond (!(decide (r6.2 = (0 : Int)))) (some ⟨(.pair (.slice tConstraint) tI), (([] : List (D tConstraint)), r6.2)⟩) (cond (roomy (t500005.length + r6.1.length) 96) (cond (decide ((100 : Int) < ((t500005 ++ r6.1).length : Int))) (some ⟨(.pair (.slice tConstraint) tI), (([] : List (D tConstraint)), (3 : Int))⟩) (self v21 v22 v28 (IntKind.i64.wrap (v29 + (1 : Int))) b1_0 b1_1 b7_0 b7_1 b7_2 b7_3 b7_4 b7_5 t1001280 (t500005 ++ r6.1))) none)))) (cond (decide ((100 : Int) < (t500005.length : Int))) (some ⟨(.pair (.slice tConstraint) tI), (([] : List (D tConstraint)), (3 : Int))⟩) (self v21 v22 v28 (IntKind.i64.wrap (v29 + (1 : Int))) b1_0 b1_1 b7_0 b7_1 b7_2 b7_3 b7_4 b7_5 t1001280 t500005))))))))))) (c0 v21 (IntKind.i64.wrap (v22 + (1 : Int))) b1_0 b1_1 t1001280 t500005))
noncomputable def s_constraint_Multiplicities_0 (R : RunT) (c2 : V_constraint_Multiplicities_2) (c4 : V_constraint_Multiplicities_4) (self : V_constraint_Multiplicities_0) (v21 : D tI) (v22 : D tI) (b1_0 : D (.slice tNodeType)) (b1_1 : D (.slice tEdgeType)) (t1001280 : List (D tSide)) (t500005 : List (D tConstraint)) : Res E :=
  (cond (decide (v22 < v21)) (cond (inB v22 (t1001280.length : Int)) (c2 v21 v22 (b1_0.length : Int) (0 : Int) b1_0 b1_1 ((List.getD t1001280 (Int.toNat v22) (dflt E tSide)).1) (((List.getD t1001280 (Int.toNat v22) (dflt E tSide)).2).1) ((((List.getD t1001280 (Int.toNat v22) (dflt E tSide)).2).2).1) (((((List.getD t1001280 (Int.toNat v22) (dflt E tSide)).2).2).2).1) ((((((List.getD t1001280 (Int.toNat v22) (dflt E tSide)).2).2).2).2).1) ((((((List.getD t1001280 (Int.toNat v22) (dflt E tSide)).2).2).2).2).2) t1001280 t500005) none) (c4 (t500005.length : Int) (0 : Int) t500005))
noncomputable def s_constraint_Multiplicities_4 (R : RunT) (self : V_constraint_Multiplicities_4) (v85 : D tI) (v86 : D tI) (t500005 : List (D tConstraint)) : Res E :=
  (cond (decide (v86 < v85)) (Option.bind (res .str (R f_strconv_Itoa [.val tI v86])) (fun r1 => (cond (decide ((⟨#[109]⟩ : ByteArray).size + r1.size ≤ 9223372036854775807)) (cond (inB v86 (t500005.length : Int)) (self v85 (IntKind.i64.wrap (v86 + (1 : Int))) (List.set t500005 (Int.toNat v86) ((appS (⟨#[109]⟩ : ByteArray) r1), (((List.getD t500005 (Int.toNat v86) (dflt E tConstraint)).2).1, ((((((List.getD t500005 (Int.toNat v86) (dflt E tConstraint)).2).2).1).1, ((((List.getD t500005 (Int.toNat v86) (dflt E tConstraint)).2).2).1).2), (((List.getD t500005 (Int.toNat v86) (dflt E tConstraint)).2).2).2))))) none) none))) (some ⟨(.pair (.slice tConstraint) tI), (t500005, (0 : Int))⟩))
noncomputable def l_constraint_Multiplicities_2 (R : RunT) (c0 : V_constraint_Multiplicities_0) : Nat → V_constraint_Multiplicities_2
  | 0 => fun _ _ _ _ _ _ _ _ _ _ _ _ _ _ => none
  | j + 1 => s_constraint_Multiplicities_2 R c0 (l_constraint_Multiplicities_2 R c0 j)
noncomputable def l_constraint_Multiplicities_0 (R : RunT) (c4 : V_constraint_Multiplicities_4) : Nat → V_constraint_Multiplicities_0
  | 0 => fun _ _ _ _ _ _ => none
  | j + 1 => s_constraint_Multiplicities_0 R (l_constraint_Multiplicities_2 R (l_constraint_Multiplicities_0 R c4 j) j) c4 (l_constraint_Multiplicities_0 R c4 j)
noncomputable def l_constraint_Multiplicities_4 (R : RunT) : Nat → V_constraint_Multiplicities_4
  | 0 => fun _ _ _ => none
  | j + 1 => s_constraint_Multiplicities_4 R (l_constraint_Multiplicities_4 R j)
noncomputable def b_constraint_Multiplicities (R : RunT) (c0 : V_constraint_Multiplicities_0) (x0 : D tTypes) : Res E :=
  (Option.bind (res tI (R f_constraint_bounded [.val tTypes (x0.1, x0.2)])) (fun r1 => (cond (!(decide (r1 = (0 : Int)))) (some ⟨(.pair (.slice tConstraint) tI), (([] : List (D tConstraint)), r1)⟩) (Option.bind (res (.slice tSide) (R f_constraint_sides [.val tTypes (x0.1, x0.2)])) (fun r2 => (c0 (r2.length : Int) (0 : Int) x0.1 x0.2 r2 ([] : List (D tConstraint))))))))
theorem lp_constraint_Multiplicities_2_step (k : Nat) (j0 : Nat) (j2 : Nat) : lp_constraint_Multiplicities_2 k j0 (j2 + 1) = s_constraint_Multiplicities_2 (run M k) (lp_constraint_Multiplicities_0 k j0) (lp_constraint_Multiplicities_2 k j0 j2) := by kernel_rfl
theorem lp_constraint_Multiplicities_2_zero (k : Nat) (j0 : Nat) : lp_constraint_Multiplicities_2 k j0 0 = fun _ _ _ _ _ _ _ _ _ _ _ _ _ _ => none := by kernel_rfl
theorem lp_constraint_Multiplicities_2_eq (k : Nat) (j0 : Nat) (j2 : Nat) : lp_constraint_Multiplicities_2 k j0 j2 = l_constraint_Multiplicities_2 (run M k) (lp_constraint_Multiplicities_0 k j0) j2 := by
  induction j2 with
  | zero => exact lp_constraint_Multiplicities_2_zero k j0
  | succ j2 ih => rw [lp_constraint_Multiplicities_2_step]; simp only [ih]; rfl
theorem lp_constraint_Multiplicities_0_step (k : Nat) (j0 : Nat) : lp_constraint_Multiplicities_0 k (j0 + 1) = s_constraint_Multiplicities_0 (run M k) (lp_constraint_Multiplicities_2 k j0 j0) (lp_constraint_Multiplicities_4 k k) (lp_constraint_Multiplicities_0 k j0) := by kernel_rfl
theorem lp_constraint_Multiplicities_0_zero (k : Nat) : lp_constraint_Multiplicities_0 k 0 = fun _ _ _ _ _ _ => none := by kernel_rfl
theorem lp_constraint_Multiplicities_0_eq (k : Nat) (j0 : Nat) : lp_constraint_Multiplicities_0 k j0 = l_constraint_Multiplicities_0 (run M k) (lp_constraint_Multiplicities_4 k k) j0 := by
  induction j0 with
  | zero => exact lp_constraint_Multiplicities_0_zero k
  | succ j0 ih => rw [lp_constraint_Multiplicities_0_step]; simp only [lp_constraint_Multiplicities_2_eq, ih]; rfl
theorem lp_constraint_Multiplicities_4_step (k : Nat) (j4 : Nat) : lp_constraint_Multiplicities_4 k (j4 + 1) = s_constraint_Multiplicities_4 (run M k) (lp_constraint_Multiplicities_4 k j4) := by kernel_rfl
theorem lp_constraint_Multiplicities_4_zero (k : Nat) : lp_constraint_Multiplicities_4 k 0 = fun _ _ _ => none := by kernel_rfl
theorem lp_constraint_Multiplicities_4_eq (k : Nat) (j4 : Nat) : lp_constraint_Multiplicities_4 k j4 = l_constraint_Multiplicities_4 (run M k) j4 := by
  induction j4 with
  | zero => exact lp_constraint_Multiplicities_4_zero k
  | succ j4 ih => rw [lp_constraint_Multiplicities_4_step]; simp only [ih]; rfl
theorem e0_constraint_Multiplicities (k : Nat) (x0 : D tTypes) : run M (k + 1) 25 [.val tTypes x0] = b_constraint_Multiplicities (run M k) (lp_constraint_Multiplicities_0 k k) x0 := by kernel_rfl
theorem e_constraint_Multiplicities (k : Nat) (x0 : D tTypes) : run M (k + 1) f_constraint_Multiplicities [.val tTypes x0] = b_constraint_Multiplicities (run M k) (l_constraint_Multiplicities_0 (run M k) (l_constraint_Multiplicities_4 (run M k) k) k) x0 := by
  rw [show run M (k + 1) f_constraint_Multiplicities = run M (k + 1) 25 from rfl, e0_constraint_Multiplicities]; simp only [lp_constraint_Multiplicities_0_eq, lp_constraint_Multiplicities_4_eq]
noncomputable def b_search_within_1 (R : RunT) (x0 : D tI) (x1 : D tTypes) : Res E :=
  (some ⟨.bool, (decide ((x1.1.length : Int) ≤ x0))⟩)
theorem e_search_within_1 (k : Nat) (x0 : D tI) (x1 : D tTypes) : run M (k + 1) f_search_within_1 [.val tI x0, .ro tTypes x1] = b_search_within_1 (run M k) x0 x1 := by kernel_rfl
noncomputable def b_search_within_2 (R : RunT) (x0 : D tEdge) (x1 : D tTypes) : Res E :=
  (some ⟨.bool, (decide ((x1.2.length : Int) ≤ x0.1))⟩)
theorem e_search_within_2 (k : Nat) (x0 : D tEdge) (x1 : D tTypes) : run M (k + 1) f_search_within_2 [.val tEdge x0, .ro tTypes x1] = b_search_within_2 (run M k) x0 x1 := by kernel_rfl
noncomputable def b_search_within (R : RunT) (x0 : D tTypes) (x1 : D tGraph) : Res E :=
  (Option.bind (res .bool (R f_slices_ContainsFunc_int [.val (.slice tI) x1.1, .fn f_search_within_1 [⟨tTypes, (x0.1, x0.2)⟩]])) (fun r1 => (Option.bind (cond (!r1) (res .bool (R f_slices_ContainsFunc_Edge [.val (.slice tEdge) x1.2, .fn f_search_within_2 [⟨tTypes, (x0.1, x0.2)⟩]])) (some (dflt E .bool))) (fun r2 => (some ⟨.bool, (cond (!r1) (!r2) false)⟩)))))
theorem e_search_within (k : Nat) (x0 : D tTypes) (x1 : D tGraph) : run M (k + 1) f_search_within [.val tTypes x0, .val tGraph x1] = b_search_within (run M k) x0 x1 := by kernel_rfl
abbrev V_search_valid_0 := (D tI) → (D tI) → (D (.slice tNodeType)) → (D (.slice tEdgeType)) → (D (.slice tI)) → (D (.slice tEdge)) → (D (.slice tI)) → (D (.slice tEdge)) → (List (D tGraph)) → Res E
noncomputable def lp_search_valid_0 (k : Nat) (j : Nat) (v23 : D tI) (v24 : D tI) (b3_0 : D (.slice tNodeType)) (b3_1 : D (.slice tEdgeType)) (b4_0 : D (.slice tI)) (b4_1 : D (.slice tEdge)) (b5_0 : D (.slice tI)) (b5_1 : D (.slice tEdge)) (t22 : List (D tGraph)) : Res E :=
  loopAt M k 106 0 [] [] j ⟨44, [(3, .c (.ptr 3 0 0)), (4, .c (.ptr 4 0 0)), (5, .c (.ptr 5 0 0)), (22, .c (.ref 22 0 none)), (23, .c (.leaf tI v23)), (24, .c (.leaf tI v24))], [(3, 0, .box [.leaf (.slice tNodeType) b3_0, .leaf (.slice tEdgeType) b3_1]), (4, 0, .box [.leaf (.slice tI) b4_0, .leaf (.slice tEdge) b4_1]), (5, 0, .box [.leaf (.slice tI) b5_0, .leaf (.slice tEdge) b5_1]), (22, 0, .tok tGraph t22)]⟩
noncomputable def s_search_valid_0 (R : RunT) (self : V_search_valid_0) (v23 : D tI) (v24 : D tI) (b3_0 : D (.slice tNodeType)) (b3_1 : D (.slice tEdgeType)) (b4_0 : D (.slice tI)) (b4_1 : D (.slice tEdge)) (b5_0 : D (.slice tI)) (b5_1 : D (.slice tEdge)) (t22 : List (D tGraph)) : Res E :=
  (cond (decide (v24 < v23)) (cond (inB v24 (t22.length : Int)) (Option.bind (res tI (R f_graph_Valid [.val tGraph ((List.getD t22 (Int.toNat v24) (dflt E tGraph)).1, (List.getD t22 (Int.toNat v24) (dflt E tGraph)).2)])) (fun r1 => (cond (!(decide (r1 = (0 : Int)))) (some ⟨tI, r1⟩) (self v23 (IntKind.i64.wrap (v24 + (1 : Int))) b3_0 b3_1 b4_0 b4_1 b5_0 b5_1 t22)))) none) (Option.bind (res .bool (R f_search_within [.val tTypes (b3_0, b3_1), .val tGraph (b4_0, b4_1)])) (fun r2 => (Option.bind (cond (!(!r2)) (res .bool (R f_search_within [.val tTypes (b3_0, b3_1), .val tGraph (b5_0, b5_1)])) (some (dflt E .bool))) (fun r3 => (cond (cond (!r2) true (!r3)) (some ⟨tI, (13 : Int)⟩) (some ⟨tI, (0 : Int)⟩)))))))
noncomputable def l_search_valid_0 (R : RunT) : Nat → V_search_valid_0
  | 0 => fun _ _ _ _ _ _ _ _ _ => none
  | j + 1 => s_search_valid_0 R (l_search_valid_0 R j)
noncomputable def b_search_valid (R : RunT) (c0 : V_search_valid_0) (x0 : D tTypes) (x1 : D tGraph) (x2 : D tGraph) : Res E :=
  (Option.bind (res (.pair .str tI) (R f_types_Valid [.val tTypes (x0.1, x0.2)])) (fun r1 => (cond (!(decide (r1.2 = (0 : Int)))) (some ⟨tI, r1.2⟩) (c0 (([(x1.1, x1.2), (x2.1, x2.2)] : List (D tGraph)).length : Int) (0 : Int) x0.1 x0.2 x1.1 x1.2 x2.1 x2.2 ([(x1.1, x1.2), (x2.1, x2.2)] : List (D tGraph))))))
theorem lp_search_valid_0_step (k : Nat) (j0 : Nat) : lp_search_valid_0 k (j0 + 1) = s_search_valid_0 (run M k) (lp_search_valid_0 k j0) := by kernel_rfl
theorem lp_search_valid_0_zero (k : Nat) : lp_search_valid_0 k 0 = fun _ _ _ _ _ _ _ _ _ => none := by kernel_rfl
theorem lp_search_valid_0_eq (k : Nat) (j0 : Nat) : lp_search_valid_0 k j0 = l_search_valid_0 (run M k) j0 := by
  induction j0 with
  | zero => exact lp_search_valid_0_zero k
  | succ j0 ih => rw [lp_search_valid_0_step]; simp only [ih]; rfl
theorem e0_search_valid (k : Nat) (x0 : D tTypes) (x1 : D tGraph) (x2 : D tGraph) : run M (k + 1) 106 [.val tTypes x0, .val tGraph x1, .val tGraph x2] = b_search_valid (run M k) (lp_search_valid_0 k k) x0 x1 x2 := by kernel_rfl
theorem e_search_valid (k : Nat) (x0 : D tTypes) (x1 : D tGraph) (x2 : D tGraph) : run M (k + 1) f_search_valid [.val tTypes x0, .val tGraph x1, .val tGraph x2] = b_search_valid (run M k) (l_search_valid_0 (run M k) k) x0 x1 x2 := by
  rw [show run M (k + 1) f_search_valid = run M (k + 1) 106 from rfl, e0_search_valid]; simp only [lp_search_valid_0_eq]
abbrev V_types_Below_0 := (D tI) → (D tI) → (D tI) → (D (.slice tNodeType)) → (D (.slice tEdgeType)) → (List (D tI)) → Res E
noncomputable def lp_types_Below_0 (k : Nat) (j : Nat) (v1 : D tI) (v18 : D tI) (v19 : D tI) (b2_0 : D (.slice tNodeType)) (b2_1 : D (.slice tEdgeType)) (t500007 : List (D tI)) : Res E :=
  loopAt M k 194 0 [] [] j ⟨32, [(1, .c (.leaf tI v1)), (2, .c (.ptr 2 0 0)), (7, .c (.ref 500007 0 none)), (18, .c (.leaf tI v18)), (19, .c (.leaf tI v19))], [(2, 0, .box [.leaf (.slice tNodeType) b2_0, .leaf (.slice tEdgeType) b2_1]), (500007, 0, .tok tI t500007)]⟩
noncomputable def s_types_Below_0 (R : RunT) (self : V_types_Below_0) (v1 : D tI) (v18 : D tI) (v19 : D tI) (b2_0 : D (.slice tNodeType)) (b2_1 : D (.slice tEdgeType)) (t500007 : List (D tI)) : Res E :=
  (cond (decide (v19 < v18)) (Option.bind (res .bool (R f_types_is [.val tTypes (b2_0, b2_1), .val tI v19, .val tI v1])) (fun r1 => (cond r1 (cond (roomy (t500007.length + ([v19] : List (D tI)).length) 8) (self v1 v18 (IntKind.i64.wrap (v19 + (1 : Int))) b2_0 b2_1 (t500007 ++ ([v19] : List (D tI)))) none) (self v1 v18 (IntKind.i64.wrap (v19 + (1 : Int))) b2_0 b2_1 t500007)))) (some ⟨(.pair (.slice tI) tI), (t500007, (0 : Int))⟩))
noncomputable def l_types_Below_0 (R : RunT) : Nat → V_types_Below_0
  | 0 => fun _ _ _ _ _ _ => none
  | j + 1 => s_types_Below_0 R (l_types_Below_0 R j)
noncomputable def b_types_Below (R : RunT) (c0 : V_types_Below_0) (x0 : D tTypes) (x1 : D tI) : Res E :=
  (Option.bind (res tI (R f_types_given [.val tTypes (x0.1, x0.2), .val (.slice tI) ([x1] : List (D tI))])) (fun r1 => (cond (!(decide (r1 = (0 : Int)))) (some ⟨(.pair (.slice tI) tI), (([] : List (D tI)), r1)⟩) (c0 x1 (x0.1.length : Int) (0 : Int) x0.1 x0.2 ([] : List (D tI))))))
theorem lp_types_Below_0_step (k : Nat) (j0 : Nat) : lp_types_Below_0 k (j0 + 1) = s_types_Below_0 (run M k) (lp_types_Below_0 k j0) := by kernel_rfl
theorem lp_types_Below_0_zero (k : Nat) : lp_types_Below_0 k 0 = fun _ _ _ _ _ _ => none := by kernel_rfl
theorem lp_types_Below_0_eq (k : Nat) (j0 : Nat) : lp_types_Below_0 k j0 = l_types_Below_0 (run M k) j0 := by
  induction j0 with
  | zero => exact lp_types_Below_0_zero k
  | succ j0 ih => rw [lp_types_Below_0_step]; simp only [ih]; rfl
theorem e0_types_Below (k : Nat) (x0 : D tTypes) (x1 : D tI) : run M (k + 1) 194 [.val tTypes x0, .val tI x1] = b_types_Below (run M k) (lp_types_Below_0 k k) x0 x1 := by kernel_rfl
theorem e_types_Below (k : Nat) (x0 : D tTypes) (x1 : D tI) : run M (k + 1) f_types_Below [.val tTypes x0, .val tI x1] = b_types_Below (run M k) (l_types_Below_0 (run M k) k) x0 x1 := by
  rw [show run M (k + 1) f_types_Below = run M (k + 1) 194 from rfl, e0_types_Below]; simp only [lp_types_Below_0_eq]
abbrev V_search_below_0 := (D tI) → (D tI) → (D (.slice tNodeType)) → (D (.slice tEdgeType)) → (List (D (.slice .bool))) → Res E
noncomputable def lp_search_below_0 (k : Nat) (j : Nat) (v12 : D tI) (v13 : D tI) (b1_0 : D (.slice tNodeType)) (b1_1 : D (.slice tEdgeType)) (t500003 : List (D (.slice .bool))) : Res E :=
  loopAt M k 168 0 [] [] j ⟨42, [(1, .c (.ptr 1 0 0)), (3, .c (.ref 500003 0 none)), (12, .c (.leaf tI v12)), (13, .c (.leaf tI v13))], [(1, 0, .box [.leaf (.slice tNodeType) b1_0, .leaf (.slice tEdgeType) b1_1]), (500003, 0, .tok (.slice .bool) t500003)]⟩
abbrev V_search_below_2 := (D tI) → (D tI) → (D tI) → (D tI) → (D (.slice tNodeType)) → (D (.slice tEdgeType)) → (List (D .bool)) → (List (D tI)) → (List (D (.slice .bool))) → Res E
noncomputable def lp_search_below_2 (k : Nat) (j0 : Nat) (j : Nat) (v12 : D tI) (v13 : D tI) (v27 : D tI) (v28 : D tI) (b1_0 : D (.slice tNodeType)) (b1_1 : D (.slice tEdgeType)) (t19 : List (D .bool)) (t1001472 : List (D tI)) (t500003 : List (D (.slice .bool))) : Res E :=
  loopAt M k 168 2 [] [j0] j ⟨42, [(1, .c (.ptr 1 0 0)), (3, .c (.ref 500003 0 none)), (5, .c (.ref 19 0 none)), (12, .c (.leaf tI v12)), (13, .c (.leaf tI v13)), (26, .c (.ref 1001472 0 none)), (27, .c (.leaf tI v27)), (28, .c (.leaf tI v28))], [(1, 0, .box [.leaf (.slice tNodeType) b1_0, .leaf (.slice tEdgeType) b1_1]), (19, 0, .tok .bool t19), (1001472, 0, .tok tI t1001472), (500003, 0, .tok (.slice .bool) t500003)]⟩
noncomputable def s_search_below_2 (R : RunT) (c0 : V_search_below_0) (self : V_search_below_2) (v12 : D tI) (v13 : D tI) (v27 : D tI) (v28 : D tI) (b1_0 : D (.slice tNodeType)) (b1_1 : D (.slice tEdgeType)) (t19 : List (D .bool)) (t1001472 : List (D tI)) (t500003 : List (D (.slice .bool))) : Res E :=
  (cond (decide (v28 < v27)) (cond (inB v28 (t1001472.length : Int)) (cond (inB (List.getD t1001472 (Int.toNat v28) (dflt E tI)) (t19.length : Int)) (self v12 v13 v27 (IntKind.i64.wrap (v28 + (1 : Int))) b1_0 b1_1 (List.set t19 (Int.toNat (List.getD t1001472 (Int.toNat v28) (dflt E tI))) true) t1001472 t500003) none) none) (cond (roomy (t500003.length + ([t19] : List (D (.slice .bool))).length) 24) (c0 v12 (IntKind.i64.wrap (v13 + (1 : Int))) b1_0 b1_1 (t500003 ++ ([t19] : List (D (.slice .bool))))) none))
noncomputable def s_search_below_0 (R : RunT) (c2 : V_search_below_2) (self : V_search_below_0) (v12 : D tI) (v13 : D tI) (b1_0 : D (.slice tNodeType)) (b1_1 : D (.slice tEdgeType)) (t500003 : List (D (.slice .bool))) : Res E :=
  (cond (decide (v13 < v12)) (cond ((inS (0 : Int) (b1_0.length : Int) (b1_0.length : Int)) && (roomy (Int.toNat (b1_0.length : Int)) 1)) (Option.bind (res (.pair (.slice tI) tI) (R f_types_Below [.val tTypes (b1_0, b1_1), .val tI v13])) (fun r1 => (c2 v12 v13 (r1.1.length : Int) (0 : Int) b1_0 b1_1 (List.replicate (Int.toNat (b1_0.length : Int)) (dflt E .bool)) r1.1 t500003))) none) (some ⟨(.slice (.slice .bool)), t500003⟩))
noncomputable def l_search_below_2 (R : RunT) (c0 : V_search_below_0) : Nat → V_search_below_2
  | 0 => fun _ _ _ _ _ _ _ _ _ => none
  | j + 1 => s_search_below_2 R c0 (l_search_below_2 R c0 j)
noncomputable def l_search_below_0 (R : RunT) : Nat → V_search_below_0
  | 0 => fun _ _ _ _ _ => none
  | j + 1 => s_search_below_0 R (l_search_below_2 R (l_search_below_0 R j) j) (l_search_below_0 R j)
noncomputable def b_search_below (R : RunT) (c0 : V_search_below_0) (x0 : D tTypes) : Res E :=
  (c0 (x0.1.length : Int) (0 : Int) x0.1 x0.2 ([] : List (D (.slice .bool))))
theorem lp_search_below_2_step (k : Nat) (j0 : Nat) (j2 : Nat) : lp_search_below_2 k j0 (j2 + 1) = s_search_below_2 (run M k) (lp_search_below_0 k j0) (lp_search_below_2 k j0 j2) := by kernel_rfl
theorem lp_search_below_2_zero (k : Nat) (j0 : Nat) : lp_search_below_2 k j0 0 = fun _ _ _ _ _ _ _ _ _ => none := by kernel_rfl
theorem lp_search_below_2_eq (k : Nat) (j0 : Nat) (j2 : Nat) : lp_search_below_2 k j0 j2 = l_search_below_2 (run M k) (lp_search_below_0 k j0) j2 := by
  induction j2 with
  | zero => exact lp_search_below_2_zero k j0
  | succ j2 ih => rw [lp_search_below_2_step]; simp only [ih]; rfl
theorem lp_search_below_0_step (k : Nat) (j0 : Nat) : lp_search_below_0 k (j0 + 1) = s_search_below_0 (run M k) (lp_search_below_2 k j0 j0) (lp_search_below_0 k j0) := by kernel_rfl
theorem lp_search_below_0_zero (k : Nat) : lp_search_below_0 k 0 = fun _ _ _ _ _ => none := by kernel_rfl
theorem lp_search_below_0_eq (k : Nat) (j0 : Nat) : lp_search_below_0 k j0 = l_search_below_0 (run M k) j0 := by
  induction j0 with
  | zero => exact lp_search_below_0_zero k
  | succ j0 ih => rw [lp_search_below_0_step]; simp only [lp_search_below_2_eq, ih]; rfl
theorem e0_search_below (k : Nat) (x0 : D tTypes) : run M (k + 1) 168 [.val tTypes x0] = b_search_below (run M k) (lp_search_below_0 k k) x0 := by kernel_rfl
theorem e_search_below (k : Nat) (x0 : D tTypes) : run M (k + 1) f_search_below [.val tTypes x0] = b_search_below (run M k) (l_search_below_0 (run M k) k) x0 := by
  rw [show run M (k + 1) f_search_below = run M (k + 1) 168 from rfl, e0_search_below]; simp only [lp_search_below_0_eq]
noncomputable def b_search_given (R : RunT) (x0 : D (.opt tI)) (x1 : D tI) : Res E :=
  (nilBr E (Option.map List.length x0) (cond (inB x1 ((Option.getD x0 []).length : Int)) (some ⟨tI, (rd (E := E) (t := tI) (Option.getD x0 []) x1)⟩) none) (some ⟨tI, (-1 : Int)⟩))
theorem e_search_given (k : Nat) (x0 : D (.opt tI)) (x1 : D tI) : run M (k + 1) f_search_given [.val (.opt tI) x0, .val tI x1] = b_search_given (run M k) x0 x1 := by kernel_rfl
noncomputable def b_search_finder_fits (R : RunT) (x0 : D (.pair (.slice tI) (.pair (.slice tEdge) (.pair (.slice tI) (.pair (.slice tEdge) (.pair (.slice (.slice .bool)) (.pair (.opt tI) (.pair (.opt tI) (.pair .bool (.pair tI (.pair (.slice tI) (.pair (.slice tI) (.slice tMorphism))))))))))))) (x1 : D tI) (x2 : D tI) : Res E :=
  (cond (inB x1 (x0.2.1.length : Int)) (Option.bind (res tI (R f_search_given [.val (.opt tI) x0.2.2.2.2.2.2.1, .val tI x1])) (fun r1 => (cond (cond (decide ((0 : Int) ≤ r1)) (!(decide (r1 = x2))) false) (some ⟨(.pair .bool (.pair (.slice tI) (.pair (.slice tEdge) (.pair (.slice tI) (.pair (.slice tEdge) (.pair (.slice (.slice .bool)) (.pair (.opt tI) (.pair (.opt tI) (.pair .bool (.pair tI (.pair (.slice tI) (.pair (.slice tI) (.slice tMorphism))))))))))))), (false, (x0.1, (x0.2.1, (x0.2.2.1, (x0.2.2.2.1, (x0.2.2.2.2.1, (x0.2.2.2.2.2.1, (x0.2.2.2.2.2.2.1, (x0.2.2.2.2.2.2.2.1, (x0.2.2.2.2.2.2.2.2.1, (x0.2.2.2.2.2.2.2.2.2.1, (x0.2.2.2.2.2.2.2.2.2.2.1, x0.2.2.2.2.2.2.2.2.2.2.2))))))))))))⟩) (cond (inB x2 (x0.2.2.2.1.length : Int)) (cond (inB (((rd (E := E) (t := tEdge) x0.2.1 x1).2).1) (x0.2.2.2.2.2.2.2.2.2.1.length : Int)) (cond (inB (((rd (E := E) (t := tEdge) x0.2.1 x1).2).2) (x0.2.2.2.2.2.2.2.2.2.1.length : Int)) (some ⟨(.pair .bool (.pair (.slice tI) (.pair (.slice tEdge) (.pair (.slice tI) (.pair (.slice tEdge) (.pair (.slice (.slice .bool)) (.pair (.opt tI) (.pair (.opt tI) (.pair .bool (.pair tI (.pair (.slice tI) (.pair (.slice tI) (.slice tMorphism))))))))))))), (((decide ((rd (E := E) (t := tEdge) x0.2.2.2.1 x2).1 = (rd (E := E) (t := tEdge) x0.2.1 x1).1)) && ((decide (((rd (E := E) (t := tEdge) x0.2.2.2.1 x2).2).1 = (List.getD x0.2.2.2.2.2.2.2.2.2.1 (Int.toNat (((rd (E := E) (t := tEdge) x0.2.1 x1).2).1)) (dflt E tI)))) && (decide (((rd (E := E) (t := tEdge) x0.2.2.2.1 x2).2).2 = (List.getD x0.2.2.2.2.2.2.2.2.2.1 (Int.toNat (((rd (E := E) (t := tEdge) x0.2.1 x1).2).2)) (dflt E tI)))))), (x0.1, (x0.2.1, (x0.2.2.1, (x0.2.2.2.1, (x0.2.2.2.2.1, (x0.2.2.2.2.2.1, (x0.2.2.2.2.2.2.1, (x0.2.2.2.2.2.2.2.1, (x0.2.2.2.2.2.2.2.2.1, (x0.2.2.2.2.2.2.2.2.2.1, (x0.2.2.2.2.2.2.2.2.2.2.1, x0.2.2.2.2.2.2.2.2.2.2.2))))))))))))⟩) none) none) none)))) none)
theorem e_search_finder_fits (k : Nat) (x0 : D (.pair (.slice tI) (.pair (.slice tEdge) (.pair (.slice tI) (.pair (.slice tEdge) (.pair (.slice (.slice .bool)) (.pair (.opt tI) (.pair (.opt tI) (.pair .bool (.pair tI (.pair (.slice tI) (.pair (.slice tI) (.slice tMorphism))))))))))))) (x1 : D tI) (x2 : D tI) : run M (k + 1) f_search_finder_fits [.rw [((.slice tI), false), ((.slice tEdge), false), ((.slice tI), false), ((.slice tEdge), false), ((.slice (.slice .bool)), true), ((.opt tI), false), ((.opt tI), false), (.bool, false), (tI, false), ((.slice tI), true), ((.slice tI), true), ((.slice tMorphism), true)] x0, .val tI x1, .val tI x2] = b_search_finder_fits (run M k) x0 x1 x2 := by kernel_rfl
end Go.Proofs.AM

namespace Go.Proofs.AM
open Go
set_option maxRecDepth 100000
abbrev V_search_finder_possible_0 := (D tI) → (D (.slice tEdge)) → (D tI) → (D tI) → (D (.slice tI)) → (D (.slice tEdge)) → (D (.slice tI)) → (D (.slice tEdge)) → (D (.opt tI)) → (D (.opt tI)) → (D .bool) → (D tI) → (List (D (.slice .bool))) → (List (D tI)) → (List (D tI)) → (List (D tMorphism)) → Res E
noncomputable def lp_search_finder_possible_0 (k : Nat) (j : Nat) (v3 : D tI) (v18 : D (.slice tEdge)) (v19 : D tI) (v20 : D tI) (b100000_0 : D (.slice tI)) (b100000_1 : D (.slice tEdge)) (b100000_2 : D (.slice tI)) (b100000_3 : D (.slice tEdge)) (b100000_5 : D (.opt tI)) (b100000_6 : D (.opt tI)) (b100000_7 : D .bool) (b100000_8 : D tI) (t7000004 : List (D (.slice .bool))) (t7000009 : List (D tI)) (t7000010 : List (D tI)) (t7000011 : List (D tMorphism)) : Res E :=
  loopAt M k 196 0 [.rw 0 [((.slice tI), false), ((.slice tEdge), false), ((.slice tI), false), ((.slice tEdge), false), ((.slice (.slice .bool)), true), ((.opt tI), false), ((.opt tI), false), (.bool, false), (tI, false), ((.slice tI), true), ((.slice tI), true), ((.slice tMorphism), true)]] [] j ⟨49, [(0, .c (.ptr 100000 0 0)), (3, .c (.leaf tI v3)), (18, .c (.leaf (.slice tEdge) v18)), (19, .c (.leaf tI v19)), (20, .c (.leaf tI v20))], [(100000, 0, .box [.leaf (.slice tI) b100000_0, .leaf (.slice tEdge) b100000_1, .leaf (.slice tI) b100000_2, .leaf (.slice tEdge) b100000_3, .ref 7000004 0 none, .leaf (.opt tI) b100000_5, .leaf (.opt tI) b100000_6, .leaf .bool b100000_7, .leaf tI b100000_8, .ref 7000009 0 none, .ref 7000010 0 none, .ref 7000011 0 none]), (7000004, 0, .tok (.slice .bool) t7000004), (7000009, 0, .tok tI t7000009), (7000010, 0, .tok tI t7000010), (7000011, 0, .tok tMorphism t7000011)]⟩
abbrev V_search_finder_possible_2 := (D tI) → (D tI) → (D .bool) → (D (.slice tEdge)) → (D tI) → (D tI) → (D tI) → (D tI) → (D (.slice tI)) → (D (.slice tEdge)) → (D (.slice tI)) → (D (.slice tEdge)) → (D (.opt tI)) → (D (.opt tI)) → (D .bool) → (D tI) → (List (D (.slice .bool))) → (List (D tI)) → (List (D tI)) → (List (D tMorphism)) → Res E
noncomputable def lp_search_finder_possible_2 (k : Nat) (j0 : Nat) (j : Nat) (v3 : D tI) (v4 : D tI) (v6 : D .bool) (v18 : D (.slice tEdge)) (v19 : D tI) (v20 : D tI) (v37 : D tI) (v38 : D tI) (b100000_0 : D (.slice tI)) (b100000_1 : D (.slice tEdge)) (b100000_2 : D (.slice tI)) (b100000_3 : D (.slice tEdge)) (b100000_5 : D (.opt tI)) (b100000_6 : D (.opt tI)) (b100000_7 : D .bool) (b100000_8 : D tI) (t7000004 : List (D (.slice .bool))) (t7000009 : List (D tI)) (t7000010 : List (D tI)) (t7000011 : List (D tMorphism)) : Res E :=
  loopAt M k 196 2 [.rw 0 [((.slice tI), false), ((.slice tEdge), false), ((.slice tI), false), ((.slice tEdge), false), ((.slice (.slice .bool)), true), ((.opt tI), false), ((.opt tI), false), (.bool, false), (tI, false), ((.slice tI), true), ((.slice tI), true), ((.slice tMorphism), true)]] [j0] j ⟨49, [(0, .c (.ptr 100000 0 0)), (3, .c (.leaf tI v3)), (4, .c (.leaf tI v4)), (6, .c (.leaf .bool v6)), (18, .c (.leaf (.slice tEdge) v18)), (19, .c (.leaf tI v19)), (20, .c (.leaf tI v20)), (37, .c (.leaf tI v37)), (38, .c (.leaf tI v38))], [(100000, 0, .box [.leaf (.slice tI) b100000_0, .leaf (.slice tEdge) b100000_1, .leaf (.slice tI) b100000_2, .leaf (.slice tEdge) b100000_3, .ref 7000004 0 none, .leaf (.opt tI) b100000_5, .leaf (.opt tI) b100000_6, .leaf .bool b100000_7, .leaf tI b100000_8, .ref 7000009 0 none, .ref 7000010 0 none, .ref 7000011 0 none]), (7000004, 0, .tok (.slice .bool) t7000004), (7000009, 0, .tok tI t7000009), (7000010, 0, .tok tI t7000010), (7000011, 0, .tok tMorphism t7000011)]⟩
noncomputable def s_search_finder_possible_2 (R : RunT) (c0 : V_search_finder_possible_0) (self : V_search_finder_possible_2) (v3 : D tI) (v4 : D tI) (v6 : D .bool) (v18 : D (.slice tEdge)) (v19 : D tI) (v20 : D tI) (v37 : D tI) (v38 : D tI) (b100000_0 : D (.slice tI)) (b100000_1 : D (.slice tEdge)) (b100000_2 : D (.slice tI)) (b100000_3 : D (.slice tEdge)) (b100000_5 : D (.opt tI)) (b100000_6 : D (.opt tI)) (b100000_7 : D .bool) (b100000_8 : D tI) (t7000004 : List (D (.slice .bool))) (t7000009 : List (D tI)) (t7000010 : List (D tI)) (t7000011 : List (D tMorphism)) : Res E :=
  (cond (decide (v38 < v37)) (Option.bind (res (.pair .bool (.pair (.slice tI) (.pair (.slice tEdge) (.pair (.slice tI) (.pair (.slice tEdge) (.pair (.slice (.slice .bool)) (.pair (.opt tI) (.pair (.opt tI) (.pair .bool (.pair tI (.pair (.slice tI) (.pair (.slice tI) (.slice tMorphism))))))))))))) (R f_search_finder_fits [.rw [((.slice tI), false), ((.slice tEdge), false), ((.slice tI), false), ((.slice tEdge), false), ((.slice (.slice .bool)), true), ((.opt tI), false), ((.opt tI), false), (.bool, false), (tI, false), ((.slice tI), true), ((.slice tI), true), ((.slice tMorphism), true)] (b100000_0, (b100000_1, (b100000_2, (b100000_3, (t7000004, (b100000_5, (b100000_6, (b100000_7, (b100000_8, (t7000009, (t7000010, t7000011))))))))))), .val tI v4, .val tI v38])) (fun r1 => (cond r1.1 (c0 v3 v18 v19 (IntKind.i64.wrap (v20 + (1 : Int))) r1.2.1 r1.2.2.1 r1.2.2.2.1 r1.2.2.2.2.1 r1.2.2.2.2.2.2.1 r1.2.2.2.2.2.2.2.1 r1.2.2.2.2.2.2.2.2.1 r1.2.2.2.2.2.2.2.2.2.1 r1.2.2.2.2.2.1 r1.2.2.2.2.2.2.2.2.2.2.1 r1.2.2.2.2.2.2.2.2.2.2.2.1 r1.2.2.2.2.2.2.2.2.2.2.2.2) (self v3 v4 v6 v18 v19 v20 v37 (IntKind.i64.wrap (v38 + (1 : Int))) r1.2.1 r1.2.2.1 r1.2.2.2.1 r1.2.2.2.2.1 r1.2.2.2.2.2.2.1 r1.2.2.2.2.2.2.2.1 r1.2.2.2.2.2.2.2.2.1 r1.2.2.2.2.2.2.2.2.2.1 r1.2.2.2.2.2.1 r1.2.2.2.2.2.2.2.2.2.2.1 r1.2.2.2.2.2.2.2.2.2.2.2.1 r1.2.2.2.2.2.2.2.2.2.2.2.2)))) (cond (!v6) (some ⟨(.pair .bool (.pair (.slice tI) (.pair (.slice tEdge) (.pair (.slice tI) (.pair (.slice tEdge) (.pair (.slice (.slice .bool)) (.pair (.opt tI) (.pair (.opt tI) (.pair .bool (.pair tI (.pair (.slice tI) (.pair (.slice tI) (.slice tMorphism))))))))))))), (false, (b100000_0, (b100000_1, (b100000_2, (b100000_3, (t7000004, (b100000_5, (b100000_6, (b100000_7, (b100000_8, (t7000009, (t7000010, t7000011))))))))))))⟩) (c0 v3 v18 v19 (IntKind.i64.wrap (v20 + (1 : Int))) b100000_0 b100000_1 b100000_2 b100000_3 b100000_5 b100000_6 b100000_7 b100000_8 t7000004 t7000009 t7000010 t7000011)))
noncomputable def s_search_finder_possible_0 (R : RunT) (c2 : V_search_finder_possible_2) (self : V_search_finder_possible_0) (v3 : D tI) (v18 : D (.slice tEdge)) (v19 : D tI) (v20 : D tI) (b100000_0 : D (.slice tI)) (b100000_1 : D (.slice tEdge)) (b100000_2 : D (.slice tI)) (b100000_3 : D (.slice tEdge)) (b100000_5 : D (.opt tI)) (b100000_6 : D (.opt tI)) (b100000_7 : D .bool) (b100000_8 : D tI) (t7000004 : List (D (.slice .bool))) (t7000009 : List (D tI)) (t7000010 : List (D tI)) (t7000011 : List (D tMorphism)) : Res E :=
  (cond (decide (v20 < v19)) (cond (inB v20 (v18.length : Int)) (cond (!(decide ((cond (decide (((rd (E := E) (t := tEdge) v18 v20).2).1 < ((rd (E := E) (t := tEdge) v18 v20).2).2)) (((rd (E := E) (t := tEdge) v18 v20).2).2) (((rd (E := E) (t := tEdge) v18 v20).2).1)) = v3))) (self v3 v18 v19 (IntKind.i64.wrap (v20 + (1 : Int))) b100000_0 b100000_1 b100000_2 b100000_3 b100000_5 b100000_6 b100000_7 b100000_8 t7000004 t7000009 t7000010 t7000011) (c2 v3 v20 false v18 v19 v20 (b100000_3.length : Int) (0 : Int) b100000_0 b100000_1 b100000_2 b100000_3 b100000_5 b100000_6 b100000_7 b100000_8 t7000004 t7000009 t7000010 t7000011)) none) (some ⟨(.pair .bool (.pair (.slice tI) (.pair (.slice tEdge) (.pair (.slice tI) (.pair (.slice tEdge) (.pair (.slice (.slice .bool)) (.pair (.opt tI) (.pair (.opt tI) (.pair .bool (.pair tI (.pair (.slice tI) (.pair (.slice tI) (.slice tMorphism))))))))))))), (true, (b100000_0, (b100000_1, (b100000_2, (b100000_3, (t7000004, (b100000_5, (b100000_6, (b100000_7, (b100000_8, (t7000009, (t7000010, t7000011))))))))))))⟩))
noncomputable def l_search_finder_possible_2 (R : RunT) (c0 : V_search_finder_possible_0) : Nat → V_search_finder_possible_2
  | 0 => fun _ _ _ _ _ _ _ _ _ _ _ _ _ _ _ _ _ _ _ _ => none
  | j + 1 => s_search_finder_possible_2 R c0 (l_search_finder_possible_2 R c0 j)
noncomputable def l_search_finder_possible_0 (R : RunT) : Nat → V_search_finder_possible_0
  | 0 => fun _ _ _ _ _ _ _ _ _ _ _ _ _ _ _ _ => none
  | j + 1 => s_search_finder_possible_0 R (l_search_finder_possible_2 R (l_search_finder_possible_0 R j) j) (l_search_finder_possible_0 R j)
noncomputable def b_search_finder_possible (R : RunT) (c0 : V_search_finder_possible_0) (x0 : D (.pair (.slice tI) (.pair (.slice tEdge) (.pair (.slice tI) (.pair (.slice tEdge) (.pair (.slice (.slice .bool)) (.pair (.opt tI) (.pair (.opt tI) (.pair .bool (.pair tI (.pair (.slice tI) (.pair (.slice tI) (.slice tMorphism))))))))))))) : Res E :=
  (c0 (IntKind.i64.wrap ((x0.2.2.2.2.2.2.2.2.2.1.length : Int) - (1 : Int))) x0.2.1 (x0.2.1.length : Int) (0 : Int) x0.1 x0.2.1 x0.2.2.1 x0.2.2.2.1 x0.2.2.2.2.2.1 x0.2.2.2.2.2.2.1 x0.2.2.2.2.2.2.2.1 x0.2.2.2.2.2.2.2.2.1 x0.2.2.2.2.1 x0.2.2.2.2.2.2.2.2.2.1 x0.2.2.2.2.2.2.2.2.2.2.1 x0.2.2.2.2.2.2.2.2.2.2.2)
theorem lp_search_finder_possible_2_step (k : Nat) (j0 : Nat) (j2 : Nat) : lp_search_finder_possible_2 k j0 (j2 + 1) = s_search_finder_possible_2 (run M k) (lp_search_finder_possible_0 k j0) (lp_search_finder_possible_2 k j0 j2) := by kernel_rfl
theorem lp_search_finder_possible_2_zero (k : Nat) (j0 : Nat) : lp_search_finder_possible_2 k j0 0 = fun _ _ _ _ _ _ _ _ _ _ _ _ _ _ _ _ _ _ _ _ => none := by kernel_rfl
theorem lp_search_finder_possible_2_eq (k : Nat) (j0 : Nat) (j2 : Nat) : lp_search_finder_possible_2 k j0 j2 = l_search_finder_possible_2 (run M k) (lp_search_finder_possible_0 k j0) j2 := by
  induction j2 with
  | zero => exact lp_search_finder_possible_2_zero k j0
  | succ j2 ih => rw [lp_search_finder_possible_2_step]; simp only [ih]; rfl
theorem lp_search_finder_possible_0_step (k : Nat) (j0 : Nat) : lp_search_finder_possible_0 k (j0 + 1) = s_search_finder_possible_0 (run M k) (lp_search_finder_possible_2 k j0 j0) (lp_search_finder_possible_0 k j0) := by kernel_rfl
theorem lp_search_finder_possible_0_zero (k : Nat) : lp_search_finder_possible_0 k 0 = fun _ _ _ _ _ _ _ _ _ _ _ _ _ _ _ _ => none := by kernel_rfl
theorem lp_search_finder_possible_0_eq (k : Nat) (j0 : Nat) : lp_search_finder_possible_0 k j0 = l_search_finder_possible_0 (run M k) j0 := by
  induction j0 with
  | zero => exact lp_search_finder_possible_0_zero k
  | succ j0 ih => rw [lp_search_finder_possible_0_step]; simp only [lp_search_finder_possible_2_eq, ih]; rfl
theorem e0_search_finder_possible (k : Nat) (x0 : D (.pair (.slice tI) (.pair (.slice tEdge) (.pair (.slice tI) (.pair (.slice tEdge) (.pair (.slice (.slice .bool)) (.pair (.opt tI) (.pair (.opt tI) (.pair .bool (.pair tI (.pair (.slice tI) (.pair (.slice tI) (.slice tMorphism))))))))))))) : run M (k + 1) 196 [.rw [((.slice tI), false), ((.slice tEdge), false), ((.slice tI), false), ((.slice tEdge), false), ((.slice (.slice .bool)), true), ((.opt tI), false), ((.opt tI), false), (.bool, false), (tI, false), ((.slice tI), true), ((.slice tI), true), ((.slice tMorphism), true)] x0] = b_search_finder_possible (run M k) (lp_search_finder_possible_0 k k) x0 := by kernel_rfl
theorem e_search_finder_possible (k : Nat) (x0 : D (.pair (.slice tI) (.pair (.slice tEdge) (.pair (.slice tI) (.pair (.slice tEdge) (.pair (.slice (.slice .bool)) (.pair (.opt tI) (.pair (.opt tI) (.pair .bool (.pair tI (.pair (.slice tI) (.pair (.slice tI) (.slice tMorphism))))))))))))) : run M (k + 1) f_search_finder_possible [.rw [((.slice tI), false), ((.slice tEdge), false), ((.slice tI), false), ((.slice tEdge), false), ((.slice (.slice .bool)), true), ((.opt tI), false), ((.opt tI), false), (.bool, false), (tI, false), ((.slice tI), true), ((.slice tI), true), ((.slice tMorphism), true)] x0] = b_search_finder_possible (run M k) (l_search_finder_possible_0 (run M k) k) x0 := by
  rw [show run M (k + 1) f_search_finder_possible = run M (k + 1) 196 from rfl, e0_search_finder_possible]; simp only [lp_search_finder_possible_0_eq]
abbrev V_search_finder_find_1 := (D tI) → (D (.slice tI)) → (D tI) → (D tI) → (D (.slice tI)) → (D (.slice tEdge)) → (D (.slice tI)) → (D (.slice tEdge)) → (D (.opt tI)) → (D (.opt tI)) → (D .bool) → (D tI) → (List (D (.slice .bool))) → (List (D tI)) → (List (D tI)) → (List (D tMorphism)) → Res E
noncomputable def lp_search_finder_find_1 (k : Nat) (j : Nat) (v2 : D tI) (v61 : D (.slice tI)) (v62 : D tI) (v63 : D tI) (b100000_0 : D (.slice tI)) (b100000_1 : D (.slice tEdge)) (b100000_2 : D (.slice tI)) (b100000_3 : D (.slice tEdge)) (b100000_5 : D (.opt tI)) (b100000_6 : D (.opt tI)) (b100000_7 : D .bool) (b100000_8 : D tI) (t7000004 : List (D (.slice .bool))) (t7000009 : List (D tI)) (t7000010 : List (D tI)) (t7000011 : List (D tMorphism)) : Res E :=
  loopAt M k 169 1 [.rw 0 [((.slice tI), false), ((.slice tEdge), false), ((.slice tI), false), ((.slice tEdge), false), ((.slice (.slice .bool)), true), ((.opt tI), false), ((.opt tI), false), (.bool, false), (tI, false), ((.slice tI), true), ((.slice tI), true), ((.slice tMorphism), true)]] [] j ⟨208, [(0, .c (.ptr 100000 0 0)), (2, .c (.leaf tI v2)), (61, .c (.leaf (.slice tI) v61)), (62, .c (.leaf tI v62)), (63, .c (.leaf tI v63))], [(100000, 0, .box [.leaf (.slice tI) b100000_0, .leaf (.slice tEdge) b100000_1, .leaf (.slice tI) b100000_2, .leaf (.slice tEdge) b100000_3, .ref 7000004 0 none, .leaf (.opt tI) b100000_5, .leaf (.opt tI) b100000_6, .leaf .bool b100000_7, .leaf tI b100000_8, .ref 7000009 0 none, .ref 7000010 0 none, .ref 7000011 0 none]), (7000004, 0, .tok (.slice .bool) t7000004), (7000009, 0, .tok tI t7000009), (7000010, 0, .tok tI t7000010), (7000011, 0, .tok tMorphism t7000011)]⟩
abbrev V_search_finder_find_3 := (D tI) → (D tI) → (D tI) → (D (.slice tI)) → (D (.slice tEdge)) → (D (.slice tI)) → (D (.slice tEdge)) → (D (.opt tI)) → (D (.opt tI)) → (D .bool) → (D tI) → (List (D (.slice .bool))) → (List (D tI)) → (List (D tI)) → (List (D tMorphism)) → Res E
noncomputable def lp_search_finder_find_3 (k : Nat) (j : Nat) (v6 : D tI) (v163 : D tI) (v164 : D tI) (b100000_0 : D (.slice tI)) (b100000_1 : D (.slice tEdge)) (b100000_2 : D (.slice tI)) (b100000_3 : D (.slice tEdge)) (b100000_5 : D (.opt tI)) (b100000_6 : D (.opt tI)) (b100000_7 : D .bool) (b100000_8 : D tI) (t7000004 : List (D (.slice .bool))) (t7000009 : List (D tI)) (t7000010 : List (D tI)) (t7000011 : List (D tMorphism)) : Res E :=
  loopAt M k 169 3 [.rw 0 [((.slice tI), false), ((.slice tEdge), false), ((.slice tI), false), ((.slice tEdge), false), ((.slice (.slice .bool)), true), ((.opt tI), false), ((.opt tI), false), (.bool, false), (tI, false), ((.slice tI), true), ((.slice tI), true), ((.slice tMorphism), true)]] [] j ⟨208, [(0, .c (.ptr 100000 0 0)), (6, .c (.leaf tI v6)), (163, .c (.leaf tI v163)), (164, .c (.leaf tI v164))], [(100000, 0, .box [.leaf (.slice tI) b100000_0, .leaf (.slice tEdge) b100000_1, .leaf (.slice tI) b100000_2, .leaf (.slice tEdge) b100000_3, .ref 7000004 0 none, .leaf (.opt tI) b100000_5, .leaf (.opt tI) b100000_6, .leaf .bool b100000_7, .leaf tI b100000_8, .ref 7000009 0 none, .ref 7000010 0 none, .ref 7000011 0 none]), (7000004, 0, .tok (.slice .bool) t7000004), (7000009, 0, .tok tI t7000009), (7000010, 0, .tok tI t7000010), (7000011, 0, .tok tMorphism t7000011)]⟩
noncomputable def s_search_finder_find_1 (R : RunT) (self : V_search_finder_find_1) (v2 : D tI) (v61 : D (.slice tI)) (v62 : D tI) (v63 : D tI) (b100000_0 : D (.slice tI)) (b100000_1 : D (.slice tEdge)) (b100000_2 : D (.slice tI)) (b100000_3 : D (.slice tEdge)) (b100000_5 : D (.opt tI)) (b100000_6 : D (.opt tI)) (b100000_7 : D .bool) (b100000_8 : D tI) (t7000004 : List (D (.slice .bool))) (t7000009 : List (D tI)) (t7000010 : List (D tI)) (t7000011 : List (D tMorphism)) : Res E :=
  (cond (decide (v63 < v62)) (cond (inB v63 (v61.length : Int)) (Option.bind (res tI (R f_search_given [.val (.opt tI) b100000_5, .val tI v2])) (fun r1 => (cond ((inB v2 (b100000_0.length : Int)) || !(!(cond (decide ((0 : Int) ≤ r1)) (!(decide (r1 = v63))) false))) (cond ((inB (rd (E := E) (t := tI) b100000_0 v2) (t7000004.length : Int)) || !(!(cond (decide ((0 : Int) ≤ r1)) (!(decide (r1 = v63))) false))) (cond ((inB (rd (E := E) (t := tI) v61 v63) ((List.getD t7000004 (Int.toNat (rd (E := E) (t := tI) b100000_0 v2)) (dflt E (.slice .bool))).length : Int)) || !(!(cond (decide ((0 : Int) ≤ r1)) (!(decide (r1 = v63))) false))) (Option.bind (cond (!(cond (cond (decide ((0 : Int) ≤ r1)) (!(decide (r1 = v63))) false) true (!(rd (E := E) (t := .bool) (List.getD t7000004 (Int.toNat (rd (E := E) (t := tI) b100000_0 v2)) (dflt E (.slice .bool))) (rd (E := E) (t := tI) v61 v63)))) && b100000_7) (res .bool (R f_slices_Contains_int [.val (.slice tI) t7000009, .val tI v63])) (some (dflt E .bool))) (fun r2 => (cond (cond (cond (cond (decide ((0 : Int) ≤ r1)) (!(decide (r1 = v63))) false) true (!(rd (E := E) (t := .bool) (List.getD t7000004 (Int.toNat (rd (E := E) (t := tI) b100000_0 v2)) (dflt E (.slice .bool))) (rd (E := E) (t := tI) v61 v63)))) true (cond b100000_7 r2 false)) (self v2 v61 v62 (IntKind.i64.wrap (v63 + (1 : Int))) b100000_0 b100000_1 b100000_2 b100000_3 b100000_5 b100000_6 b100000_7 b100000_8 t7000004 t7000009 t7000010 t7000011) (cond (roomy (t7000009.length + ([v63] : List (D tI)).length) 8) (Option.bind (res (.pair .bool (.pair (.slice tI) (.pair (.slice tEdge) (.pair (.slice tI) (.pair (.slice tEdge) (.pair (.slice (.slice .bool)) (.pair (.opt tI) (.pair (.opt tI) (.pair .bool (.pair tI (.pair (.slice tI) (.pair (.slice tI) (.slice tMorphism))))))))))))) (R f_search_finder_possible [.rw [((.slice tI), false), ((.slice tEdge), false), ((.slice tI), false), ((.slice tEdge), false), ((.slice (.slice .bool)), true), ((.opt tI), false), ((.opt tI), false), (.bool, false), (tI, false), ((.slice tI), true), ((.slice tI), true), ((.slice tMorphism), true)] (b100000_0, (b100000_1, (b100000_2, (b100000_3, (t7000004, (b100000_5, (b100000_6, (b100000_7, (b100000_8, ((t7000009 ++ ([v63] : List (D tI))), (t7000010, t7000011)))))))))))])) (fun r3 => (cond r3.1 (Option.bind (res (.pair (.slice tI) (.pair (.slice tEdge) (.pair (.slice tI) (.pair (.slice tEdge) (.pair (.slice (.slice .bool)) (.pair (.opt tI) (.pair (.opt tI) (.pair .bool (.pair tI (.pair (.slice tI) (.pair (.slice tI) (.slice tMorphism)))))))))))) (R f_search_finder_find [.rw [((.slice tI), false), ((.slice tEdge), false), ((.slice tI), false), ((.slice tEdge), false), ((.slice (.slice .bool)), true), ((.opt tI), false), ((.opt tI), false), (.bool, false), (tI, false), ((.slice tI), true), ((.slice tI), true), ((.slice tMorphism), true)] (r3.2.1, (r3.2.2.1, (r3.2.2.2.1, (r3.2.2.2.2.1, (r3.2.2.2.2.2.1, (r3.2.2.2.2.2.2.1, (r3.2.2.2.2.2.2.2.1, (r3.2.2.2.2.2.2.2.2.1, (r3.2.2.2.2.2.2.2.2.2.1, (r3.2.2.2.2.2.2.2.2.2.2.1, (r3.2.2.2.2.2.2.2.2.2.2.2.1, r3.2.2.2.2.2.2.2.2.2.2.2.2)))))))))))])) (fun r4 => (cond (inS (0 : Int) v2 (r4.2.2.2.2.2.2.2.2.2.1.length : Int)) (self v2 v61 v62 (IntKind.i64.wrap (v63 + (1 : Int))) r4.1 r4.2.1 r4.2.2.1 r4.2.2.2.1 r4.2.2.2.2.2.1 r4.2.2.2.2.2.2.1 r4.2.2.2.2.2.2.2.1 r4.2.2.2.2.2.2.2.2.1 r4.2.2.2.2.1 ((List.drop (Int.toNat (0 : Int)) r4.2.2.2.2.2.2.2.2.2.1).take (Int.toNat (v2 - (0 : Int)))) r4.2.2.2.2.2.2.2.2.2.2.1 r4.2.2.2.2.2.2.2.2.2.2.2) none))) (cond (inS (0 : Int) v2 (r3.2.2.2.2.2.2.2.2.2.2.1.length : Int)) (self v2 v61 v62 (IntKind.i64.wrap (v63 + (1 : Int))) r3.2.1 r3.2.2.1 r3.2.2.2.1 r3.2.2.2.2.1 r3.2.2.2.2.2.2.1 r3.2.2.2.2.2.2.2.1 r3.2.2.2.2.2.2.2.2.1 r3.2.2.2.2.2.2.2.2.2.1 r3.2.2.2.2.2.1 ((List.drop (Int.toNat (0 : Int)) r3.2.2.2.2.2.2.2.2.2.2.1).take (Int.toNat (v2 - (0 : Int)))) r3.2.2.2.2.2.2.2.2.2.2.2.1 r3.2.2.2.2.2.2.2.2.2.2.2.2) none)))) none)))) none) none) none))) none) (some ⟨(.pair (.slice tI) (.pair (.slice tEdge) (.pair (.slice tI) (.pair (.slice tEdge) (.pair (.slice (.slice .bool)) (.pair (.opt tI) (.pair (.opt tI) (.pair .bool (.pair tI (.pair (.slice tI) (.pair (.slice tI) (.slice tMorphism)))))))))))), (b100000_0, (b100000_1, (b100000_2, (b100000_3, (t7000004, (b100000_5, (b100000_6, (b100000_7, (b100000_8, (t7000009, (t7000010, t7000011)))))))))))⟩))
noncomputable def s_search_finder_find_3 (R : RunT) (self : V_search_finder_find_3) (v6 : D tI) (v163 : D tI) (v164 : D tI) (b100000_0 : D (.slice tI)) (b100000_1 : D (.slice tEdge)) (b100000_2 : D (.slice tI)) (b100000_3 : D (.slice tEdge)) (b100000_5 : D (.opt tI)) (b100000_6 : D (.opt tI)) (b100000_7 : D .bool) (b100000_8 : D tI) (t7000004 : List (D (.slice .bool))) (t7000009 : List (D tI)) (t7000010 : List (D tI)) (t7000011 : List (D tMorphism)) : Res E :=
  (cond (decide (v164 < v163)) (Option.bind (res (.pair .bool (.pair (.slice tI) (.pair (.slice tEdge) (.pair (.slice tI) (.pair (.slice tEdge) (.pair (.slice (.slice .bool)) (.pair (.opt tI) (.pair (.opt tI) (.pair .bool (.pair tI (.pair (.slice tI) (.pair (.slice tI) (.slice tMorphism))))))))))))) (R f_search_finder_fits [.rw [((.slice tI), false), ((.slice tEdge), false), ((.slice tI), false), ((.slice tEdge), false), ((.slice (.slice .bool)), true), ((.opt tI), false), ((.opt tI), false), (.bool, false), (tI, false), ((.slice tI), true), ((.slice tI), true), ((.slice tMorphism), true)] (b100000_0, (b100000_1, (b100000_2, (b100000_3, (t7000004, (b100000_5, (b100000_6, (b100000_7, (b100000_8, (t7000009, (t7000010, t7000011))))))))))), .val tI v6, .val tI v164])) (fun r1 => (Option.bind (cond (!(!r1.1) && r1.2.2.2.2.2.2.2.2.1) (res .bool (R f_slices_Contains_int [.val (.slice tI) r1.2.2.2.2.2.2.2.2.2.2.2.1, .val tI v164])) (some (dflt E .bool))) (fun r2 => (cond (cond (!r1.1) true (cond r1.2.2.2.2.2.2.2.2.1 r2 false)) (self v6 v163 (IntKind.i64.wrap (v164 + (1 : Int))) r1.2.1 r1.2.2.1 r1.2.2.2.1 r1.2.2.2.2.1 r1.2.2.2.2.2.2.1 r1.2.2.2.2.2.2.2.1 r1.2.2.2.2.2.2.2.2.1 r1.2.2.2.2.2.2.2.2.2.1 r1.2.2.2.2.2.1 r1.2.2.2.2.2.2.2.2.2.2.1 r1.2.2.2.2.2.2.2.2.2.2.2.1 r1.2.2.2.2.2.2.2.2.2.2.2.2) (cond (roomy (r1.2.2.2.2.2.2.2.2.2.2.2.1.length + ([v164] : List (D tI)).length) 8) (Option.bind (res (.pair (.slice tI) (.pair (.slice tEdge) (.pair (.slice tI) (.pair (.slice tEdge) (.pair (.slice (.slice .bool)) (.pair (.opt tI) (.pair (.opt tI) (.pair .bool (.pair tI (.pair (.slice tI) (.pair (.slice tI) (.slice tMorphism)))))))))))) (R f_search_finder_find [.rw [((.slice tI), false), ((.slice tEdge), false), ((.slice tI), false), ((.slice tEdge), false), ((.slice (.slice .bool)), true), ((.opt tI), false), ((.opt tI), false), (.bool, false), (tI, false), ((.slice tI), true), ((.slice tI), true), ((.slice tMorphism), true)] (r1.2.1, (r1.2.2.1, (r1.2.2.2.1, (r1.2.2.2.2.1, (r1.2.2.2.2.2.1, (r1.2.2.2.2.2.2.1, (r1.2.2.2.2.2.2.2.1, (r1.2.2.2.2.2.2.2.2.1, (r1.2.2.2.2.2.2.2.2.2.1, (r1.2.2.2.2.2.2.2.2.2.2.1, ((r1.2.2.2.2.2.2.2.2.2.2.2.1 ++ ([v164] : List (D tI))), r1.2.2.2.2.2.2.2.2.2.2.2.2)))))))))))])) (fun r3 => (cond (inS (0 : Int) v6 (r3.2.2.2.2.2.2.2.2.2.2.1.length : Int)) (self v6 v163 (IntKind.i64.wrap (v164 + (1 : Int))) r3.1 r3.2.1 r3.2.2.1 r3.2.2.2.1 r3.2.2.2.2.2.1 r3.2.2.2.2.2.2.1 r3.2.2.2.2.2.2.2.1 r3.2.2.2.2.2.2.2.2.1 r3.2.2.2.2.1 r3.2.2.2.2.2.2.2.2.2.1 ((List.drop (Int.toNat (0 : Int)) r3.2.2.2.2.2.2.2.2.2.2.1).take (Int.toNat (v6 - (0 : Int)))) r3.2.2.2.2.2.2.2.2.2.2.2) none))) none)))))) (some ⟨(.pair (.slice tI) (.pair (.slice tEdge) (.pair (.slice tI) (.pair (.slice tEdge) (.pair (.slice (.slice .bool)) (.pair (.opt tI) (.pair (.opt tI) (.pair .bool (.pair tI (.pair (.slice tI) (.pair (.slice tI) (.slice tMorphism)))))))))))), (b100000_0, (b100000_1, (b100000_2, (b100000_3, (t7000004, (b100000_5, (b100000_6, (b100000_7, (b100000_8, (t7000009, (t7000010, t7000011)))))))))))⟩))
noncomputable def l_search_finder_find_1 (R : RunT) : Nat → V_search_finder_find_1
  | 0 => fun _ _ _ _ _ _ _ _ _ _ _ _ _ _ _ _ => none
  | j + 1 => s_search_finder_find_1 R (l_search_finder_find_1 R j)
noncomputable def l_search_finder_find_3 (R : RunT) : Nat → V_search_finder_find_3
  | 0 => fun _ _ _ _ _ _ _ _ _ _ _ _ _ _ _ => none
  | j + 1 => s_search_finder_find_3 R (l_search_finder_find_3 R j)
noncomputable def b_search_finder_find (R : RunT) (c1 : V_search_finder_find_1) (c3 : V_search_finder_find_3) (x0 : D (.pair (.slice tI) (.pair (.slice tEdge) (.pair (.slice tI) (.pair (.slice tEdge) (.pair (.slice (.slice .bool)) (.pair (.opt tI) (.pair (.opt tI) (.pair .bool (.pair tI (.pair (.slice tI) (.pair (.slice tI) (.slice tMorphism))))))))))))) : Res E :=
  (cond (decide ((x0.2.2.2.2.2.2.2.2.2.2.2.length : Int) = x0.2.2.2.2.2.2.2.2.1)) (some ⟨(.pair (.slice tI) (.pair (.slice tEdge) (.pair (.slice tI) (.pair (.slice tEdge) (.pair (.slice (.slice .bool)) (.pair (.opt tI) (.pair (.opt tI) (.pair .bool (.pair tI (.pair (.slice tI) (.pair (.slice tI) (.slice tMorphism)))))))))))), (x0.1, (x0.2.1, (x0.2.2.1, (x0.2.2.2.1, (x0.2.2.2.2.1, (x0.2.2.2.2.2.1, (x0.2.2.2.2.2.2.1, (x0.2.2.2.2.2.2.2.1, (x0.2.2.2.2.2.2.2.2.1, (x0.2.2.2.2.2.2.2.2.2.1, (x0.2.2.2.2.2.2.2.2.2.2.1, x0.2.2.2.2.2.2.2.2.2.2.2)))))))))))⟩) (cond (decide ((x0.2.2.2.2.2.2.2.2.2.1.length : Int) < (x0.1.length : Int))) (c1 (x0.2.2.2.2.2.2.2.2.2.1.length : Int) x0.2.2.1 (x0.2.2.1.length : Int) (0 : Int) x0.1 x0.2.1 x0.2.2.1 x0.2.2.2.1 x0.2.2.2.2.2.1 x0.2.2.2.2.2.2.1 x0.2.2.2.2.2.2.2.1 x0.2.2.2.2.2.2.2.2.1 x0.2.2.2.2.1 x0.2.2.2.2.2.2.2.2.2.1 x0.2.2.2.2.2.2.2.2.2.2.1 x0.2.2.2.2.2.2.2.2.2.2.2) (cond (decide ((x0.2.2.2.2.2.2.2.2.2.2.1.length : Int) < (x0.2.1.length : Int))) (c3 (x0.2.2.2.2.2.2.2.2.2.2.1.length : Int) (x0.2.2.2.1.length : Int) (0 : Int) x0.1 x0.2.1 x0.2.2.1 x0.2.2.2.1 x0.2.2.2.2.2.1 x0.2.2.2.2.2.2.1 x0.2.2.2.2.2.2.2.1 x0.2.2.2.2.2.2.2.2.1 x0.2.2.2.2.1 x0.2.2.2.2.2.2.2.2.2.1 x0.2.2.2.2.2.2.2.2.2.2.1 x0.2.2.2.2.2.2.2.2.2.2.2) (Option.bind (res (.slice tI) (R f_slices_Clone_int [.val (.slice tI) x0.2.2.2.2.2.2.2.2.2.1])) (fun r1 => (Option.bind (res (.slice tI) (R f_slices_Clone_int [.val (.slice tI) x0.2.2.2.2.2.2.2.2.2.2.1])) (fun r2 => (cond (roomy (x0.2.2.2.2.2.2.2.2.2.2.2.length + ([(r1, r2)] : List (D tMorphism)).length) 48) (some ⟨(.pair (.slice tI) (.pair (.slice tEdge) (.pair (.slice tI) (.pair (.slice tEdge) (.pair (.slice (.slice .bool)) (.pair (.opt tI) (.pair (.opt tI) (.pair .bool (.pair tI (.pair (.slice tI) (.pair (.slice tI) (.slice tMorphism)))))))))))), (x0.1, (x0.2.1, (x0.2.2.1, (x0.2.2.2.1, (x0.2.2.2.2.1, (x0.2.2.2.2.2.1, (x0.2.2.2.2.2.2.1, (x0.2.2.2.2.2.2.2.1, (x0.2.2.2.2.2.2.2.2.1, (x0.2.2.2.2.2.2.2.2.2.1, (x0.2.2.2.2.2.2.2.2.2.2.1, (x0.2.2.2.2.2.2.2.2.2.2.2 ++ ([(r1, r2)] : List (D tMorphism))))))))))))))⟩) none))))))))
theorem lp_search_finder_find_1_step (k : Nat) (j1 : Nat) : lp_search_finder_find_1 k (j1 + 1) = s_search_finder_find_1 (run M k) (lp_search_finder_find_1 k j1) := by kernel_rfl
theorem lp_search_finder_find_1_zero (k : Nat) : lp_search_finder_find_1 k 0 = fun _ _ _ _ _ _ _ _ _ _ _ _ _ _ _ _ => none := by kernel_rfl
theorem lp_search_finder_find_1_eq (k : Nat) (j1 : Nat) : lp_search_finder_find_1 k j1 = l_search_finder_find_1 (run M k) j1 := by
  induction j1 with
  | zero => exact lp_search_finder_find_1_zero k
  | succ j1 ih => rw [lp_search_finder_find_1_step]; simp only [ih]; rfl
theorem lp_search_finder_find_3_step (k : Nat) (j3 : Nat) : lp_search_finder_find_3 k (j3 + 1) = s_search_finder_find_3 (run M k) (lp_search_finder_find_3 k j3) := by kernel_rfl
theorem lp_search_finder_find_3_zero (k : Nat) : lp_search_finder_find_3 k 0 = fun _ _ _ _ _ _ _ _ _ _ _ _ _ _ _ => none := by kernel_rfl
theorem lp_search_finder_find_3_eq (k : Nat) (j3 : Nat) : lp_search_finder_find_3 k j3 = l_search_finder_find_3 (run M k) j3 := by
  induction j3 with
  | zero => exact lp_search_finder_find_3_zero k
  | succ j3 ih => rw [lp_search_finder_find_3_step]; simp only [ih]; rfl
theorem e0_search_finder_find (k : Nat) (x0 : D (.pair (.slice tI) (.pair (.slice tEdge) (.pair (.slice tI) (.pair (.slice tEdge) (.pair (.slice (.slice .bool)) (.pair (.opt tI) (.pair (.opt tI) (.pair .bool (.pair tI (.pair (.slice tI) (.pair (.slice tI) (.slice tMorphism))))))))))))) : run M (k + 1) 169 [.rw [((.slice tI), false), ((.slice tEdge), false), ((.slice tI), false), ((.slice tEdge), false), ((.slice (.slice .bool)), true), ((.opt tI), false), ((.opt tI), false), (.bool, false), (tI, false), ((.slice tI), true), ((.slice tI), true), ((.slice tMorphism), true)] x0] = b_search_finder_find (run M k) (lp_search_finder_find_1 k k) (lp_search_finder_find_3 k k) x0 := by kernel_rfl
theorem e_search_finder_find (k : Nat) (x0 : D (.pair (.slice tI) (.pair (.slice tEdge) (.pair (.slice tI) (.pair (.slice tEdge) (.pair (.slice (.slice .bool)) (.pair (.opt tI) (.pair (.opt tI) (.pair .bool (.pair tI (.pair (.slice tI) (.pair (.slice tI) (.slice tMorphism))))))))))))) : run M (k + 1) f_search_finder_find [.rw [((.slice tI), false), ((.slice tEdge), false), ((.slice tI), false), ((.slice tEdge), false), ((.slice (.slice .bool)), true), ((.opt tI), false), ((.opt tI), false), (.bool, false), (tI, false), ((.slice tI), true), ((.slice tI), true), ((.slice tMorphism), true)] x0] = b_search_finder_find (run M k) (l_search_finder_find_1 (run M k) k) (l_search_finder_find_3 (run M k) k) x0 := by
  rw [show run M (k + 1) f_search_finder_find = run M (k + 1) 169 from rfl, e0_search_finder_find]; simp only [lp_search_finder_find_1_eq, lp_search_finder_find_3_eq]
noncomputable def b_search_found (R : RunT) (x0 : D tTypes) (x1 : D tGraph) (x2 : D tGraph) (x3 : D (.pair (.opt tI) (.opt tI))) (x4 : D .bool) (x5 : D tI) : Res E :=
  (Option.bind (res (.slice (.slice .bool)) (R f_search_below [.val tTypes (x0.1, x0.2)])) (fun r1 => (Option.bind (res (.pair (.slice tI) (.pair (.slice tEdge) (.pair (.slice tI) (.pair (.slice tEdge) (.pair (.slice (.slice .bool)) (.pair (.opt tI) (.pair (.opt tI) (.pair .bool (.pair tI (.pair (.slice tI) (.pair (.slice tI) (.slice tMorphism)))))))))))) (R f_search_finder_find [.rw [((.slice tI), false), ((.slice tEdge), false), ((.slice tI), false), ((.slice tEdge), false), ((.slice (.slice .bool)), true), ((.opt tI), false), ((.opt tI), false), (.bool, false), (tI, false), ((.slice tI), true), ((.slice tI), true), ((.slice tMorphism), true)] (x1.1, (x1.2, (x2.1, (x2.2, (r1, (x3.1, (x3.2, (x4, (x5, (([] : List (D tI)), (([] : List (D tI)), ([] : List (D tMorphism)))))))))))))])) (fun r2 => (some ⟨(.slice tMorphism), r2.2.2.2.2.2.2.2.2.2.2.2⟩)))))
theorem e_search_found (k : Nat) (x0 : D tTypes) (x1 : D tGraph) (x2 : D tGraph) (x3 : D (.pair (.opt tI) (.opt tI))) (x4 : D .bool) (x5 : D tI) : run M (k + 1) f_search_found [.val tTypes x0, .val tGraph x1, .val tGraph x2, .val (.pair (.opt tI) (.opt tI)) x3, .val .bool x4, .val tI x5] = b_search_found (run M k) x0 x1 x2 x3 x4 x5 := by kernel_rfl
noncomputable def b_search_all (R : RunT) (x0 : D tTypes) (x1 : D tGraph) (x2 : D tGraph) (x3 : D (.pair (.opt tI) (.opt tI))) (x4 : D .bool) : Res E :=
  (Option.bind (res (.slice tMorphism) (R f_search_found [.val tTypes (x0.1, x0.2), .val tGraph (x1.1, x1.2), .val tGraph (x2.1, x2.2), .val (.pair (.opt tI) (.opt tI)) (x3.1, x3.2), .val .bool x4, .val tI (5001 : Int)])) (fun r1 => (cond (decide ((5000 : Int) < (r1.length : Int))) (some ⟨(.pair (.slice tMorphism) tI), (([] : List (D tMorphism)), (3 : Int))⟩) (some ⟨(.pair (.slice tMorphism) tI), (r1, (0 : Int))⟩))))
theorem e_search_all (k : Nat) (x0 : D tTypes) (x1 : D tGraph) (x2 : D tGraph) (x3 : D (.pair (.opt tI) (.opt tI))) (x4 : D .bool) : run M (k + 1) f_search_all [.val tTypes x0, .val tGraph x1, .val tGraph x2, .val (.pair (.opt tI) (.opt tI)) x3, .val .bool x4] = b_search_all (run M k) x0 x1 x2 x3 x4 := by kernel_rfl
noncomputable def b_search_All (R : RunT) (x0 : D tTypes) (x1 : D tGraph) (x2 : D tGraph) (x3 : D .bool) : Res E :=
  (Option.bind (res tI (R f_search_valid [.val tTypes (x0.1, x0.2), .val tGraph (x1.1, x1.2), .val tGraph (x2.1, x2.2)])) (fun r1 => (cond (!(decide (r1 = (0 : Int)))) (some ⟨(.pair (.slice tMorphism) tI), (([] : List (D tMorphism)), r1)⟩) (Option.bind (res (.pair (.slice tMorphism) tI) (R f_search_all [.val tTypes (x0.1, x0.2), .val tGraph (x1.1, x1.2), .val tGraph (x2.1, x2.2), .val (.pair (.opt tI) (.opt tI)) ((none : Option (List (D tI))), (none : Option (List (D tI)))), .val .bool x3])) (fun r2 => (some ⟨(.pair (.slice tMorphism) tI), (r2.1, r2.2)⟩))))))
theorem e_search_All (k : Nat) (x0 : D tTypes) (x1 : D tGraph) (x2 : D tGraph) (x3 : D .bool) : run M (k + 1) f_search_All [.val tTypes x0, .val tGraph x1, .val tGraph x2, .val .bool x3] = b_search_All (run M k) x0 x1 x2 x3 := by kernel_rfl
noncomputable def b_math_bits_Mul64 (R : RunT) (x0 : D (.int .u64)) (x1 : D (.int .u64)) : Res E :=
  (some ⟨(.pair (.int .u64) (.int .u64)), ((IntKind.u64.wrap ((IntKind.u64.wrap ((IntKind.u64.wrap ((Int.fdiv x0 (2 ^ (min (Int.toNat (32 : Int)) (IntKind.bits .u64)))) * (Int.fdiv x1 (2 ^ (min (Int.toNat (32 : Int)) (IntKind.bits .u64)))))) + (Int.fdiv (IntKind.u64.wrap ((IntKind.u64.wrap ((Int.fdiv x0 (2 ^ (min (Int.toNat (32 : Int)) (IntKind.bits .u64)))) * (IntKind.u64.wrap (((BitVec.ofInt (IntKind.bits .u64) x1 &&& BitVec.ofInt (IntKind.bits .u64) (4294967295 : Int)).toNat : Int))))) + (Int.fdiv (IntKind.u64.wrap ((IntKind.u64.wrap (((BitVec.ofInt (IntKind.bits .u64) x0 &&& BitVec.ofInt (IntKind.bits .u64) (4294967295 : Int)).toNat : Int))) * (IntKind.u64.wrap (((BitVec.ofInt (IntKind.bits .u64) x1 &&& BitVec.ofInt (IntKind.bits .u64) (4294967295 : Int)).toNat : Int))))) (2 ^ (min (Int.toNat (32 : Int)) (IntKind.bits .u64)))))) (2 ^ (min (Int.toNat (32 : Int)) (IntKind.bits .u64)))))) + (Int.fdiv (IntKind.u64.wrap ((IntKind.u64.wrap (((BitVec.ofInt (IntKind.bits .u64) (IntKind.u64.wrap ((IntKind.u64.wrap ((Int.fdiv x0 (2 ^ (min (Int.toNat (32 : Int)) (IntKind.bits .u64)))) * (IntKind.u64.wrap (((BitVec.ofInt (IntKind.bits .u64) x1 &&& BitVec.ofInt (IntKind.bits .u64) (4294967295 : Int)).toNat : Int))))) + (Int.fdiv (IntKind.u64.wrap ((IntKind.u64.wrap (((BitVec.ofInt (IntKind.bits .u64) x0 &&& BitVec.ofInt (IntKind.bits .u64) (4294967295 : Int)).toNat : Int))) * (IntKind.u64.wrap (((BitVec.ofInt (IntKind.bits .u64) x1 &&& BitVec.ofInt (IntKind.bits .u64) (4294967295 : Int)).toNat : Int))))) (2 ^ (min (Int.toNat (32 : Int)) (IntKind.bits .u64)))))) &&& BitVec.ofInt (IntKind.bits .u64) (4294967295 : Int)).toNat : Int))) + (IntKind.u64.wrap ((IntKind.u64.wrap (((BitVec.ofInt (IntKind.bits .u64) x0 &&& BitVec.ofInt (IntKind.bits .u64) (4294967295 : Int)).toNat : Int))) * (Int.fdiv x1 (2 ^ (min (Int.toNat (32 : Int)) (IntKind.bits .u64)))))))) (2 ^ (min (Int.toNat (32 : Int)) (IntKind.bits .u64)))))), (IntKind.u64.wrap (x0 * x1)))⟩)
theorem e_math_bits_Mul64 (k : Nat) (x0 : D (.int .u64)) (x1 : D (.int .u64)) : run M (k + 1) f_math_bits_Mul64 [.val (.int .u64) x0, .val (.int .u64) x1] = b_math_bits_Mul64 (run M k) x0 x1 := by kernel_rfl
noncomputable def b_math_bits_Mul (R : RunT) (x0 : D (.int .u64)) (x1 : D (.int .u64)) : Res E :=
  (Option.bind (res (.pair (.int .u64) (.int .u64)) (R f_math_bits_Mul64 [.val (.int .u64) x0, .val (.int .u64) x1])) (fun r1 => (some ⟨(.pair (.int .u64) (.int .u64)), (r1.1, r1.2)⟩)))
theorem e_math_bits_Mul (k : Nat) (x0 : D (.int .u64)) (x1 : D (.int .u64)) : run M (k + 1) f_math_bits_Mul [.val (.int .u64) x0, .val (.int .u64) x1] = b_math_bits_Mul (run M k) x0 x1 := by kernel_rfl
abbrev V_slices_Repeat_int_0 := (D tI) → (List (D tI)) → Res E
noncomputable def lp_slices_Repeat_int_0 (k : Nat) (j : Nat) (v8 : D tI) (t30 : List (D tI)) : Res E :=
  loopAt M k 146 0 [] [] j ⟨48, [(7, .c (.ref 30 0 none)), (8, .c (.leaf tI v8))], [(30, 0, .tok tI t30)]⟩
noncomputable def s_slices_Repeat_int_0 (R : RunT) (self : V_slices_Repeat_int_0) (v8 : D tI) (t30 : List (D tI)) : Res E :=
  (cond (decide (v8 < (t30.length : Int))) (cond (inS v8 (t30.length : Int) (t30.length : Int)) (cond (inS (0 : Int) v8 (t30.length : Int)) (self (IntKind.i64.wrap (v8 + (((min (((List.drop (Int.toNat (0 : Int)) t30).take (Int.toNat (v8 - (0 : Int)))).length) (Int.toNat ((t30.length : Int) - v8))) : Nat) : Int))) (splice t30 (Int.toNat v8) (List.take (min (((List.drop (Int.toNat (0 : Int)) t30).take (Int.toNat (v8 - (0 : Int)))).length) (Int.toNat ((t30.length : Int) - v8))) ((List.drop (Int.toNat (0 : Int)) t30).take (Int.toNat (v8 - (0 : Int))))))) none) none) (some ⟨(.slice tI), t30⟩))
noncomputable def l_slices_Repeat_int_0 (R : RunT) : Nat → V_slices_Repeat_int_0
  | 0 => fun _ _ => none
  | j + 1 => s_slices_Repeat_int_0 R (l_slices_Repeat_int_0 R j)
noncomputable def b_slices_Repeat_int (R : RunT) (c0 : V_slices_Repeat_int_0) (x0 : D (.slice tI)) (x1 : D tI) : Res E :=
  (cond (decide (x1 < (0 : Int))) none (Option.bind (res (.pair (.int .u64) (.int .u64)) (R f_math_bits_Mul [.val (.int .u64) (IntKind.u64.wrap ((x0.length : Int))), .val (.int .u64) (IntKind.u64.wrap (x1))])) (fun r1 => (cond (cond (decide ((0 : Int) < r1.1)) true (decide ((9223372036854775807 : Int) < r1.2))) none (cond ((inS (0 : Int) (IntKind.i64.wrap (r1.2)) (IntKind.i64.wrap (r1.2))) && (roomy (Int.toNat (IntKind.i64.wrap (r1.2))) 8)) (c0 (((min (x0.length) ((List.replicate (Int.toNat (IntKind.i64.wrap (r1.2))) (dflt E tI)).length)) : Nat) : Int) (splice (List.replicate (Int.toNat (IntKind.i64.wrap (r1.2))) (dflt E tI)) 0 (List.take (min (x0.length) ((List.replicate (Int.toNat (IntKind.i64.wrap (r1.2))) (dflt E tI)).length)) x0))) none)))))
theorem lp_slices_Repeat_int_0_step (k : Nat) (j0 : Nat) : lp_slices_Repeat_int_0 k (j0 + 1) = s_slices_Repeat_int_0 (run M k) (lp_slices_Repeat_int_0 k j0) := by kernel_rfl
theorem lp_slices_Repeat_int_0_zero (k : Nat) : lp_slices_Repeat_int_0 k 0 = fun _ _ => none := by kernel_rfl
theorem lp_slices_Repeat_int_0_eq (k : Nat) (j0 : Nat) : lp_slices_Repeat_int_0 k j0 = l_slices_Repeat_int_0 (run M k) j0 := by
  induction j0 with
  | zero => exact lp_slices_Repeat_int_0_zero k
  | succ j0 ih => rw [lp_slices_Repeat_int_0_step]; simp only [ih]; rfl
theorem e0_slices_Repeat_int (k : Nat) (x0 : D (.slice tI)) (x1 : D tI) : run M (k + 1) 146 [.val (.slice tI) x0, .val tI x1] = b_slices_Repeat_int (run M k) (lp_slices_Repeat_int_0 k k) x0 x1 := by kernel_rfl
theorem e_slices_Repeat_int (k : Nat) (x0 : D (.slice tI)) (x1 : D tI) : run M (k + 1) f_slices_Repeat_int [.val (.slice tI) x0, .val tI x1] = b_slices_Repeat_int (run M k) (l_slices_Repeat_int_0 (run M k) k) x0 x1 := by
  rw [show run M (k + 1) f_slices_Repeat_int = run M (k + 1) 146 from rfl, e0_slices_Repeat_int]; simp only [lp_slices_Repeat_int_0_eq]
abbrev V_constraint_open_0 := (D (.slice tI)) → (D (.slice tI)) → (D tI) → (D tI) → (List (D tI)) → Res E
noncomputable def lp_constraint_open_0 (k : Nat) (j : Nat) (v2 : D (.slice tI)) (v13 : D (.slice tI)) (v14 : D tI) (v15 : D tI) (t1000768 : List (D tI)) : Res E :=
  loopAt M k 108 0 [] [] j ⟨29, [(2, .c (.leaf (.slice tI) v2)), (7, .c (.ref 1000768 0 none)), (13, .c (.leaf (.slice tI) v13)), (14, .c (.leaf tI v14)), (15, .c (.leaf tI v15))], [(1000768, 0, .tok tI t1000768)]⟩
noncomputable def s_constraint_open_0 (R : RunT) (self : V_constraint_open_0) (v2 : D (.slice tI)) (v13 : D (.slice tI)) (v14 : D tI) (v15 : D tI) (t1000768 : List (D tI)) : Res E :=
  (cond (decide (v15 < v14)) (cond (inB v15 (v13.length : Int)) (cond (inB v15 (v2.length : Int)) (cond (inB (rd (E := E) (t := tI) v13 v15) (t1000768.length : Int)) (self v2 v13 v14 (IntKind.i64.wrap (v15 + (1 : Int))) (List.set t1000768 (Int.toNat (rd (E := E) (t := tI) v13 v15)) (rd (E := E) (t := tI) v2 v15))) none) none) none) (some ⟨(.slice tI), t1000768⟩))
noncomputable def l_constraint_open_0 (R : RunT) : Nat → V_constraint_open_0
  | 0 => fun _ _ _ _ _ => none
  | j + 1 => s_constraint_open_0 R (l_constraint_open_0 R j)
noncomputable def b_constraint_open (R : RunT) (c0 : V_constraint_open_0) (x0 : D tI) (x1 : D (.slice tI)) (x2 : D (.slice tI)) : Res E :=
  (Option.bind (res (.slice tI) (R f_slices_Repeat_int [.val (.slice tI) ([(-1 : Int)] : List (D tI)), .val tI x0])) (fun r1 => (c0 x2 x1 (x1.length : Int) (0 : Int) r1)))
theorem lp_constraint_open_0_step (k : Nat) (j0 : Nat) : lp_constraint_open_0 k (j0 + 1) = s_constraint_open_0 (run M k) (lp_constraint_open_0 k j0) := by kernel_rfl
theorem lp_constraint_open_0_zero (k : Nat) : lp_constraint_open_0 k 0 = fun _ _ _ _ _ => none := by kernel_rfl
theorem lp_constraint_open_0_eq (k : Nat) (j0 : Nat) : lp_constraint_open_0 k j0 = l_constraint_open_0 (run M k) j0 := by
  induction j0 with
  | zero => exact lp_constraint_open_0_zero k
  | succ j0 ih => rw [lp_constraint_open_0_step]; simp only [ih]; rfl
theorem e0_constraint_open (k : Nat) (x0 : D tI) (x1 : D (.slice tI)) (x2 : D (.slice tI)) : run M (k + 1) 108 [.val tI x0, .val (.slice tI) x1, .val (.slice tI) x2] = b_constraint_open (run M k) (lp_constraint_open_0 k k) x0 x1 x2 := by kernel_rfl
theorem e_constraint_open (k : Nat) (x0 : D tI) (x1 : D (.slice tI)) (x2 : D (.slice tI)) : run M (k + 1) f_constraint_open [.val tI x0, .val (.slice tI) x1, .val (.slice tI) x2] = b_constraint_open (run M k) (l_constraint_open_0 (run M k) k) x0 x1 x2 := by
  rw [show run M (k + 1) f_constraint_open = run M (k + 1) 108 from rfl, e0_constraint_open]; simp only [lp_constraint_open_0_eq]
noncomputable def b_search_open_1 (R : RunT) (x0 : D tI) (x1 : D tI) : Res E :=
  (some ⟨.bool, (cond (decide (x0 < (-1 : Int))) true (decide (x1 ≤ x0)))⟩)
theorem e_search_open_1 (k : Nat) (x0 : D tI) (x1 : D tI) : run M (k + 1) f_search_open_1 [.val tI x0, .ro tI x1] = b_search_open_1 (run M k) x0 x1 := by kernel_rfl
noncomputable def b_search_open (R : RunT) (x0 : D (.slice tI)) (x1 : D tI) : Res E :=
  (Option.bind (res .bool (R f_slices_ContainsFunc_int [.val (.slice tI) x0, .fn f_search_open_1 [⟨tI, x1⟩]])) (fun r1 => (cond r1 (some ⟨tI, (6 : Int)⟩) (some ⟨tI, (0 : Int)⟩))))
theorem e_search_open (k : Nat) (x0 : D (.slice tI)) (x1 : D tI) : run M (k + 1) f_search_open [.val (.slice tI) x0, .val tI x1] = b_search_open (run M k) x0 x1 := by kernel_rfl
noncomputable def b_search_Extend (R : RunT) (x0 : D tTypes) (x1 : D tGraph) (x2 : D tGraph) (x3 : D tMorphism) (x4 : D .bool) : Res E :=
  (Option.bind (res tI (R f_search_valid [.val tTypes (x0.1, x0.2), .val tGraph (x1.1, x1.2), .val tGraph (x2.1, x2.2)])) (fun r1 => (cond (!(decide (r1 = (0 : Int)))) (some ⟨(.pair (.slice tMorphism) tI), (([] : List (D tMorphism)), r1)⟩) (cond (cond (!(decide ((x3.1.length : Int) = (x1.1.length : Int)))) true (!(decide ((x3.2.length : Int) = (x1.2.length : Int))))) (some ⟨(.pair (.slice tMorphism) tI), (([] : List (D tMorphism)), (20 : Int))⟩) (Option.bind (res tI (R f_search_open [.val (.slice tI) x3.1, .val tI (x2.1.length : Int)])) (fun r2 => (cond (!(decide (r2 = (0 : Int)))) (some ⟨(.pair (.slice tMorphism) tI), (([] : List (D tMorphism)), r2)⟩) (Option.bind (res tI (R f_search_open [.val (.slice tI) x3.2, .val tI (x2.2.length : Int)])) (fun r3 => (cond (!(decide (r3 = (0 : Int)))) (some ⟨(.pair (.slice tMorphism) tI), (([] : List (D tMorphism)), r3)⟩) (Option.bind (res (.pair (.slice tMorphism) tI) (R f_search_all [.val tTypes (x0.1, x0.2), .val tGraph (x1.1, x1.2), .val tGraph (x2.1, x2.2), .val (.pair (.opt tI) (.opt tI)) ((some x3.1 : Option (List (D tI))), (some x3.2 : Option (List (D tI)))), .val .bool x4])) (fun r4 => (some ⟨(.pair (.slice tMorphism) tI), (r4.1, r4.2)⟩)))))))))))))
theorem e_search_Extend (k : Nat) (x0 : D tTypes) (x1 : D tGraph) (x2 : D tGraph) (x3 : D tMorphism) (x4 : D .bool) : run M (k + 1) f_search_Extend [.val tTypes x0, .val tGraph x1, .val tGraph x2, .val tMorphism x3, .val .bool x4] = b_search_Extend (run M k) x0 x1 x2 x3 x4 := by kernel_rfl
abbrev V_constraint_extended_0 := (D (.slice tExtension)) → (D tI) → (D tI) → (D (.slice tNodeType)) → (D (.slice tEdgeType)) → (D (.slice tI)) → (D (.slice tEdge)) → (D (.slice tI)) → (D (.slice tI)) → Res E
noncomputable def lp_constraint_extended_0 (k : Nat) (j : Nat) (v15 : D (.slice tExtension)) (v16 : D tI) (v17 : D tI) (b4_0 : D (.slice tNodeType)) (b4_1 : D (.slice tEdgeType)) (b6_0 : D (.slice tI)) (b6_1 : D (.slice tEdge)) (b7_0 : D (.slice tI)) (b7_1 : D (.slice tI)) : Res E :=
  loopAt M k 64 0 [] [] j ⟨63, [(4, .c (.ptr 4 0 0)), (6, .c (.ptr 6 0 0)), (7, .c (.ptr 7 0 0)), (15, .c (.leaf (.slice tExtension) v15)), (16, .c (.leaf tI v16)), (17, .c (.leaf tI v17))], [(4, 0, .box [.leaf (.slice tNodeType) b4_0, .leaf (.slice tEdgeType) b4_1]), (6, 0, .box [.leaf (.slice tI) b6_0, .leaf (.slice tEdge) b6_1]), (7, 0, .box [.leaf (.slice tI) b7_0, .leaf (.slice tI) b7_1])]⟩
noncomputable def s_constraint_extended_0 (R : RunT) (self : V_constraint_extended_0) (v15 : D (.slice tExtension)) (v16 : D tI) (v17 : D tI) (b4_0 : D (.slice tNodeType)) (b4_1 : D (.slice tEdgeType)) (b6_0 : D (.slice tI)) (b6_1 : D (.slice tEdge)) (b7_0 : D (.slice tI)) (b7_1 : D (.slice tI)) : Res E :=
  (cond (decide (v17 < v16)) (cond (inB v17 (v15.length : Int)) (Option.bind (res (.slice tI) (R f_constraint_open [.val tI ((((rd (E := E) (t := tExtension) v15 v17).2).1).length : Int), .val (.slice tI) (((rd (E := E) (t := tExtension) v15 v17).1).1), .val (.slice tI) b7_0])) (fun r1 => (Option.bind (res (.slice tI) (R f_constraint_open [.val tI ((((rd (E := E) (t := tExtension) v15 v17).2).2).length : Int), .val (.slice tI) (((rd (E := E) (t := tExtension) v15 v17).1).2), .val (.slice tI) b7_1])) (fun r2 => (Option.bind (res (.pair (.slice tMorphism) tI) (R f_search_Extend [.val tTypes (b4_0, b4_1), .val tGraph (((rd (E := E) (t := tExtension) v15 v17).2).1, ((rd (E := E) (t := tExtension) v15 v17).2).2), .val tGraph (b6_0, b6_1), .val tMorphism (r1, r2), .val .bool true])) (fun r3 => (cond (cond (decide (r3.2 = (3 : Int))) true (cond (decide (r3.2 = (0 : Int))) (decide ((0 : Int) < (r3.1.length : Int))) false)) (some ⟨.bool, true⟩) (self v15 v16 (IntKind.i64.wrap (v17 + (1 : Int))) b4_0 b4_1 b6_0 b6_1 b7_0 b7_1)))))))) none) (some ⟨.bool, false⟩))
noncomputable def l_constraint_extended_0 (R : RunT) : Nat → V_constraint_extended_0
  | 0 => fun _ _ _ _ _ _ _ _ _ => none
  | j + 1 => s_constraint_extended_0 R (l_constraint_extended_0 R j)
noncomputable def b_constraint_extended (R : RunT) (c0 : V_constraint_extended_0) (x0 : D tTypes) (x1 : D tConstraint) (x2 : D tGraph) (x3 : D tMorphism) : Res E :=
  (c0 x1.2.2.2 (x1.2.2.2.length : Int) (0 : Int) x0.1 x0.2 x2.1 x2.2 x3.1 x3.2)
theorem lp_constraint_extended_0_step (k : Nat) (j0 : Nat) : lp_constraint_extended_0 k (j0 + 1) = s_constraint_extended_0 (run M k) (lp_constraint_extended_0 k j0) := by kernel_rfl
theorem lp_constraint_extended_0_zero (k : Nat) : lp_constraint_extended_0 k 0 = fun _ _ _ _ _ _ _ _ _ => none := by kernel_rfl
theorem lp_constraint_extended_0_eq (k : Nat) (j0 : Nat) : lp_constraint_extended_0 k j0 = l_constraint_extended_0 (run M k) j0 := by
  induction j0 with
  | zero => exact lp_constraint_extended_0_zero k
  | succ j0 ih => rw [lp_constraint_extended_0_step]; simp only [ih]; rfl
theorem e0_constraint_extended (k : Nat) (x0 : D tTypes) (x1 : D tConstraint) (x2 : D tGraph) (x3 : D tMorphism) : run M (k + 1) 64 [.val tTypes x0, .val tConstraint x1, .val tGraph x2, .val tMorphism x3] = b_constraint_extended (run M k) (lp_constraint_extended_0 k k) x0 x1 x2 x3 := by kernel_rfl
theorem e_constraint_extended (k : Nat) (x0 : D tTypes) (x1 : D tConstraint) (x2 : D tGraph) (x3 : D tMorphism) : run M (k + 1) f_constraint_extended [.val tTypes x0, .val tConstraint x1, .val tGraph x2, .val tMorphism x3] = b_constraint_extended (run M k) (l_constraint_extended_0 (run M k) k) x0 x1 x2 x3 := by
  rw [show run M (k + 1) f_constraint_extended = run M (k + 1) 64 from rfl, e0_constraint_extended]; simp only [lp_constraint_extended_0_eq]
abbrev V_constraint_Violations_0 := (D tI) → (D tI) → (D (.slice tNodeType)) → (D (.slice tEdgeType)) → (D .str) → (D tI) → (D (.slice tI)) → (D (.slice tEdge)) → (D (.slice tExtension)) → (D (.slice tI)) → (D (.slice tEdge)) → (List (D tMorphism)) → (List (D tMorphism)) → Res E
noncomputable def lp_constraint_Violations_0 (k : Nat) (j : Nat) (v32 : D tI) (v33 : D tI) (b3_0 : D (.slice tNodeType)) (b3_1 : D (.slice tEdgeType)) (b4_0 : D .str) (b4_1 : D tI) (b4_2 : D (.slice tI)) (b4_3 : D (.slice tEdge)) (b4_4 : D (.slice tExtension)) (b5_0 : D (.slice tI)) (b5_1 : D (.slice tEdge)) (t1001600 : List (D tMorphism)) (t500011 : List (D tMorphism)) : Res E :=
  loopAt M k 27 0 [] [] j ⟨54, [(3, .c (.ptr 3 0 0)), (4, .c (.ptr 4 0 0)), (5, .c (.ptr 5 0 0)), (11, .c (.ref 500011 0 none)), (31, .c (.ref 1001600 0 none)), (32, .c (.leaf tI v32)), (33, .c (.leaf tI v33))], [(3, 0, .box [.leaf (.slice tNodeType) b3_0, .leaf (.slice tEdgeType) b3_1]), (4, 0, .box [.leaf .str b4_0, .leaf tI b4_1, .leaf (.slice tI) b4_2, .leaf (.slice tEdge) b4_3, .leaf (.slice tExtension) b4_4]), (5, 0, .box [.leaf (.slice tI) b5_0, .leaf (.slice tEdge) b5_1]), (1001600, 0, .tok tMorphism t1001600), (500011, 0, .tok tMorphism t500011)]⟩
noncomputable def s_constraint_Violations_0 (R : RunT) (self : V_constraint_Violations_0) (v32 : D tI) (v33 : D tI) (b3_0 : D (.slice tNodeType)) (b3_1 : D (.slice tEdgeType)) (b4_0 : D .str) (b4_1 : D tI) (b4_2 : D (.slice tI)) (b4_3 : D (.slice tEdge)) (b4_4 : D (.slice tExtension)) (b5_0 : D (.slice tI)) (b5_1 : D (.slice tEdge)) (t1001600 : List (D tMorphism)) (t500011 : List (D tMorphism)) : Res E :=
  (cond (decide (v33 < v32)) (cond (inB v33 (t1001600.length : Int)) (Option.bind (cond (!(decide (b4_1 = (1 : Int)))) (res .bool (R f_constraint_extended [.val tTypes (b3_0, b3_1), .val tConstraint (b4_0, (b4_1, ((b4_2, b4_3), b4_4))), .val tGraph (b5_0, b5_1), .val tMorphism ((List.getD t1001600 (Int.toNat v33) (dflt E tMorphism)).1, (List.getD t1001600 (Int.toNat v33) (dflt E tMorphism)).2)])) (some (dflt E .bool))) (fun r1 => (cond (cond (decide (b4_1 = (1 : Int))) true (!r1)) (cond (roomy (t500011.length + ([((List.getD t1001600 (Int.toNat v33) (dflt E tMorphism)).1, (List.getD t1001600 (Int.toNat v33) (dflt E tMorphism)).2)] : List (D tMorphism)).length) 48) (self v32 (IntKind.i64.wrap (v33 + (1 : Int))) b3_0 b3_1 b4_0 b4_1 b4_2 b4_3 b4_4 b5_0 b5_1 t1001600 (t500011 ++ ([((List.getD t1001600 (Int.toNat v33) (dflt E tMorphism)).1, (List.getD t1001600 (Int.toNat v33) (dflt E tMorphism)).2)] : List (D tMorphism)))) none) (self v32 (IntKind.i64.wrap (v33 + (1 : Int))) b3_0 b3_1 b4_0 b4_1 b4_2 b4_3 b4_4 b5_0 b5_1 t1001600 t500011)))) none) (some ⟨(.pair (.slice tMorphism) tI), (t500011, (0 : Int))⟩))
noncomputable def l_constraint_Violations_0 (R : RunT) : Nat → V_constraint_Violations_0
  | 0 => fun _ _ _ _ _ _ _ _ _ _ _ _ _ => none
  | j + 1 => s_constraint_Violations_0 R (l_constraint_Violations_0 R j)
noncomputable def b_constraint_Violations (R : RunT) (c0 : V_constraint_Violations_0) (x0 : D tTypes) (x1 : D tConstraint) (x2 : D tGraph) : Res E :=
  (Option.bind (res tI (R f_constraint_Valid [.val tTypes (x0.1, x0.2), .val tConstraint (x1.1, (x1.2.1, ((x1.2.2.1.1, x1.2.2.1.2), x1.2.2.2)))])) (fun r1 => (cond (!(decide (r1 = (0 : Int)))) (some ⟨(.pair (.slice tMorphism) tI), (([] : List (D tMorphism)), r1)⟩) (Option.bind (res (.pair (.slice tMorphism) tI) (R f_search_All [.val tTypes (x0.1, x0.2), .val tGraph (x1.2.2.1.1, x1.2.2.1.2), .val tGraph (x2.1, x2.2), .val .bool true])) (fun r2 => (cond (!(decide (r2.2 = (0 : Int)))) (some ⟨(.pair (.slice tMorphism) tI), (([] : List (D tMorphism)), r2.2)⟩) (c0 (r2.1.length : Int) (0 : Int) x0.1 x0.2 x1.1 x1.2.1 x1.2.2.1.1 x1.2.2.1.2 x1.2.2.2 x2.1 x2.2 r2.1 ([] : List (D tMorphism)))))))))
theorem lp_constraint_Violations_0_step (k : Nat) (j0 : Nat) : lp_constraint_Violations_0 k (j0 + 1) = s_constraint_Violations_0 (run M k) (lp_constraint_Violations_0 k j0) := by kernel_rfl
theorem lp_constraint_Violations_0_zero (k : Nat) : lp_constraint_Violations_0 k 0 = fun _ _ _ _ _ _ _ _ _ _ _ _ _ => none := by kernel_rfl
theorem lp_constraint_Violations_0_eq (k : Nat) (j0 : Nat) : lp_constraint_Violations_0 k j0 = l_constraint_Violations_0 (run M k) j0 := by
  induction j0 with
  | zero => exact lp_constraint_Violations_0_zero k
  | succ j0 ih => rw [lp_constraint_Violations_0_step]; simp only [ih]; rfl
theorem e0_constraint_Violations (k : Nat) (x0 : D tTypes) (x1 : D tConstraint) (x2 : D tGraph) : run M (k + 1) 27 [.val tTypes x0, .val tConstraint x1, .val tGraph x2] = b_constraint_Violations (run M k) (lp_constraint_Violations_0 k k) x0 x1 x2 := by kernel_rfl
theorem e_constraint_Violations (k : Nat) (x0 : D tTypes) (x1 : D tConstraint) (x2 : D tGraph) : run M (k + 1) f_constraint_Violations [.val tTypes x0, .val tConstraint x1, .val tGraph x2] = b_constraint_Violations (run M k) (l_constraint_Violations_0 (run M k) k) x0 x1 x2 := by
  rw [show run M (k + 1) f_constraint_Violations = run M (k + 1) 27 from rfl, e0_constraint_Violations]; simp only [lp_constraint_Violations_0_eq]
noncomputable def b_r04_Example (R : RunT) : Res E :=
  (some ⟨tTypes, (([((⟨#[65, 99, 99, 111, 117, 110, 116]⟩ : ByteArray), ((-1 : Int), (true, ([((⟨#[98, 97, 108, 97, 110, 99, 101]⟩ : ByteArray), ((-1000 : Int), ((1000 : Int), ([] : List (D .str)))))] : List (D tAttr))))), ((⟨#[67, 97, 115, 104]⟩ : ByteArray), ((0 : Int), (false, ([] : List (D tAttr))))), ((⟨#[76, 111, 97, 110]⟩ : ByteArray), ((0 : Int), (false, ([((⟨#[115, 116, 97, 116, 101]⟩ : ByteArray), ((0 : Int), ((1 : Int), ([(⟨#[111, 112, 101, 110]⟩ : ByteArray), (⟨#[99, 108, 111, 115, 101, 100]⟩ : ByteArray)] : List (D .str)))))] : List (D tAttr))))), ((⟨#[80, 101, 114, 115, 111, 110]⟩ : ByteArray), ((-1 : Int), (false, ([] : List (D tAttr)))))] : List (D tNodeType)), ([((⟨#[111, 119, 110, 115]⟩ : ByteArray), ((3 : Int), ((0 : Int), ((0 : Int), ((-1 : Int), ((1 : Int), (1 : Int))))))), ((⟨#[112, 97, 121, 115]⟩ : ByteArray), ((1 : Int), ((1 : Int), ((0 : Int), ((-1 : Int), ((0 : Int), (-1 : Int)))))))] : List (D tEdgeType)))⟩)
theorem e_r04_Example (k : Nat) : run M (k + 1) f_r04_Example [] = b_r04_Example (run M k) := by kernel_rfl
noncomputable def b_w42_awake (R : RunT) : Res E :=
  (Option.bind (res tTypes (R f_r04_Example [])) (fun r1 => (Option.bind (res (.pair (.slice tMorphism) tI) (R f_constraint_Violations [.val tTypes (r1.1, r1.2), .val tConstraint ((⟨#[111, 110, 101]⟩ : ByteArray), ((1 : Int), ((([(3 : Int), (3 : Int), (1 : Int)] : List (D tI)), ([((0 : Int), ((0 : Int), (2 : Int))), ((0 : Int), ((1 : Int), (2 : Int)))] : List (D tEdge))), ([] : List (D tExtension))))), .val tGraph (([(3 : Int), (1 : Int), (1 : Int)] : List (D tI)), ([((0 : Int), ((0 : Int), (1 : Int))), ((0 : Int), ((0 : Int), (2 : Int)))] : List (D tEdge)))])) (fun r2 => (cond (roomy (([(3 : Int), (1 : Int), (1 : Int)] : List (D tI)).length + ([(3 : Int)] : List (D tI)).length) 8) (cond (roomy (([((0 : Int), ((0 : Int), (1 : Int))), ((0 : Int), ((0 : Int), (2 : Int)))] : List (D tEdge)).length + ([((0 : Int), ((3 : Int), (1 : Int)))] : List (D tEdge)).length) 24) (Option.bind (res (.pair (.slice tMorphism) tI) (R f_constraint_Violations [.val tTypes (r1.1, r1.2), .val tConstraint ((⟨#[111, 110, 101]⟩ : ByteArray), ((1 : Int), ((([(3 : Int), (3 : Int), (1 : Int)] : List (D tI)), ([((0 : Int), ((0 : Int), (2 : Int))), ((0 : Int), ((1 : Int), (2 : Int)))] : List (D tEdge))), ([] : List (D tExtension))))), .val tGraph ((([(3 : Int), (1 : Int), (1 : Int)] : List (D tI)) ++ ([(3 : Int)] : List (D tI))), (([((0 : Int), ((0 : Int), (1 : Int))), ((0 : Int), ((0 : Int), (2 : Int)))] : List (D tEdge)) ++ ([((0 : Int), ((3 : Int), (1 : Int)))] : List (D tEdge))))])) (fun r3 => (Option.bind (res (.pair (.slice tConstraint) tI) (R f_constraint_Multiplicities [.val tTypes (r1.1, r1.2)])) (fun r4 => (Option.bind (cond (cond (cond (cond (cond (cond (decide (r2.2 = (0 : Int))) (decide (r3.2 = (0 : Int))) false) (decide (r4.2 = (0 : Int))) false) (decide ((r2.1.length : Int) = (0 : Int))) false) (decide ((r3.1.length : Int) = (2 : Int))) false) (decide ((r4.1.length : Int) = (6 : Int))) false) (res tI (R f_constraint_Valid [.val tTypes (r1.1, r1.2), .val tConstraint ((⟨#[111, 110, 101]⟩ : ByteArray), ((1 : Int), ((([(3 : Int), (3 : Int), (1 : Int)] : List (D tI)), ([((0 : Int), ((0 : Int), (2 : Int))), ((0 : Int), ((1 : Int), (2 : Int)))] : List (D tEdge))), ([] : List (D tExtension)))))])) (some (dflt E tI))) (fun r5 => (some ⟨.bool, (cond (cond (cond (cond (cond (cond (decide (r2.2 = (0 : Int))) (decide (r3.2 = (0 : Int))) false) (decide (r4.2 = (0 : Int))) false) (decide ((r2.1.length : Int) = (0 : Int))) false) (decide ((r3.1.length : Int) = (2 : Int))) false) (decide ((r4.1.length : Int) = (6 : Int))) false) (decide (r5 = (0 : Int))) false)⟩))))))) none) none)))))
theorem e_w42_awake (k : Nat) : run M (k + 1) f_w42_awake [] = b_w42_awake (run M k) := by kernel_rfl
noncomputable def b_r05_Few (R : RunT) (x0 : D tGraph) : Res E :=
  (some ⟨.bool, (cond (decide ((x0.1.length : Int) ≤ (45 : Int))) (decide ((x0.2.length : Int) ≤ (90 : Int))) false)⟩)
theorem e_r05_Few (k : Nat) (x0 : D tGraph) : run M (k + 1) f_r05_Few [.val tGraph x0] = b_r05_Few (run M k) x0 := by kernel_rfl
noncomputable def b_r06_Few (R : RunT) (x0 : D tMorphism) (x1 : D tI) : Res E :=
  (some ⟨.bool, (decide ((IntKind.i64.wrap ((x0.1.length : Int) + (x0.2.length : Int))) ≤ x1))⟩)
theorem e_r06_Few (k : Nat) (x0 : D tMorphism) (x1 : D tI) : run M (k + 1) f_r06_Few [.val tMorphism x0, .val tI x1] = b_r06_Few (run M k) x0 x1 := by kernel_rfl
end Go.Proofs.AM
