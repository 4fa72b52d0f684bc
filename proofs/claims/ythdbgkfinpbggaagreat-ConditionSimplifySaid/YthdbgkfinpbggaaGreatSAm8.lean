/- Helpers of this claim: an abstract machine over the model, proved sound; what it computes. Part 8. -/
import Derived.Test.YthdbgkfinpbggaaGreatSAm6
import Derived.Test.YthdbgkfinpbggaaGreatSAm7
import Derived.Test.YthdbgkfinpbggaaGreatSAm3
import Derived.KernelRfl
set_option linter.unusedVariables false
set_option linter.unusedSimpArgs false
namespace Go.Proofs.AM
open Go
set_option maxRecDepth 100000
noncomputable section
inductive AK where
  | v (t : Ty) | r (t : Ty) | o (t : Ty) | k (t : Ty) | f | w (cs : List (Ty × Bool))
def AF : List AK → Type
  | [] => Res E
  | .v t :: q => D t → AF q
  | .r t :: q => D t → AF q
  | .o t :: q => List (D t) → AF q
  | .k t :: q => List (D t) → AF q
  | .f :: q => FuncId → List (Dt E) → AF q
  | .w cs :: q => D (tyL (cs.map (·.1))) → AF q
abbrev AC := List (Arg E) → Res E
def ap : (ks : List AK) → AF ks → AC → AC
  | [], b, d => fun l => match l with
    | [] => b
    | l => d l
  | .v ty :: q, f, d => fun l => match l with
    | .val t x :: r => if h : t = ty then ap q (f (castD h x)) (fun r => d (.val t x :: r)) r else d (.val t x :: r)
    | l => d l
  | .r ty :: q, f, d => fun l => match l with
    | .ro t x :: r => if h : t = ty then ap q (f (castD h x)) (fun r => d (.ro t x :: r)) r else d (.ro t x :: r)
    | l => d l
  | .o ty :: q, f, d => fun l => match l with
    | .own t x :: r => if h : t = ty then ap q (f (h ▸ x)) (fun r => d (.own t x :: r)) r else d (.own t x :: r)
    | l => d l
  | .k ty :: q, f, d => fun l => match l with
    | .take t x :: r => if h : t = ty then ap q (f (h ▸ x)) (fun r => d (.take t x :: r)) r else d (.take t x :: r)
    | l => d l
  | .f :: q, f, d => fun l => match l with
    | .fn g c :: r => ap q (f g c) (fun r => d (.fn g c :: r)) r
    | l => d l
  | .w cs :: q, f, d => fun l => match l with
    | .rw t x :: r => if h : t = cs then ap q (f (h ▸ x)) (fun r => d (.rw t x :: r)) r else d (.rw t x :: r)
    | l => d l
def AOk : (ks : List AK) → AF ks → AC → Prop
  | [], b, d => b = d []
  | .v ty :: q, f, d => ∀ x, AOk q (f x) (fun r => d (.val ty x :: r))
  | .r ty :: q, f, d => ∀ x, AOk q (f x) (fun r => d (.ro ty x :: r))
  | .o ty :: q, f, d => ∀ x, AOk q (f x) (fun r => d (.own ty x :: r))
  | .k ty :: q, f, d => ∀ x, AOk q (f x) (fun r => d (.take ty x :: r))
  | .f :: q, f, d => ∀ g c, AOk q (f g c) (fun r => d (.fn g c :: r))
  | .w cs :: q, f, d => ∀ x, AOk q (f x) (fun r => d (.rw cs x :: r))
theorem ap_eq : ∀ (ks : List AK) (f : AF ks) (d : AC), AOk ks f d → ∀ l, ap ks f d l = d l
  | [], b, d, h, l => by
    cases l with
    | nil => exact h
    | cons _ _ => rfl
  | .v ty :: q, f, d, h, l => by
    cases l with
    | nil => rfl
    | cons a r => cases a with
      | val t x =>
        show (if h : t = ty then ap q (f (castD h x)) (fun r => d (.val t x :: r)) r else d (.val t x :: r)) = _
        split
        · rename_i h'; subst h'; exact ap_eq q _ _ (h _) _
        · rfl
      | _ => rfl
  | .r ty :: q, f, d, h, l => by
    cases l with
    | nil => rfl
    | cons a r => cases a with
      | ro t x =>
        show (if h : t = ty then ap q (f (castD h x)) (fun r => d (.ro t x :: r)) r else d (.ro t x :: r)) = _
        split
        · rename_i h'; subst h'; exact ap_eq q _ _ (h _) _
        · rfl
      | _ => rfl
  | .o ty :: q, f, d, h, l => by
    cases l with
    | nil => rfl
    | cons a r => cases a with
      | own t x =>
        show (if h : t = ty then ap q (f (h ▸ x)) (fun r => d (.own t x :: r)) r else d (.own t x :: r)) = _
        split
        · rename_i h'; subst h'; exact ap_eq q _ _ (h _) _
        · rfl
      | _ => rfl
  | .k ty :: q, f, d, h, l => by
    cases l with
    | nil => rfl
    | cons a r => cases a with
      | take t x =>
        show (if h : t = ty then ap q (f (h ▸ x)) (fun r => d (.take t x :: r)) r else d (.take t x :: r)) = _
        split
        · rename_i h'; subst h'; exact ap_eq q _ _ (h _) _
        · rfl
      | _ => rfl
  | .f :: q, f, d, h, l => by
    cases l with
    | nil => rfl
    | cons a r => cases a with
      | fn g c =>
        exact ap_eq q _ _ (h _ _) _
      | _ => rfl
  | .w cs :: q, f, d, h, l => by
    cases l with
    | nil => rfl
    | cons a r => cases a with
      | rw t x =>
        show (if h : t = cs then ap q (f (h ▸ x)) (fun r => d (.rw t x :: r)) r else d (.rw t x :: r)) = _
        split
        · rename_i h'; subst h'; exact ap_eq q _ _ (h _) _
        · rfl
      | _ => rfl
def tabT (R : RunT) (k : Nat) : Tr AC := (.node 174 (ap [.v tTypes, .v tI, .v tI, .v tI] (b_types_Fits R) (run M (k + 1) 174))
(.node 92 (ap [.v tGraph, .v tGraph, .v tMorphism] (b_morphism_Valid R (l_morphism_Valid_0 R (l_morphism_Valid_2 R k) k)) (run M (k + 1) 92))
(.node 64 (ap [.v tTypes, .v tGraph, .v tGraph, .v (.pair (.opt tI) (.opt tI)), .v .bool] (b_search_all R) (run M (k + 1) 64))
(.node 39 (ap [.v tTypes, .v tPattern] (b_attribute_Valid R (l_attribute_Valid_0 R k)) (run M (k + 1) 39))
(.node 23 (ap [.v tTypes, .v tPattern, .v (.nom 0), .v tHost, .v tMatch, .v .bool, .v (.nom 2)] (b_condition_CheckWitness R) (run M (k + 1) 23))
(.node 18 (ap [.v tTypes, .v tPattern, .v (.nom 0), .v tHost, .v tMatch, .v .bool] (b_condition_Satisfies R) (run M (k + 1) 18))
(.node 15 (ap [.v tTypes, .v tPattern, .v (.nom 0)] (b_condition_Valid R) (run M (k + 1) 15))
(.node 11 (ap [] (b_w22_awake R) (run M (k + 1) 11))
.leaf .leaf) .leaf) (.node 20 (ap [.v tTypes, .v tPattern, .v (.nom 0), .v tHost, .v tMatch, .v .bool] (b_condition_Witness R) (run M (k + 1) 20))
.leaf .leaf)) (.node 35 (ap [] (b_r04_Example R) (run M (k + 1) 35))
(.node 29 (ap [.v tTypes, .v tGraph, .v tGraph, .v tMorphism, .v .bool] (b_search_Extend R) (run M (k + 1) 29))
.leaf .leaf) (.node 36 (ap [] (b_w22_another R) (run M (k + 1) 36))
.leaf .leaf))) (.node 48 (ap [.v tScene, .v (.nom 0), .v tMatch] (b_condition_scene_witness R (l_condition_scene_witness_2 R k) (l_condition_scene_witness_4 R k)) (run M (k + 1) 48))
(.node 41 (ap [.v tTypes, .v tPattern, .v (.nom 0)] (b_condition_inside R (l_condition_inside_0 R k)) (run M (k + 1) 41))
(.node 40 (ap [.v (.nom 0)] (b_condition_shape R) (run M (k + 1) 40))
.leaf .leaf) (.node 47 (ap [.v tTypes, .v tPattern, .v (.nom 0), .v tHost, .v tMatch, .v .bool] (b_condition_given R) (run M (k + 1) 47))
.leaf .leaf)) (.node 62 (ap [.v tTypes, .v tGraph, .v tGraph] (b_search_valid R (l_search_valid_0 R k)) (run M (k + 1) 62))
(.node 51 (ap [.v tScene, .v (.nom 0), .v tMatch, .v (.nom 2)] (b_condition_scene_right R (l_condition_scene_right_1 R k)) (run M (k + 1) 51))
.leaf .leaf) (.node 63 (ap [.v (.slice tI), .v tI] (b_search_open R) (run M (k + 1) 63))
.leaf .leaf)))) (.node 84 (ap [.v tEdge, .r tTypes] (b_attribute_Valid_2 R) (run M (k + 1) 84))
(.node 80 (ap [.v tGraph] (b_graph_Valid R) (run M (k + 1) 80))
(.node 73 (ap [.v (.slice tI), .v (.slice tI)] (b_slices_Equal_int R (l_slices_Equal_int_0 R k)) (run M (k + 1) 73))
(.node 72 (ap [.v tMorphism, .v tMorphism] (b_morphism_Same R) (run M (k + 1) 72))
.leaf .leaf) (.node 79 (ap [.v tTypes] (b_types_Valid R (l_types_Valid_1 R (l_types_Valid_3 R k) k)) (run M (k + 1) 79))
.leaf .leaf)) (.node 82 (ap [.v tI, .r tTypes] (b_attribute_Valid_1 R) (run M (k + 1) 82))
(.node 81 (ap [.v (.slice tI), .f] (b_slices_ContainsFunc_int R) (run M (k + 1) 81))
.leaf .leaf) (.node 83 (ap [.v (.slice tEdge), .f] (b_slices_ContainsFunc_Edge R) (run M (k + 1) 83))
.leaf .leaf))) (.node 88 (ap [.v (.slice .bool), .v .bool] (b_slices_Contains_bool R) (run M (k + 1) 88))
(.node 86 (ap [.v tTypes, .v tPattern, .v tSlot] (b_attribute_attr R) (run M (k + 1) 86))
(.node 85 (ap [.v tI, .v tI, .v tI] (b_attribute_within R) (run M (k + 1) 85))
.leaf .leaf) (.node 87 (ap [.v tI, .v (.slice tTest)] (b_difference_Valid R (l_difference_Valid_0 R k)) (run M (k + 1) 87))
.leaf .leaf)) (.node 90 (ap [.v (.nom 0)] (b_condition_measure R (l_condition_measure_0 R k)) (run M (k + 1) 90))
(.node 89 (ap [.v (.nom 0)] (b_condition_wellFormed R) (run M (k + 1) 89))
.leaf .leaf) (.node 91 (ap [.v tTypes, .v tPattern, .v tI] (b_condition_pattern R (l_condition_pattern_0 R k)) (run M (k + 1) 91))
.leaf .leaf))))) (.node 147 (ap [.v tI] (b_graph_Valid_1 R) (run M (k + 1) 147))
(.node 117 (ap [.v tMatch, .r (.nom 2)] (b_condition_scene_right_1 R) (run M (k + 1) 117))
(.node 111 (ap [.v tScene, .v (.nom 0), .v tMatch] (b_condition_scene_extended R (l_condition_scene_extended_0 R k)) (run M (k + 1) 111))
(.node 109 (ap [.v tTypes, .v tGraph, .v tGraph, .v tMorphism, .v .bool] (b_search_Check R) (run M (k + 1) 109))
(.node 108 (ap [.v tTypes, .v tHost] (b_host_Valid R (l_host_Valid_0 R (l_host_Valid_2 R k) k)) (run M (k + 1) 108))
(.node 93 (ap [.v tGraph, .v tGraph, .v tMorphism] (b_morphism_Injective R) (run M (k + 1) 93))
.leaf .leaf) .leaf) (.node 110 (ap [.v tTypes, .v tPattern, .v tHost, .v tMorphism] (b_attribute_Solve R) (run M (k + 1) 110))
.leaf .leaf)) (.node 115 (ap [.v tScene, .v (.nom 0), .v tMatch] (b_condition_scene_extensions R (l_condition_scene_extensions_0 R k)) (run M (k + 1) 115))
(.node 114 (ap [.v tMatch] (b_condition_unmatched R) (run M (k + 1) 114))
.leaf .leaf) (.node 116 (ap [.v (.slice tMatch), .f] (b_slices_ContainsFunc_Match R) (run M (k + 1) 116))
.leaf .leaf))) (.node 133 (ap [.v tTypes, .v tGraph, .v tGraph, .v (.pair (.opt tI) (.opt tI)), .v .bool, .v tI] (b_search_found R) (run M (k + 1) 133))
(.node 131 (ap [.v tTypes, .v tGraph] (b_search_within R) (run M (k + 1) 131))
(.node 118 (ap [.v tMatch, .v tMatch] (b_condition_sameMatch R) (run M (k + 1) 118))
.leaf .leaf) (.node 132 (ap [.v tI, .r tI] (b_search_open_1 R) (run M (k + 1) 132))
.leaf .leaf)) (.node 145 (ap [.v tTypes, .v tI] (b_types_node R (l_types_node_1 R k)) (run M (k + 1) 145))
(.node 138 (ap [.v (.slice tI)] (b_slices_Clone_int R) (run M (k + 1) 138))
.leaf .leaf) (.node 146 (ap [.v tTypes, .v tI] (b_types_edge R) (run M (k + 1) 146))
.leaf .leaf)))) (.node 155 (ap [.v (.slice .bool), .v .bool] (b_slices_Index_bool R (l_slices_Index_bool_0 R k)) (run M (k + 1) 155))
(.node 151 (ap [.v (.slice tI), .f] (b_slices_IndexFunc_int R (l_slices_IndexFunc_int_0 R k)) (run M (k + 1) 151))
(.node 149 (ap [.v tEdge, .r tGraph] (b_graph_Valid_2 R) (run M (k + 1) 149))
(.node 148 (ap [.v tI, .v tI] (b_graph_within R) (run M (k + 1) 148))
.leaf .leaf) (.node 150 (ap [.v tEdge, .v tI] (b_graph_fits R) (run M (k + 1) 150))
.leaf .leaf)) (.node 153 (ap [.v tTypes, .v tI] (b_types_Attrs R (l_types_Attrs_0 R k)) (run M (k + 1) 153))
(.node 152 (ap [.v (.slice tEdge), .f] (b_slices_IndexFunc_Edge R (l_slices_IndexFunc_Edge_0 R k)) (run M (k + 1) 152))
.leaf .leaf) (.node 154 (ap [.v tI, .v tTest] (b_difference_one R) (run M (k + 1) 154))
.leaf .leaf))) (.node 159 (ap [.v (.slice tSlot), .f] (b_slices_ContainsFunc_Slot R) (run M (k + 1) 159))
(.node 157 (ap [.v (.slice (.nom 0)), .f] (b_slices_ContainsFunc_Condition R) (run M (k + 1) 157))
(.node 156 (ap [.v (.nom 0)] (b_condition_bare R) (run M (k + 1) 156))
.leaf .leaf) (.node 158 (ap [.v (.nom 0)] (b_condition_wellFormed_1 R) (run M (k + 1) 158))
.leaf .leaf)) (.node 161 (ap [.v (.slice tI)] (b_morphism_images R) (run M (k + 1) 161))
(.node 160 (ap [.v tSlot, .r tI] (b_condition_pattern_1 R) (run M (k + 1) 160))
.leaf .leaf) (.node 173 (ap [.v tTypes, .v tI, .v (.slice tI)] (b_host_node R (l_host_node_0 R k)) (run M (k + 1) 173))
.leaf .leaf)))))) (.node 242 (ap [.r (.pair tGraph (.pair tGraph (.pair (.slice (.slice .bool)) (.pair (.pair (.opt tI) (.opt tI)) (.pair .bool (.pair tI (.pair (.slice tI) (.pair (.slice tI) (.slice tMorphism)))))))))] (b_search_finder_possible R (l_search_finder_possible_0 R k)) (run M (k + 1) 242))
(.node 213 (ap [.v (.slice tEdgeType), .f] (b_slices_ContainsFunc_EdgeType R) (run M (k + 1) 213))
(.node 197 (ap [.v tTypes] (b_search_below R (l_search_below_0 R k)) (run M (k + 1) 197))
(.node 182 (ap [.v tScene, .v tPattern, .v tMorphism, .v (.slice tI)] (b_condition_scene_values R (l_condition_scene_values_0 R (l_condition_scene_values_2 R (l_condition_scene_values_4 R k) k) k)) (run M (k + 1) 182))
(.node 178 (ap [.v tPattern, .v tHost, .v tMorphism] (b_attribute_solve R (l_attribute_solve_0 R (l_attribute_solve_2 R k) k)) (run M (k + 1) 178))
(.node 177 (ap [.v tTypes, .v tPattern, .v tHost] (b_attribute_given R) (run M (k + 1) 177))
(.node 175 (ap [.v tTypes, .v tGraph, .v tGraph, .v tMorphism] (b_search_shape R (l_search_shape_0 R (l_search_shape_2 R k) k)) (run M (k + 1) 175))
.leaf .leaf) .leaf) (.node 181 (ap [.v tI, .v (.slice tI), .v (.slice tI)] (b_condition_placed R (l_condition_placed_0 R k)) (run M (k + 1) 181))
.leaf .leaf)) (.node 195 (ap [.v tI, .r tTypes] (b_search_within_1 R) (run M (k + 1) 195))
(.node 183 (ap [.v (.slice tMatch), .f] (b_slices_IndexFunc_Match R (l_slices_IndexFunc_Match_0 R k)) (run M (k + 1) 183))
.leaf .leaf) (.node 196 (ap [.v tEdge, .r tTypes] (b_search_within_2 R) (run M (k + 1) 196))
.leaf .leaf))) (.node 209 (ap [.v tNodeType, .r tNodeType] (b_types_node_1 R) (run M (k + 1) 209))
(.node 207 (ap [.v .str] (b_token_IsName R) (run M (k + 1) 207))
(.node 198 (ap [.w [((.slice tI), false), ((.slice tEdge), false), ((.slice tI), false), ((.slice tEdge), false), ((.slice (.slice .bool)), true), ((.opt tI), false), ((.opt tI), false), (.bool, false), (tI, false), ((.slice tI), true), ((.slice tI), true), ((.slice tMorphism), true)]] (b_search_finder_find R (l_search_finder_find_1 R k) (l_search_finder_find_3 R k)) (run M (k + 1) 198))
.leaf .leaf) (.node 208 (ap [.v (.slice tNodeType), .f] (b_slices_ContainsFunc_NodeType R) (run M (k + 1) 208))
.leaf .leaf)) (.node 211 (ap [.v tAttr, .v (.slice tAttr)] (b_types_attribute R) (run M (k + 1) 211))
(.node 210 (ap [.v tTypes, .v tI] (b_types_attrs R) (run M (k + 1) 210))
.leaf .leaf) (.node 212 (ap [.v tI, .r tTypes] (b_types_edge_1 R) (run M (k + 1) 212))
.leaf .leaf)))) (.node 229 (ap [.v tTypes, .v tI, .v tI] (b_types_is R) (run M (k + 1) 229))
(.node 217 (ap [.v (.slice .str)] (b_slices_Clone_string R) (run M (k + 1) 217))
(.node 215 (ap [.v tI, .v tI] (b_types_bounded R) (run M (k + 1) 215))
(.node 214 (ap [.v tEdgeType, .r tEdgeType] (b_types_edge_2 R) (run M (k + 1) 214))
.leaf .leaf) (.node 216 (ap [.v tTypes, .v (.slice tI)] (b_types_given R) (run M (k + 1) 216))
.leaf .leaf)) (.node 219 (ap [.v (.slice (.nom 0)), .f] (b_slices_IndexFunc_Condition R (l_slices_IndexFunc_Condition_0 R k)) (run M (k + 1) 219))
(.node 218 (ap [.v tI, .v tTerm] (b_difference_term R) (run M (k + 1) 218))
.leaf .leaf) (.node 220 (ap [.v (.slice tSlot), .f] (b_slices_IndexFunc_Slot R (l_slices_IndexFunc_Slot_0 R k)) (run M (k + 1) 220))
.leaf .leaf))) (.node 236 (ap [.v tTerm, .v (.slice tI)] (b_attribute_Term R) (run M (k + 1) 236))
(.node 233 (ap [.v tTest, .v (.slice tI)] (b_difference_Holds R) (run M (k + 1) 233))
(.node 232 (ap [.v tTerm, .v (.slice tI)] (b_attribute_value R) (run M (k + 1) 232))
.leaf .leaf) (.node 235 (ap [.v (.slice tI), .v tI] (b_slices_Repeat_int R (l_slices_Repeat_int_0 R k)) (run M (k + 1) 235))
.leaf .leaf)) (.node 240 (ap [.v (.opt tI), .v tI] (b_search_given R) (run M (k + 1) 240))
(.node 239 (ap [.v tTypes, .v tI] (b_types_Below R (l_types_Below_0 R k)) (run M (k + 1) 239))
.leaf .leaf) (.node 241 (ap [.v (.slice tI), .v tI] (b_slices_Contains_int R) (run M (k + 1) 241))
.leaf .leaf))))) (.node 265 (ap [.v (.slice tI), .v tI] (b_slices_Index_int R (l_slices_Index_int_0 R k)) (run M (k + 1) 265))
(.node 250 (ap [.v tI, .r tTypes] (b_types_given_1 R) (run M (k + 1) 250))
(.node 246 (ap [.v (.slice tAttr), .f] (b_slices_ContainsFunc_Attr R) (run M (k + 1) 246))
(.node 244 (ap [.v tToken] (b_token_whole R) (run M (k + 1) 244))
(.node 243 (ap [.r (.pair tGraph (.pair tGraph (.pair (.slice (.slice .bool)) (.pair (.pair (.opt tI) (.opt tI)) (.pair .bool (.pair tI (.pair (.slice tI) (.pair (.slice tI) (.slice tMorphism))))))))), .v tI, .v tI] (b_search_finder_fits R) (run M (k + 1) 243))
.leaf .leaf) (.node 245 (ap [.v (.slice tNodeType), .f] (b_slices_IndexFunc_NodeType R (l_slices_IndexFunc_NodeType_0 R k)) (run M (k + 1) 245))
.leaf .leaf)) (.node 248 (ap [.v (.slice .str)] (b_types_names R (l_types_names_0 R k)) (run M (k + 1) 248))
(.node 247 (ap [.v tAttr, .r tAttr] (b_types_attribute_1 R) (run M (k + 1) 247))
.leaf .leaf) (.node 249 (ap [.v (.slice tEdgeType), .f] (b_slices_IndexFunc_EdgeType R (l_slices_IndexFunc_EdgeType_0 R k)) (run M (k + 1) 249))
.leaf .leaf))) (.node 261 (ap [.v (.slice tI)] (b_cmp_Or_int R (l_cmp_Or_int_0 R k)) (run M (k + 1) 261))
(.node 259 (ap [.v tTerm, .r (.slice tI)] (b_difference_Holds_1 R) (run M (k + 1) 259))
(.node 256 (ap [.v tTypes, .v tI] (b_types_line R (l_types_line_0 R k)) (run M (k + 1) 256))
.leaf .leaf) (.node 260 (ap [.v tI, .v tI] (b_difference_wide R) (run M (k + 1) 260))
.leaf .leaf)) (.node 263 (ap [.v (.int .u64), .v (.int .u64)] (b_cmp_Compare_uint64 R) (run M (k + 1) 263))
(.node 262 (ap [.v tI, .v tI] (b_cmp_Compare_int R) (run M (k + 1) 262))
.leaf .leaf) (.node 264 (ap [.v (.int .u64), .v (.int .u64)] (b_math_bits_Mul R) (run M (k + 1) 264))
.leaf .leaf)))) (.node 289 (ap [.v tU8] (b_token_letter R) (run M (k + 1) 289))
(.node 282 (ap [.o tI] (b_slices_Reverse_int R (l_slices_Reverse_int_0 R k)) (run M (k + 1) 282))
(.node 267 (ap [.v (.slice tAttr), .f] (b_slices_IndexFunc_Attr R (l_slices_IndexFunc_Attr_0 R k)) (run M (k + 1) 267))
(.node 266 (ap [.v .str] (b_token_next R) (run M (k + 1) 266))
.leaf .leaf) (.node 268 (ap [.v (.slice .str), .v .str] (b_slices_Contains_string R) (run M (k + 1) 268))
.leaf .leaf)) (.node 286 (ap [.v (.int .u64)] (b_cmp_isNaN_uint64 R) (run M (k + 1) 286))
(.node 285 (ap [.v tI] (b_cmp_isNaN_int R) (run M (k + 1) 285))
.leaf .leaf) (.node 288 (ap [.v (.int .u64), .v (.int .u64)] (b_math_bits_Mul64 R) (run M (k + 1) 288))
.leaf .leaf))) (.node 293 (ap [.v .str] (b_token_quoted R) (run M (k + 1) 293))
(.node 291 (ap [.v tU8] (b_token_part R) (run M (k + 1) 291))
(.node 290 (ap [.v .str, .f] (b_token_run R (l_token_run_0 R k)) (run M (k + 1) 290))
.leaf .leaf) (.node 292 (ap [.v tU8] (b_token_digit R) (run M (k + 1) 292))
.leaf .leaf)) (.node 296 (ap [.v (.slice .str), .v .str] (b_slices_Index_string R (l_slices_Index_string_0 R k)) (run M (k + 1) 296))
(.node 294 (ap [.v .str] (b_token_pair R) (run M (k + 1) 294))
.leaf .leaf) (.node 307 (ap [.v tU8] (b_token_quoted_1 R) (run M (k + 1) 307))
.leaf .leaf)))))))
theorem tabT_ok (k : Nat) : Tr.AllP (fun f (g : AC) => ∀ l, g l = run M (k + 1) f l) (tabT (run M k) k) := by unfold tabT; exact (.node (ap_eq _ _ _ (fun x0 x1 x2 x3 => (e_types_Fits k x0 x1 x2 x3).symm)) (.node (ap_eq _ _ _ (fun x0 x1 x2 => (e_morphism_Valid k x0 x1 x2).symm)) (.node (ap_eq _ _ _ (fun x0 x1 x2 x3 x4 => (e_search_all k x0 x1 x2 x3 x4).symm)) (.node (ap_eq _ _ _ (fun x0 x1 => (e_attribute_Valid k x0 x1).symm)) (.node (ap_eq _ _ _ (fun x0 x1 x2 x3 x4 x5 x6 => (e_condition_CheckWitness k x0 x1 x2 x3 x4 x5 x6).symm)) (.node (ap_eq _ _ _ (fun x0 x1 x2 x3 x4 x5 => (e_condition_Satisfies k x0 x1 x2 x3 x4 x5).symm)) (.node (ap_eq _ _ _ (fun x0 x1 x2 => (e_condition_Valid k x0 x1 x2).symm)) (.node (ap_eq _ _ _ (e_w22_awake k).symm) .leaf .leaf) .leaf) (.node (ap_eq _ _ _ (fun x0 x1 x2 x3 x4 x5 => (e_condition_Witness k x0 x1 x2 x3 x4 x5).symm)) .leaf .leaf)) (.node (ap_eq _ _ _ (e_r04_Example k).symm) (.node (ap_eq _ _ _ (fun x0 x1 x2 x3 x4 => (e_search_Extend k x0 x1 x2 x3 x4).symm)) .leaf .leaf) (.node (ap_eq _ _ _ (e_w22_another k).symm) .leaf .leaf))) (.node (ap_eq _ _ _ (fun x0 x1 x2 => (e_condition_scene_witness k x0 x1 x2).symm)) (.node (ap_eq _ _ _ (fun x0 x1 x2 => (e_condition_inside k x0 x1 x2).symm)) (.node (ap_eq _ _ _ (fun x0 => (e_condition_shape k x0).symm)) .leaf .leaf) (.node (ap_eq _ _ _ (fun x0 x1 x2 x3 x4 x5 => (e_condition_given k x0 x1 x2 x3 x4 x5).symm)) .leaf .leaf)) (.node (ap_eq _ _ _ (fun x0 x1 x2 => (e_search_valid k x0 x1 x2).symm)) (.node (ap_eq _ _ _ (fun x0 x1 x2 x3 => (e_condition_scene_right k x0 x1 x2 x3).symm)) .leaf .leaf) (.node (ap_eq _ _ _ (fun x0 x1 => (e_search_open k x0 x1).symm)) .leaf .leaf)))) (.node (ap_eq _ _ _ (fun x0 x1 => (e_attribute_Valid_2 k x0 x1).symm)) (.node (ap_eq _ _ _ (fun x0 => (e_graph_Valid k x0).symm)) (.node (ap_eq _ _ _ (fun x0 x1 => (e_slices_Equal_int k x0 x1).symm)) (.node (ap_eq _ _ _ (fun x0 x1 => (e_morphism_Same k x0 x1).symm)) .leaf .leaf) (.node (ap_eq _ _ _ (fun x0 => (e_types_Valid k x0).symm)) .leaf .leaf)) (.node (ap_eq _ _ _ (fun x0 x1 => (e_attribute_Valid_1 k x0 x1).symm)) (.node (ap_eq _ _ _ (fun x0 x1 x1c => (e_slices_ContainsFunc_int k x0 x1 x1c).symm)) .leaf .leaf) (.node (ap_eq _ _ _ (fun x0 x1 x1c => (e_slices_ContainsFunc_Edge k x0 x1 x1c).symm)) .leaf .leaf))) (.node (ap_eq _ _ _ (fun x0 x1 => (e_slices_Contains_bool k x0 x1).symm)) (.node (ap_eq _ _ _ (fun x0 x1 x2 => (e_attribute_attr k x0 x1 x2).symm)) (.node (ap_eq _ _ _ (fun x0 x1 x2 => (e_attribute_within k x0 x1 x2).symm)) .leaf .leaf) (.node (ap_eq _ _ _ (fun x0 x1 => (e_difference_Valid k x0 x1).symm)) .leaf .leaf)) (.node (ap_eq _ _ _ (fun x0 => (e_condition_measure k x0).symm)) (.node (ap_eq _ _ _ (fun x0 => (e_condition_wellFormed k x0).symm)) .leaf .leaf) (.node (ap_eq _ _ _ (fun x0 x1 x2 => (e_condition_pattern k x0 x1 x2).symm)) .leaf .leaf))))) (.node (ap_eq _ _ _ (fun x0 => (e_graph_Valid_1 k x0).symm)) (.node (ap_eq _ _ _ (fun x0 x1 => (e_condition_scene_right_1 k x0 x1).symm)) (.node (ap_eq _ _ _ (fun x0 x1 x2 => (e_condition_scene_extended k x0 x1 x2).symm)) (.node (ap_eq _ _ _ (fun x0 x1 x2 x3 x4 => (e_search_Check k x0 x1 x2 x3 x4).symm)) (.node (ap_eq _ _ _ (fun x0 x1 => (e_host_Valid k x0 x1).symm)) (.node (ap_eq _ _ _ (fun x0 x1 x2 => (e_morphism_Injective k x0 x1 x2).symm)) .leaf .leaf) .leaf) (.node (ap_eq _ _ _ (fun x0 x1 x2 x3 => (e_attribute_Solve k x0 x1 x2 x3).symm)) .leaf .leaf)) (.node (ap_eq _ _ _ (fun x0 x1 x2 => (e_condition_scene_extensions k x0 x1 x2).symm)) (.node (ap_eq _ _ _ (fun x0 => (e_condition_unmatched k x0).symm)) .leaf .leaf) (.node (ap_eq _ _ _ (fun x0 x1 x1c => (e_slices_ContainsFunc_Match k x0 x1 x1c).symm)) .leaf .leaf))) (.node (ap_eq _ _ _ (fun x0 x1 x2 x3 x4 x5 => (e_search_found k x0 x1 x2 x3 x4 x5).symm)) (.node (ap_eq _ _ _ (fun x0 x1 => (e_search_within k x0 x1).symm)) (.node (ap_eq _ _ _ (fun x0 x1 => (e_condition_sameMatch k x0 x1).symm)) .leaf .leaf) (.node (ap_eq _ _ _ (fun x0 x1 => (e_search_open_1 k x0 x1).symm)) .leaf .leaf)) (.node (ap_eq _ _ _ (fun x0 x1 => (e_types_node k x0 x1).symm)) (.node (ap_eq _ _ _ (fun x0 => (e_slices_Clone_int k x0).symm)) .leaf .leaf) (.node (ap_eq _ _ _ (fun x0 x1 => (e_types_edge k x0 x1).symm)) .leaf .leaf)))) (.node (ap_eq _ _ _ (fun x0 x1 => (e_slices_Index_bool k x0 x1).symm)) (.node (ap_eq _ _ _ (fun x0 x1 x1c => (e_slices_IndexFunc_int k x0 x1 x1c).symm)) (.node (ap_eq _ _ _ (fun x0 x1 => (e_graph_Valid_2 k x0 x1).symm)) (.node (ap_eq _ _ _ (fun x0 x1 => (e_graph_within k x0 x1).symm)) .leaf .leaf) (.node (ap_eq _ _ _ (fun x0 x1 => (e_graph_fits k x0 x1).symm)) .leaf .leaf)) (.node (ap_eq _ _ _ (fun x0 x1 => (e_types_Attrs k x0 x1).symm)) (.node (ap_eq _ _ _ (fun x0 x1 x1c => (e_slices_IndexFunc_Edge k x0 x1 x1c).symm)) .leaf .leaf) (.node (ap_eq _ _ _ (fun x0 x1 => (e_difference_one k x0 x1).symm)) .leaf .leaf))) (.node (ap_eq _ _ _ (fun x0 x1 x1c => (e_slices_ContainsFunc_Slot k x0 x1 x1c).symm)) (.node (ap_eq _ _ _ (fun x0 x1 x1c => (e_slices_ContainsFunc_Condition k x0 x1 x1c).symm)) (.node (ap_eq _ _ _ (fun x0 => (e_condition_bare k x0).symm)) .leaf .leaf) (.node (ap_eq _ _ _ (fun x0 => (e_condition_wellFormed_1 k x0).symm)) .leaf .leaf)) (.node (ap_eq _ _ _ (fun x0 => (e_morphism_images k x0).symm)) (.node (ap_eq _ _ _ (fun x0 x1 => (e_condition_pattern_1 k x0 x1).symm)) .leaf .leaf) (.node (ap_eq _ _ _ (fun x0 x1 x2 => (e_host_node k x0 x1 x2).symm)) .leaf .leaf)))))) (.node (ap_eq _ _ _ (fun x0 => (e_search_finder_possible k x0).symm)) (.node (ap_eq _ _ _ (fun x0 x1 x1c => (e_slices_ContainsFunc_EdgeType k x0 x1 x1c).symm)) (.node (ap_eq _ _ _ (fun x0 => (e_search_below k x0).symm)) (.node (ap_eq _ _ _ (fun x0 x1 x2 x3 => (e_condition_scene_values k x0 x1 x2 x3).symm)) (.node (ap_eq _ _ _ (fun x0 x1 x2 => (e_attribute_solve k x0 x1 x2).symm)) (.node (ap_eq _ _ _ (fun x0 x1 x2 => (e_attribute_given k x0 x1 x2).symm)) (.node (ap_eq _ _ _ (fun x0 x1 x2 x3 => (e_search_shape k x0 x1 x2 x3).symm)) .leaf .leaf) .leaf) (.node (ap_eq _ _ _ (fun x0 x1 x2 => (e_condition_placed k x0 x1 x2).symm)) .leaf .leaf)) (.node (ap_eq _ _ _ (fun x0 x1 => (e_search_within_1 k x0 x1).symm)) (.node (ap_eq _ _ _ (fun x0 x1 x1c => (e_slices_IndexFunc_Match k x0 x1 x1c).symm)) .leaf .leaf) (.node (ap_eq _ _ _ (fun x0 x1 => (e_search_within_2 k x0 x1).symm)) .leaf .leaf))) (.node (ap_eq _ _ _ (fun x0 x1 => (e_types_node_1 k x0 x1).symm)) (.node (ap_eq _ _ _ (fun x0 => (e_token_IsName k x0).symm)) (.node (ap_eq _ _ _ (fun x0 => (e_search_finder_find k x0).symm)) .leaf .leaf) (.node (ap_eq _ _ _ (fun x0 x1 x1c => (e_slices_ContainsFunc_NodeType k x0 x1 x1c).symm)) .leaf .leaf)) (.node (ap_eq _ _ _ (fun x0 x1 => (e_types_attribute k x0 x1).symm)) (.node (ap_eq _ _ _ (fun x0 x1 => (e_types_attrs k x0 x1).symm)) .leaf .leaf) (.node (ap_eq _ _ _ (fun x0 x1 => (e_types_edge_1 k x0 x1).symm)) .leaf .leaf)))) (.node (ap_eq _ _ _ (fun x0 x1 x2 => (e_types_is k x0 x1 x2).symm)) (.node (ap_eq _ _ _ (fun x0 => (e_slices_Clone_string k x0).symm)) (.node (ap_eq _ _ _ (fun x0 x1 => (e_types_bounded k x0 x1).symm)) (.node (ap_eq _ _ _ (fun x0 x1 => (e_types_edge_2 k x0 x1).symm)) .leaf .leaf) (.node (ap_eq _ _ _ (fun x0 x1 => (e_types_given k x0 x1).symm)) .leaf .leaf)) (.node (ap_eq _ _ _ (fun x0 x1 x1c => (e_slices_IndexFunc_Condition k x0 x1 x1c).symm)) (.node (ap_eq _ _ _ (fun x0 x1 => (e_difference_term k x0 x1).symm)) .leaf .leaf) (.node (ap_eq _ _ _ (fun x0 x1 x1c => (e_slices_IndexFunc_Slot k x0 x1 x1c).symm)) .leaf .leaf))) (.node (ap_eq _ _ _ (fun x0 x1 => (e_attribute_Term k x0 x1).symm)) (.node (ap_eq _ _ _ (fun x0 x1 => (e_difference_Holds k x0 x1).symm)) (.node (ap_eq _ _ _ (fun x0 x1 => (e_attribute_value k x0 x1).symm)) .leaf .leaf) (.node (ap_eq _ _ _ (fun x0 x1 => (e_slices_Repeat_int k x0 x1).symm)) .leaf .leaf)) (.node (ap_eq _ _ _ (fun x0 x1 => (e_search_given k x0 x1).symm)) (.node (ap_eq _ _ _ (fun x0 x1 => (e_types_Below k x0 x1).symm)) .leaf .leaf) (.node (ap_eq _ _ _ (fun x0 x1 => (e_slices_Contains_int k x0 x1).symm)) .leaf .leaf))))) (.node (ap_eq _ _ _ (fun x0 x1 => (e_slices_Index_int k x0 x1).symm)) (.node (ap_eq _ _ _ (fun x0 x1 => (e_types_given_1 k x0 x1).symm)) (.node (ap_eq _ _ _ (fun x0 x1 x1c => (e_slices_ContainsFunc_Attr k x0 x1 x1c).symm)) (.node (ap_eq _ _ _ (fun x0 => (e_token_whole k x0).symm)) (.node (ap_eq _ _ _ (fun x0 x1 x2 => (e_search_finder_fits k x0 x1 x2).symm)) .leaf .leaf) (.node (ap_eq _ _ _ (fun x0 x1 x1c => (e_slices_IndexFunc_NodeType k x0 x1 x1c).symm)) .leaf .leaf)) (.node (ap_eq _ _ _ (fun x0 => (e_types_names k x0).symm)) (.node (ap_eq _ _ _ (fun x0 x1 => (e_types_attribute_1 k x0 x1).symm)) .leaf .leaf) (.node (ap_eq _ _ _ (fun x0 x1 x1c => (e_slices_IndexFunc_EdgeType k x0 x1 x1c).symm)) .leaf .leaf))) (.node (ap_eq _ _ _ (fun x0 => (e_cmp_Or_int k x0).symm)) (.node (ap_eq _ _ _ (fun x0 x1 => (e_difference_Holds_1 k x0 x1).symm)) (.node (ap_eq _ _ _ (fun x0 x1 => (e_types_line k x0 x1).symm)) .leaf .leaf) (.node (ap_eq _ _ _ (fun x0 x1 => (e_difference_wide k x0 x1).symm)) .leaf .leaf)) (.node (ap_eq _ _ _ (fun x0 x1 => (e_cmp_Compare_uint64 k x0 x1).symm)) (.node (ap_eq _ _ _ (fun x0 x1 => (e_cmp_Compare_int k x0 x1).symm)) .leaf .leaf) (.node (ap_eq _ _ _ (fun x0 x1 => (e_math_bits_Mul k x0 x1).symm)) .leaf .leaf)))) (.node (ap_eq _ _ _ (fun x0 => (e_token_letter k x0).symm)) (.node (ap_eq _ _ _ (fun x0 => (e_slices_Reverse_int k x0).symm)) (.node (ap_eq _ _ _ (fun x0 x1 x1c => (e_slices_IndexFunc_Attr k x0 x1 x1c).symm)) (.node (ap_eq _ _ _ (fun x0 => (e_token_next k x0).symm)) .leaf .leaf) (.node (ap_eq _ _ _ (fun x0 x1 => (e_slices_Contains_string k x0 x1).symm)) .leaf .leaf)) (.node (ap_eq _ _ _ (fun x0 => (e_cmp_isNaN_uint64 k x0).symm)) (.node (ap_eq _ _ _ (fun x0 => (e_cmp_isNaN_int k x0).symm)) .leaf .leaf) (.node (ap_eq _ _ _ (fun x0 x1 => (e_math_bits_Mul64 k x0 x1).symm)) .leaf .leaf))) (.node (ap_eq _ _ _ (fun x0 => (e_token_quoted k x0).symm)) (.node (ap_eq _ _ _ (fun x0 => (e_token_part k x0).symm)) (.node (ap_eq _ _ _ (fun x0 x1 x1c => (e_token_run k x0 x1 x1c).symm)) .leaf .leaf) (.node (ap_eq _ _ _ (fun x0 => (e_token_digit k x0).symm)) .leaf .leaf)) (.node (ap_eq _ _ _ (fun x0 x1 => (e_slices_Index_string k x0 x1).symm)) (.node (ap_eq _ _ _ (fun x0 => (e_token_pair k x0).symm)) .leaf .leaf) (.node (ap_eq _ _ _ (fun x0 => (e_token_quoted_1 k x0).symm)) .leaf .leaf)))))))
def T : Nat → RunT
  | 0 => run M 0
  | k + 1 => fun f l => match (tabT (T k) k).find f with
    | some g => g l
    | none => run M (k + 1) f l
theorem T_eq : ∀ k, T k = run M k
  | 0 => rfl
  | k + 1 => by
    funext f l
    show (match (tabT (T k) k).find f with | some g => g l | none => run M (k + 1) f l) = _
    rw [T_eq k]
    cases h : (tabT (run M k) k).find f with
    | none => rfl
    | some g => exact (tabT_ok k).find h l
end
end Go.Proofs.AM

namespace Go.Proofs.AM
open Go
set_option maxRecDepth 100000
theorem awake22_T (k : Nat) : T (k + 200) f_w22_awake [] = some ⟨.bool, true⟩ := by kernel_rfl
theorem awake22 {k : Nat} (hk : 200 ≤ k) : run M k f_w22_awake [] = some ⟨.bool, true⟩ := by
  obtain ⟨j, rfl⟩ : ∃ j, k = j + 200 := ⟨k - 200, by omega⟩
  rw [← T_eq]; exact awake22_T j
end Go.Proofs.AM
