/- Helpers of this claim: an abstract machine over the model, proved sound; what it computes. Part 7. -/
import Derived.Test.YthdbgkfinpbggaaGreatAm6
import Derived.KernelRfl
set_option linter.unusedVariables false
set_option linter.unusedSimpArgs false
namespace Go.Proofs.AM
open Go
set_option maxRecDepth 100000
noncomputable section
abbrev V_condition_scene_values_0 := (D tI) → (D tI) → (D (.slice tNodeType)) → (D (.slice tEdgeType)) → (D (.slice tI)) → (D (.slice tEdge)) → (D (.slice (.slice tI))) → (D .bool) → (D (.slice tI)) → (D (.slice tEdge)) → (D (.slice tSlot)) → (D tI) → (D (.slice tTest)) → (D (.slice tI)) → (D (.slice tI)) → (List (D tI)) → (List (D .bool)) → Res E
def lp_condition_scene_values_0 (k j : Nat) : V_condition_scene_values_0 := fun v33 v34 b4_0 b4_1 b4_2 b4_3 b4_4 b4_5 b5_0 b5_1 b5_2 b5_3 b5_4 b6_0 b6_1 t28 t31 =>
  loopAt M k 182 0 [] [] j ⟨114, [(4, .c (.ptr 4 0 0)), (5, .c (.ptr 5 0 0)), (6, .c (.ptr 6 0 0)), (10, .c (.ref 28 0 none)), (11, .c (.ref 31 0 none)), (33, .c (.leaf tI v33)), (34, .c (.leaf tI v34))], [(4, 0, .box [.leaf (.slice tNodeType) b4_0, .leaf (.slice tEdgeType) b4_1, .leaf (.slice tI) b4_2, .leaf (.slice tEdge) b4_3, .leaf (.slice (.slice tI)) b4_4, .leaf .bool b4_5]), (5, 0, .box [.leaf (.slice tI) b5_0, .leaf (.slice tEdge) b5_1, .leaf (.slice tSlot) b5_2, .leaf tI b5_3, .leaf (.slice tTest) b5_4]), (6, 0, .box [.leaf (.slice tI) b6_0, .leaf (.slice tI) b6_1]), (28, 0, .tok tI t28), (31, 0, .tok .bool t31)]⟩
abbrev V_condition_scene_values_2 := (D (.slice tSlot)) → (D tI) → (D tI) → (D (.slice tNodeType)) → (D (.slice tEdgeType)) → (D (.slice tI)) → (D (.slice tEdge)) → (D (.slice (.slice tI))) → (D .bool) → (D (.slice tI)) → (D (.slice tEdge)) → (D (.slice tSlot)) → (D tI) → (D (.slice tTest)) → (D (.slice tI)) → (D (.slice tI)) → (List (D tI)) → (List (D .bool)) → Res E
def lp_condition_scene_values_2 (k j : Nat) : V_condition_scene_values_2 := fun v42 v43 v44 b4_0 b4_1 b4_2 b4_3 b4_4 b4_5 b5_0 b5_1 b5_2 b5_3 b5_4 b6_0 b6_1 t28 t31 =>
  loopAt M k 182 2 [] [] j ⟨114, [(4, .c (.ptr 4 0 0)), (5, .c (.ptr 5 0 0)), (6, .c (.ptr 6 0 0)), (10, .c (.ref 28 0 none)), (11, .c (.ref 31 0 none)), (42, .c (.leaf (.slice tSlot) v42)), (43, .c (.leaf tI v43)), (44, .c (.leaf tI v44))], [(4, 0, .box [.leaf (.slice tNodeType) b4_0, .leaf (.slice tEdgeType) b4_1, .leaf (.slice tI) b4_2, .leaf (.slice tEdge) b4_3, .leaf (.slice (.slice tI)) b4_4, .leaf .bool b4_5]), (5, 0, .box [.leaf (.slice tI) b5_0, .leaf (.slice tEdge) b5_1, .leaf (.slice tSlot) b5_2, .leaf tI b5_3, .leaf (.slice tTest) b5_4]), (6, 0, .box [.leaf (.slice tI) b6_0, .leaf (.slice tI) b6_1]), (28, 0, .tok tI t28), (31, 0, .tok .bool t31)]⟩
abbrev V_condition_scene_values_4 := (D (.slice tTest)) → (D tI) → (D tI) → (List (D tI)) → Res E
def lp_condition_scene_values_4 (k j : Nat) : V_condition_scene_values_4 := fun v102 v103 v104 t28 =>
  loopAt M k 182 4 [] [] j ⟨114, [(10, .c (.ref 28 0 none)), (102, .c (.leaf (.slice tTest) v102)), (103, .c (.leaf tI v103)), (104, .c (.leaf tI v104))], [(28, 0, .tok tI t28)]⟩
def s_condition_scene_values_0 (R : RunT) (c2 : V_condition_scene_values_2) (self : V_condition_scene_values_0) : V_condition_scene_values_0 := fun v33 v34 b4_0 b4_1 b4_2 b4_3 b4_4 b4_5 b5_0 b5_1 b5_2 b5_3 b5_4 b6_0 b6_1 t28 t31 =>
  (cond (decide (v34 < v33)) (cond (inB v34 (t31.length : Int)) (self v33 (IntKind.i64.wrap (v34 + (1 : Int))) b4_0 b4_1 b4_2 b4_3 b4_4 b4_5 b5_0 b5_1 b5_2 b5_3 b5_4 b6_0 b6_1 t28 (List.set t31 (Int.toNat v34) true)) none) (c2 b5_2 (b5_2.length : Int) (0 : Int) b4_0 b4_1 b4_2 b4_3 b4_4 b4_5 b5_0 b5_1 b5_2 b5_3 b5_4 b6_0 b6_1 t28 t31))
def s_condition_scene_values_2 (R : RunT) (c4 : V_condition_scene_values_4) (self : V_condition_scene_values_2) : V_condition_scene_values_2 := fun v42 v43 v44 b4_0 b4_1 b4_2 b4_3 b4_4 b4_5 b5_0 b5_1 b5_2 b5_3 b5_4 b6_0 b6_1 t28 t31 =>
  (cond (decide (v44 < v43)) (cond (inB v44 (v42.length : Int)) (cond (inB ((rd (E := E) (t := tSlot) v42 v44).1) (b6_0.length : Int)) (cond (inB (rd (E := E) (t := tI) b6_0 ((rd (E := E) (t := tSlot) v42 v44).1)) (b4_4.length : Int)) (cond (inB (((rd (E := E) (t := tSlot) v42 v44).2).1) ((rd (E := E) (t := (.slice tI)) b4_4 (rd (E := E) (t := tI) b6_0 ((rd (E := E) (t := tSlot) v42 v44).1))).length : Int)) (cond ((inB ((((rd (E := E) (t := tSlot) v42 v44).2).2).1) (t31.length : Int)) || !(decide ((0 : Int) ≤ (((rd (E := E) (t := tSlot) v42 v44).2).2).1))) (cond (cond (decide ((0 : Int) ≤ (((rd (E := E) (t := tSlot) v42 v44).2).2).1)) (!(List.getD t31 (Int.toNat ((((rd (E := E) (t := tSlot) v42 v44).2).2).1)) (dflt E .bool))) false) (cond (inB ((((rd (E := E) (t := tSlot) v42 v44).2).2).1) (t28.length : Int)) (cond (inB ((((rd (E := E) (t := tSlot) v42 v44).2).2).1) (t31.length : Int)) (Option.bind (res tTerm (R f_attribute_Term [.val tTerm ((((rd (E := E) (t := tSlot) v42 v44).2).2).1, (((rd (E := E) (t := tSlot) v42 v44).2).2).2), .val (.slice tI) (List.set t28 (Int.toNat ((((rd (E := E) (t := tSlot) v42 v44).2).2).1)) (IntKind.i64.wrap ((rd (E := E) (t := tI) (rd (E := E) (t := (.slice tI)) b4_4 (rd (E := E) (t := tI) b6_0 ((rd (E := E) (t := tSlot) v42 v44).1))) (((rd (E := E) (t := tSlot) v42 v44).2).1)) - ((((rd (E := E) (t := tSlot) v42 v44).2).2).2))))])) (fun r1 => (cond (cond (!(decide (r1.2 = (0 : Int)))) true (!(decide (r1.1 = (rd (E := E) (t := tI) (rd (E := E) (t := (.slice tI)) b4_4 (rd (E := E) (t := tI) b6_0 ((rd (E := E) (t := tSlot) v42 v44).1))) (((rd (E := E) (t := tSlot) v42 v44).2).1)))))) (some ⟨(.pair (.slice tI) .bool), (([] : List (D tI)), false)⟩) (self v42 v43 (IntKind.i64.wrap (v44 + (1 : Int))) b4_0 b4_1 b4_2 b4_3 b4_4 b4_5 b5_0 b5_1 b5_2 b5_3 b5_4 b6_0 b6_1 (List.set t28 (Int.toNat ((((rd (E := E) (t := tSlot) v42 v44).2).2).1)) (IntKind.i64.wrap ((rd (E := E) (t := tI) (rd (E := E) (t := (.slice tI)) b4_4 (rd (E := E) (t := tI) b6_0 ((rd (E := E) (t := tSlot) v42 v44).1))) (((rd (E := E) (t := tSlot) v42 v44).2).1)) - ((((rd (E := E) (t := tSlot) v42 v44).2).2).2)))) (List.set t31 (Int.toNat ((((rd (E := E) (t := tSlot) v42 v44).2).2).1)) true))))) none) none) (Option.bind (res tTerm (R f_attribute_Term [.val tTerm ((((rd (E := E) (t := tSlot) v42 v44).2).2).1, (((rd (E := E) (t := tSlot) v42 v44).2).2).2), .val (.slice tI) t28])) (fun r2 => (cond (cond (!(decide (r2.2 = (0 : Int)))) true (!(decide (r2.1 = (rd (E := E) (t := tI) (rd (E := E) (t := (.slice tI)) b4_4 (rd (E := E) (t := tI) b6_0 ((rd (E := E) (t := tSlot) v42 v44).1))) (((rd (E := E) (t := tSlot) v42 v44).2).1)))))) (some ⟨(.pair (.slice tI) .bool), (([] : List (D tI)), false)⟩) (self v42 v43 (IntKind.i64.wrap (v44 + (1 : Int))) b4_0 b4_1 b4_2 b4_3 b4_4 b4_5 b5_0 b5_1 b5_2 b5_3 b5_4 b6_0 b6_1 t28 t31))))) none) none) none) none) none) (c4 b5_4 (b5_4.length : Int) (0 : Int) t28))
def s_condition_scene_values_4 (R : RunT) (self : V_condition_scene_values_4) : V_condition_scene_values_4 := fun v102 v103 v104 t28 =>
  (cond (decide (v104 < v103)) (cond (inB v104 (v102.length : Int)) (Option.bind (res .bool (R f_difference_Holds [.val tTest ((rd (E := E) (t := tTest) v102 v104).1, (((((rd (E := E) (t := tTest) v102 v104).2).1).1, (((rd (E := E) (t := tTest) v102 v104).2).1).2), ((((rd (E := E) (t := tTest) v102 v104).2).2).1, (((rd (E := E) (t := tTest) v102 v104).2).2).2))), .val (.slice tI) t28])) (fun r1 => (cond (!r1) (some ⟨(.pair (.slice tI) .bool), (([] : List (D tI)), false)⟩) (self v102 v103 (IntKind.i64.wrap (v104 + (1 : Int))) t28)))) none) (some ⟨(.pair (.slice tI) .bool), (t28, true)⟩))
def l_condition_scene_values_0 (R : RunT) (c2 : V_condition_scene_values_2) : Nat → V_condition_scene_values_0
  | 0 => fun _ _ _ _ _ _ _ _ _ _ _ _ _ _ _ _ _ => none
  | j + 1 => s_condition_scene_values_0 R c2 (l_condition_scene_values_0 R c2 j)
def l_condition_scene_values_2 (R : RunT) (c4 : V_condition_scene_values_4) : Nat → V_condition_scene_values_2
  | 0 => fun _ _ _ _ _ _ _ _ _ _ _ _ _ _ _ _ _ _ => none
  | j + 1 => s_condition_scene_values_2 R c4 (l_condition_scene_values_2 R c4 j)
def l_condition_scene_values_4 (R : RunT) : Nat → V_condition_scene_values_4
  | 0 => fun _ _ _ _ => none
  | j + 1 => s_condition_scene_values_4 R (l_condition_scene_values_4 R j)
def b_condition_scene_values (R : RunT) (c0 : V_condition_scene_values_0) (x0 : D tScene) (x1 : D tPattern) (x2 : D tMorphism) (x3 : D (.slice tI)) : Res E :=
  (Option.bind (res (.slice tI) (R f_slices_Clone_int [.val (.slice tI) x3])) (fun r1 => (cond ((decide ((0 : Int) ≤ (IntKind.i64.wrap (x1.2.2.1 - (x3.length : Int))))) && (roomy (r1.length + (List.replicate (Int.toNat (IntKind.i64.wrap (x1.2.2.1 - (x3.length : Int)))) (dflt E tI)).length) 8)) (cond ((inS (0 : Int) x1.2.2.1 x1.2.2.1) && (roomy (Int.toNat x1.2.2.1) 1)) (c0 (x3.length : Int) (0 : Int) x0.1.1 x0.1.2 x0.2.1.1.1 x0.2.1.1.2 x0.2.1.2 x0.2.2 x1.1.1 x1.1.2 x1.2.1 x1.2.2.1 x1.2.2.2 x2.1 x2.2 (r1 ++ (List.replicate (Int.toNat (IntKind.i64.wrap (x1.2.2.1 - (x3.length : Int)))) (dflt E tI))) (List.replicate (Int.toNat x1.2.2.1) (dflt E .bool))) none) none)))
theorem lp_condition_scene_values_0_eq (k j0 : Nat) : lp_condition_scene_values_0 k j0 = l_condition_scene_values_0 (run M k) (lp_condition_scene_values_2 k k) j0 := by
  induction j0 with
  | zero => kernel_rfl
  | succ j0 ih => exact Eq.trans (b := s_condition_scene_values_0 (run M k) (lp_condition_scene_values_2 k k) (lp_condition_scene_values_0 k j0)) (by kernel_rfl) (by simp only [ih]; rfl)
theorem lp_condition_scene_values_2_eq (k j2 : Nat) : lp_condition_scene_values_2 k j2 = l_condition_scene_values_2 (run M k) (lp_condition_scene_values_4 k k) j2 := by
  induction j2 with
  | zero => kernel_rfl
  | succ j2 ih => exact Eq.trans (b := s_condition_scene_values_2 (run M k) (lp_condition_scene_values_4 k k) (lp_condition_scene_values_2 k j2)) (by kernel_rfl) (by simp only [ih]; rfl)
theorem lp_condition_scene_values_4_eq (k j4 : Nat) : lp_condition_scene_values_4 k j4 = l_condition_scene_values_4 (run M k) j4 := by
  induction j4 with
  | zero => kernel_rfl
  | succ j4 ih => exact Eq.trans (b := s_condition_scene_values_4 (run M k) (lp_condition_scene_values_4 k j4)) (by kernel_rfl) (by simp only [ih]; rfl)
theorem e_condition_scene_values (k : Nat) (x0 : D tScene) (x1 : D tPattern) (x2 : D tMorphism) (x3 : D (.slice tI)) : run M (k + 1) f_condition_scene_values [.val tScene x0, .val tPattern x1, .val tMorphism x2, .val (.slice tI) x3] = b_condition_scene_values (run M k) (l_condition_scene_values_0 (run M k) (l_condition_scene_values_2 (run M k) (l_condition_scene_values_4 (run M k) k) k) k) x0 x1 x2 x3 :=
  Eq.trans (b := b_condition_scene_values (run M k) (lp_condition_scene_values_0 k k) x0 x1 x2 x3) (by kernel_rfl) (by simp only [lp_condition_scene_values_0_eq, lp_condition_scene_values_2_eq, lp_condition_scene_values_4_eq])
abbrev V_condition_scene_extensions_0 := (D tI) → (D tI) → (D (.slice tNodeType)) → (D (.slice tEdgeType)) → (D (.slice tI)) → (D (.slice tEdge)) → (D (.slice (.slice tI))) → (D .bool) → (D tI) → (D (.slice (.nom 0))) → (D (.slice tI)) → (D (.slice tI)) → (D (.slice tI)) → (D (.slice tEdge)) → (D (.slice tSlot)) → (D tI) → (D (.slice tTest)) → (D (.slice tI)) → (D (.slice tI)) → (D (.slice tI)) → (List (D tMorphism)) → (List (D tMatch)) → Res E
def lp_condition_scene_extensions_0 (k j : Nat) : V_condition_scene_extensions_0 := fun v58 v59 b3_0 b3_1 b3_2 b3_3 b3_4 b3_5 b4_0 b4_1 b4_2 b4_3 b4_4 b4_5 b4_6 b4_7 b4_8 b5_0 b5_1 b5_2 t1003264 t500012 =>
  loopAt M k 115 0 [] [] j ⟨82, [(3, .c (.ptr 3 0 0)), (4, .c (.ptr 4 0 0)), (5, .c (.ptr 5 0 0)), (12, .c (.ref 500012 0 none)), (57, .c (.ref 1003264 0 none)), (58, .c (.leaf tI v58)), (59, .c (.leaf tI v59))], [(3, 0, .box [.leaf (.slice tNodeType) b3_0, .leaf (.slice tEdgeType) b3_1, .leaf (.slice tI) b3_2, .leaf (.slice tEdge) b3_3, .leaf (.slice (.slice tI)) b3_4, .leaf .bool b3_5]), (4, 0, .box [.leaf tI b4_0, .leaf (.slice (.nom 0)) b4_1, .leaf (.slice tI) b4_2, .leaf (.slice tI) b4_3, .leaf (.slice tI) b4_4, .leaf (.slice tEdge) b4_5, .leaf (.slice tSlot) b4_6, .leaf tI b4_7, .leaf (.slice tTest) b4_8]), (5, 0, .box [.leaf (.slice tI) b5_0, .leaf (.slice tI) b5_1, .leaf (.slice tI) b5_2]), (1003264, 0, .tok tMorphism t1003264), (500012, 0, .tok tMatch t500012)]⟩
def s_condition_scene_extensions_0 (R : RunT) (self : V_condition_scene_extensions_0) : V_condition_scene_extensions_0 := fun v58 v59 b3_0 b3_1 b3_2 b3_3 b3_4 b3_5 b4_0 b4_1 b4_2 b4_3 b4_4 b4_5 b4_6 b4_7 b4_8 b5_0 b5_1 b5_2 t1003264 t500012 =>
  (cond (decide (v59 < v58)) (cond (inB v59 (t1003264.length : Int)) (Option.bind (res (.pair (.slice tI) .bool) (R f_condition_scene_values [.val tScene ((b3_0, b3_1), (((b3_2, b3_3), b3_4), b3_5)), .val tPattern ((b4_4, b4_5), (b4_6, (b4_7, b4_8))), .val tMorphism ((List.getD t1003264 (Int.toNat v59) (dflt E tMorphism)).1, (List.getD t1003264 (Int.toNat v59) (dflt E tMorphism)).2), .val (.slice tI) b5_2])) (fun r1 => (cond r1.2 (cond (roomy (t500012.length + ([(((List.getD t1003264 (Int.toNat v59) (dflt E tMorphism)).1, (List.getD t1003264 (Int.toNat v59) (dflt E tMorphism)).2), r1.1)] : List (D tMatch)).length) 72) (self v58 (IntKind.i64.wrap (v59 + (1 : Int))) b3_0 b3_1 b3_2 b3_3 b3_4 b3_5 b4_0 b4_1 b4_2 b4_3 b4_4 b4_5 b4_6 b4_7 b4_8 b5_0 b5_1 b5_2 t1003264 (t500012 ++ ([(((List.getD t1003264 (Int.toNat v59) (dflt E tMorphism)).1, (List.getD t1003264 (Int.toNat v59) (dflt E tMorphism)).2), r1.1)] : List (D tMatch)))) none) (self v58 (IntKind.i64.wrap (v59 + (1 : Int))) b3_0 b3_1 b3_2 b3_3 b3_4 b3_5 b4_0 b4_1 b4_2 b4_3 b4_4 b4_5 b4_6 b4_7 b4_8 b5_0 b5_1 b5_2 t1003264 t500012)))) none) (some ⟨(.pair (.slice tMatch) tI), (t500012, (0 : Int))⟩))
def l_condition_scene_extensions_0 (R : RunT) : Nat → V_condition_scene_extensions_0
  | 0 => fun _ _ _ _ _ _ _ _ _ _ _ _ _ _ _ _ _ _ _ _ _ _ => none
  | j + 1 => s_condition_scene_extensions_0 R (l_condition_scene_extensions_0 R j)
def b_condition_scene_extensions (R : RunT) (c0 : V_condition_scene_extensions_0) (x0 : D tScene) (x1 : D (.nom 0)) (x2 : D tMatch) : Res E :=
  (Option.bind (res (.slice tI) (R f_condition_placed [.val tI (((((((E.op 0 x1).2).2).2).1).1).length : Int), .val (.slice tI) (((((E.op 0 x1).2).2).1).1), .val (.slice tI) x2.1.1])) (fun r1 => (Option.bind (res (.slice tI) (R f_condition_placed [.val tI (((((((E.op 0 x1).2).2).2).1).2).length : Int), .val (.slice tI) (((((E.op 0 x1).2).2).1).2), .val (.slice tI) x2.1.2])) (fun r2 => (Option.bind (res (.pair (.slice tMorphism) tI) (R f_search_Extend [.val tTypes (x0.1.1, x0.1.2), .val tGraph ((((((E.op 0 x1).2).2).2).1).1, (((((E.op 0 x1).2).2).2).1).2), .val tGraph (x0.2.1.1.1, x0.2.1.1.2), .val tMorphism (r1, r2), .val .bool x0.2.2])) (fun r3 => (cond (!(decide (r3.2 = (0 : Int)))) (some ⟨(.pair (.slice tMatch) tI), (([] : List (D tMatch)), r3.2)⟩) (c0 (r3.1.length : Int) (0 : Int) x0.1.1 x0.1.2 x0.2.1.1.1 x0.2.1.1.2 x0.2.1.2 x0.2.2 ((E.op 0 x1).1) (((E.op 0 x1).2).1) (((((E.op 0 x1).2).2).1).1) (((((E.op 0 x1).2).2).1).2) ((((((E.op 0 x1).2).2).2).1).1) ((((((E.op 0 x1).2).2).2).1).2) ((((((E.op 0 x1).2).2).2).2).1) (((((((E.op 0 x1).2).2).2).2).2).1) (((((((E.op 0 x1).2).2).2).2).2).2) x2.1.1 x2.1.2 x2.2 r3.1 ([] : List (D tMatch))))))))))
theorem lp_condition_scene_extensions_0_eq (k j0 : Nat) : lp_condition_scene_extensions_0 k j0 = l_condition_scene_extensions_0 (run M k) j0 := by
  induction j0 with
  | zero => kernel_rfl
  | succ j0 ih => exact Eq.trans (b := s_condition_scene_extensions_0 (run M k) (lp_condition_scene_extensions_0 k j0)) (by kernel_rfl) (by simp only [ih]; rfl)
theorem e_condition_scene_extensions (k : Nat) (x0 : D tScene) (x1 : D (.nom 0)) (x2 : D tMatch) : run M (k + 1) f_condition_scene_extensions [.val tScene x0, .val (.nom 0) x1, .val tMatch x2] = b_condition_scene_extensions (run M k) (l_condition_scene_extensions_0 (run M k) k) x0 x1 x2 :=
  Eq.trans (b := b_condition_scene_extensions (run M k) (lp_condition_scene_extensions_0 k k) x0 x1 x2) (by kernel_rfl) (by simp only [lp_condition_scene_extensions_0_eq])
abbrev V_condition_scene_extended_0 := (D tI) → (D tI) → (D (.slice tNodeType)) → (D (.slice tEdgeType)) → (D (.slice tI)) → (D (.slice tEdge)) → (D (.slice (.slice tI))) → (D .bool) → (D tI) → (D (.slice (.nom 0))) → (D (.slice tI)) → (D (.slice tI)) → (D (.slice tI)) → (D (.slice tEdge)) → (D (.slice tSlot)) → (D tI) → (D (.slice tTest)) → (D tI) → (List (D tMatch)) → Res E
def lp_condition_scene_extended_0 (k j : Nat) : V_condition_scene_extended_0 := fun v26 v27 b3_0 b3_1 b3_2 b3_3 b3_4 b3_5 b4_0 b4_1 b4_2 b4_3 b4_4 b4_5 b4_6 b4_7 b4_8 b6_0 t1001152 =>
  loopAt M k 111 0 [] [] j ⟨53, [(3, .c (.ptr 3 0 0)), (4, .c (.ptr 4 0 0)), (6, .c (.ptr 6 0 0)), (25, .c (.ref 1001152 0 none)), (26, .c (.leaf tI v26)), (27, .c (.leaf tI v27))], [(3, 0, .box [.leaf (.slice tNodeType) b3_0, .leaf (.slice tEdgeType) b3_1, .leaf (.slice tI) b3_2, .leaf (.slice tEdge) b3_3, .leaf (.slice (.slice tI)) b3_4, .leaf .bool b3_5]), (4, 0, .box [.leaf tI b4_0, .leaf (.slice (.nom 0)) b4_1, .leaf (.slice tI) b4_2, .leaf (.slice tI) b4_3, .leaf (.slice tI) b4_4, .leaf (.slice tEdge) b4_5, .leaf (.slice tSlot) b4_6, .leaf tI b4_7, .leaf (.slice tTest) b4_8]), (6, 0, .box [.leaf tI b6_0, .nilS, .nilS, .nilS, .nilS]), (1001152, 0, .tok tMatch t1001152)]⟩
def s_condition_scene_extended_0 (R : RunT) (self : V_condition_scene_extended_0) : V_condition_scene_extended_0 := fun v26 v27 b3_0 b3_1 b3_2 b3_3 b3_4 b3_5 b4_0 b4_1 b4_2 b4_3 b4_4 b4_5 b4_6 b4_7 b4_8 b6_0 t1001152 =>
  (cond (decide (v27 < v26)) (cond (inB v27 (t1001152.length : Int)) (cond (inB (0 : Int) (b4_1.length : Int)) (Option.bind (res (.pair (.nom 2) tI) (R f_condition_scene_witness [.val tScene ((b3_0, b3_1), (((b3_2, b3_3), b3_4), b3_5)), .val (.nom 0) (E.cl 0 ((E.op 0 (rd (E := E) (t := (.nom 0)) b4_1 (0 : Int))).1, (((E.op 0 (rd (E := E) (t := (.nom 0)) b4_1 (0 : Int))).2).1, ((((((E.op 0 (rd (E := E) (t := (.nom 0)) b4_1 (0 : Int))).2).2).1).1, ((((E.op 0 (rd (E := E) (t := (.nom 0)) b4_1 (0 : Int))).2).2).1).2), (((((((E.op 0 (rd (E := E) (t := (.nom 0)) b4_1 (0 : Int))).2).2).2).1).1, (((((E.op 0 (rd (E := E) (t := (.nom 0)) b4_1 (0 : Int))).2).2).2).1).2), ((((((E.op 0 (rd (E := E) (t := (.nom 0)) b4_1 (0 : Int))).2).2).2).2).1, (((((((E.op 0 (rd (E := E) (t := (.nom 0)) b4_1 (0 : Int))).2).2).2).2).2).1, ((((((E.op 0 (rd (E := E) (t := (.nom 0)) b4_1 (0 : Int))).2).2).2).2).2).2))))))), .val tMatch ((((List.getD t1001152 (Int.toNat v27) (dflt E tMatch)).1).1, ((List.getD t1001152 (Int.toNat v27) (dflt E tMatch)).1).2), (List.getD t1001152 (Int.toNat v27) (dflt E tMatch)).2)])) (fun r1 => (cond (decide (r1.2 = (0 : Int))) (some ⟨(.pair (.nom 2) tI), ((E.cl 2 ((0 : Int), (((((List.getD t1001152 (Int.toNat v27) (dflt E tMatch)).1).1, ((List.getD t1001152 (Int.toNat v27) (dflt E tMatch)).1).2), (List.getD t1001152 (Int.toNat v27) (dflt E tMatch)).2), ([(E.cl 2 ((E.op 2 r1.1).1, (((((((E.op 2 r1.1).2).1).1).1, ((((E.op 2 r1.1).2).1).1).2), (((E.op 2 r1.1).2).1).2), ((E.op 2 r1.1).2).2)))] : List (D (.nom 2)))))), (0 : Int))⟩) (cond (!(decide (r1.2 = (10 : Int)))) (some ⟨(.pair (.nom 2) tI), ((E.cl 2 ((0 : Int), (((([] : List (D tI)), ([] : List (D tI))), ([] : List (D tI))), ([] : List (D (.nom 2)))))), r1.2)⟩) (self v26 (IntKind.i64.wrap (v27 + (1 : Int))) b3_0 b3_1 b3_2 b3_3 b3_4 b3_5 b4_0 b4_1 b4_2 b4_3 b4_4 b4_5 b4_6 b4_7 b4_8 b6_0 t1001152))))) none) none) (some ⟨(.pair (.nom 2) tI), ((E.cl 2 ((0 : Int), (((([] : List (D tI)), ([] : List (D tI))), ([] : List (D tI))), ([] : List (D (.nom 2)))))), (10 : Int))⟩))
def l_condition_scene_extended_0 (R : RunT) : Nat → V_condition_scene_extended_0
  | 0 => fun _ _ _ _ _ _ _ _ _ _ _ _ _ _ _ _ _ _ _ => none
  | j + 1 => s_condition_scene_extended_0 R (l_condition_scene_extended_0 R j)
def b_condition_scene_extended (R : RunT) (c0 : V_condition_scene_extended_0) (x0 : D tScene) (x1 : D (.nom 0)) (x2 : D tMatch) : Res E :=
  (Option.bind (res (.pair (.slice tMatch) tI) (R f_condition_scene_extensions [.val tScene ((x0.1.1, x0.1.2), (((x0.2.1.1.1, x0.2.1.1.2), x0.2.1.2), x0.2.2)), .val (.nom 0) (E.cl 0 ((E.op 0 x1).1, (((E.op 0 x1).2).1, ((((((E.op 0 x1).2).2).1).1, ((((E.op 0 x1).2).2).1).2), (((((((E.op 0 x1).2).2).2).1).1, (((((E.op 0 x1).2).2).2).1).2), ((((((E.op 0 x1).2).2).2).2).1, (((((((E.op 0 x1).2).2).2).2).2).1, ((((((E.op 0 x1).2).2).2).2).2).2))))))), .val tMatch ((x2.1.1, x2.1.2), x2.2)])) (fun r1 => (cond (!(decide (r1.2 = (0 : Int)))) (some ⟨(.pair (.nom 2) tI), ((E.cl 2 ((0 : Int), (((([] : List (D tI)), ([] : List (D tI))), ([] : List (D tI))), ([] : List (D (.nom 2)))))), r1.2)⟩) (c0 (r1.1.length : Int) (0 : Int) x0.1.1 x0.1.2 x0.2.1.1.1 x0.2.1.1.2 x0.2.1.2 x0.2.2 ((E.op 0 x1).1) (((E.op 0 x1).2).1) (((((E.op 0 x1).2).2).1).1) (((((E.op 0 x1).2).2).1).2) ((((((E.op 0 x1).2).2).2).1).1) ((((((E.op 0 x1).2).2).2).1).2) ((((((E.op 0 x1).2).2).2).2).1) (((((((E.op 0 x1).2).2).2).2).2).1) (((((((E.op 0 x1).2).2).2).2).2).2) (0 : Int) r1.1))))
theorem lp_condition_scene_extended_0_eq (k j0 : Nat) : lp_condition_scene_extended_0 k j0 = l_condition_scene_extended_0 (run M k) j0 := by
  induction j0 with
  | zero => kernel_rfl
  | succ j0 ih => exact Eq.trans (b := s_condition_scene_extended_0 (run M k) (lp_condition_scene_extended_0 k j0)) (by kernel_rfl) (by simp only [ih]; rfl)
theorem e_condition_scene_extended (k : Nat) (x0 : D tScene) (x1 : D (.nom 0)) (x2 : D tMatch) : run M (k + 1) f_condition_scene_extended [.val tScene x0, .val (.nom 0) x1, .val tMatch x2] = b_condition_scene_extended (run M k) (l_condition_scene_extended_0 (run M k) k) x0 x1 x2 :=
  Eq.trans (b := b_condition_scene_extended (run M k) (lp_condition_scene_extended_0 k k) x0 x1 x2) (by kernel_rfl) (by simp only [lp_condition_scene_extended_0_eq])
abbrev V_condition_scene_witness_2 := (D (.slice (.nom 0))) → (D tI) → (D tI) → (D (.slice tNodeType)) → (D (.slice tEdgeType)) → (D (.slice tI)) → (D (.slice tEdge)) → (D (.slice (.slice tI))) → (D .bool) → (D (.slice tI)) → (D (.slice tI)) → (D (.slice tI)) → (D tI) → (D tI) → (List (D (.nom 2))) → Res E
def lp_condition_scene_witness_2 (k j : Nat) : V_condition_scene_witness_2 := fun v45 v46 v47 b3_0 b3_1 b3_2 b3_3 b3_4 b3_5 b5_0 b5_1 b5_2 b6_0 b10_0 t600644 =>
  loopAt M k 48 2 [] [] j ⟨108, [(3, .c (.ptr 3 0 0)), (5, .c (.ptr 5 0 0)), (6, .c (.ptr 6 0 0)), (10, .c (.ptr 10 0 0)), (45, .c (.leaf (.slice (.nom 0)) v45)), (46, .c (.leaf tI v46)), (47, .c (.leaf tI v47))], [(3, 0, .box [.leaf (.slice tNodeType) b3_0, .leaf (.slice tEdgeType) b3_1, .leaf (.slice tI) b3_2, .leaf (.slice tEdge) b3_3, .leaf (.slice (.slice tI)) b3_4, .leaf .bool b3_5]), (5, 0, .box [.leaf (.slice tI) b5_0, .leaf (.slice tI) b5_1, .leaf (.slice tI) b5_2]), (6, 0, .box [.leaf tI b6_0, .nilS, .nilS, .nilS, .nilS]), (10, 0, .box [.leaf tI b10_0, .nilS, .nilS, .nilS, .ref 600644 0 none]), (600644, 0, .tok (.nom 2) t600644)]⟩
abbrev V_condition_scene_witness_4 := (D (.slice (.nom 0))) → (D tI) → (D tI) → (D (.slice tNodeType)) → (D (.slice tEdgeType)) → (D (.slice tI)) → (D (.slice tEdge)) → (D (.slice (.slice tI))) → (D .bool) → (D (.slice tI)) → (D (.slice tI)) → (D (.slice tI)) → (D tI) → Res E
def lp_condition_scene_witness_4 (k j : Nat) : V_condition_scene_witness_4 := fun v73 v74 v75 b3_0 b3_1 b3_2 b3_3 b3_4 b3_5 b5_0 b5_1 b5_2 b6_0 =>
  loopAt M k 48 4 [] [] j ⟨108, [(3, .c (.ptr 3 0 0)), (5, .c (.ptr 5 0 0)), (6, .c (.ptr 6 0 0)), (73, .c (.leaf (.slice (.nom 0)) v73)), (74, .c (.leaf tI v74)), (75, .c (.leaf tI v75))], [(3, 0, .box [.leaf (.slice tNodeType) b3_0, .leaf (.slice tEdgeType) b3_1, .leaf (.slice tI) b3_2, .leaf (.slice tEdge) b3_3, .leaf (.slice (.slice tI)) b3_4, .leaf .bool b3_5]), (5, 0, .box [.leaf (.slice tI) b5_0, .leaf (.slice tI) b5_1, .leaf (.slice tI) b5_2]), (6, 0, .box [.leaf tI b6_0, .nilS, .nilS, .nilS, .nilS])]⟩
def s_condition_scene_witness_2 (R : RunT) (self : V_condition_scene_witness_2) : V_condition_scene_witness_2 := fun v45 v46 v47 b3_0 b3_1 b3_2 b3_3 b3_4 b3_5 b5_0 b5_1 b5_2 b6_0 b10_0 t600644 =>
  (cond (decide (v47 < v46)) (cond (inB v47 (v45.length : Int)) (Option.bind (res (.pair (.nom 2) tI) (R f_condition_scene_witness [.val tScene ((b3_0, b3_1), (((b3_2, b3_3), b3_4), b3_5)), .val (.nom 0) (E.cl 0 ((E.op 0 (rd (E := E) (t := (.nom 0)) v45 v47)).1, (((E.op 0 (rd (E := E) (t := (.nom 0)) v45 v47)).2).1, ((((((E.op 0 (rd (E := E) (t := (.nom 0)) v45 v47)).2).2).1).1, ((((E.op 0 (rd (E := E) (t := (.nom 0)) v45 v47)).2).2).1).2), (((((((E.op 0 (rd (E := E) (t := (.nom 0)) v45 v47)).2).2).2).1).1, (((((E.op 0 (rd (E := E) (t := (.nom 0)) v45 v47)).2).2).2).1).2), ((((((E.op 0 (rd (E := E) (t := (.nom 0)) v45 v47)).2).2).2).2).1, (((((((E.op 0 (rd (E := E) (t := (.nom 0)) v45 v47)).2).2).2).2).2).1, ((((((E.op 0 (rd (E := E) (t := (.nom 0)) v45 v47)).2).2).2).2).2).2))))))), .val tMatch ((b5_0, b5_1), b5_2)])) (fun r1 => (cond (!(decide (r1.2 = (0 : Int)))) (some ⟨(.pair (.nom 2) tI), ((E.cl 2 ((0 : Int), (((([] : List (D tI)), ([] : List (D tI))), ([] : List (D tI))), ([] : List (D (.nom 2)))))), r1.2)⟩) (cond (roomy (t600644.length + ([(E.cl 2 ((E.op 2 r1.1).1, (((((((E.op 2 r1.1).2).1).1).1, ((((E.op 2 r1.1).2).1).1).2), (((E.op 2 r1.1).2).1).2), ((E.op 2 r1.1).2).2)))] : List (D (.nom 2))).length) 104) (self v45 v46 (IntKind.i64.wrap (v47 + (1 : Int))) b3_0 b3_1 b3_2 b3_3 b3_4 b3_5 b5_0 b5_1 b5_2 b6_0 b10_0 (t600644 ++ ([(E.cl 2 ((E.op 2 r1.1).1, (((((((E.op 2 r1.1).2).1).1).1, ((((E.op 2 r1.1).2).1).1).2), (((E.op 2 r1.1).2).1).2), ((E.op 2 r1.1).2).2)))] : List (D (.nom 2))))) none)))) none) (some ⟨(.pair (.nom 2) tI), ((E.cl 2 (b10_0, (((([] : List (D tI)), ([] : List (D tI))), ([] : List (D tI))), t600644))), (0 : Int))⟩))
def s_condition_scene_witness_4 (R : RunT) (self : V_condition_scene_witness_4) : V_condition_scene_witness_4 := fun v73 v74 v75 b3_0 b3_1 b3_2 b3_3 b3_4 b3_5 b5_0 b5_1 b5_2 b6_0 =>
  (cond (decide (v75 < v74)) (cond (inB v75 (v73.length : Int)) (Option.bind (res (.pair (.nom 2) tI) (R f_condition_scene_witness [.val tScene ((b3_0, b3_1), (((b3_2, b3_3), b3_4), b3_5)), .val (.nom 0) (E.cl 0 ((E.op 0 (rd (E := E) (t := (.nom 0)) v73 v75)).1, (((E.op 0 (rd (E := E) (t := (.nom 0)) v73 v75)).2).1, ((((((E.op 0 (rd (E := E) (t := (.nom 0)) v73 v75)).2).2).1).1, ((((E.op 0 (rd (E := E) (t := (.nom 0)) v73 v75)).2).2).1).2), (((((((E.op 0 (rd (E := E) (t := (.nom 0)) v73 v75)).2).2).2).1).1, (((((E.op 0 (rd (E := E) (t := (.nom 0)) v73 v75)).2).2).2).1).2), ((((((E.op 0 (rd (E := E) (t := (.nom 0)) v73 v75)).2).2).2).2).1, (((((((E.op 0 (rd (E := E) (t := (.nom 0)) v73 v75)).2).2).2).2).2).1, ((((((E.op 0 (rd (E := E) (t := (.nom 0)) v73 v75)).2).2).2).2).2).2))))))), .val tMatch ((b5_0, b5_1), b5_2)])) (fun r1 => (cond (decide (r1.2 = (0 : Int))) (some ⟨(.pair (.nom 2) tI), ((E.cl 2 (v75, (((([] : List (D tI)), ([] : List (D tI))), ([] : List (D tI))), ([(E.cl 2 ((E.op 2 r1.1).1, (((((((E.op 2 r1.1).2).1).1).1, ((((E.op 2 r1.1).2).1).1).2), (((E.op 2 r1.1).2).1).2), ((E.op 2 r1.1).2).2)))] : List (D (.nom 2)))))), (0 : Int))⟩) (cond (!(decide (r1.2 = (10 : Int)))) (some ⟨(.pair (.nom 2) tI), ((E.cl 2 ((0 : Int), (((([] : List (D tI)), ([] : List (D tI))), ([] : List (D tI))), ([] : List (D (.nom 2)))))), r1.2)⟩) (self v73 v74 (IntKind.i64.wrap (v75 + (1 : Int))) b3_0 b3_1 b3_2 b3_3 b3_4 b3_5 b5_0 b5_1 b5_2 b6_0))))) none) (some ⟨(.pair (.nom 2) tI), ((E.cl 2 ((0 : Int), (((([] : List (D tI)), ([] : List (D tI))), ([] : List (D tI))), ([] : List (D (.nom 2)))))), (10 : Int))⟩))
def l_condition_scene_witness_2 (R : RunT) : Nat → V_condition_scene_witness_2
  | 0 => fun _ _ _ _ _ _ _ _ _ _ _ _ _ _ _ => none
  | j + 1 => s_condition_scene_witness_2 R (l_condition_scene_witness_2 R j)
def l_condition_scene_witness_4 (R : RunT) : Nat → V_condition_scene_witness_4
  | 0 => fun _ _ _ _ _ _ _ _ _ _ _ _ _ => none
  | j + 1 => s_condition_scene_witness_4 R (l_condition_scene_witness_4 R j)
def b_condition_scene_witness (R : RunT) (c2 : V_condition_scene_witness_2) (c4 : V_condition_scene_witness_4) (x0 : D tScene) (x1 : D (.nom 0)) (x2 : D tMatch) : Res E :=
  (cond (decide ((E.op 0 x1).1 = (2 : Int))) (cond (inB (0 : Int) ((((E.op 0 x1).2).1).length : Int)) (Option.bind (res (.pair (.nom 2) tI) (R f_condition_scene_witness [.val tScene ((x0.1.1, x0.1.2), (((x0.2.1.1.1, x0.2.1.1.2), x0.2.1.2), x0.2.2)), .val (.nom 0) (E.cl 0 ((E.op 0 (rd (E := E) (t := (.nom 0)) (((E.op 0 x1).2).1) (0 : Int))).1, (((E.op 0 (rd (E := E) (t := (.nom 0)) (((E.op 0 x1).2).1) (0 : Int))).2).1, ((((((E.op 0 (rd (E := E) (t := (.nom 0)) (((E.op 0 x1).2).1) (0 : Int))).2).2).1).1, ((((E.op 0 (rd (E := E) (t := (.nom 0)) (((E.op 0 x1).2).1) (0 : Int))).2).2).1).2), (((((((E.op 0 (rd (E := E) (t := (.nom 0)) (((E.op 0 x1).2).1) (0 : Int))).2).2).2).1).1, (((((E.op 0 (rd (E := E) (t := (.nom 0)) (((E.op 0 x1).2).1) (0 : Int))).2).2).2).1).2), ((((((E.op 0 (rd (E := E) (t := (.nom 0)) (((E.op 0 x1).2).1) (0 : Int))).2).2).2).2).1, (((((((E.op 0 (rd (E := E) (t := (.nom 0)) (((E.op 0 x1).2).1) (0 : Int))).2).2).2).2).2).1, ((((((E.op 0 (rd (E := E) (t := (.nom 0)) (((E.op 0 x1).2).1) (0 : Int))).2).2).2).2).2).2))))))), .val tMatch ((x2.1.1, x2.1.2), x2.2)])) (fun r1 => (cond (decide (r1.2 = (0 : Int))) (some ⟨(.pair (.nom 2) tI), ((E.cl 2 ((0 : Int), (((([] : List (D tI)), ([] : List (D tI))), ([] : List (D tI))), ([] : List (D (.nom 2)))))), (10 : Int))⟩) (cond (decide (r1.2 = (10 : Int))) (some ⟨(.pair (.nom 2) tI), ((E.cl 2 ((0 : Int), (((([] : List (D tI)), ([] : List (D tI))), ([] : List (D tI))), ([] : List (D (.nom 2)))))), (0 : Int))⟩) (some ⟨(.pair (.nom 2) tI), ((E.cl 2 ((0 : Int), (((([] : List (D tI)), ([] : List (D tI))), ([] : List (D tI))), ([] : List (D (.nom 2)))))), r1.2)⟩))))) none) (cond (decide ((E.op 0 x1).1 = (3 : Int))) (c2 (((E.op 0 x1).2).1) ((((E.op 0 x1).2).1).length : Int) (0 : Int) x0.1.1 x0.1.2 x0.2.1.1.1 x0.2.1.1.2 x0.2.1.2 x0.2.2 x2.1.1 x2.1.2 x2.2 (0 : Int) (0 : Int) ([] : List (D (.nom 2)))) (cond (decide ((E.op 0 x1).1 = (4 : Int))) (c4 (((E.op 0 x1).2).1) ((((E.op 0 x1).2).1).length : Int) (0 : Int) x0.1.1 x0.1.2 x0.2.1.1.1 x0.2.1.1.2 x0.2.1.2 x0.2.2 x2.1.1 x2.1.2 x2.2 (0 : Int)) (cond (decide ((E.op 0 x1).1 = (5 : Int))) (Option.bind (res (.pair (.nom 2) tI) (R f_condition_scene_extended [.val tScene ((x0.1.1, x0.1.2), (((x0.2.1.1.1, x0.2.1.1.2), x0.2.1.2), x0.2.2)), .val (.nom 0) (E.cl 0 ((E.op 0 x1).1, (((E.op 0 x1).2).1, ((((((E.op 0 x1).2).2).1).1, ((((E.op 0 x1).2).2).1).2), (((((((E.op 0 x1).2).2).2).1).1, (((((E.op 0 x1).2).2).2).1).2), ((((((E.op 0 x1).2).2).2).2).1, (((((((E.op 0 x1).2).2).2).2).2).1, ((((((E.op 0 x1).2).2).2).2).2).2))))))), .val tMatch ((x2.1.1, x2.1.2), x2.2)])) (fun r2 => (some ⟨(.pair (.nom 2) tI), ((E.cl 2 ((E.op 2 r2.1).1, (((((((E.op 2 r2.1).2).1).1).1, ((((E.op 2 r2.1).2).1).1).2), (((E.op 2 r2.1).2).1).2), ((E.op 2 r2.1).2).2))), r2.2)⟩))) (some ⟨(.pair (.nom 2) tI), ((E.cl 2 ((0 : Int), (((([] : List (D tI)), ([] : List (D tI))), ([] : List (D tI))), ([] : List (D (.nom 2)))))), (0 : Int))⟩)))))
theorem lp_condition_scene_witness_2_eq (k j2 : Nat) : lp_condition_scene_witness_2 k j2 = l_condition_scene_witness_2 (run M k) j2 := by
  induction j2 with
  | zero => kernel_rfl
  | succ j2 ih => exact Eq.trans (b := s_condition_scene_witness_2 (run M k) (lp_condition_scene_witness_2 k j2)) (by kernel_rfl) (by simp only [ih]; rfl)
theorem lp_condition_scene_witness_4_eq (k j4 : Nat) : lp_condition_scene_witness_4 k j4 = l_condition_scene_witness_4 (run M k) j4 := by
  induction j4 with
  | zero => kernel_rfl
  | succ j4 ih => exact Eq.trans (b := s_condition_scene_witness_4 (run M k) (lp_condition_scene_witness_4 k j4)) (by kernel_rfl) (by simp only [ih]; rfl)
theorem e_condition_scene_witness (k : Nat) (x0 : D tScene) (x1 : D (.nom 0)) (x2 : D tMatch) : run M (k + 1) f_condition_scene_witness [.val tScene x0, .val (.nom 0) x1, .val tMatch x2] = b_condition_scene_witness (run M k) (l_condition_scene_witness_2 (run M k) k) (l_condition_scene_witness_4 (run M k) k) x0 x1 x2 :=
  Eq.trans (b := b_condition_scene_witness (run M k) (lp_condition_scene_witness_2 k k) (lp_condition_scene_witness_4 k k) x0 x1 x2) (by kernel_rfl) (by simp only [lp_condition_scene_witness_2_eq, lp_condition_scene_witness_4_eq])
def b_condition_Witness (R : RunT) (x0 : D tTypes) (x1 : D tPattern) (x2 : D (.nom 0)) (x3 : D tHost) (x4 : D tMatch) (x5 : D .bool) : Res E :=
  (Option.bind (res tI (R f_condition_given [.val tTypes (x0.1, x0.2), .val tPattern ((x1.1.1, x1.1.2), (x1.2.1, (x1.2.2.1, x1.2.2.2))), .val (.nom 0) (E.cl 0 ((E.op 0 x2).1, (((E.op 0 x2).2).1, ((((((E.op 0 x2).2).2).1).1, ((((E.op 0 x2).2).2).1).2), (((((((E.op 0 x2).2).2).2).1).1, (((((E.op 0 x2).2).2).2).1).2), ((((((E.op 0 x2).2).2).2).2).1, (((((((E.op 0 x2).2).2).2).2).2).1, ((((((E.op 0 x2).2).2).2).2).2).2))))))), .val tHost ((x3.1.1, x3.1.2), x3.2), .val tMatch ((x4.1.1, x4.1.2), x4.2), .val .bool x5])) (fun r1 => (cond (!(decide (r1 = (0 : Int)))) (some ⟨(.pair (.nom 2) tI), ((E.cl 2 ((0 : Int), (((([] : List (D tI)), ([] : List (D tI))), ([] : List (D tI))), ([] : List (D (.nom 2)))))), r1)⟩) (Option.bind (res (.pair (.nom 2) tI) (R f_condition_scene_witness [.val tScene ((x0.1, x0.2), (((x3.1.1, x3.1.2), x3.2), x5)), .val (.nom 0) (E.cl 0 ((E.op 0 x2).1, (((E.op 0 x2).2).1, ((((((E.op 0 x2).2).2).1).1, ((((E.op 0 x2).2).2).1).2), (((((((E.op 0 x2).2).2).2).1).1, (((((E.op 0 x2).2).2).2).1).2), ((((((E.op 0 x2).2).2).2).2).1, (((((((E.op 0 x2).2).2).2).2).2).1, ((((((E.op 0 x2).2).2).2).2).2).2))))))), .val tMatch ((x4.1.1, x4.1.2), x4.2)])) (fun r2 => (some ⟨(.pair (.nom 2) tI), ((E.cl 2 ((E.op 2 r2.1).1, (((((((E.op 2 r2.1).2).1).1).1, ((((E.op 2 r2.1).2).1).1).2), (((E.op 2 r2.1).2).1).2), ((E.op 2 r2.1).2).2))), r2.2)⟩))))))
theorem e_condition_Witness (k : Nat) (x0 : D tTypes) (x1 : D tPattern) (x2 : D (.nom 0)) (x3 : D tHost) (x4 : D tMatch) (x5 : D .bool) : run M (k + 1) f_condition_Witness [.val tTypes x0, .val tPattern x1, .val (.nom 0) x2, .val tHost x3, .val tMatch x4, .val .bool x5] = b_condition_Witness (run M k) x0 x1 x2 x3 x4 x5 := by kernel_rfl
def b_condition_Satisfies (R : RunT) (x0 : D tTypes) (x1 : D tPattern) (x2 : D (.nom 0)) (x3 : D tHost) (x4 : D tMatch) (x5 : D .bool) : Res E :=
  (Option.bind (res (.pair (.nom 2) tI) (R f_condition_Witness [.val tTypes (x0.1, x0.2), .val tPattern ((x1.1.1, x1.1.2), (x1.2.1, (x1.2.2.1, x1.2.2.2))), .val (.nom 0) (E.cl 0 ((E.op 0 x2).1, (((E.op 0 x2).2).1, ((((((E.op 0 x2).2).2).1).1, ((((E.op 0 x2).2).2).1).2), (((((((E.op 0 x2).2).2).2).1).1, (((((E.op 0 x2).2).2).2).1).2), ((((((E.op 0 x2).2).2).2).2).1, (((((((E.op 0 x2).2).2).2).2).2).1, ((((((E.op 0 x2).2).2).2).2).2).2))))))), .val tHost ((x3.1.1, x3.1.2), x3.2), .val tMatch ((x4.1.1, x4.1.2), x4.2), .val .bool x5])) (fun r1 => (cond (decide (r1.2 = (10 : Int))) (some ⟨(.pair .bool tI), (false, (0 : Int))⟩) (some ⟨(.pair .bool tI), ((decide (r1.2 = (0 : Int))), r1.2)⟩))))
theorem e_condition_Satisfies (k : Nat) (x0 : D tTypes) (x1 : D tPattern) (x2 : D (.nom 0)) (x3 : D tHost) (x4 : D tMatch) (x5 : D .bool) : run M (k + 1) f_condition_Satisfies [.val tTypes x0, .val tPattern x1, .val (.nom 0) x2, .val tHost x3, .val tMatch x4, .val .bool x5] = b_condition_Satisfies (run M k) x0 x1 x2 x3 x4 x5 := by kernel_rfl
def b_condition_unmatched (R : RunT) (x0 : D tMatch) : Res E :=
  (some ⟨.bool, (decide ((IntKind.i64.wrap ((IntKind.i64.wrap ((x0.1.1.length : Int) + (x0.1.2.length : Int))) + (x0.2.length : Int))) = (0 : Int)))⟩)
theorem e_condition_unmatched (k : Nat) (x0 : D tMatch) : run M (k + 1) f_condition_unmatched [.val tMatch x0] = b_condition_unmatched (run M k) x0 := by kernel_rfl
abbrev V_slices_IndexFunc_Match_0 := (D (.slice tMatch)) → FuncId → (List (Dt E)) → (D tI) → (D tI) → Res E
def lp_slices_IndexFunc_Match_0 (k j : Nat) : V_slices_IndexFunc_Match_0 := fun v0 v1f v1c v7 v8 =>
  loopAt M k 183 0 [] [] j ⟨19, [(0, .c (.leaf (.slice tMatch) v0)), (1, .c (.fnd v1f v1c)), (7, .c (.leaf tI v7)), (8, .c (.leaf tI v8))], []⟩
def s_slices_IndexFunc_Match_0 (R : RunT) (self : V_slices_IndexFunc_Match_0) : V_slices_IndexFunc_Match_0 := fun v0 v1f v1c v7 v8 =>
  (cond (decide (v8 < v7)) (cond (inB v8 (v0.length : Int)) (Option.bind (res .bool (R v1f ([.val tMatch ((((rd (E := E) (t := tMatch) v0 v8).1).1, ((rd (E := E) (t := tMatch) v0 v8).1).2), (rd (E := E) (t := tMatch) v0 v8).2)] ++ capArgs v1c))) (fun r1 => (cond r1 (some ⟨tI, v8⟩) (self v0 v1f v1c v7 (IntKind.i64.wrap (v8 + (1 : Int))))))) none) (some ⟨tI, (-1 : Int)⟩))
def l_slices_IndexFunc_Match_0 (R : RunT) : Nat → V_slices_IndexFunc_Match_0
  | 0 => fun _ _ _ _ _ => none
  | j + 1 => s_slices_IndexFunc_Match_0 R (l_slices_IndexFunc_Match_0 R j)
def b_slices_IndexFunc_Match (R : RunT) (c0 : V_slices_IndexFunc_Match_0) (x0 : D (.slice tMatch)) (x1 : FuncId) (x1c : List (Dt E)) : Res E :=
  (c0 x0 x1 x1c (x0.length : Int) (0 : Int))
theorem lp_slices_IndexFunc_Match_0_eq (k j0 : Nat) : lp_slices_IndexFunc_Match_0 k j0 = l_slices_IndexFunc_Match_0 (run M k) j0 := by
  induction j0 with
  | zero => kernel_rfl
  | succ j0 ih => exact Eq.trans (b := s_slices_IndexFunc_Match_0 (run M k) (lp_slices_IndexFunc_Match_0 k j0)) (by kernel_rfl) (by simp only [ih]; rfl)
theorem e_slices_IndexFunc_Match (k : Nat) (x0 : D (.slice tMatch)) (x1 : FuncId) (x1c : List (Dt E)) : run M (k + 1) f_slices_IndexFunc_Match [.val (.slice tMatch) x0, .fn x1 x1c] = b_slices_IndexFunc_Match (run M k) (l_slices_IndexFunc_Match_0 (run M k) k) x0 x1 x1c :=
  Eq.trans (b := b_slices_IndexFunc_Match (run M k) (lp_slices_IndexFunc_Match_0 k k) x0 x1 x1c) (by kernel_rfl) (by simp only [lp_slices_IndexFunc_Match_0_eq])
def b_slices_ContainsFunc_Match (R : RunT) (x0 : D (.slice tMatch)) (x1 : FuncId) (x1c : List (Dt E)) : Res E :=
  (Option.bind (res tI (R f_slices_IndexFunc_Match [.val (.slice tMatch) x0, .fn x1 x1c])) (fun r1 => (some ⟨.bool, (decide ((0 : Int) ≤ r1))⟩)))
theorem e_slices_ContainsFunc_Match (k : Nat) (x0 : D (.slice tMatch)) (x1 : FuncId) (x1c : List (Dt E)) : run M (k + 1) f_slices_ContainsFunc_Match [.val (.slice tMatch) x0, .fn x1 x1c] = b_slices_ContainsFunc_Match (run M k) x0 x1 x1c := by kernel_rfl
def b_morphism_Same (R : RunT) (x0 x1 : D tMorphism) : Res E :=
  (Option.bind (res .bool (R f_slices_Equal_int [.val (.slice tI) x0.1, .val (.slice tI) x1.1])) (fun r1 => (Option.bind (cond r1 (res .bool (R f_slices_Equal_int [.val (.slice tI) x0.2, .val (.slice tI) x1.2])) (some (dflt E .bool))) (fun r2 => (some ⟨.bool, (cond r1 r2 false)⟩)))))
theorem e_morphism_Same (k : Nat) (x0 x1 : D tMorphism) : run M (k + 1) f_morphism_Same [.val tMorphism x0, .val tMorphism x1] = b_morphism_Same (run M k) x0 x1 := by kernel_rfl
def b_condition_sameMatch (R : RunT) (x0 x1 : D tMatch) : Res E :=
  (Option.bind (res .bool (R f_morphism_Same [.val tMorphism (x0.1.1, x0.1.2), .val tMorphism (x1.1.1, x1.1.2)])) (fun r1 => (Option.bind (cond r1 (res .bool (R f_slices_Equal_int [.val (.slice tI) x0.2, .val (.slice tI) x1.2])) (some (dflt E .bool))) (fun r2 => (some ⟨.bool, (cond r1 r2 false)⟩)))))
theorem e_condition_sameMatch (k : Nat) (x0 x1 : D tMatch) : run M (k + 1) f_condition_sameMatch [.val tMatch x0, .val tMatch x1] = b_condition_sameMatch (run M k) x0 x1 := by kernel_rfl
def b_condition_scene_right_1 (R : RunT) (x0 : D tMatch) (x1 : D (.nom 2)) : Res E :=
  (Option.bind (res .bool (R f_condition_sameMatch [.val tMatch ((x0.1.1, x0.1.2), x0.2), .val tMatch ((((((E.op 2 x1).2).1).1).1, ((((E.op 2 x1).2).1).1).2), (((E.op 2 x1).2).1).2)])) (fun r1 => (some ⟨.bool, r1⟩)))
theorem e_condition_scene_right_1 (k : Nat) (x0 : D tMatch) (x1 : D (.nom 2)) : run M (k + 1) f_condition_scene_right_1 [.val tMatch x0, .ro (.nom 2) x1] = b_condition_scene_right_1 (run M k) x0 x1 := by kernel_rfl
abbrev V_condition_scene_right_1 := (D (.slice (.nom 0))) → (D tI) → (D tI) → (D (.slice tNodeType)) → (D (.slice tEdgeType)) → (D (.slice tI)) → (D (.slice tEdge)) → (D (.slice (.slice tI))) → (D .bool) → (D (.slice tI)) → (D (.slice tI)) → (D (.slice tI)) → (D tI) → (D (.slice tI)) → (D (.slice tI)) → (D (.slice tI)) → (D (.slice (.nom 2))) → Res E
def lp_condition_scene_right_1 (k j : Nat) : V_condition_scene_right_1 := fun v82 v83 v84 b4_0 b4_1 b4_2 b4_3 b4_4 b4_5 b6_0 b6_1 b6_2 b7_0 b7_1 b7_2 b7_3 b7_4 =>
  loopAt M k 51 1 [] [] j ⟨171, [(4, .c (.ptr 4 0 0)), (6, .c (.ptr 6 0 0)), (7, .c (.ptr 7 0 0)), (82, .c (.leaf (.slice (.nom 0)) v82)), (83, .c (.leaf tI v83)), (84, .c (.leaf tI v84))], [(4, 0, .box [.leaf (.slice tNodeType) b4_0, .leaf (.slice tEdgeType) b4_1, .leaf (.slice tI) b4_2, .leaf (.slice tEdge) b4_3, .leaf (.slice (.slice tI)) b4_4, .leaf .bool b4_5]), (6, 0, .box [.leaf (.slice tI) b6_0, .leaf (.slice tI) b6_1, .leaf (.slice tI) b6_2]), (7, 0, .box [.leaf tI b7_0, .leaf (.slice tI) b7_1, .leaf (.slice tI) b7_2, .leaf (.slice tI) b7_3, .leaf (.slice (.nom 2)) b7_4])]⟩
def s_condition_scene_right_1 (R : RunT) (self : V_condition_scene_right_1) : V_condition_scene_right_1 := fun v82 v83 v84 b4_0 b4_1 b4_2 b4_3 b4_4 b4_5 b6_0 b6_1 b6_2 b7_0 b7_1 b7_2 b7_3 b7_4 =>
  (cond (decide (v84 < v83)) (cond (inB v84 (v82.length : Int)) (cond (inB v84 (b7_4.length : Int)) (Option.bind (res .bool (R f_condition_scene_right [.val tScene ((b4_0, b4_1), (((b4_2, b4_3), b4_4), b4_5)), .val (.nom 0) (E.cl 0 ((E.op 0 (rd (E := E) (t := (.nom 0)) v82 v84)).1, (((E.op 0 (rd (E := E) (t := (.nom 0)) v82 v84)).2).1, ((((((E.op 0 (rd (E := E) (t := (.nom 0)) v82 v84)).2).2).1).1, ((((E.op 0 (rd (E := E) (t := (.nom 0)) v82 v84)).2).2).1).2), (((((((E.op 0 (rd (E := E) (t := (.nom 0)) v82 v84)).2).2).2).1).1, (((((E.op 0 (rd (E := E) (t := (.nom 0)) v82 v84)).2).2).2).1).2), ((((((E.op 0 (rd (E := E) (t := (.nom 0)) v82 v84)).2).2).2).2).1, (((((((E.op 0 (rd (E := E) (t := (.nom 0)) v82 v84)).2).2).2).2).2).1, ((((((E.op 0 (rd (E := E) (t := (.nom 0)) v82 v84)).2).2).2).2).2).2))))))), .val tMatch ((b6_0, b6_1), b6_2), .val (.nom 2) (E.cl 2 ((E.op 2 (rd (E := E) (t := (.nom 2)) b7_4 v84)).1, (((((((E.op 2 (rd (E := E) (t := (.nom 2)) b7_4 v84)).2).1).1).1, ((((E.op 2 (rd (E := E) (t := (.nom 2)) b7_4 v84)).2).1).1).2), (((E.op 2 (rd (E := E) (t := (.nom 2)) b7_4 v84)).2).1).2), ((E.op 2 (rd (E := E) (t := (.nom 2)) b7_4 v84)).2).2)))])) (fun r1 => (cond (!r1) (some ⟨.bool, false⟩) (self v82 v83 (IntKind.i64.wrap (v84 + (1 : Int))) b4_0 b4_1 b4_2 b4_3 b4_4 b4_5 b6_0 b6_1 b6_2 b7_0 b7_1 b7_2 b7_3 b7_4)))) none) none) (some ⟨.bool, true⟩))
def l_condition_scene_right_1 (R : RunT) : Nat → V_condition_scene_right_1
  | 0 => fun _ _ _ _ _ _ _ _ _ _ _ _ _ _ _ _ _ => none
  | j + 1 => s_condition_scene_right_1 R (l_condition_scene_right_1 R j)
def b_condition_scene_right (R : RunT) (c1 : V_condition_scene_right_1) (x0 : D tScene) (x1 : D (.nom 0)) (x2 : D tMatch) (x3 : D (.nom 2)) : Res E :=
  (cond (decide ((E.op 0 x1).1 = (1 : Int))) (Option.bind (cond (cond (decide (((((E.op 2 x3).2).2).length : Int) = (0 : Int))) (decide ((E.op 2 x3).1 = (0 : Int))) false) (res .bool (R f_condition_unmatched [.val tMatch ((((((E.op 2 x3).2).1).1).1, ((((E.op 2 x3).2).1).1).2), (((E.op 2 x3).2).1).2)])) (some (dflt E .bool))) (fun r1 => (some ⟨.bool, (cond (cond (decide (((((E.op 2 x3).2).2).length : Int) = (0 : Int))) (decide ((E.op 2 x3).1 = (0 : Int))) false) r1 false)⟩))) (cond (decide ((E.op 0 x1).1 = (2 : Int))) (cond (inB (0 : Int) ((((E.op 0 x1).2).1).length : Int)) (Option.bind (res (.pair (.nom 2) tI) (R f_condition_scene_witness [.val tScene ((x0.1.1, x0.1.2), (((x0.2.1.1.1, x0.2.1.1.2), x0.2.1.2), x0.2.2)), .val (.nom 0) (E.cl 0 ((E.op 0 (rd (E := E) (t := (.nom 0)) (((E.op 0 x1).2).1) (0 : Int))).1, (((E.op 0 (rd (E := E) (t := (.nom 0)) (((E.op 0 x1).2).1) (0 : Int))).2).1, ((((((E.op 0 (rd (E := E) (t := (.nom 0)) (((E.op 0 x1).2).1) (0 : Int))).2).2).1).1, ((((E.op 0 (rd (E := E) (t := (.nom 0)) (((E.op 0 x1).2).1) (0 : Int))).2).2).1).2), (((((((E.op 0 (rd (E := E) (t := (.nom 0)) (((E.op 0 x1).2).1) (0 : Int))).2).2).2).1).1, (((((E.op 0 (rd (E := E) (t := (.nom 0)) (((E.op 0 x1).2).1) (0 : Int))).2).2).2).1).2), ((((((E.op 0 (rd (E := E) (t := (.nom 0)) (((E.op 0 x1).2).1) (0 : Int))).2).2).2).2).1, (((((((E.op 0 (rd (E := E) (t := (.nom 0)) (((E.op 0 x1).2).1) (0 : Int))).2).2).2).2).2).1, ((((((E.op 0 (rd (E := E) (t := (.nom 0)) (((E.op 0 x1).2).1) (0 : Int))).2).2).2).2).2).2))))))), .val tMatch ((x2.1.1, x2.1.2), x2.2)])) (fun r2 => (Option.bind (cond (cond (decide (((((E.op 2 x3).2).2).length : Int) = (0 : Int))) (decide ((E.op 2 x3).1 = (0 : Int))) false) (res .bool (R f_condition_unmatched [.val tMatch ((((((E.op 2 x3).2).1).1).1, ((((E.op 2 x3).2).1).1).2), (((E.op 2 x3).2).1).2)])) (some (dflt E .bool))) (fun r3 => (some ⟨.bool, (cond (cond (cond (decide (((((E.op 2 x3).2).2).length : Int) = (0 : Int))) (decide ((E.op 2 x3).1 = (0 : Int))) false) r3 false) (decide (r2.2 = (10 : Int))) false)⟩))))) none) (cond (decide ((E.op 0 x1).1 = (3 : Int))) (Option.bind (cond (!(cond (!(decide (((((E.op 2 x3).2).2).length : Int) = ((((E.op 0 x1).2).1).length : Int)))) true (!(decide ((E.op 2 x3).1 = (0 : Int)))))) (res .bool (R f_condition_unmatched [.val tMatch ((((((E.op 2 x3).2).1).1).1, ((((E.op 2 x3).2).1).1).2), (((E.op 2 x3).2).1).2)])) (some (dflt E .bool))) (fun r4 => (cond (cond (cond (!(decide (((((E.op 2 x3).2).2).length : Int) = ((((E.op 0 x1).2).1).length : Int)))) true (!(decide ((E.op 2 x3).1 = (0 : Int))))) true (!r4)) (some ⟨.bool, false⟩) (c1 (((E.op 0 x1).2).1) ((((E.op 0 x1).2).1).length : Int) (0 : Int) x0.1.1 x0.1.2 x0.2.1.1.1 x0.2.1.1.2 x0.2.1.2 x0.2.2 x2.1.1 x2.1.2 x2.2 ((E.op 2 x3).1) (((((E.op 2 x3).2).1).1).1) (((((E.op 2 x3).2).1).1).2) ((((E.op 2 x3).2).1).2) (((E.op 2 x3).2).2))))) (cond (decide ((E.op 0 x1).1 = (4 : Int))) (Option.bind (cond (cond (cond (decide (((((E.op 2 x3).2).2).length : Int) = (1 : Int))) (decide ((0 : Int) ≤ (E.op 2 x3).1)) false) (decide ((E.op 2 x3).1 < ((((E.op 0 x1).2).1).length : Int))) false) (res .bool (R f_condition_unmatched [.val tMatch ((((((E.op 2 x3).2).1).1).1, ((((E.op 2 x3).2).1).1).2), (((E.op 2 x3).2).1).2)])) (some (dflt E .bool))) (fun r5 => (cond ((inB ((E.op 2 x3).1) ((((E.op 0 x1).2).1).length : Int)) || !(cond (cond (cond (decide (((((E.op 2 x3).2).2).length : Int) = (1 : Int))) (decide ((0 : Int) ≤ (E.op 2 x3).1)) false) (decide ((E.op 2 x3).1 < ((((E.op 0 x1).2).1).length : Int))) false) r5 false)) (cond ((inB (0 : Int) ((((E.op 2 x3).2).2).length : Int)) || !(cond (cond (cond (decide (((((E.op 2 x3).2).2).length : Int) = (1 : Int))) (decide ((0 : Int) ≤ (E.op 2 x3).1)) false) (decide ((E.op 2 x3).1 < ((((E.op 0 x1).2).1).length : Int))) false) r5 false)) (Option.bind (cond (cond (cond (cond (decide (((((E.op 2 x3).2).2).length : Int) = (1 : Int))) (decide ((0 : Int) ≤ (E.op 2 x3).1)) false) (decide ((E.op 2 x3).1 < ((((E.op 0 x1).2).1).length : Int))) false) r5 false) (res .bool (R f_condition_scene_right [.val tScene ((x0.1.1, x0.1.2), (((x0.2.1.1.1, x0.2.1.1.2), x0.2.1.2), x0.2.2)), .val (.nom 0) (E.cl 0 ((E.op 0 (rd (E := E) (t := (.nom 0)) (((E.op 0 x1).2).1) ((E.op 2 x3).1))).1, (((E.op 0 (rd (E := E) (t := (.nom 0)) (((E.op 0 x1).2).1) ((E.op 2 x3).1))).2).1, ((((((E.op 0 (rd (E := E) (t := (.nom 0)) (((E.op 0 x1).2).1) ((E.op 2 x3).1))).2).2).1).1, ((((E.op 0 (rd (E := E) (t := (.nom 0)) (((E.op 0 x1).2).1) ((E.op 2 x3).1))).2).2).1).2), (((((((E.op 0 (rd (E := E) (t := (.nom 0)) (((E.op 0 x1).2).1) ((E.op 2 x3).1))).2).2).2).1).1, (((((E.op 0 (rd (E := E) (t := (.nom 0)) (((E.op 0 x1).2).1) ((E.op 2 x3).1))).2).2).2).1).2), ((((((E.op 0 (rd (E := E) (t := (.nom 0)) (((E.op 0 x1).2).1) ((E.op 2 x3).1))).2).2).2).2).1, (((((((E.op 0 (rd (E := E) (t := (.nom 0)) (((E.op 0 x1).2).1) ((E.op 2 x3).1))).2).2).2).2).2).1, ((((((E.op 0 (rd (E := E) (t := (.nom 0)) (((E.op 0 x1).2).1) ((E.op 2 x3).1))).2).2).2).2).2).2))))))), .val tMatch ((x2.1.1, x2.1.2), x2.2), .val (.nom 2) (E.cl 2 ((E.op 2 (rd (E := E) (t := (.nom 2)) (((E.op 2 x3).2).2) (0 : Int))).1, (((((((E.op 2 (rd (E := E) (t := (.nom 2)) (((E.op 2 x3).2).2) (0 : Int))).2).1).1).1, ((((E.op 2 (rd (E := E) (t := (.nom 2)) (((E.op 2 x3).2).2) (0 : Int))).2).1).1).2), (((E.op 2 (rd (E := E) (t := (.nom 2)) (((E.op 2 x3).2).2) (0 : Int))).2).1).2), ((E.op 2 (rd (E := E) (t := (.nom 2)) (((E.op 2 x3).2).2) (0 : Int))).2).2)))])) (some (dflt E .bool))) (fun r6 => (some ⟨.bool, (cond (cond (cond (cond (decide (((((E.op 2 x3).2).2).length : Int) = (1 : Int))) (decide ((0 : Int) ≤ (E.op 2 x3).1)) false) (decide ((E.op 2 x3).1 < ((((E.op 0 x1).2).1).length : Int))) false) r5 false) r6 false)⟩))) none) none))) (cond (cond (!(decide (((((E.op 2 x3).2).2).length : Int) = (1 : Int)))) true (!(decide ((E.op 2 x3).1 = (0 : Int))))) (some ⟨.bool, false⟩) (Option.bind (res (.pair (.slice tMatch) tI) (R f_condition_scene_extensions [.val tScene ((x0.1.1, x0.1.2), (((x0.2.1.1.1, x0.2.1.1.2), x0.2.1.2), x0.2.2)), .val (.nom 0) (E.cl 0 ((E.op 0 x1).1, (((E.op 0 x1).2).1, ((((((E.op 0 x1).2).2).1).1, ((((E.op 0 x1).2).2).1).2), (((((((E.op 0 x1).2).2).2).1).1, (((((E.op 0 x1).2).2).2).1).2), ((((((E.op 0 x1).2).2).2).2).1, (((((((E.op 0 x1).2).2).2).2).2).1, ((((((E.op 0 x1).2).2).2).2).2).2))))))), .val tMatch ((x2.1.1, x2.1.2), x2.2)])) (fun r7 => (Option.bind (cond (!(!(decide (r7.2 = (0 : Int))))) (res .bool (R f_slices_ContainsFunc_Match [.val (.slice tMatch) r7.1, .fn f_condition_scene_right_1 [⟨(.nom 2), (E.cl 2 ((E.op 2 x3).1, (((((((E.op 2 x3).2).1).1).1, ((((E.op 2 x3).2).1).1).2), (((E.op 2 x3).2).1).2), ((E.op 2 x3).2).2)))⟩]])) (some (dflt E .bool))) (fun r8 => (cond (cond (!(decide (r7.2 = (0 : Int)))) true (!r8)) (some ⟨.bool, false⟩) (cond (inB (0 : Int) ((((E.op 0 x1).2).1).length : Int)) (cond (inB (0 : Int) ((((E.op 2 x3).2).2).length : Int)) (Option.bind (res .bool (R f_condition_scene_right [.val tScene ((x0.1.1, x0.1.2), (((x0.2.1.1.1, x0.2.1.1.2), x0.2.1.2), x0.2.2)), .val (.nom 0) (E.cl 0 ((E.op 0 (rd (E := E) (t := (.nom 0)) (((E.op 0 x1).2).1) (0 : Int))).1, (((E.op 0 (rd (E := E) (t := (.nom 0)) (((E.op 0 x1).2).1) (0 : Int))).2).1, ((((((E.op 0 (rd (E := E) (t := (.nom 0)) (((E.op 0 x1).2).1) (0 : Int))).2).2).1).1, ((((E.op 0 (rd (E := E) (t := (.nom 0)) (((E.op 0 x1).2).1) (0 : Int))).2).2).1).2), (((((((E.op 0 (rd (E := E) (t := (.nom 0)) (((E.op 0 x1).2).1) (0 : Int))).2).2).2).1).1, (((((E.op 0 (rd (E := E) (t := (.nom 0)) (((E.op 0 x1).2).1) (0 : Int))).2).2).2).1).2), ((((((E.op 0 (rd (E := E) (t := (.nom 0)) (((E.op 0 x1).2).1) (0 : Int))).2).2).2).2).1, (((((((E.op 0 (rd (E := E) (t := (.nom 0)) (((E.op 0 x1).2).1) (0 : Int))).2).2).2).2).2).1, ((((((E.op 0 (rd (E := E) (t := (.nom 0)) (((E.op 0 x1).2).1) (0 : Int))).2).2).2).2).2).2))))))), .val tMatch ((((((E.op 2 x3).2).1).1).1, ((((E.op 2 x3).2).1).1).2), (((E.op 2 x3).2).1).2), .val (.nom 2) (E.cl 2 ((E.op 2 (rd (E := E) (t := (.nom 2)) (((E.op 2 x3).2).2) (0 : Int))).1, (((((((E.op 2 (rd (E := E) (t := (.nom 2)) (((E.op 2 x3).2).2) (0 : Int))).2).1).1).1, ((((E.op 2 (rd (E := E) (t := (.nom 2)) (((E.op 2 x3).2).2) (0 : Int))).2).1).1).2), (((E.op 2 (rd (E := E) (t := (.nom 2)) (((E.op 2 x3).2).2) (0 : Int))).2).1).2), ((E.op 2 (rd (E := E) (t := (.nom 2)) (((E.op 2 x3).2).2) (0 : Int))).2).2)))])) (fun r9 => (some ⟨.bool, r9⟩))) none) none)))))))))))
theorem lp_condition_scene_right_1_eq (k j1 : Nat) : lp_condition_scene_right_1 k j1 = l_condition_scene_right_1 (run M k) j1 := by
  induction j1 with
  | zero => kernel_rfl
  | succ j1 ih => exact Eq.trans (b := s_condition_scene_right_1 (run M k) (lp_condition_scene_right_1 k j1)) (by kernel_rfl) (by simp only [ih]; rfl)
theorem e_condition_scene_right (k : Nat) (x0 : D tScene) (x1 : D (.nom 0)) (x2 : D tMatch) (x3 : D (.nom 2)) : run M (k + 1) f_condition_scene_right [.val tScene x0, .val (.nom 0) x1, .val tMatch x2, .val (.nom 2) x3] = b_condition_scene_right (run M k) (l_condition_scene_right_1 (run M k) k) x0 x1 x2 x3 :=
  Eq.trans (b := b_condition_scene_right (run M k) (lp_condition_scene_right_1 k k) x0 x1 x2 x3) (by kernel_rfl) (by simp only [lp_condition_scene_right_1_eq])
def b_condition_CheckWitness (R : RunT) (x0 : D tTypes) (x1 : D tPattern) (x2 : D (.nom 0)) (x3 : D tHost) (x4 : D tMatch) (x5 : D .bool) (x6 : D (.nom 2)) : Res E :=
  (Option.bind (res tI (R f_condition_given [.val tTypes (x0.1, x0.2), .val tPattern ((x1.1.1, x1.1.2), (x1.2.1, (x1.2.2.1, x1.2.2.2))), .val (.nom 0) (E.cl 0 ((E.op 0 x2).1, (((E.op 0 x2).2).1, ((((((E.op 0 x2).2).2).1).1, ((((E.op 0 x2).2).2).1).2), (((((((E.op 0 x2).2).2).2).1).1, (((((E.op 0 x2).2).2).2).1).2), ((((((E.op 0 x2).2).2).2).2).1, (((((((E.op 0 x2).2).2).2).2).2).1, ((((((E.op 0 x2).2).2).2).2).2).2))))))), .val tHost ((x3.1.1, x3.1.2), x3.2), .val tMatch ((x4.1.1, x4.1.2), x4.2), .val .bool x5])) (fun r1 => (Option.bind (cond (decide (r1 = (0 : Int))) (res .bool (R f_condition_scene_right [.val tScene ((x0.1, x0.2), (((x3.1.1, x3.1.2), x3.2), x5)), .val (.nom 0) (E.cl 0 ((E.op 0 x2).1, (((E.op 0 x2).2).1, ((((((E.op 0 x2).2).2).1).1, ((((E.op 0 x2).2).2).1).2), (((((((E.op 0 x2).2).2).2).1).1, (((((E.op 0 x2).2).2).2).1).2), ((((((E.op 0 x2).2).2).2).2).1, (((((((E.op 0 x2).2).2).2).2).2).1, ((((((E.op 0 x2).2).2).2).2).2).2))))))), .val tMatch ((x4.1.1, x4.1.2), x4.2), .val (.nom 2) (E.cl 2 ((E.op 2 x6).1, (((((((E.op 2 x6).2).1).1).1, ((((E.op 2 x6).2).1).1).2), (((E.op 2 x6).2).1).2), ((E.op 2 x6).2).2)))])) (some (dflt E .bool))) (fun r2 => (some ⟨.bool, (cond (decide (r1 = (0 : Int))) r2 false)⟩)))))
theorem e_condition_CheckWitness (k : Nat) (x0 : D tTypes) (x1 : D tPattern) (x2 : D (.nom 0)) (x3 : D tHost) (x4 : D tMatch) (x5 : D .bool) (x6 : D (.nom 2)) : run M (k + 1) f_condition_CheckWitness [.val tTypes x0, .val tPattern x1, .val (.nom 0) x2, .val tHost x3, .val tMatch x4, .val .bool x5, .val (.nom 2) x6] = b_condition_CheckWitness (run M k) x0 x1 x2 x3 x4 x5 x6 := by kernel_rfl
def b_r04_Example (R : RunT) : Res E :=
  (some ⟨tTypes, (([((⟨#[65, 99, 99, 111, 117, 110, 116]⟩ : ByteArray), ((-1 : Int), (true, ([((⟨#[98, 97, 108, 97, 110, 99, 101]⟩ : ByteArray), ((-1000 : Int), ((1000 : Int), ([] : List (D .str)))))] : List (D tAttr))))), ((⟨#[67, 97, 115, 104]⟩ : ByteArray), ((0 : Int), (false, ([] : List (D tAttr))))), ((⟨#[76, 111, 97, 110]⟩ : ByteArray), ((0 : Int), (false, ([((⟨#[115, 116, 97, 116, 101]⟩ : ByteArray), ((0 : Int), ((1 : Int), ([(⟨#[111, 112, 101, 110]⟩ : ByteArray), (⟨#[99, 108, 111, 115, 101, 100]⟩ : ByteArray)] : List (D .str)))))] : List (D tAttr))))), ((⟨#[80, 101, 114, 115, 111, 110]⟩ : ByteArray), ((-1 : Int), (false, ([] : List (D tAttr)))))] : List (D tNodeType)), ([((⟨#[111, 119, 110, 115]⟩ : ByteArray), ((3 : Int), ((0 : Int), ((0 : Int), ((-1 : Int), ((1 : Int), (1 : Int))))))), ((⟨#[112, 97, 121, 115]⟩ : ByteArray), ((1 : Int), ((1 : Int), ((0 : Int), ((-1 : Int), ((0 : Int), (-1 : Int)))))))] : List (D tEdgeType)))⟩)
theorem e_r04_Example (k : Nat) : run M (k + 1) f_r04_Example [] = b_r04_Example (run M k) := by kernel_rfl
def b_w22_another (R : RunT) : Res E :=
  (some ⟨(.pair (.slice tI) (.pair (.slice tEdge) (.pair (.slice tSlot) (.pair tI (.pair (.slice tTest) (.nom 0)))))), (([(3 : Int), (0 : Int)] : List (D tI)), (([((0 : Int), ((0 : Int), (1 : Int)))] : List (D tEdge)), (([((1 : Int), ((0 : Int), ((0 : Int), (0 : Int))))] : List (D tSlot)), ((1 : Int), (([] : List (D tTest)), (E.cl 0 ((5 : Int), (([(E.cl 0 ((1 : Int), (([] : List (D (.nom 0))), ((([] : List (D tI)), ([] : List (D tI))), ((([] : List (D tI)), ([] : List (D tEdge))), (([] : List (D tSlot)), ((0 : Int), ([] : List (D tTest)))))))))] : List (D (.nom 0))), ((([(0 : Int), (1 : Int)] : List (D tI)), ([(0 : Int)] : List (D tI))), ((([(3 : Int), (0 : Int), (0 : Int)] : List (D tI)), ([((0 : Int), ((0 : Int), (1 : Int))), ((0 : Int), ((0 : Int), (2 : Int)))] : List (D tEdge))), (([((1 : Int), ((0 : Int), ((0 : Int), (0 : Int)))), ((2 : Int), ((0 : Int), ((1 : Int), (0 : Int))))] : List (D tSlot)), ((2 : Int), ([((1 : Int), (((0 : Int), (0 : Int)), ((1 : Int), (0 : Int))))] : List (D tTest))))))))))))))⟩)
theorem e_w22_another (k : Nat) : run M (k + 1) f_w22_another [] = b_w22_another (run M k) := by kernel_rfl
def b_w22_awake (R : RunT) : Res E :=
  (Option.bind (res tTypes (R f_r04_Example [])) (fun r1 => (Option.bind (res (.pair (.slice tI) (.pair (.slice tEdge) (.pair (.slice tSlot) (.pair tI (.pair (.slice tTest) (.nom 0)))))) (R f_w22_another [])) (fun r2 => (Option.bind (res (.pair (.nom 2) tI) (R f_condition_Witness [.val tTypes (r1.1, r1.2), .val tPattern ((r2.1, r2.2.1), (r2.2.2.1, (r2.2.2.2.1, r2.2.2.2.2.1))), .val (.nom 0) (E.cl 0 ((E.op 0 r2.2.2.2.2.2).1, (((E.op 0 r2.2.2.2.2.2).2).1, ((((((E.op 0 r2.2.2.2.2.2).2).2).1).1, ((((E.op 0 r2.2.2.2.2.2).2).2).1).2), (((((((E.op 0 r2.2.2.2.2.2).2).2).2).1).1, (((((E.op 0 r2.2.2.2.2.2).2).2).2).1).2), ((((((E.op 0 r2.2.2.2.2.2).2).2).2).2).1, (((((((E.op 0 r2.2.2.2.2.2).2).2).2).2).2).1, ((((((E.op 0 r2.2.2.2.2.2).2).2).2).2).2).2))))))), .val tHost ((([(3 : Int), (1 : Int), (1 : Int)] : List (D tI)), ([((0 : Int), ((0 : Int), (1 : Int))), ((0 : Int), ((0 : Int), (2 : Int)))] : List (D tEdge))), ([([] : List (D tI)), ([(10 : Int)] : List (D tI)), ([(5 : Int)] : List (D tI))] : List (D (.slice tI)))), .val tMatch ((([(0 : Int), (2 : Int)] : List (D tI)), ([(1 : Int)] : List (D tI))), ([(5 : Int)] : List (D tI))), .val .bool true])) (fun r3 => (Option.bind (res (.pair .bool tI) (R f_condition_Satisfies [.val tTypes (r1.1, r1.2), .val tPattern ((r2.1, r2.2.1), (r2.2.2.1, (r2.2.2.2.1, r2.2.2.2.2.1))), .val (.nom 0) (E.cl 0 ((E.op 0 r2.2.2.2.2.2).1, (((E.op 0 r2.2.2.2.2.2).2).1, ((((((E.op 0 r2.2.2.2.2.2).2).2).1).1, ((((E.op 0 r2.2.2.2.2.2).2).2).1).2), (((((((E.op 0 r2.2.2.2.2.2).2).2).2).1).1, (((((E.op 0 r2.2.2.2.2.2).2).2).2).1).2), ((((((E.op 0 r2.2.2.2.2.2).2).2).2).2).1, (((((((E.op 0 r2.2.2.2.2.2).2).2).2).2).2).1, ((((((E.op 0 r2.2.2.2.2.2).2).2).2).2).2).2))))))), .val tHost ((([(3 : Int), (1 : Int), (1 : Int)] : List (D tI)), ([((0 : Int), ((0 : Int), (1 : Int))), ((0 : Int), ((0 : Int), (2 : Int)))] : List (D tEdge))), ([([] : List (D tI)), ([(10 : Int)] : List (D tI)), ([(5 : Int)] : List (D tI))] : List (D (.slice tI)))), .val tMatch ((([(0 : Int), (1 : Int)] : List (D tI)), ([(0 : Int)] : List (D tI))), ([(10 : Int)] : List (D tI))), .val .bool true])) (fun r4 => (cond ((inB (1 : Int) (((((E.op 2 r3.1).2).1).2).length : Int)) || !(cond (cond (cond (decide (r3.2 = (0 : Int))) (decide (r4.2 = (0 : Int))) false) (!r4.1) false) (decide ((((((E.op 2 r3.1).2).1).2).length : Int) = (2 : Int))) false)) (Option.bind (cond (cond (cond (cond (cond (decide (r3.2 = (0 : Int))) (decide (r4.2 = (0 : Int))) false) (!r4.1) false) (decide ((((((E.op 2 r3.1).2).1).2).length : Int) = (2 : Int))) false) (decide ((rd (E := E) (t := tI) ((((E.op 2 r3.1).2).1).2) (1 : Int)) = (10 : Int))) false) (res .bool (R f_condition_CheckWitness [.val tTypes (r1.1, r1.2), .val tPattern ((r2.1, r2.2.1), (r2.2.2.1, (r2.2.2.2.1, r2.2.2.2.2.1))), .val (.nom 0) (E.cl 0 ((E.op 0 r2.2.2.2.2.2).1, (((E.op 0 r2.2.2.2.2.2).2).1, ((((((E.op 0 r2.2.2.2.2.2).2).2).1).1, ((((E.op 0 r2.2.2.2.2.2).2).2).1).2), (((((((E.op 0 r2.2.2.2.2.2).2).2).2).1).1, (((((E.op 0 r2.2.2.2.2.2).2).2).2).1).2), ((((((E.op 0 r2.2.2.2.2.2).2).2).2).2).1, (((((((E.op 0 r2.2.2.2.2.2).2).2).2).2).2).1, ((((((E.op 0 r2.2.2.2.2.2).2).2).2).2).2).2))))))), .val tHost ((([(3 : Int), (1 : Int), (1 : Int)] : List (D tI)), ([((0 : Int), ((0 : Int), (1 : Int))), ((0 : Int), ((0 : Int), (2 : Int)))] : List (D tEdge))), ([([] : List (D tI)), ([(10 : Int)] : List (D tI)), ([(5 : Int)] : List (D tI))] : List (D (.slice tI)))), .val tMatch ((([(0 : Int), (2 : Int)] : List (D tI)), ([(1 : Int)] : List (D tI))), ([(5 : Int)] : List (D tI))), .val .bool true, .val (.nom 2) (E.cl 2 ((E.op 2 r3.1).1, (((((((E.op 2 r3.1).2).1).1).1, ((((E.op 2 r3.1).2).1).1).2), (((E.op 2 r3.1).2).1).2), ((E.op 2 r3.1).2).2)))])) (some (dflt E .bool))) (fun r5 => (some ⟨.bool, (cond (cond (cond (cond (cond (decide (r3.2 = (0 : Int))) (decide (r4.2 = (0 : Int))) false) (!r4.1) false) (decide ((((((E.op 2 r3.1).2).1).2).length : Int) = (2 : Int))) false) (decide ((rd (E := E) (t := tI) ((((E.op 2 r3.1).2).1).2) (1 : Int)) = (10 : Int))) false) r5 false)⟩))) none)))))))))
theorem e_w22_awake (k : Nat) : run M (k + 1) f_w22_awake [] = b_w22_awake (run M k) := by kernel_rfl
end
end Go.Proofs.AM

namespace Go.Proofs.AM
open Go
set_option maxRecDepth 100000
noncomputable section
abbrev V_r04_Few_0 := (D tI) → (D tI) → (D (.slice tNodeType)) → (D (.slice tEdgeType)) → Res E
def lp_r04_Few_0 (k j : Nat) : V_r04_Few_0 := fun v3 v4 b1_0 b1_1 =>
  loopAt M k 12 0 [] [] j ⟨106, [(1, .c (.ptr 1 0 0)), (3, .c (.leaf tI v3)), (4, .c (.leaf tI v4))], [(1, 0, .box [.leaf (.slice tNodeType) b1_0, .leaf (.slice tEdgeType) b1_1])]⟩
abbrev V_r04_Few_2 := (D tI) → (D tI) → (D tI) → (D (.slice tNodeType)) → (D (.slice tEdgeType)) → Res E
def lp_r04_Few_2 (k j0 j : Nat) : V_r04_Few_2 := fun v3 v4 v5 b1_0 b1_1 =>
  loopAt M k 12 2 [] [j0] j ⟨106, [(1, .c (.ptr 1 0 0)), (3, .c (.leaf tI v3)), (4, .c (.leaf tI v4)), (5, .c (.leaf tI v5))], [(1, 0, .box [.leaf (.slice tNodeType) b1_0, .leaf (.slice tEdgeType) b1_1])]⟩
abbrev V_r04_Few_6 := (D tI) → (D (.slice tNodeType)) → (D (.slice tEdgeType)) → Res E
def lp_r04_Few_6 (k j : Nat) : V_r04_Few_6 := fun v8 b1_0 b1_1 =>
  loopAt M k 12 6 [] [] j ⟨106, [(1, .c (.ptr 1 0 0)), (8, .c (.leaf tI v8))], [(1, 0, .box [.leaf (.slice tNodeType) b1_0, .leaf (.slice tEdgeType) b1_1])]⟩
abbrev V_r04_Few_4 := (D tI) → (D tI) → (D tI) → (D tI) → (D (.slice tNodeType)) → (D (.slice tEdgeType)) → (D .str) → (D tI) → (D tI) → (D (.slice .str)) → Res E
def lp_r04_Few_4 (k j0 j2 j : Nat) : V_r04_Few_4 := fun v3 v4 v5 v7 b1_0 b1_1 b6_0 b6_1 b6_2 b6_3 =>
  loopAt M k 12 4 [] [j0, j2] j ⟨106, [(1, .c (.ptr 1 0 0)), (3, .c (.leaf tI v3)), (4, .c (.leaf tI v4)), (5, .c (.leaf tI v5)), (6, .c (.ptr 6 0 0)), (7, .c (.leaf tI v7))], [(1, 0, .box [.leaf (.slice tNodeType) b1_0, .leaf (.slice tEdgeType) b1_1]), (6, 0, .box [.leaf .str b6_0, .leaf tI b6_1, .leaf tI b6_2, .leaf (.slice .str) b6_3])]⟩
def s_r04_Few_4 (R : RunT) (c2 : V_r04_Few_2) (self : V_r04_Few_4) : V_r04_Few_4 := fun v3 v4 v5 v7 b1_0 b1_1 b6_0 b6_1 b6_2 b6_3 =>
  (cond (decide (v7 < (b6_3.length : Int))) (cond (inB v7 (b6_3.length : Int)) (cond (decide ((40 : Int) < ((rd (E := E) (t := .str) b6_3 v7).size : Int))) (some ⟨.bool, false⟩) (self v3 v4 v5 (IntKind.i64.wrap (v7 + (1 : Int))) b1_0 b1_1 b6_0 b6_1 b6_2 b6_3)) none) (c2 v3 v4 (IntKind.i64.wrap (v5 + (1 : Int))) b1_0 b1_1))
def s_r04_Few_2 (R : RunT) (c4 : V_r04_Few_4) (c0 : V_r04_Few_0) (self : V_r04_Few_2) : V_r04_Few_2 := fun v3 v4 v5 b1_0 b1_1 =>
  (cond (inB v4 (b1_0.length : Int)) (cond (decide (v5 < (((((rd (E := E) (t := tNodeType) b1_0 v4).2).2).2).length : Int))) (cond (inB v4 (b1_0.length : Int)) (cond (inB v5 (((((rd (E := E) (t := tNodeType) b1_0 v4).2).2).2).length : Int)) (cond (cond (decide ((40 : Int) < (((rd (E := E) (t := tAttr) ((((rd (E := E) (t := tNodeType) b1_0 v4).2).2).2) v5).1).size : Int))) true (decide ((25 : Int) < (((((rd (E := E) (t := tAttr) ((((rd (E := E) (t := tNodeType) b1_0 v4).2).2).2) v5).2).2).2).length : Int)))) (some ⟨.bool, false⟩) (c4 v3 v4 v5 (0 : Int) b1_0 b1_1 ((rd (E := E) (t := tAttr) ((((rd (E := E) (t := tNodeType) b1_0 v4).2).2).2) v5).1) (((rd (E := E) (t := tAttr) ((((rd (E := E) (t := tNodeType) b1_0 v4).2).2).2) v5).2).1) ((((rd (E := E) (t := tAttr) ((((rd (E := E) (t := tNodeType) b1_0 v4).2).2).2) v5).2).2).1) ((((rd (E := E) (t := tAttr) ((((rd (E := E) (t := tNodeType) b1_0 v4).2).2).2) v5).2).2).2))) none) none) (c0 v3 (IntKind.i64.wrap (v4 + (1 : Int))) b1_0 b1_1)) none)
def s_r04_Few_0 (R : RunT) (c2 : V_r04_Few_2) (c6 : V_r04_Few_6) (self : V_r04_Few_0) : V_r04_Few_0 := fun v3 v4 b1_0 b1_1 =>
  (cond (decide (v4 < (b1_0.length : Int))) (cond (inB v4 (b1_0.length : Int)) (cond ((inB v4 (b1_0.length : Int)) || !(!(decide ((30 : Int) < (IntKind.i64.wrap (v3 + (((((rd (E := E) (t := tNodeType) b1_0 v4).2).2).2).length : Int))))))) (cond (cond (decide ((30 : Int) < (IntKind.i64.wrap (v3 + (((((rd (E := E) (t := tNodeType) b1_0 v4).2).2).2).length : Int))))) true (decide ((40 : Int) < (((rd (E := E) (t := tNodeType) b1_0 v4).1).size : Int)))) (some ⟨.bool, false⟩) (c2 (IntKind.i64.wrap (v3 + (((((rd (E := E) (t := tNodeType) b1_0 v4).2).2).2).length : Int))) v4 (0 : Int) b1_0 b1_1)) none) none) (c6 (0 : Int) b1_0 b1_1))
def s_r04_Few_6 (R : RunT) (self : V_r04_Few_6) : V_r04_Few_6 := fun v8 b1_0 b1_1 =>
  (cond (decide (v8 < (b1_1.length : Int))) (cond (inB v8 (b1_1.length : Int)) (cond (decide ((40 : Int) < (((rd (E := E) (t := tEdgeType) b1_1 v8).1).size : Int))) (some ⟨.bool, false⟩) (self (IntKind.i64.wrap (v8 + (1 : Int))) b1_0 b1_1)) none) (some ⟨.bool, true⟩))
def l_r04_Few_4 (R : RunT) (c2 : V_r04_Few_2) : Nat → V_r04_Few_4
  | 0 => fun _ _ _ _ _ _ _ _ _ _ => none
  | j + 1 => s_r04_Few_4 R c2 (l_r04_Few_4 R c2 j)
def l_r04_Few_2 (R : RunT) (c0 : V_r04_Few_0) : Nat → V_r04_Few_2
  | 0 => fun _ _ _ _ _ => none
  | j + 1 => s_r04_Few_2 R (l_r04_Few_4 R (l_r04_Few_2 R c0 j) j) c0 (l_r04_Few_2 R c0 j)
def l_r04_Few_0 (R : RunT) (c6 : V_r04_Few_6) : Nat → V_r04_Few_0
  | 0 => fun _ _ _ _ => none
  | j + 1 => s_r04_Few_0 R (l_r04_Few_2 R (l_r04_Few_0 R c6 j) j) c6 (l_r04_Few_0 R c6 j)
def l_r04_Few_6 (R : RunT) : Nat → V_r04_Few_6
  | 0 => fun _ _ _ => none
  | j + 1 => s_r04_Few_6 R (l_r04_Few_6 R j)
def b_r04_Few (R : RunT) (c0 : V_r04_Few_0) (x0 : D tTypes) : Res E :=
  (cond (cond (decide ((20 : Int) < (x0.1.length : Int))) true (decide ((30 : Int) < (x0.2.length : Int)))) (some ⟨.bool, false⟩) (c0 (0 : Int) (0 : Int) x0.1 x0.2))
theorem lp_r04_Few_4_eq (k j0 j2 j4 : Nat) : lp_r04_Few_4 k j0 j2 j4 = l_r04_Few_4 (run M k) (lp_r04_Few_2 k j0 j2) j4 := by
  induction j4 with
  | zero => kernel_rfl
  | succ j4 ih => exact Eq.trans (b := s_r04_Few_4 (run M k) (lp_r04_Few_2 k j0 j2) (lp_r04_Few_4 k j0 j2 j4)) (by kernel_rfl) (by simp only [ih]; rfl)
theorem lp_r04_Few_2_eq (k j0 j2 : Nat) : lp_r04_Few_2 k j0 j2 = l_r04_Few_2 (run M k) (lp_r04_Few_0 k j0) j2 := by
  induction j2 with
  | zero => kernel_rfl
  | succ j2 ih => exact Eq.trans (b := s_r04_Few_2 (run M k) (lp_r04_Few_4 k j0 j2 j2) (lp_r04_Few_0 k j0) (lp_r04_Few_2 k j0 j2)) (by kernel_rfl) (by simp only [lp_r04_Few_4_eq, ih]; rfl)
theorem lp_r04_Few_0_eq (k j0 : Nat) : lp_r04_Few_0 k j0 = l_r04_Few_0 (run M k) (lp_r04_Few_6 k k) j0 := by
  induction j0 with
  | zero => kernel_rfl
  | succ j0 ih => exact Eq.trans (b := s_r04_Few_0 (run M k) (lp_r04_Few_2 k j0 j0) (lp_r04_Few_6 k k) (lp_r04_Few_0 k j0)) (by kernel_rfl) (by simp only [lp_r04_Few_2_eq, ih]; rfl)
theorem lp_r04_Few_6_eq (k j6 : Nat) : lp_r04_Few_6 k j6 = l_r04_Few_6 (run M k) j6 := by
  induction j6 with
  | zero => kernel_rfl
  | succ j6 ih => exact Eq.trans (b := s_r04_Few_6 (run M k) (lp_r04_Few_6 k j6)) (by kernel_rfl) (by simp only [ih]; rfl)
theorem e_r04_Few (k : Nat) (x0 : D tTypes) : run M (k + 1) f_r04_Few [.val tTypes x0] = b_r04_Few (run M k) (l_r04_Few_0 (run M k) (l_r04_Few_6 (run M k) k) k) x0 :=
  Eq.trans (b := b_r04_Few (run M k) (lp_r04_Few_0 k k) x0) (by kernel_rfl) (by simp only [lp_r04_Few_4_eq, lp_r04_Few_2_eq, lp_r04_Few_0_eq, lp_r04_Few_6_eq])
def b_r05_Few (R : RunT) (x0 : D tGraph) : Res E :=
  (some ⟨.bool, (cond (decide ((x0.1.length : Int) ≤ (45 : Int))) (decide ((x0.2.length : Int) ≤ (90 : Int))) false)⟩)
theorem e_r05_Few (k : Nat) (x0 : D tGraph) : run M (k + 1) f_r05_Few [.val tGraph x0] = b_r05_Few (run M k) x0 := by kernel_rfl
def b_r21_Few (R : RunT) (x0 : D tPattern) : Res E :=
  (Option.bind (res .bool (R f_r05_Few [.val tGraph (x0.1.1, x0.1.2)])) (fun r1 => (some ⟨.bool, (cond (cond r1 (decide ((x0.2.1.length : Int) ≤ (15 : Int))) false) (decide ((x0.2.2.2.length : Int) ≤ (15 : Int))) false)⟩)))
theorem e_r21_Few (k : Nat) (x0 : D tPattern) : run M (k + 1) f_r21_Few [.val tPattern x0] = b_r21_Few (run M k) x0 := by kernel_rfl
def b_r06_Few (R : RunT) (x0 : D tMorphism) (x1 : D tI) : Res E :=
  (some ⟨.bool, (decide ((IntKind.i64.wrap ((x0.1.length : Int) + (x0.2.length : Int))) ≤ x1))⟩)
theorem e_r06_Few (k : Nat) (x0 : D tMorphism) (x1 : D tI) : run M (k + 1) f_r06_Few [.val tMorphism x0, .val tI x1] = b_r06_Few (run M k) x0 x1 := by kernel_rfl
abbrev V_r22_left_0 := (D tI) → (D tI) → (D tI) → (D (.slice (.nom 0))) → (D (.slice tI)) → (D (.slice tI)) → (D (.slice tI)) → (D (.slice tEdge)) → (D (.slice tSlot)) → (D tI) → (D (.slice tTest)) → Res E
def lp_r22_left_0 (k j : Nat) : V_r22_left_0 := fun v1 v5 b2_0 b2_1 b2_2 b2_3 b2_4 b2_5 b2_6 b2_7 b2_8 =>
  loopAt M k 37 0 [] [] j ⟨37, [(1, .c (.leaf tI v1)), (2, .c (.ptr 2 0 0)), (5, .c (.leaf tI v5))], [(2, 0, .box [.leaf tI b2_0, .leaf (.slice (.nom 0)) b2_1, .leaf (.slice tI) b2_2, .leaf (.slice tI) b2_3, .leaf (.slice tI) b2_4, .leaf (.slice tEdge) b2_5, .leaf (.slice tSlot) b2_6, .leaf tI b2_7, .leaf (.slice tTest) b2_8])]⟩
def s_r22_left_0 (R : RunT) (self : V_r22_left_0) : V_r22_left_0 := fun v1 v5 b2_0 b2_1 b2_2 b2_3 b2_4 b2_5 b2_6 b2_7 b2_8 =>
  (cond (cond (decide (v5 < (b2_1.length : Int))) (decide ((0 : Int) ≤ v1)) false) (cond (inB v5 (b2_1.length : Int)) (Option.bind (res tI (R f_r22_left [.val (.nom 0) (E.cl 0 ((E.op 0 (rd (E := E) (t := (.nom 0)) b2_1 v5)).1, (((E.op 0 (rd (E := E) (t := (.nom 0)) b2_1 v5)).2).1, ((((((E.op 0 (rd (E := E) (t := (.nom 0)) b2_1 v5)).2).2).1).1, ((((E.op 0 (rd (E := E) (t := (.nom 0)) b2_1 v5)).2).2).1).2), (((((((E.op 0 (rd (E := E) (t := (.nom 0)) b2_1 v5)).2).2).2).1).1, (((((E.op 0 (rd (E := E) (t := (.nom 0)) b2_1 v5)).2).2).2).1).2), ((((((E.op 0 (rd (E := E) (t := (.nom 0)) b2_1 v5)).2).2).2).2).1, (((((((E.op 0 (rd (E := E) (t := (.nom 0)) b2_1 v5)).2).2).2).2).2).1, ((((((E.op 0 (rd (E := E) (t := (.nom 0)) b2_1 v5)).2).2).2).2).2).2))))))), .val tI v1])) (fun r1 => (self r1 (IntKind.i64.wrap (v5 + (1 : Int))) b2_0 b2_1 b2_2 b2_3 b2_4 b2_5 b2_6 b2_7 b2_8))) none) (some ⟨tI, v1⟩))
def l_r22_left_0 (R : RunT) : Nat → V_r22_left_0
  | 0 => fun _ _ _ _ _ _ _ _ _ _ _ => none
  | j + 1 => s_r22_left_0 R (l_r22_left_0 R j)
def b_r22_left (R : RunT) (c0 : V_r22_left_0) (x0 : D (.nom 0)) (x1 : D tI) : Res E :=
  (Option.bind (res .bool (R f_r21_Few [.val tPattern (((((((E.op 0 x0).2).2).2).1).1, (((((E.op 0 x0).2).2).2).1).2), ((((((E.op 0 x0).2).2).2).2).1, (((((((E.op 0 x0).2).2).2).2).2).1, ((((((E.op 0 x0).2).2).2).2).2).2)))])) (fun r1 => (Option.bind (cond (!(!r1)) (res .bool (R f_r06_Few [.val tMorphism (((((E.op 0 x0).2).2).1).1, ((((E.op 0 x0).2).2).1).2), .val tI (140 : Int)])) (some (dflt E .bool))) (fun r2 => (cond (cond (!r1) true (!r2)) (some ⟨tI, (-1 : Int)⟩) (c0 (IntKind.i64.wrap (x1 - (1 : Int))) (0 : Int) ((E.op 0 x0).1) (((E.op 0 x0).2).1) (((((E.op 0 x0).2).2).1).1) (((((E.op 0 x0).2).2).1).2) ((((((E.op 0 x0).2).2).2).1).1) ((((((E.op 0 x0).2).2).2).1).2) ((((((E.op 0 x0).2).2).2).2).1) (((((((E.op 0 x0).2).2).2).2).2).1) (((((((E.op 0 x0).2).2).2).2).2).2)))))))
theorem lp_r22_left_0_eq (k j0 : Nat) : lp_r22_left_0 k j0 = l_r22_left_0 (run M k) j0 := by
  induction j0 with
  | zero => kernel_rfl
  | succ j0 ih => exact Eq.trans (b := s_r22_left_0 (run M k) (lp_r22_left_0 k j0)) (by kernel_rfl) (by simp only [ih]; rfl)
theorem e_r22_left (k : Nat) (x0 : D (.nom 0)) (x1 : D tI) : run M (k + 1) f_r22_left [.val (.nom 0) x0, .val tI x1] = b_r22_left (run M k) (l_r22_left_0 (run M k) k) x0 x1 :=
  Eq.trans (b := b_r22_left (run M k) (lp_r22_left_0 k k) x0 x1) (by kernel_rfl) (by simp only [lp_r22_left_0_eq])
def b_r22_Few (R : RunT) (x0 : D (.nom 0)) : Res E :=
  (Option.bind (res tI (R f_r22_left [.val (.nom 0) (E.cl 0 ((E.op 0 x0).1, (((E.op 0 x0).2).1, ((((((E.op 0 x0).2).2).1).1, ((((E.op 0 x0).2).2).1).2), (((((((E.op 0 x0).2).2).2).1).1, (((((E.op 0 x0).2).2).2).1).2), ((((((E.op 0 x0).2).2).2).2).1, (((((((E.op 0 x0).2).2).2).2).2).1, ((((((E.op 0 x0).2).2).2).2).2).2))))))), .val tI (40 : Int)])) (fun r1 => (some ⟨.bool, (decide ((0 : Int) ≤ r1))⟩)))
theorem e_r22_Few (k : Nat) (x0 : D (.nom 0)) : run M (k + 1) f_r22_Few [.val (.nom 0) x0] = b_r22_Few (run M k) x0 := by kernel_rfl
def b_r04_attrs (R : RunT) (x0 : D tTypes) (x1 : D tI) : Res E :=
  (cond (decide (x1 < (0 : Int))) (some ⟨(.slice tAttr), ([] : List (D tAttr))⟩) (cond (inB x1 (x0.1.length : Int)) (Option.bind (res (.slice tAttr) (R f_r04_attrs [.val tTypes (x0.1, x0.2), .val tI (((rd (E := E) (t := tNodeType) x0.1 x1).2).1)])) (fun r1 => (cond (roomy (([] : List (D tAttr)).length + r1.length) 56) (cond (inB x1 (x0.1.length : Int)) (cond (roomy ((([] : List (D tAttr)) ++ r1).length + ((((rd (E := E) (t := tNodeType) x0.1 x1).2).2).2).length) 56) (some ⟨(.slice tAttr), ((([] : List (D tAttr)) ++ r1) ++ ((((rd (E := E) (t := tNodeType) x0.1 x1).2).2).2))⟩) none) none) none))) none))
theorem e_r04_attrs (k : Nat) (x0 : D tTypes) (x1 : D tI) : run M (k + 1) f_r04_attrs [.val tTypes x0, .val tI x1] = b_r04_attrs (run M k) x0 x1 := by kernel_rfl
def b_r04_in (R : RunT) (x0 x1 x2 : D tI) : Res E :=
  (some ⟨.bool, (cond (decide (x1 ≤ x0)) (decide (x0 ≤ x2)) false)⟩)
theorem e_r04_in (k : Nat) (x0 x1 x2 : D tI) : run M (k + 1) f_r04_in [.val tI x0, .val tI x1, .val tI x2] = b_r04_in (run M k) x0 x1 x2 := by kernel_rfl
def b_r01_text (R : RunT) (x0 : D tToken) : Res E :=
  (cond (decide (x0.1 = (3 : Int))) (cond (decide ((⟨#[34]⟩ : ByteArray).size + x0.2.1.size ≤ 9223372036854775807)) (cond (decide ((appS (⟨#[34]⟩ : ByteArray) x0.2.1).size + (⟨#[34]⟩ : ByteArray).size ≤ 9223372036854775807)) (some ⟨.str, (appS (appS (⟨#[34]⟩ : ByteArray) x0.2.1) (⟨#[34]⟩ : ByteArray))⟩) none) none) (some ⟨.str, x0.2.1⟩))
theorem e_r01_text (k : Nat) (x0 : D tToken) : run M (k + 1) f_r01_text [.val tToken x0] = b_r01_text (run M k) x0 := by kernel_rfl
def b_r01_letter (R : RunT) (x0 : D tU8) : Res E :=
  (some ⟨.bool, (cond (cond (decide ((97 : Int) ≤ x0)) (decide (x0 ≤ (122 : Int))) false) true (cond (decide ((65 : Int) ≤ x0)) (decide (x0 ≤ (90 : Int))) false))⟩)
theorem e_r01_letter (k : Nat) (x0 : D tU8) : run M (k + 1) f_r01_letter [.val tU8 x0] = b_r01_letter (run M k) x0 := by kernel_rfl
def b_r01_digit (R : RunT) (x0 : D tU8) : Res E :=
  (some ⟨.bool, (cond (decide ((48 : Int) ≤ x0)) (decide (x0 ≤ (57 : Int))) false)⟩)
theorem e_r01_digit (k : Nat) (x0 : D tU8) : run M (k + 1) f_r01_digit [.val tU8 x0] = b_r01_digit (run M k) x0 := by kernel_rfl
abbrev V_r01_run_0 := (D .str) → (D tI) → (D .bool) → (D tI) → Res E
def lp_r01_run_0 (k j : Nat) : V_r01_run_0 := fun v0 v1 v2 v7 =>
  loopAt M k 304 0 [] [] j ⟨45, [(0, .c (.leaf .str v0)), (1, .c (.leaf tI v1)), (2, .c (.leaf .bool v2)), (7, .c (.leaf tI v7))], []⟩
def s_r01_run_0 (R : RunT) (self : V_r01_run_0) : V_r01_run_0 := fun v0 v1 v2 v7 =>
  (cond ((inB (IntKind.i64.wrap (v1 + v7)) (v0.size : Int)) || !(decide ((IntKind.i64.wrap (v1 + v7)) < (v0.size : Int)))) (Option.bind (cond (decide ((IntKind.i64.wrap (v1 + v7)) < (v0.size : Int))) (res .bool (R f_r01_digit [.val tU8 (bt v0 (IntKind.i64.wrap (v1 + v7)))])) (some (dflt E .bool))) (fun r1 => (cond ((inB (IntKind.i64.wrap (v1 + v7)) (v0.size : Int)) || !(((decide ((IntKind.i64.wrap (v1 + v7)) < (v0.size : Int))) && !r1) && !v2)) (Option.bind (cond (((decide ((IntKind.i64.wrap (v1 + v7)) < (v0.size : Int))) && !r1) && !v2) (res .bool (R f_r01_letter [.val tU8 (bt v0 (IntKind.i64.wrap (v1 + v7)))])) (some (dflt E .bool))) (fun r2 => (cond ((inB (IntKind.i64.wrap (v1 + v7)) (v0.size : Int)) || !((((decide ((IntKind.i64.wrap (v1 + v7)) < (v0.size : Int))) && !r1) && !v2) && !r2)) (cond (cond (decide ((IntKind.i64.wrap (v1 + v7)) < (v0.size : Int))) (cond r1 true (cond (!v2) (cond r2 true (decide ((bt v0 (IntKind.i64.wrap (v1 + v7))) = (95 : Int)))) false)) false) (self v0 v1 v2 (IntKind.i64.wrap (v7 + (1 : Int)))) (some ⟨tI, v7⟩)) none))) none))) none)
def l_r01_run_0 (R : RunT) : Nat → V_r01_run_0
  | 0 => fun _ _ _ _ => none
  | j + 1 => s_r01_run_0 R (l_r01_run_0 R j)
def b_r01_run (R : RunT) (c0 : V_r01_run_0) (x0 : D .str) (x1 : D tI) (x2 : D .bool) : Res E :=
  (c0 x0 x1 x2 (0 : Int))
theorem lp_r01_run_0_eq (k j0 : Nat) : lp_r01_run_0 k j0 = l_r01_run_0 (run M k) j0 := by
  induction j0 with
  | zero => kernel_rfl
  | succ j0 ih => exact Eq.trans (b := s_r01_run_0 (run M k) (lp_r01_run_0 k j0)) (by kernel_rfl) (by simp only [ih]; rfl)
theorem e_r01_run (k : Nat) (x0 : D .str) (x1 : D tI) (x2 : D .bool) : run M (k + 1) f_r01_run [.val .str x0, .val tI x1, .val .bool x2] = b_r01_run (run M k) (l_r01_run_0 (run M k) k) x0 x1 x2 :=
  Eq.trans (b := b_r01_run (run M k) (lp_r01_run_0 k k) x0 x1 x2) (by kernel_rfl) (by simp only [lp_r01_run_0_eq])
abbrev V_r01_quoted_0 := (D .str) → (D tI) → (D tI) → Res E
def lp_r01_quoted_0 (k j : Nat) : V_r01_quoted_0 := fun v0 v1 v5 =>
  loopAt M k 305 0 [] [] j ⟨30, [(0, .c (.leaf .str v0)), (1, .c (.leaf tI v1)), (5, .c (.leaf tI v5))], []⟩
def s_r01_quoted_0 (R : RunT) (self : V_r01_quoted_0) : V_r01_quoted_0 := fun v0 v1 v5 =>
  (cond (decide ((IntKind.i64.wrap (v1 + v5)) < (v0.size : Int))) (cond (inB (IntKind.i64.wrap (v1 + v5)) (v0.size : Int)) (cond (decide ((bt v0 (IntKind.i64.wrap (v1 + v5))) = (34 : Int))) (some ⟨tI, (IntKind.i64.wrap (v5 + (1 : Int)))⟩) (cond (cond (decide ((bt v0 (IntKind.i64.wrap (v1 + v5))) < (32 : Int))) true (decide ((126 : Int) < (bt v0 (IntKind.i64.wrap (v1 + v5)))))) (some ⟨tI, (0 : Int)⟩) (self v0 v1 (IntKind.i64.wrap (v5 + (1 : Int)))))) none) (some ⟨tI, (0 : Int)⟩))
def l_r01_quoted_0 (R : RunT) : Nat → V_r01_quoted_0
  | 0 => fun _ _ _ => none
  | j + 1 => s_r01_quoted_0 R (l_r01_quoted_0 R j)
def b_r01_quoted (R : RunT) (c0 : V_r01_quoted_0) (x0 : D .str) (x1 : D tI) : Res E :=
  (c0 x0 x1 (1 : Int))
theorem lp_r01_quoted_0_eq (k j0 : Nat) : lp_r01_quoted_0 k j0 = l_r01_quoted_0 (run M k) j0 := by
  induction j0 with
  | zero => kernel_rfl
  | succ j0 ih => exact Eq.trans (b := s_r01_quoted_0 (run M k) (lp_r01_quoted_0 k j0)) (by kernel_rfl) (by simp only [ih]; rfl)
theorem e_r01_quoted (k : Nat) (x0 : D .str) (x1 : D tI) : run M (k + 1) f_r01_quoted [.val .str x0, .val tI x1] = b_r01_quoted (run M k) (l_r01_quoted_0 (run M k) k) x0 x1 :=
  Eq.trans (b := b_r01_quoted (run M k) (lp_r01_quoted_0 k k) x0 x1) (by kernel_rfl) (by simp only [lp_r01_quoted_0_eq])
def b_r01_signs (R : RunT) : Res E :=
  (some ⟨(.slice .str), ([(⟨#[45, 62]⟩ : ByteArray), (⟨#[60, 61]⟩ : ByteArray), (⟨#[62, 61]⟩ : ByteArray), (⟨#[61, 61]⟩ : ByteArray), (⟨#[33, 61]⟩ : ByteArray), (⟨#[123]⟩ : ByteArray), (⟨#[125]⟩ : ByteArray), (⟨#[40]⟩ : ByteArray), (⟨#[41]⟩ : ByteArray), (⟨#[91]⟩ : ByteArray), (⟨#[93]⟩ : ByteArray), (⟨#[44]⟩ : ByteArray), (⟨#[59]⟩ : ByteArray), (⟨#[58]⟩ : ByteArray), (⟨#[61]⟩ : ByteArray), (⟨#[43]⟩ : ByteArray), (⟨#[45]⟩ : ByteArray), (⟨#[42]⟩ : ByteArray), (⟨#[60]⟩ : ByteArray), (⟨#[62]⟩ : ByteArray), (⟨#[33]⟩ : ByteArray), (⟨#[38]⟩ : ByteArray), (⟨#[124]⟩ : ByteArray), (⟨#[46]⟩ : ByteArray), (⟨#[63]⟩ : ByteArray)] : List (D .str))⟩)
theorem e_r01_signs (k : Nat) : run M (k + 1) f_r01_signs [] = b_r01_signs (run M k) := by kernel_rfl
abbrev V_r01_one_0 := (D .str) → (D tI) → (D tI) → (D tI) → (D .str) → (D tI) → (List (D .str)) → Res E
def lp_r01_one_0 (k j : Nat) : V_r01_one_0 := fun v0 v1 v13 b4_0 b4_1 b4_2 t1004160 =>
  loopAt M k 281 0 [] [] j ⟨110, [(0, .c (.leaf .str v0)), (1, .c (.leaf tI v1)), (4, .c (.ptr 4 0 0)), (12, .c (.ref 1004160 0 none)), (13, .c (.leaf tI v13))], [(4, 0, .box [.leaf tI b4_0, .leaf .str b4_1, .leaf tI b4_2]), (1004160, 0, .tok .str t1004160)]⟩
def s_r01_one_0 (R : RunT) (self : V_r01_one_0) : V_r01_one_0 := fun v0 v1 v13 b4_0 b4_1 b4_2 t1004160 =>
  (cond (decide (v13 < (t1004160.length : Int))) (cond (inB v13 (t1004160.length : Int)) (cond ((inB v13 (t1004160.length : Int)) || !(decide ((IntKind.i64.wrap (v1 + ((List.getD t1004160 (Int.toNat v13) (dflt E .str)).size : Int))) ≤ (v0.size : Int)))) (cond ((inS v1 (IntKind.i64.wrap (v1 + ((List.getD t1004160 (Int.toNat v13) (dflt E .str)).size : Int))) (v0.size : Int)) || !(decide ((IntKind.i64.wrap (v1 + ((List.getD t1004160 (Int.toNat v13) (dflt E .str)).size : Int))) ≤ (v0.size : Int)))) (cond ((inB v13 (t1004160.length : Int)) || !(decide ((IntKind.i64.wrap (v1 + ((List.getD t1004160 (Int.toNat v13) (dflt E .str)).size : Int))) ≤ (v0.size : Int)))) (cond (cond (decide ((IntKind.i64.wrap (v1 + ((List.getD t1004160 (Int.toNat v13) (dflt E .str)).size : Int))) ≤ (v0.size : Int))) (beqS (subS v0 v1 (IntKind.i64.wrap (v1 + ((List.getD t1004160 (Int.toNat v13) (dflt E .str)).size : Int)))) (List.getD t1004160 (Int.toNat v13) (dflt E .str))) false) (cond (inB v13 (t1004160.length : Int)) (cond (inB v13 (t1004160.length : Int)) (some ⟨(.pair tI (.pair .str tEdge)), ((4 : Int), ((List.getD t1004160 (Int.toNat v13) (dflt E .str)), ((0 : Int), (((List.getD t1004160 (Int.toNat v13) (dflt E .str)).size : Int), (0 : Int)))))⟩) none) none) (self v0 v1 (IntKind.i64.wrap (v13 + (1 : Int))) b4_0 b4_1 b4_2 t1004160)) none) none) none) none) (some ⟨(.pair tI (.pair .str tEdge)), ((0 : Int), ((⟨#[]⟩ : ByteArray), ((0 : Int), ((0 : Int), (2 : Int)))))⟩))
def l_r01_one_0 (R : RunT) : Nat → V_r01_one_0
  | 0 => fun _ _ _ _ _ _ _ => none
  | j + 1 => s_r01_one_0 R (l_r01_one_0 R j)
def b_r01_one (R : RunT) (c0 : V_r01_one_0) (x0 : D .str) (x1 : D tI) : Res E :=
  (cond (inB x1 (x0.size : Int)) (Option.bind (res .bool (R f_r01_letter [.val tU8 (bt x0 x1)])) (fun r1 => (Option.bind (cond (!r1) (res .bool (R f_r01_digit [.val tU8 (bt x0 x1)])) (some (dflt E .bool))) (fun r2 => (cond (cond r1 true r2) (Option.bind (res .bool (R f_r01_digit [.val tU8 (bt x0 x1)])) (fun r3 => (Option.bind (res tI (R f_r01_run [.val .str x0, .val tI x1, .val .bool r3])) (fun r4 => (Option.bind (res .bool (R f_r01_digit [.val tU8 (bt x0 x1)])) (fun r5 => (cond r5 (cond (decide ((9 : Int) < r4)) (some ⟨(.pair tI (.pair .str tEdge)), ((0 : Int), ((⟨#[]⟩ : ByteArray), ((0 : Int), ((0 : Int), (3 : Int)))))⟩) (cond (inS x1 (IntKind.i64.wrap (x1 + r4)) (x0.size : Int)) (some ⟨(.pair tI (.pair .str tEdge)), ((2 : Int), ((subS x0 x1 (IntKind.i64.wrap (x1 + r4))), ((0 : Int), (r4, (0 : Int)))))⟩) none)) (cond (decide ((20 : Int) < r4)) (some ⟨(.pair tI (.pair .str tEdge)), ((0 : Int), ((⟨#[]⟩ : ByteArray), ((0 : Int), ((0 : Int), (3 : Int)))))⟩) (cond (inS x1 (IntKind.i64.wrap (x1 + r4)) (x0.size : Int)) (some ⟨(.pair tI (.pair .str tEdge)), ((1 : Int), ((subS x0 x1 (IntKind.i64.wrap (x1 + r4))), ((0 : Int), (r4, (0 : Int)))))⟩) none))))))))) (cond (decide ((bt x0 x1) = (34 : Int))) (Option.bind (res tI (R f_r01_quoted [.val .str x0, .val tI x1])) (fun r6 => (cond (decide (r6 = (0 : Int))) (some ⟨(.pair tI (.pair .str tEdge)), ((0 : Int), ((⟨#[]⟩ : ByteArray), ((0 : Int), ((0 : Int), (2 : Int)))))⟩) (cond (decide ((60 : Int) < (IntKind.i64.wrap (r6 - (2 : Int))))) (some ⟨(.pair tI (.pair .str tEdge)), ((0 : Int), ((⟨#[]⟩ : ByteArray), ((0 : Int), ((0 : Int), (3 : Int)))))⟩) (cond (inS (IntKind.i64.wrap (x1 + (1 : Int))) (IntKind.i64.wrap ((IntKind.i64.wrap (x1 + r6)) - (1 : Int))) (x0.size : Int)) (some ⟨(.pair tI (.pair .str tEdge)), ((3 : Int), ((subS x0 (IntKind.i64.wrap (x1 + (1 : Int))) (IntKind.i64.wrap ((IntKind.i64.wrap (x1 + r6)) - (1 : Int)))), ((0 : Int), (r6, (0 : Int)))))⟩) none))))) (Option.bind (res (.slice .str) (R f_r01_signs [])) (fun r7 => (c0 x0 x1 (0 : Int) (0 : Int) (⟨#[]⟩ : ByteArray) (0 : Int) r7))))))))) none)
theorem lp_r01_one_0_eq (k j0 : Nat) : lp_r01_one_0 k j0 = l_r01_one_0 (run M k) j0 := by
  induction j0 with
  | zero => kernel_rfl
  | succ j0 ih => exact Eq.trans (b := s_r01_one_0 (run M k) (lp_r01_one_0 k j0)) (by kernel_rfl) (by simp only [ih]; rfl)
theorem e_r01_one (k : Nat) (x0 : D .str) (x1 : D tI) : run M (k + 1) f_r01_one [.val .str x0, .val tI x1] = b_r01_one (run M k) (l_r01_one_0 (run M k) k) x0 x1 :=
  Eq.trans (b := b_r01_one (run M k) (lp_r01_one_0 k k) x0 x1) (by kernel_rfl) (by simp only [lp_r01_one_0_eq])
def b_r01_Right (R : RunT) (x0 : D tToken) : Res E :=
  (Option.bind (res .str (R f_r01_text [.val tToken (x0.1, (x0.2.1, x0.2.2))])) (fun r1 => (cond (beqS r1 (⟨#[]⟩ : ByteArray)) (some ⟨.bool, false⟩) (Option.bind (res (.pair tI (.pair .str tEdge)) (R f_r01_one [.val .str r1, .val tI (0 : Int)])) (fun r2 => (some ⟨.bool, (cond (cond (decide (r2.2.2.2.2 = (0 : Int))) (decide (r2.2.2.2.1 = (r1.size : Int))) false) (decide (r2.1 = x0.1)) false)⟩))))))
theorem e_r01_Right (k : Nat) (x0 : D tToken) : run M (k + 1) f_r01_Right [.val tToken x0] = b_r01_Right (run M k) x0 := by kernel_rfl
def b_r01_IsName (R : RunT) (x0 : D .str) : Res E :=
  (Option.bind (res .bool (R f_r01_Right [.val tToken ((1 : Int), (x0, (0 : Int)))])) (fun r1 => (some ⟨.bool, r1⟩)))
theorem e_r01_IsName (k : Nat) (x0 : D .str) : run M (k + 1) f_r01_IsName [.val .str x0] = b_r01_IsName (run M k) x0 := by kernel_rfl
abbrev V_r04_names_0 := (D (.slice .str)) → (D tI) → Res E
def lp_r04_names_0 (k j : Nat) : V_r04_names_0 := fun v0 v3 =>
  loopAt M k 254 0 [] [] j ⟨34, [(0, .c (.leaf (.slice .str) v0)), (3, .c (.leaf tI v3))], []⟩
abbrev V_r04_names_2 := (D (.slice .str)) → (D tI) → (D tI) → Res E
def lp_r04_names_2 (k j0 j : Nat) : V_r04_names_2 := fun v0 v3 v4 =>
  loopAt M k 254 2 [] [j0] j ⟨34, [(0, .c (.leaf (.slice .str) v0)), (3, .c (.leaf tI v3)), (4, .c (.leaf tI v4))], []⟩
def s_r04_names_2 (R : RunT) (c0 : V_r04_names_0) (self : V_r04_names_2) : V_r04_names_2 := fun v0 v3 v4 =>
  (cond (decide (v4 < v3)) (cond (inB v4 (v0.length : Int)) (cond (inB v3 (v0.length : Int)) (cond (beqS (rd (E := E) (t := .str) v0 v4) (rd (E := E) (t := .str) v0 v3)) (some ⟨tI, (5 : Int)⟩) (self v0 v3 (IntKind.i64.wrap (v4 + (1 : Int))))) none) none) (c0 v0 (IntKind.i64.wrap (v3 + (1 : Int)))))
def s_r04_names_0 (R : RunT) (c2 : V_r04_names_2) (self : V_r04_names_0) : V_r04_names_0 := fun v0 v3 =>
  (cond (decide (v3 < (v0.length : Int))) (cond (inB v3 (v0.length : Int)) (Option.bind (res .bool (R f_r01_IsName [.val .str (rd (E := E) (t := .str) v0 v3)])) (fun r1 => (cond (!r1) (some ⟨tI, (2 : Int)⟩) (c2 v0 v3 (0 : Int))))) none) (some ⟨tI, (0 : Int)⟩))
def l_r04_names_2 (R : RunT) (c0 : V_r04_names_0) : Nat → V_r04_names_2
  | 0 => fun _ _ _ => none
  | j + 1 => s_r04_names_2 R c0 (l_r04_names_2 R c0 j)
def l_r04_names_0 (R : RunT) : Nat → V_r04_names_0
  | 0 => fun _ _ => none
  | j + 1 => s_r04_names_0 R (l_r04_names_2 R (l_r04_names_0 R j) j) (l_r04_names_0 R j)
def b_r04_names (R : RunT) (c0 : V_r04_names_0) (x0 : D (.slice .str)) : Res E :=
  (cond (decide ((20 : Int) < (x0.length : Int))) (some ⟨tI, (3 : Int)⟩) (c0 x0 (0 : Int)))
theorem lp_r04_names_2_eq (k j0 j2 : Nat) : lp_r04_names_2 k j0 j2 = l_r04_names_2 (run M k) (lp_r04_names_0 k j0) j2 := by
  induction j2 with
  | zero => kernel_rfl
  | succ j2 ih => exact Eq.trans (b := s_r04_names_2 (run M k) (lp_r04_names_0 k j0) (lp_r04_names_2 k j0 j2)) (by kernel_rfl) (by simp only [ih]; rfl)
theorem lp_r04_names_0_eq (k j0 : Nat) : lp_r04_names_0 k j0 = l_r04_names_0 (run M k) j0 := by
  induction j0 with
  | zero => kernel_rfl
  | succ j0 ih => exact Eq.trans (b := s_r04_names_0 (run M k) (lp_r04_names_2 k j0 j0) (lp_r04_names_0 k j0)) (by kernel_rfl) (by simp only [lp_r04_names_2_eq, ih]; rfl)
theorem e_r04_names (k : Nat) (x0 : D (.slice .str)) : run M (k + 1) f_r04_names [.val (.slice .str) x0] = b_r04_names (run M k) (l_r04_names_0 (run M k) k) x0 :=
  Eq.trans (b := b_r04_names (run M k) (lp_r04_names_0 k k) x0) (by kernel_rfl) (by simp only [lp_r04_names_2_eq, lp_r04_names_0_eq])
def b_r04_attribute (R : RunT) (x0 : D tAttr) : Res E :=
  (cond (decide ((x0.2.2.2.length : Int) = (0 : Int))) (Option.bind (res .bool (R f_r04_in [.val tI x0.2.1, .val tI (-1000000 : Int), .val tI (1000000 : Int)])) (fun r1 => (Option.bind (cond (!(!r1)) (res .bool (R f_r04_in [.val tI x0.2.2.1, .val tI x0.2.1, .val tI (1000000 : Int)])) (some (dflt E .bool))) (fun r2 => (cond (cond (!r1) true (!r2)) (some ⟨tI, (6 : Int)⟩) (some ⟨tI, (0 : Int)⟩)))))) (Option.bind (res tI (R f_r04_names [.val (.slice .str) x0.2.2.2])) (fun r3 => (cond (!(decide (r3 = (0 : Int)))) (some ⟨tI, r3⟩) (cond (cond (!(decide (x0.2.1 = (0 : Int)))) true (!(decide (x0.2.2.1 = (IntKind.i64.wrap ((x0.2.2.2.length : Int) - (1 : Int))))))) (some ⟨tI, (6 : Int)⟩) (some ⟨tI, (0 : Int)⟩))))))
theorem e_r04_attribute (k : Nat) (x0 : D tAttr) : run M (k + 1) f_r04_attribute [.val tAttr x0] = b_r04_attribute (run M k) x0 := by kernel_rfl
abbrev V_r04_node_0 := (D tI) → (D tI) → (D (.slice tNodeType)) → (D (.slice tEdgeType)) → (D .str) → (D tI) → (D .bool) → (D (.slice tAttr)) → Res E
def lp_r04_node_0 (k j : Nat) : V_r04_node_0 := fun v1 v6 b2_0 b2_1 b5_0 b5_1 b5_2 b5_3 =>
  loopAt M k 162 0 [] [] j ⟨95, [(1, .c (.leaf tI v1)), (2, .c (.ptr 2 0 0)), (5, .c (.ptr 5 0 0)), (6, .c (.leaf tI v6))], [(2, 0, .box [.leaf (.slice tNodeType) b2_0, .leaf (.slice tEdgeType) b2_1]), (5, 0, .box [.leaf .str b5_0, .leaf tI b5_1, .leaf .bool b5_2, .leaf (.slice tAttr) b5_3])]⟩
abbrev V_r04_node_2 := (D tI) → (List (D tAttr)) → Res E
def lp_r04_node_2 (k j : Nat) : V_r04_node_2 := fun v8 t1002688 =>
  loopAt M k 162 2 [] [] j ⟨95, [(7, .c (.ref 1002688 0 none)), (8, .c (.leaf tI v8))], [(1002688, 0, .tok tAttr t1002688)]⟩
abbrev V_r04_node_4 := (D tI) → (D tI) → (List (D tAttr)) → Res E
def lp_r04_node_4 (k j2 j : Nat) : V_r04_node_4 := fun v8 v9 t1002688 =>
  loopAt M k 162 4 [] [j2] j ⟨95, [(7, .c (.ref 1002688 0 none)), (8, .c (.leaf tI v8)), (9, .c (.leaf tI v9))], [(1002688, 0, .tok tAttr t1002688)]⟩
def s_r04_node_4 (R : RunT) (c2 : V_r04_node_2) (self : V_r04_node_4) : V_r04_node_4 := fun v8 v9 t1002688 =>
  (cond (decide (v9 < v8)) (cond (inB v9 (t1002688.length : Int)) (cond (inB v8 (t1002688.length : Int)) (cond (beqS ((List.getD t1002688 (Int.toNat v9) (dflt E tAttr)).1) ((List.getD t1002688 (Int.toNat v8) (dflt E tAttr)).1)) (some ⟨tI, (5 : Int)⟩) (self v8 (IntKind.i64.wrap (v9 + (1 : Int))) t1002688)) none) none) (cond (inB v8 (t1002688.length : Int)) (Option.bind (res tI (R f_r04_attribute [.val tAttr ((List.getD t1002688 (Int.toNat v8) (dflt E tAttr)).1, (((List.getD t1002688 (Int.toNat v8) (dflt E tAttr)).2).1, ((((List.getD t1002688 (Int.toNat v8) (dflt E tAttr)).2).2).1, (((List.getD t1002688 (Int.toNat v8) (dflt E tAttr)).2).2).2)))])) (fun r1 => (cond (!(decide (r1 = (0 : Int)))) (some ⟨tI, r1⟩) (c2 (IntKind.i64.wrap (v8 + (1 : Int))) t1002688)))) none))
def s_r04_node_0 (R : RunT) (c2 : V_r04_node_2) (self : V_r04_node_0) : V_r04_node_0 := fun v1 v6 b2_0 b2_1 b5_0 b5_1 b5_2 b5_3 =>
  (cond (decide (v6 < v1)) (cond (inB v6 (b2_0.length : Int)) (cond (beqS ((rd (E := E) (t := tNodeType) b2_0 v6).1) b5_0) (some ⟨tI, (5 : Int)⟩) (self v1 (IntKind.i64.wrap (v6 + (1 : Int))) b2_0 b2_1 b5_0 b5_1 b5_2 b5_3)) none) (Option.bind (res .bool (R f_r04_in [.val tI b5_1, .val tI (-1 : Int), .val tI (IntKind.i64.wrap (v1 - (1 : Int)))])) (fun r1 => (cond (!r1) (some ⟨tI, (6 : Int)⟩) (Option.bind (res (.slice tAttr) (R f_r04_attrs [.val tTypes (b2_0, b2_1), .val tI v1])) (fun r2 => (cond (cond (decide ((4 : Int) < (b5_3.length : Int))) true (decide ((8 : Int) < (r2.length : Int)))) (some ⟨tI, (3 : Int)⟩) (c2 (IntKind.i64.wrap ((r2.length : Int) - (b5_3.length : Int))) r2))))))))
def s_r04_node_2 (R : RunT) (c4 : V_r04_node_4) (self : V_r04_node_2) : V_r04_node_2 := fun v8 t1002688 =>
  (cond (decide (v8 < (t1002688.length : Int))) (cond (inB v8 (t1002688.length : Int)) (Option.bind (res .bool (R f_r01_IsName [.val .str ((List.getD t1002688 (Int.toNat v8) (dflt E tAttr)).1)])) (fun r1 => (cond (!r1) (some ⟨tI, (2 : Int)⟩) (c4 v8 (0 : Int) t1002688)))) none) (some ⟨tI, (0 : Int)⟩))
def l_r04_node_4 (R : RunT) (c2 : V_r04_node_2) : Nat → V_r04_node_4
  | 0 => fun _ _ _ => none
  | j + 1 => s_r04_node_4 R c2 (l_r04_node_4 R c2 j)
def l_r04_node_0 (R : RunT) (c2 : V_r04_node_2) : Nat → V_r04_node_0
  | 0 => fun _ _ _ _ _ _ _ _ => none
  | j + 1 => s_r04_node_0 R c2 (l_r04_node_0 R c2 j)
def l_r04_node_2 (R : RunT) : Nat → V_r04_node_2
  | 0 => fun _ _ => none
  | j + 1 => s_r04_node_2 R (l_r04_node_4 R (l_r04_node_2 R j) j) (l_r04_node_2 R j)
def b_r04_node (R : RunT) (c0 : V_r04_node_0) (x0 : D tTypes) (x1 : D tI) : Res E :=
  (cond (inB x1 (x0.1.length : Int)) (Option.bind (res .bool (R f_r01_IsName [.val .str ((rd (E := E) (t := tNodeType) x0.1 x1).1)])) (fun r1 => (cond (!r1) (some ⟨tI, (2 : Int)⟩) (c0 x1 (0 : Int) x0.1 x0.2 ((rd (E := E) (t := tNodeType) x0.1 x1).1) (((rd (E := E) (t := tNodeType) x0.1 x1).2).1) ((((rd (E := E) (t := tNodeType) x0.1 x1).2).2).1) ((((rd (E := E) (t := tNodeType) x0.1 x1).2).2).2))))) none)
theorem lp_r04_node_4_eq (k j2 j4 : Nat) : lp_r04_node_4 k j2 j4 = l_r04_node_4 (run M k) (lp_r04_node_2 k j2) j4 := by
  induction j4 with
  | zero => kernel_rfl
  | succ j4 ih => exact Eq.trans (b := s_r04_node_4 (run M k) (lp_r04_node_2 k j2) (lp_r04_node_4 k j2 j4)) (by kernel_rfl) (by simp only [ih]; rfl)
theorem lp_r04_node_0_eq (k j0 : Nat) : lp_r04_node_0 k j0 = l_r04_node_0 (run M k) (lp_r04_node_2 k k) j0 := by
  induction j0 with
  | zero => kernel_rfl
  | succ j0 ih => exact Eq.trans (b := s_r04_node_0 (run M k) (lp_r04_node_2 k k) (lp_r04_node_0 k j0)) (by kernel_rfl) (by simp only [ih]; rfl)
theorem lp_r04_node_2_eq (k j2 : Nat) : lp_r04_node_2 k j2 = l_r04_node_2 (run M k) j2 := by
  induction j2 with
  | zero => kernel_rfl
  | succ j2 ih => exact Eq.trans (b := s_r04_node_2 (run M k) (lp_r04_node_4 k j2 j2) (lp_r04_node_2 k j2)) (by kernel_rfl) (by simp only [lp_r04_node_4_eq, ih]; rfl)
theorem e_r04_node (k : Nat) (x0 : D tTypes) (x1 : D tI) : run M (k + 1) f_r04_node [.val tTypes x0, .val tI x1] = b_r04_node (run M k) (l_r04_node_0 (run M k) (l_r04_node_2 (run M k) k) k) x0 x1 :=
  Eq.trans (b := b_r04_node (run M k) (lp_r04_node_0 k k) x0 x1) (by kernel_rfl) (by simp only [lp_r04_node_4_eq, lp_r04_node_0_eq, lp_r04_node_2_eq])
def b_r04_bound (R : RunT) (x0 x1 : D tI) : Res E :=
  (Option.bind (res .bool (R f_r04_in [.val tI x0, .val tI (0 : Int), .val tI (40 : Int)])) (fun r1 => (Option.bind (cond (r1 && !(decide (x1 = (-1 : Int)))) (res .bool (R f_r04_in [.val tI x1, .val tI x0, .val tI (40 : Int)])) (some (dflt E .bool))) (fun r2 => (some ⟨.bool, (cond r1 (cond (decide (x1 = (-1 : Int))) true r2) false)⟩)))))
theorem e_r04_bound (k : Nat) (x0 x1 : D tI) : run M (k + 1) f_r04_bound [.val tI x0, .val tI x1] = b_r04_bound (run M k) x0 x1 := by kernel_rfl
abbrev V_r04_edge_0 := (D tI) → (D tI) → (D (.slice tNodeType)) → (D (.slice tEdgeType)) → (D .str) → (D tI) → (D tI) → (D tI) → (D tI) → (D tI) → (D tI) → Res E
def lp_r04_edge_0 (k j : Nat) : V_r04_edge_0 := fun v1 v6 b2_0 b2_1 b5_0 b5_1 b5_2 b5_3 b5_4 b5_5 b5_6 =>
  loopAt M k 163 0 [] [] j ⟨63, [(1, .c (.leaf tI v1)), (2, .c (.ptr 2 0 0)), (5, .c (.ptr 5 0 0)), (6, .c (.leaf tI v6))], [(2, 0, .box [.leaf (.slice tNodeType) b2_0, .leaf (.slice tEdgeType) b2_1]), (5, 0, .box [.leaf .str b5_0, .leaf tI b5_1, .leaf tI b5_2, .leaf tI b5_3, .leaf tI b5_4, .leaf tI b5_5, .leaf tI b5_6])]⟩
def s_r04_edge_0 (R : RunT) (self : V_r04_edge_0) : V_r04_edge_0 := fun v1 v6 b2_0 b2_1 b5_0 b5_1 b5_2 b5_3 b5_4 b5_5 b5_6 =>
  (cond (decide (v6 < v1)) (cond (inB v6 (b2_1.length : Int)) (cond (beqS ((rd (E := E) (t := tEdgeType) b2_1 v6).1) b5_0) (some ⟨tI, (5 : Int)⟩) (self v1 (IntKind.i64.wrap (v6 + (1 : Int))) b2_0 b2_1 b5_0 b5_1 b5_2 b5_3 b5_4 b5_5 b5_6)) none) (Option.bind (res .bool (R f_r04_in [.val tI b5_1, .val tI (0 : Int), .val tI (IntKind.i64.wrap ((b2_0.length : Int) - (1 : Int)))])) (fun r1 => (Option.bind (cond (!(!r1)) (res .bool (R f_r04_in [.val tI b5_2, .val tI (0 : Int), .val tI (IntKind.i64.wrap ((b2_0.length : Int) - (1 : Int)))])) (some (dflt E .bool))) (fun r2 => (Option.bind (cond (!(cond (!r1) true (!r2))) (res .bool (R f_r04_bound [.val tI b5_3, .val tI b5_4])) (some (dflt E .bool))) (fun r3 => (Option.bind (cond (!(cond (cond (!r1) true (!r2)) true (!r3))) (res .bool (R f_r04_bound [.val tI b5_5, .val tI b5_6])) (some (dflt E .bool))) (fun r4 => (cond (cond (cond (cond (!r1) true (!r2)) true (!r3)) true (!r4)) (some ⟨tI, (6 : Int)⟩) (some ⟨tI, (0 : Int)⟩)))))))))))
def l_r04_edge_0 (R : RunT) : Nat → V_r04_edge_0
  | 0 => fun _ _ _ _ _ _ _ _ _ _ _ => none
  | j + 1 => s_r04_edge_0 R (l_r04_edge_0 R j)
def b_r04_edge (R : RunT) (c0 : V_r04_edge_0) (x0 : D tTypes) (x1 : D tI) : Res E :=
  (cond (inB x1 (x0.2.length : Int)) (Option.bind (res .bool (R f_r01_IsName [.val .str ((rd (E := E) (t := tEdgeType) x0.2 x1).1)])) (fun r1 => (cond (!r1) (some ⟨tI, (2 : Int)⟩) (c0 x1 (0 : Int) x0.1 x0.2 ((rd (E := E) (t := tEdgeType) x0.2 x1).1) (((rd (E := E) (t := tEdgeType) x0.2 x1).2).1) ((((rd (E := E) (t := tEdgeType) x0.2 x1).2).2).1) (((((rd (E := E) (t := tEdgeType) x0.2 x1).2).2).2).1) ((((((rd (E := E) (t := tEdgeType) x0.2 x1).2).2).2).2).1) (((((((rd (E := E) (t := tEdgeType) x0.2 x1).2).2).2).2).2).1) (((((((rd (E := E) (t := tEdgeType) x0.2 x1).2).2).2).2).2).2))))) none)
theorem lp_r04_edge_0_eq (k j0 : Nat) : lp_r04_edge_0 k j0 = l_r04_edge_0 (run M k) j0 := by
  induction j0 with
  | zero => kernel_rfl
  | succ j0 ih => exact Eq.trans (b := s_r04_edge_0 (run M k) (lp_r04_edge_0 k j0)) (by kernel_rfl) (by simp only [ih]; rfl)
theorem e_r04_edge (k : Nat) (x0 : D tTypes) (x1 : D tI) : run M (k + 1) f_r04_edge [.val tTypes x0, .val tI x1] = b_r04_edge (run M k) (l_r04_edge_0 (run M k) k) x0 x1 :=
  Eq.trans (b := b_r04_edge (run M k) (lp_r04_edge_0 k k) x0 x1) (by kernel_rfl) (by simp only [lp_r04_edge_0_eq])
abbrev V_r04_Valid_0 := (D tI) → (D (.slice tNodeType)) → (D (.slice tEdgeType)) → Res E
def lp_r04_Valid_0 (k j : Nat) : V_r04_Valid_0 := fun v4 b1_0 b1_1 =>
  loopAt M k 94 0 [] [] j ⟨60, [(1, .c (.ptr 1 0 0)), (4, .c (.leaf tI v4))], [(1, 0, .box [.leaf (.slice tNodeType) b1_0, .leaf (.slice tEdgeType) b1_1])]⟩
abbrev V_r04_Valid_2 := (D tI) → (D (.slice tNodeType)) → (D (.slice tEdgeType)) → Res E
def lp_r04_Valid_2 (k j : Nat) : V_r04_Valid_2 := fun v6 b1_0 b1_1 =>
  loopAt M k 94 2 [] [] j ⟨60, [(1, .c (.ptr 1 0 0)), (6, .c (.leaf tI v6))], [(1, 0, .box [.leaf (.slice tNodeType) b1_0, .leaf (.slice tEdgeType) b1_1])]⟩
def s_r04_Valid_0 (R : RunT) (c2 : V_r04_Valid_2) (self : V_r04_Valid_0) : V_r04_Valid_0 := fun v4 b1_0 b1_1 =>
  (cond (decide (v4 < (b1_0.length : Int))) (Option.bind (res tI (R f_r04_node [.val tTypes (b1_0, b1_1), .val tI v4])) (fun r1 => (cond (!(decide (r1 = (0 : Int)))) (cond (inB v4 (b1_0.length : Int)) (some ⟨(.pair .str tI), ((rd (E := E) (t := tNodeType) b1_0 v4).1, r1)⟩) none) (self (IntKind.i64.wrap (v4 + (1 : Int))) b1_0 b1_1)))) (c2 (0 : Int) b1_0 b1_1))
def s_r04_Valid_2 (R : RunT) (self : V_r04_Valid_2) : V_r04_Valid_2 := fun v6 b1_0 b1_1 =>
  (cond (decide (v6 < (b1_1.length : Int))) (Option.bind (res tI (R f_r04_edge [.val tTypes (b1_0, b1_1), .val tI v6])) (fun r1 => (cond (!(decide (r1 = (0 : Int)))) (cond (inB v6 (b1_1.length : Int)) (some ⟨(.pair .str tI), ((rd (E := E) (t := tEdgeType) b1_1 v6).1, r1)⟩) none) (self (IntKind.i64.wrap (v6 + (1 : Int))) b1_0 b1_1)))) (some ⟨(.pair .str tI), ((⟨#[]⟩ : ByteArray), (0 : Int))⟩))
def l_r04_Valid_0 (R : RunT) (c2 : V_r04_Valid_2) : Nat → V_r04_Valid_0
  | 0 => fun _ _ _ => none
  | j + 1 => s_r04_Valid_0 R c2 (l_r04_Valid_0 R c2 j)
def l_r04_Valid_2 (R : RunT) : Nat → V_r04_Valid_2
  | 0 => fun _ _ _ => none
  | j + 1 => s_r04_Valid_2 R (l_r04_Valid_2 R j)
def b_r04_Valid (R : RunT) (c0 : V_r04_Valid_0) (x0 : D tTypes) : Res E :=
  (cond (decide ((x0.1.length : Int) = (0 : Int))) (some ⟨(.pair .str tI), ((⟨#[]⟩ : ByteArray), (7 : Int))⟩) (cond (cond (decide ((12 : Int) < (x0.1.length : Int))) true (decide ((20 : Int) < (x0.2.length : Int)))) (some ⟨(.pair .str tI), ((⟨#[]⟩ : ByteArray), (3 : Int))⟩) (c0 (0 : Int) x0.1 x0.2)))
theorem lp_r04_Valid_0_eq (k j0 : Nat) : lp_r04_Valid_0 k j0 = l_r04_Valid_0 (run M k) (lp_r04_Valid_2 k k) j0 := by
  induction j0 with
  | zero => kernel_rfl
  | succ j0 ih => exact Eq.trans (b := s_r04_Valid_0 (run M k) (lp_r04_Valid_2 k k) (lp_r04_Valid_0 k j0)) (by kernel_rfl) (by simp only [ih]; rfl)
theorem lp_r04_Valid_2_eq (k j2 : Nat) : lp_r04_Valid_2 k j2 = l_r04_Valid_2 (run M k) j2 := by
  induction j2 with
  | zero => kernel_rfl
  | succ j2 ih => exact Eq.trans (b := s_r04_Valid_2 (run M k) (lp_r04_Valid_2 k j2)) (by kernel_rfl) (by simp only [ih]; rfl)
theorem e_r04_Valid (k : Nat) (x0 : D tTypes) : run M (k + 1) f_r04_Valid [.val tTypes x0] = b_r04_Valid (run M k) (l_r04_Valid_0 (run M k) (l_r04_Valid_2 (run M k) k) k) x0 :=
  Eq.trans (b := b_r04_Valid (run M k) (lp_r04_Valid_0 k k) x0) (by kernel_rfl) (by simp only [lp_r04_Valid_0_eq, lp_r04_Valid_2_eq])
def b_r05_kind (R : RunT) (x0 : D tI) : Res E :=
  (some ⟨.bool, (cond (decide ((0 : Int) ≤ x0)) (decide (x0 ≤ (99 : Int))) false)⟩)
theorem e_r05_kind (k : Nat) (x0 : D tI) : run M (k + 1) f_r05_kind [.val tI x0] = b_r05_kind (run M k) x0 := by kernel_rfl
def b_r05_right (R : RunT) (x0 : D tEdge) (x1 : D tI) : Res E :=
  (Option.bind (res .bool (R f_r05_kind [.val tI x0.1])) (fun r1 => (some ⟨.bool, (cond (cond (cond (cond r1 (decide ((0 : Int) ≤ x0.2.1)) false) (decide (x0.2.1 < x1)) false) (decide ((0 : Int) ≤ x0.2.2)) false) (decide (x0.2.2 < x1)) false)⟩)))
theorem e_r05_right (k : Nat) (x0 : D tEdge) (x1 : D tI) : run M (k + 1) f_r05_right [.val tEdge x0, .val tI x1] = b_r05_right (run M k) x0 x1 := by kernel_rfl
abbrev V_r05_Valid_0 := (D tI) → (D (.slice tI)) → (D (.slice tEdge)) → Res E
def lp_r05_Valid_0 (k j : Nat) : V_r05_Valid_0 := fun v3 b1_0 b1_1 =>
  loopAt M k 95 0 [] [] j ⟨46, [(1, .c (.ptr 1 0 0)), (3, .c (.leaf tI v3))], [(1, 0, .box [.leaf (.slice tI) b1_0, .leaf (.slice tEdge) b1_1])]⟩
abbrev V_r05_Valid_2 := (D tI) → (D (.slice tI)) → (D (.slice tEdge)) → Res E
def lp_r05_Valid_2 (k j : Nat) : V_r05_Valid_2 := fun v4 b1_0 b1_1 =>
  loopAt M k 95 2 [] [] j ⟨46, [(1, .c (.ptr 1 0 0)), (4, .c (.leaf tI v4))], [(1, 0, .box [.leaf (.slice tI) b1_0, .leaf (.slice tEdge) b1_1])]⟩
def s_r05_Valid_0 (R : RunT) (c2 : V_r05_Valid_2) (self : V_r05_Valid_0) : V_r05_Valid_0 := fun v3 b1_0 b1_1 =>
  (cond (decide (v3 < (b1_0.length : Int))) (cond (inB v3 (b1_0.length : Int)) (Option.bind (res .bool (R f_r05_kind [.val tI (rd (E := E) (t := tI) b1_0 v3)])) (fun r1 => (cond (!r1) (some ⟨tI, (6 : Int)⟩) (self (IntKind.i64.wrap (v3 + (1 : Int))) b1_0 b1_1)))) none) (c2 (0 : Int) b1_0 b1_1))
def s_r05_Valid_2 (R : RunT) (self : V_r05_Valid_2) : V_r05_Valid_2 := fun v4 b1_0 b1_1 =>
  (cond (decide (v4 < (b1_1.length : Int))) (cond (inB v4 (b1_1.length : Int)) (Option.bind (res .bool (R f_r05_right [.val tEdge ((rd (E := E) (t := tEdge) b1_1 v4).1, (((rd (E := E) (t := tEdge) b1_1 v4).2).1, ((rd (E := E) (t := tEdge) b1_1 v4).2).2)), .val tI (b1_0.length : Int)])) (fun r1 => (cond (!r1) (some ⟨tI, (6 : Int)⟩) (self (IntKind.i64.wrap (v4 + (1 : Int))) b1_0 b1_1)))) none) (some ⟨tI, (0 : Int)⟩))
def l_r05_Valid_0 (R : RunT) (c2 : V_r05_Valid_2) : Nat → V_r05_Valid_0
  | 0 => fun _ _ _ => none
  | j + 1 => s_r05_Valid_0 R c2 (l_r05_Valid_0 R c2 j)
def l_r05_Valid_2 (R : RunT) : Nat → V_r05_Valid_2
  | 0 => fun _ _ _ => none
  | j + 1 => s_r05_Valid_2 R (l_r05_Valid_2 R j)
def b_r05_Valid (R : RunT) (c0 : V_r05_Valid_0) (x0 : D tGraph) : Res E :=
  (cond (cond (decide ((40 : Int) < (x0.1.length : Int))) true (decide ((80 : Int) < (x0.2.length : Int)))) (some ⟨tI, (3 : Int)⟩) (c0 (0 : Int) x0.1 x0.2))
theorem lp_r05_Valid_0_eq (k j0 : Nat) : lp_r05_Valid_0 k j0 = l_r05_Valid_0 (run M k) (lp_r05_Valid_2 k k) j0 := by
  induction j0 with
  | zero => kernel_rfl
  | succ j0 ih => exact Eq.trans (b := s_r05_Valid_0 (run M k) (lp_r05_Valid_2 k k) (lp_r05_Valid_0 k j0)) (by kernel_rfl) (by simp only [ih]; rfl)
theorem lp_r05_Valid_2_eq (k j2 : Nat) : lp_r05_Valid_2 k j2 = l_r05_Valid_2 (run M k) j2 := by
  induction j2 with
  | zero => kernel_rfl
  | succ j2 ih => exact Eq.trans (b := s_r05_Valid_2 (run M k) (lp_r05_Valid_2 k j2)) (by kernel_rfl) (by simp only [ih]; rfl)
theorem e_r05_Valid (k : Nat) (x0 : D tGraph) : run M (k + 1) f_r05_Valid [.val tGraph x0] = b_r05_Valid (run M k) (l_r05_Valid_0 (run M k) (l_r05_Valid_2 (run M k) k) k) x0 :=
  Eq.trans (b := b_r05_Valid (run M k) (lp_r05_Valid_0 k k) x0) (by kernel_rfl) (by simp only [lp_r05_Valid_0_eq, lp_r05_Valid_2_eq])
abbrev V_r17_Typed_0 := (D tI) → (D (.slice tNodeType)) → (D (.slice tEdgeType)) → (D (.slice tI)) → (D (.slice tEdge)) → Res E
def lp_r17_Typed_0 (k j : Nat) : V_r17_Typed_0 := fun v5 b2_0 b2_1 b3_0 b3_1 =>
  loopAt M k 96 0 [] [] j ⟨57, [(2, .c (.ptr 2 0 0)), (3, .c (.ptr 3 0 0)), (5, .c (.leaf tI v5))], [(2, 0, .box [.leaf (.slice tNodeType) b2_0, .leaf (.slice tEdgeType) b2_1]), (3, 0, .box [.leaf (.slice tI) b3_0, .leaf (.slice tEdge) b3_1])]⟩
abbrev V_r17_Typed_2 := (D tI) → (D (.slice tNodeType)) → (D (.slice tEdgeType)) → (D (.slice tI)) → (D (.slice tEdge)) → Res E
def lp_r17_Typed_2 (k j : Nat) : V_r17_Typed_2 := fun v6 b2_0 b2_1 b3_0 b3_1 =>
  loopAt M k 96 2 [] [] j ⟨57, [(2, .c (.ptr 2 0 0)), (3, .c (.ptr 3 0 0)), (6, .c (.leaf tI v6))], [(2, 0, .box [.leaf (.slice tNodeType) b2_0, .leaf (.slice tEdgeType) b2_1]), (3, 0, .box [.leaf (.slice tI) b3_0, .leaf (.slice tEdge) b3_1])]⟩
def s_r17_Typed_0 (R : RunT) (c2 : V_r17_Typed_2) (self : V_r17_Typed_0) : V_r17_Typed_0 := fun v5 b2_0 b2_1 b3_0 b3_1 =>
  (cond (decide (v5 < (b3_0.length : Int))) (cond (inB v5 (b3_0.length : Int)) (cond ((inB v5 (b3_0.length : Int)) || !(!(decide ((rd (E := E) (t := tI) b3_0 v5) < (0 : Int))))) (cond (cond (decide ((rd (E := E) (t := tI) b3_0 v5) < (0 : Int))) true (decide ((b2_0.length : Int) ≤ (rd (E := E) (t := tI) b3_0 v5)))) (some ⟨.bool, false⟩) (self (IntKind.i64.wrap (v5 + (1 : Int))) b2_0 b2_1 b3_0 b3_1)) none) none) (c2 (0 : Int) b2_0 b2_1 b3_0 b3_1))
def s_r17_Typed_2 (R : RunT) (self : V_r17_Typed_2) : V_r17_Typed_2 := fun v6 b2_0 b2_1 b3_0 b3_1 =>
  (cond (decide (v6 < (b3_1.length : Int))) (cond (inB v6 (b3_1.length : Int)) (cond ((inB v6 (b3_1.length : Int)) || !(!(decide ((rd (E := E) (t := tEdge) b3_1 v6).1 < (0 : Int))))) (cond (cond (decide ((rd (E := E) (t := tEdge) b3_1 v6).1 < (0 : Int))) true (decide ((b2_1.length : Int) ≤ (rd (E := E) (t := tEdge) b3_1 v6).1))) (some ⟨.bool, false⟩) (self (IntKind.i64.wrap (v6 + (1 : Int))) b2_0 b2_1 b3_0 b3_1)) none) none) (some ⟨.bool, true⟩))
def l_r17_Typed_0 (R : RunT) (c2 : V_r17_Typed_2) : Nat → V_r17_Typed_0
  | 0 => fun _ _ _ _ _ => none
  | j + 1 => s_r17_Typed_0 R c2 (l_r17_Typed_0 R c2 j)
def l_r17_Typed_2 (R : RunT) : Nat → V_r17_Typed_2
  | 0 => fun _ _ _ _ _ => none
  | j + 1 => s_r17_Typed_2 R (l_r17_Typed_2 R j)
def b_r17_Typed (R : RunT) (c0 : V_r17_Typed_0) (x0 : D tTypes) (x1 : D tGraph) : Res E :=
  (c0 (0 : Int) x0.1 x0.2 x1.1 x1.2)
theorem lp_r17_Typed_0_eq (k j0 : Nat) : lp_r17_Typed_0 k j0 = l_r17_Typed_0 (run M k) (lp_r17_Typed_2 k k) j0 := by
  induction j0 with
  | zero => kernel_rfl
  | succ j0 ih => exact Eq.trans (b := s_r17_Typed_0 (run M k) (lp_r17_Typed_2 k k) (lp_r17_Typed_0 k j0)) (by kernel_rfl) (by simp only [ih]; rfl)
theorem lp_r17_Typed_2_eq (k j2 : Nat) : lp_r17_Typed_2 k j2 = l_r17_Typed_2 (run M k) j2 := by
  induction j2 with
  | zero => kernel_rfl
  | succ j2 ih => exact Eq.trans (b := s_r17_Typed_2 (run M k) (lp_r17_Typed_2 k j2)) (by kernel_rfl) (by simp only [ih]; rfl)
theorem e_r17_Typed (k : Nat) (x0 : D tTypes) (x1 : D tGraph) : run M (k + 1) f_r17_Typed [.val tTypes x0, .val tGraph x1] = b_r17_Typed (run M k) (l_r17_Typed_0 (run M k) (l_r17_Typed_2 (run M k) k) k) x0 x1 :=
  Eq.trans (b := b_r17_Typed (run M k) (lp_r17_Typed_0 k k) x0 x1) (by kernel_rfl) (by simp only [lp_r17_Typed_0_eq, lp_r17_Typed_2_eq])
def b_r04_given (R : RunT) (x0 : D tTypes) (x1 x2 : D tI) : Res E :=
  (Option.bind (res (.pair .str tI) (R f_r04_Valid [.val tTypes (x0.1, x0.2)])) (fun r1 => (cond (!(decide (r1.2 = (0 : Int)))) (some ⟨tI, r1.2⟩) (Option.bind (res .bool (R f_r04_in [.val tI x1, .val tI (0 : Int), .val tI (IntKind.i64.wrap ((x0.1.length : Int) - (1 : Int)))])) (fun r2 => (Option.bind (cond (!(!r2)) (res .bool (R f_r04_in [.val tI x2, .val tI (0 : Int), .val tI (IntKind.i64.wrap ((x0.1.length : Int) - (1 : Int)))])) (some (dflt E .bool))) (fun r3 => (cond (cond (!r2) true (!r3)) (some ⟨tI, (6 : Int)⟩) (some ⟨tI, (0 : Int)⟩)))))))))
theorem e_r04_given (k : Nat) (x0 : D tTypes) (x1 x2 : D tI) : run M (k + 1) f_r04_given [.val tTypes x0, .val tI x1, .val tI x2] = b_r04_given (run M k) x0 x1 x2 := by kernel_rfl
abbrev V_r04_Attrs_0 := (D tI) → (List (D tAttr)) → (List (D tAttr)) → Res E
def lp_r04_Attrs_0 (k j : Nat) : V_r04_Attrs_0 := fun v9 t1001280 t500007 =>
  loopAt M k 121 0 [] [] j ⟨41, [(7, .c (.ref 500007 0 none)), (8, .c (.ref 1001280 0 none)), (9, .c (.leaf tI v9))], [(1001280, 0, .tok tAttr t1001280), (500007, 0, .tok tAttr t500007)]⟩
def s_r04_Attrs_0 (R : RunT) (self : V_r04_Attrs_0) : V_r04_Attrs_0 := fun v9 t1001280 t500007 =>
  (cond (decide (v9 < (t1001280.length : Int))) (cond (inB v9 (t1001280.length : Int)) (cond (roomy (([] : List (D .str)).length + ((((List.getD t1001280 (Int.toNat v9) (dflt E tAttr)).2).2).2).length) 16) (cond (roomy (t500007.length + ([((List.getD t1001280 (Int.toNat v9) (dflt E tAttr)).1, (((List.getD t1001280 (Int.toNat v9) (dflt E tAttr)).2).1, ((((List.getD t1001280 (Int.toNat v9) (dflt E tAttr)).2).2).1, (([] : List (D .str)) ++ ((((List.getD t1001280 (Int.toNat v9) (dflt E tAttr)).2).2).2)))))] : List (D tAttr)).length) 56) (self (IntKind.i64.wrap (v9 + (1 : Int))) t1001280 (t500007 ++ ([((List.getD t1001280 (Int.toNat v9) (dflt E tAttr)).1, (((List.getD t1001280 (Int.toNat v9) (dflt E tAttr)).2).1, ((((List.getD t1001280 (Int.toNat v9) (dflt E tAttr)).2).2).1, (([] : List (D .str)) ++ ((((List.getD t1001280 (Int.toNat v9) (dflt E tAttr)).2).2).2)))))] : List (D tAttr)))) none) none) none) (some ⟨(.pair (.slice tAttr) tI), (t500007, (0 : Int))⟩))
def l_r04_Attrs_0 (R : RunT) : Nat → V_r04_Attrs_0
  | 0 => fun _ _ _ => none
  | j + 1 => s_r04_Attrs_0 R (l_r04_Attrs_0 R j)
def b_r04_Attrs (R : RunT) (c0 : V_r04_Attrs_0) (x0 : D tTypes) (x1 : D tI) : Res E :=
  (Option.bind (res tI (R f_r04_given [.val tTypes (x0.1, x0.2), .val tI x1, .val tI x1])) (fun r1 => (cond (!(decide (r1 = (0 : Int)))) (some ⟨(.pair (.slice tAttr) tI), (([] : List (D tAttr)), r1)⟩) (Option.bind (res (.slice tAttr) (R f_r04_attrs [.val tTypes (x0.1, x0.2), .val tI x1])) (fun r2 => (c0 (0 : Int) r2 ([] : List (D tAttr))))))))
theorem lp_r04_Attrs_0_eq (k j0 : Nat) : lp_r04_Attrs_0 k j0 = l_r04_Attrs_0 (run M k) j0 := by
  induction j0 with
  | zero => kernel_rfl
  | succ j0 ih => exact Eq.trans (b := s_r04_Attrs_0 (run M k) (lp_r04_Attrs_0 k j0)) (by kernel_rfl) (by simp only [ih]; rfl)
theorem e_r04_Attrs (k : Nat) (x0 : D tTypes) (x1 : D tI) : run M (k + 1) f_r04_Attrs [.val tTypes x0, .val tI x1] = b_r04_Attrs (run M k) (l_r04_Attrs_0 (run M k) k) x0 x1 :=
  Eq.trans (b := b_r04_Attrs (run M k) (lp_r04_Attrs_0 k k) x0 x1) (by kernel_rfl) (by simp only [lp_r04_Attrs_0_eq])
def b_r21_attr (R : RunT) (x0 : D tTypes) (x1 : D tPattern) (x2 x3 : D tI) : Res E :=
  (cond (cond (decide (x2 < (0 : Int))) true (decide ((x1.1.1.length : Int) ≤ x2))) (some ⟨(.pair .str (.pair tI (.pair tI (.pair (.slice .str) .bool)))), ((⟨#[]⟩ : ByteArray), ((0 : Int), ((0 : Int), (([] : List (D .str)), false))))⟩) (cond (inB x2 (x1.1.1.length : Int)) (Option.bind (res (.pair (.slice tAttr) tI) (R f_r04_Attrs [.val tTypes (x0.1, x0.2), .val tI (rd (E := E) (t := tI) x1.1.1 x2)])) (fun r1 => (cond (cond (cond (!(decide (r1.2 = (0 : Int)))) true (decide (x3 < (0 : Int)))) true (decide ((r1.1.length : Int) ≤ x3))) (some ⟨(.pair .str (.pair tI (.pair tI (.pair (.slice .str) .bool)))), ((⟨#[]⟩ : ByteArray), ((0 : Int), ((0 : Int), (([] : List (D .str)), false))))⟩) (cond (inB x3 (r1.1.length : Int)) (some ⟨(.pair .str (.pair tI (.pair tI (.pair (.slice .str) .bool)))), ((List.getD r1.1 (Int.toNat x3) (dflt E tAttr)).1, (((List.getD r1.1 (Int.toNat x3) (dflt E tAttr)).2).1, ((((List.getD r1.1 (Int.toNat x3) (dflt E tAttr)).2).2).1, ((((List.getD r1.1 (Int.toNat x3) (dflt E tAttr)).2).2).2, true))))⟩) none)))) none))
theorem e_r21_attr (k : Nat) (x0 : D tTypes) (x1 : D tPattern) (x2 x3 : D tI) : run M (k + 1) f_r21_attr [.val tTypes x0, .val tPattern x1, .val tI x2, .val tI x3] = b_r21_attr (run M k) x0 x1 x2 x3 := by kernel_rfl
def b_r21_bounded (R : RunT) (x0 : D tI) : Res E :=
  (some ⟨.bool, (cond (decide ((-1000000 : Int) ≤ x0)) (decide (x0 ≤ (1000000 : Int))) false)⟩)
theorem e_r21_bounded (k : Nat) (x0 : D tI) : run M (k + 1) f_r21_bounded [.val tI x0] = b_r21_bounded (run M k) x0 := by kernel_rfl
def b_r03_within (R : RunT) (x0 : D tI) (x1 : D tTerm) : Res E :=
  (cond (cond (cond (cond (decide (x1.1 < (-1 : Int))) true (decide (x0 ≤ x1.1))) true (decide (x1.2 < (-1000000 : Int)))) true (decide ((1000000 : Int) < x1.2))) (some ⟨tI, (6 : Int)⟩) (some ⟨tI, (0 : Int)⟩))
theorem e_r03_within (k : Nat) (x0 : D tI) (x1 : D tTerm) : run M (k + 1) f_r03_within [.val tI x0, .val tTerm x1] = b_r03_within (run M k) x0 x1 := by kernel_rfl
def b_r03_One (R : RunT) (x0 : D tI) (x1 : D tTest) : Res E :=
  (cond (cond (!(decide (x1.1 = (1 : Int)))) (!(decide (x1.1 = (2 : Int)))) false) (some ⟨tI, (1 : Int)⟩) (Option.bind (res tI (R f_r03_within [.val tI x0, .val tTerm (x1.2.1.1, x1.2.1.2)])) (fun r1 => (cond (!(decide (r1 = (0 : Int)))) (some ⟨tI, r1⟩) (Option.bind (res tI (R f_r03_within [.val tI x0, .val tTerm (x1.2.2.1, x1.2.2.2)])) (fun r2 => (some ⟨tI, r2⟩)))))))
theorem e_r03_One (k : Nat) (x0 : D tI) (x1 : D tTest) : run M (k + 1) f_r03_One [.val tI x0, .val tTest x1] = b_r03_One (run M k) x0 x1 := by kernel_rfl
abbrev V_r03_Valid_0 := (D tI) → (D (.slice tTest)) → (D tI) → Res E
def lp_r03_Valid_0 (k j : Nat) : V_r03_Valid_0 := fun v0 v1 v5 =>
  loopAt M k 99 0 [] [] j ⟨31, [(0, .c (.leaf tI v0)), (1, .c (.leaf (.slice tTest) v1)), (5, .c (.leaf tI v5))], []⟩
def s_r03_Valid_0 (R : RunT) (self : V_r03_Valid_0) : V_r03_Valid_0 := fun v0 v1 v5 =>
  (cond (decide (v5 < (v1.length : Int))) (cond (inB v5 (v1.length : Int)) (Option.bind (res tI (R f_r03_One [.val tI v0, .val tTest ((rd (E := E) (t := tTest) v1 v5).1, (((((rd (E := E) (t := tTest) v1 v5).2).1).1, (((rd (E := E) (t := tTest) v1 v5).2).1).2), ((((rd (E := E) (t := tTest) v1 v5).2).2).1, (((rd (E := E) (t := tTest) v1 v5).2).2).2)))])) (fun r1 => (cond (!(decide (r1 = (0 : Int)))) (some ⟨tI, r1⟩) (self v0 v1 (IntKind.i64.wrap (v5 + (1 : Int))))))) none) (some ⟨tI, (0 : Int)⟩))
def l_r03_Valid_0 (R : RunT) : Nat → V_r03_Valid_0
  | 0 => fun _ _ _ => none
  | j + 1 => s_r03_Valid_0 R (l_r03_Valid_0 R j)
def b_r03_Valid (R : RunT) (c0 : V_r03_Valid_0) (x0 : D tI) (x1 : D (.slice tTest)) : Res E :=
  (cond (cond (decide (x0 < (0 : Int))) true (decide ((12 : Int) < x0))) (some ⟨tI, (6 : Int)⟩) (cond (decide ((40 : Int) < (x1.length : Int))) (some ⟨tI, (3 : Int)⟩) (c0 x0 x1 (0 : Int))))
theorem lp_r03_Valid_0_eq (k j0 : Nat) : lp_r03_Valid_0 k j0 = l_r03_Valid_0 (run M k) j0 := by
  induction j0 with
  | zero => kernel_rfl
  | succ j0 ih => exact Eq.trans (b := s_r03_Valid_0 (run M k) (lp_r03_Valid_0 k j0)) (by kernel_rfl) (by simp only [ih]; rfl)
theorem e_r03_Valid (k : Nat) (x0 : D tI) (x1 : D (.slice tTest)) : run M (k + 1) f_r03_Valid [.val tI x0, .val (.slice tTest) x1] = b_r03_Valid (run M k) (l_r03_Valid_0 (run M k) k) x0 x1 :=
  Eq.trans (b := b_r03_Valid (run M k) (lp_r03_Valid_0 k k) x0 x1) (by kernel_rfl) (by simp only [lp_r03_Valid_0_eq])
abbrev V_r21_occurs_0 := (D tI) → (D tI) → (D (.slice tI)) → (D (.slice tEdge)) → (D (.slice tSlot)) → (D tI) → (D (.slice tTest)) → Res E
def lp_r21_occurs_0 (k j : Nat) : V_r21_occurs_0 := fun v1 v5 b2_0 b2_1 b2_2 b2_3 b2_4 =>
  loopAt M k 100 0 [] [] j ⟨22, [(1, .c (.leaf tI v1)), (2, .c (.ptr 2 0 0)), (5, .c (.leaf tI v5))], [(2, 0, .box [.leaf (.slice tI) b2_0, .leaf (.slice tEdge) b2_1, .leaf (.slice tSlot) b2_2, .leaf tI b2_3, .leaf (.slice tTest) b2_4])]⟩
def s_r21_occurs_0 (R : RunT) (self : V_r21_occurs_0) : V_r21_occurs_0 := fun v1 v5 b2_0 b2_1 b2_2 b2_3 b2_4 =>
  (cond (decide (v5 < (b2_2.length : Int))) (cond (inB v5 (b2_2.length : Int)) (cond (decide ((((rd (E := E) (t := tSlot) b2_2 v5).2).2).1 = v1)) (some ⟨.bool, true⟩) (self v1 (IntKind.i64.wrap (v5 + (1 : Int))) b2_0 b2_1 b2_2 b2_3 b2_4)) none) (some ⟨.bool, false⟩))
def l_r21_occurs_0 (R : RunT) : Nat → V_r21_occurs_0
  | 0 => fun _ _ _ _ _ _ _ => none
  | j + 1 => s_r21_occurs_0 R (l_r21_occurs_0 R j)
def b_r21_occurs (R : RunT) (c0 : V_r21_occurs_0) (x0 : D tPattern) (x1 : D tI) : Res E :=
  (c0 x1 (0 : Int) x0.1.1 x0.1.2 x0.2.1 x0.2.2.1 x0.2.2.2)
theorem lp_r21_occurs_0_eq (k j0 : Nat) : lp_r21_occurs_0 k j0 = l_r21_occurs_0 (run M k) j0 := by
  induction j0 with
  | zero => kernel_rfl
  | succ j0 ih => exact Eq.trans (b := s_r21_occurs_0 (run M k) (lp_r21_occurs_0 k j0)) (by kernel_rfl) (by simp only [ih]; rfl)
theorem e_r21_occurs (k : Nat) (x0 : D tPattern) (x1 : D tI) : run M (k + 1) f_r21_occurs [.val tPattern x0, .val tI x1] = b_r21_occurs (run M k) (l_r21_occurs_0 (run M k) k) x0 x1 :=
  Eq.trans (b := b_r21_occurs (run M k) (lp_r21_occurs_0 k k) x0 x1) (by kernel_rfl) (by simp only [lp_r21_occurs_0_eq])
end
end Go.Proofs.AM

namespace Go.Proofs.AM
open Go
set_option maxRecDepth 100000
noncomputable section
abbrev V_r21_Valid_0 := (D tI) → (D (.slice tNodeType)) → (D (.slice tEdgeType)) → (D (.slice tI)) → (D (.slice tEdge)) → (D (.slice tSlot)) → (D tI) → (D (.slice tTest)) → Res E
def lp_r21_Valid_0 (k j : Nat) : V_r21_Valid_0 := fun v8 b2_0 b2_1 b3_0 b3_1 b3_2 b3_3 b3_4 =>
  loopAt M k 42 0 [] [] j ⟨114, [(2, .c (.ptr 2 0 0)), (3, .c (.ptr 3 0 0)), (8, .c (.leaf tI v8))], [(2, 0, .box [.leaf (.slice tNodeType) b2_0, .leaf (.slice tEdgeType) b2_1]), (3, 0, .box [.leaf (.slice tI) b3_0, .leaf (.slice tEdge) b3_1, .leaf (.slice tSlot) b3_2, .leaf tI b3_3, .leaf (.slice tTest) b3_4])]⟩
abbrev V_r21_Valid_2 := (D tI) → (D (.slice tI)) → (D (.slice tEdge)) → (D (.slice tSlot)) → (D tI) → (D (.slice tTest)) → Res E
def lp_r21_Valid_2 (k j : Nat) : V_r21_Valid_2 := fun v13 b3_0 b3_1 b3_2 b3_3 b3_4 =>
  loopAt M k 42 2 [] [] j ⟨114, [(3, .c (.ptr 3 0 0)), (13, .c (.leaf tI v13))], [(3, 0, .box [.leaf (.slice tI) b3_0, .leaf (.slice tEdge) b3_1, .leaf (.slice tSlot) b3_2, .leaf tI b3_3, .leaf (.slice tTest) b3_4])]⟩
def s_r21_Valid_0 (R : RunT) (c2 : V_r21_Valid_2) (self : V_r21_Valid_0) : V_r21_Valid_0 := fun v8 b2_0 b2_1 b3_0 b3_1 b3_2 b3_3 b3_4 =>
  (cond (decide (v8 < (b3_2.length : Int))) (cond (inB v8 (b3_2.length : Int)) (Option.bind (res (.pair .str (.pair tI (.pair tI (.pair (.slice .str) .bool)))) (R f_r21_attr [.val tTypes (b2_0, b2_1), .val tPattern ((b3_0, b3_1), (b3_2, (b3_3, b3_4))), .val tI ((rd (E := E) (t := tSlot) b3_2 v8).1), .val tI (((rd (E := E) (t := tSlot) b3_2 v8).2).1)])) (fun r1 => (Option.bind (cond (!(cond (cond (!r1.2.2.2.2) true (decide ((((rd (E := E) (t := tSlot) b3_2 v8).2).2).1 < (-1 : Int)))) true (decide (b3_3 ≤ (((rd (E := E) (t := tSlot) b3_2 v8).2).2).1)))) (res .bool (R f_r21_bounded [.val tI ((((rd (E := E) (t := tSlot) b3_2 v8).2).2).2)])) (some (dflt E .bool))) (fun r2 => (cond (cond (cond (cond (!r1.2.2.2.2) true (decide ((((rd (E := E) (t := tSlot) b3_2 v8).2).2).1 < (-1 : Int)))) true (decide (b3_3 ≤ (((rd (E := E) (t := tSlot) b3_2 v8).2).2).1))) true (!r2)) (some ⟨tI, (6 : Int)⟩) (self (IntKind.i64.wrap (v8 + (1 : Int))) b2_0 b2_1 b3_0 b3_1 b3_2 b3_3 b3_4)))))) none) (Option.bind (res tI (R f_r03_Valid [.val tI b3_3, .val (.slice tTest) b3_4])) (fun r3 => (cond (!(decide (r3 = (0 : Int)))) (some ⟨tI, r3⟩) (c2 (0 : Int) b3_0 b3_1 b3_2 b3_3 b3_4)))))
def s_r21_Valid_2 (R : RunT) (self : V_r21_Valid_2) : V_r21_Valid_2 := fun v13 b3_0 b3_1 b3_2 b3_3 b3_4 =>
  (cond (decide (v13 < b3_3)) (Option.bind (res .bool (R f_r21_occurs [.val tPattern ((b3_0, b3_1), (b3_2, (b3_3, b3_4))), .val tI v13])) (fun r1 => (cond (!r1) (some ⟨tI, (9 : Int)⟩) (self (IntKind.i64.wrap (v13 + (1 : Int))) b3_0 b3_1 b3_2 b3_3 b3_4)))) (some ⟨tI, (0 : Int)⟩))
def l_r21_Valid_0 (R : RunT) (c2 : V_r21_Valid_2) : Nat → V_r21_Valid_0
  | 0 => fun _ _ _ _ _ _ _ _ => none
  | j + 1 => s_r21_Valid_0 R c2 (l_r21_Valid_0 R c2 j)
def l_r21_Valid_2 (R : RunT) : Nat → V_r21_Valid_2
  | 0 => fun _ _ _ _ _ _ => none
  | j + 1 => s_r21_Valid_2 R (l_r21_Valid_2 R j)
def b_r21_Valid (R : RunT) (c0 : V_r21_Valid_0) (x0 : D tTypes) (x1 : D tPattern) : Res E :=
  (Option.bind (res (.pair .str tI) (R f_r04_Valid [.val tTypes (x0.1, x0.2)])) (fun r1 => (cond (!(decide (r1.2 = (0 : Int)))) (some ⟨tI, r1.2⟩) (Option.bind (res tI (R f_r05_Valid [.val tGraph (x1.1.1, x1.1.2)])) (fun r2 => (cond (!(decide (r2 = (0 : Int)))) (some ⟨tI, r2⟩) (Option.bind (res .bool (R f_r17_Typed [.val tTypes (x0.1, x0.2), .val tGraph (x1.1.1, x1.1.2)])) (fun r3 => (cond (!r3) (some ⟨tI, (13 : Int)⟩) (cond (cond (decide (x1.2.2.1 < (0 : Int))) true (decide ((12 : Int) < x1.2.2.1))) (some ⟨tI, (6 : Int)⟩) (cond (cond (decide ((10 : Int) < (x1.2.1.length : Int))) true (decide ((10 : Int) < (x1.2.2.2.length : Int)))) (some ⟨tI, (3 : Int)⟩) (c0 (0 : Int) x0.1 x0.2 x1.1.1 x1.1.2 x1.2.1 x1.2.2.1 x1.2.2.2))))))))))))
theorem lp_r21_Valid_0_eq (k j0 : Nat) : lp_r21_Valid_0 k j0 = l_r21_Valid_0 (run M k) (lp_r21_Valid_2 k k) j0 := by
  induction j0 with
  | zero => kernel_rfl
  | succ j0 ih => exact Eq.trans (b := s_r21_Valid_0 (run M k) (lp_r21_Valid_2 k k) (lp_r21_Valid_0 k j0)) (by kernel_rfl) (by simp only [ih]; rfl)
theorem lp_r21_Valid_2_eq (k j2 : Nat) : lp_r21_Valid_2 k j2 = l_r21_Valid_2 (run M k) j2 := by
  induction j2 with
  | zero => kernel_rfl
  | succ j2 ih => exact Eq.trans (b := s_r21_Valid_2 (run M k) (lp_r21_Valid_2 k j2)) (by kernel_rfl) (by simp only [ih]; rfl)
theorem e_r21_Valid (k : Nat) (x0 : D tTypes) (x1 : D tPattern) : run M (k + 1) f_r21_Valid [.val tTypes x0, .val tPattern x1] = b_r21_Valid (run M k) (l_r21_Valid_0 (run M k) (l_r21_Valid_2 (run M k) k) k) x0 x1 :=
  Eq.trans (b := b_r21_Valid (run M k) (lp_r21_Valid_0 k k) x0 x1) (by kernel_rfl) (by simp only [lp_r21_Valid_0_eq, lp_r21_Valid_2_eq])
def b_r22_unused (R : RunT) (x0 : D (.nom 0)) : Res E :=
  (some ⟨.bool, (cond (cond (decide ((IntKind.i64.wrap ((IntKind.i64.wrap ((IntKind.i64.wrap (((((((E.op 0 x0).2).2).1).1).length : Int) + ((((((E.op 0 x0).2).2).1).2).length : Int))) + (((((((E.op 0 x0).2).2).2).1).1).length : Int))) + (((((((E.op 0 x0).2).2).2).1).2).length : Int))) = (0 : Int))) (decide ((IntKind.i64.wrap ((((((((E.op 0 x0).2).2).2).2).1).length : Int) + ((((((((E.op 0 x0).2).2).2).2).2).2).length : Int))) = (0 : Int))) false) (decide (((((((E.op 0 x0).2).2).2).2).2).1 = (0 : Int))) false)⟩)
theorem e_r22_unused (k : Nat) (x0 : D (.nom 0)) : run M (k + 1) f_r22_unused [.val (.nom 0) x0] = b_r22_unused (run M k) x0 := by kernel_rfl
def b_r22_right (R : RunT) (x0 : D (.nom 0)) : Res E :=
  (cond (decide ((E.op 0 x0).1 = (1 : Int))) (Option.bind (cond (decide (((((E.op 0 x0).2).1).length : Int) = (0 : Int))) (res .bool (R f_r22_unused [.val (.nom 0) (E.cl 0 ((E.op 0 x0).1, (((E.op 0 x0).2).1, ((((((E.op 0 x0).2).2).1).1, ((((E.op 0 x0).2).2).1).2), (((((((E.op 0 x0).2).2).2).1).1, (((((E.op 0 x0).2).2).2).1).2), ((((((E.op 0 x0).2).2).2).2).1, (((((((E.op 0 x0).2).2).2).2).2).1, ((((((E.op 0 x0).2).2).2).2).2).2)))))))])) (some (dflt E .bool))) (fun r1 => (some ⟨.bool, (cond (decide (((((E.op 0 x0).2).1).length : Int) = (0 : Int))) r1 false)⟩))) (cond (decide ((E.op 0 x0).1 = (2 : Int))) (Option.bind (cond (decide (((((E.op 0 x0).2).1).length : Int) = (1 : Int))) (res .bool (R f_r22_unused [.val (.nom 0) (E.cl 0 ((E.op 0 x0).1, (((E.op 0 x0).2).1, ((((((E.op 0 x0).2).2).1).1, ((((E.op 0 x0).2).2).1).2), (((((((E.op 0 x0).2).2).2).1).1, (((((E.op 0 x0).2).2).2).1).2), ((((((E.op 0 x0).2).2).2).2).1, (((((((E.op 0 x0).2).2).2).2).2).1, ((((((E.op 0 x0).2).2).2).2).2).2)))))))])) (some (dflt E .bool))) (fun r2 => (some ⟨.bool, (cond (decide (((((E.op 0 x0).2).1).length : Int) = (1 : Int))) r2 false)⟩))) (cond (decide ((E.op 0 x0).1 = (3 : Int))) (cond (decide ((E.op 0 x0).1 = (3 : Int))) (Option.bind (cond (decide ((0 : Int) < ((((E.op 0 x0).2).1).length : Int))) (res .bool (R f_r22_unused [.val (.nom 0) (E.cl 0 ((E.op 0 x0).1, (((E.op 0 x0).2).1, ((((((E.op 0 x0).2).2).1).1, ((((E.op 0 x0).2).2).1).2), (((((((E.op 0 x0).2).2).2).1).1, (((((E.op 0 x0).2).2).2).1).2), ((((((E.op 0 x0).2).2).2).2).1, (((((((E.op 0 x0).2).2).2).2).2).1, ((((((E.op 0 x0).2).2).2).2).2).2)))))))])) (some (dflt E .bool))) (fun r3 => (some ⟨.bool, (cond (decide ((0 : Int) < ((((E.op 0 x0).2).1).length : Int))) r3 false)⟩))) (cond (decide ((E.op 0 x0).1 = (5 : Int))) (some ⟨.bool, (decide (((((E.op 0 x0).2).1).length : Int) = (1 : Int)))⟩) (some ⟨.bool, false⟩))) (cond (decide ((E.op 0 x0).1 = (4 : Int))) (Option.bind (cond (decide ((0 : Int) < ((((E.op 0 x0).2).1).length : Int))) (res .bool (R f_r22_unused [.val (.nom 0) (E.cl 0 ((E.op 0 x0).1, (((E.op 0 x0).2).1, ((((((E.op 0 x0).2).2).1).1, ((((E.op 0 x0).2).2).1).2), (((((((E.op 0 x0).2).2).2).1).1, (((((E.op 0 x0).2).2).2).1).2), ((((((E.op 0 x0).2).2).2).2).1, (((((((E.op 0 x0).2).2).2).2).2).1, ((((((E.op 0 x0).2).2).2).2).2).2)))))))])) (some (dflt E .bool))) (fun r4 => (some ⟨.bool, (cond (decide ((0 : Int) < ((((E.op 0 x0).2).1).length : Int))) r4 false)⟩))) (cond (decide ((E.op 0 x0).1 = (5 : Int))) (some ⟨.bool, (decide (((((E.op 0 x0).2).1).length : Int) = (1 : Int)))⟩) (some ⟨.bool, false⟩))))))
theorem e_r22_right (k : Nat) (x0 : D (.nom 0)) : run M (k + 1) f_r22_right [.val (.nom 0) x0] = b_r22_right (run M k) x0 := by kernel_rfl
abbrev V_r22_allRight_0 := (D tI) → (D tI) → (D (.slice (.nom 0))) → (D (.slice tI)) → (D (.slice tI)) → (D (.slice tI)) → (D (.slice tEdge)) → (D (.slice tSlot)) → (D tI) → (D (.slice tTest)) → Res E
def lp_r22_allRight_0 (k j : Nat) : V_r22_allRight_0 := fun v3 b1_0 b1_1 b1_2 b1_3 b1_4 b1_5 b1_6 b1_7 b1_8 =>
  loopAt M k 101 0 [] [] j ⟨21, [(1, .c (.ptr 1 0 0)), (3, .c (.leaf tI v3))], [(1, 0, .box [.leaf tI b1_0, .leaf (.slice (.nom 0)) b1_1, .leaf (.slice tI) b1_2, .leaf (.slice tI) b1_3, .leaf (.slice tI) b1_4, .leaf (.slice tEdge) b1_5, .leaf (.slice tSlot) b1_6, .leaf tI b1_7, .leaf (.slice tTest) b1_8])]⟩
def s_r22_allRight_0 (R : RunT) (self : V_r22_allRight_0) : V_r22_allRight_0 := fun v3 b1_0 b1_1 b1_2 b1_3 b1_4 b1_5 b1_6 b1_7 b1_8 =>
  (cond (decide (v3 < (b1_1.length : Int))) (cond (inB v3 (b1_1.length : Int)) (Option.bind (res .bool (R f_r22_allRight [.val (.nom 0) (E.cl 0 ((E.op 0 (rd (E := E) (t := (.nom 0)) b1_1 v3)).1, (((E.op 0 (rd (E := E) (t := (.nom 0)) b1_1 v3)).2).1, ((((((E.op 0 (rd (E := E) (t := (.nom 0)) b1_1 v3)).2).2).1).1, ((((E.op 0 (rd (E := E) (t := (.nom 0)) b1_1 v3)).2).2).1).2), (((((((E.op 0 (rd (E := E) (t := (.nom 0)) b1_1 v3)).2).2).2).1).1, (((((E.op 0 (rd (E := E) (t := (.nom 0)) b1_1 v3)).2).2).2).1).2), ((((((E.op 0 (rd (E := E) (t := (.nom 0)) b1_1 v3)).2).2).2).2).1, (((((((E.op 0 (rd (E := E) (t := (.nom 0)) b1_1 v3)).2).2).2).2).2).1, ((((((E.op 0 (rd (E := E) (t := (.nom 0)) b1_1 v3)).2).2).2).2).2).2)))))))])) (fun r1 => (cond (!r1) (some ⟨.bool, false⟩) (self (IntKind.i64.wrap (v3 + (1 : Int))) b1_0 b1_1 b1_2 b1_3 b1_4 b1_5 b1_6 b1_7 b1_8)))) none) (some ⟨.bool, true⟩))
def l_r22_allRight_0 (R : RunT) : Nat → V_r22_allRight_0
  | 0 => fun _ _ _ _ _ _ _ _ _ _ => none
  | j + 1 => s_r22_allRight_0 R (l_r22_allRight_0 R j)
def b_r22_allRight (R : RunT) (c0 : V_r22_allRight_0) (x0 : D (.nom 0)) : Res E :=
  (Option.bind (res .bool (R f_r22_right [.val (.nom 0) (E.cl 0 ((E.op 0 x0).1, (((E.op 0 x0).2).1, ((((((E.op 0 x0).2).2).1).1, ((((E.op 0 x0).2).2).1).2), (((((((E.op 0 x0).2).2).2).1).1, (((((E.op 0 x0).2).2).2).1).2), ((((((E.op 0 x0).2).2).2).2).1, (((((((E.op 0 x0).2).2).2).2).2).1, ((((((E.op 0 x0).2).2).2).2).2).2)))))))])) (fun r1 => (cond (!r1) (some ⟨.bool, false⟩) (c0 (0 : Int) ((E.op 0 x0).1) (((E.op 0 x0).2).1) (((((E.op 0 x0).2).2).1).1) (((((E.op 0 x0).2).2).1).2) ((((((E.op 0 x0).2).2).2).1).1) ((((((E.op 0 x0).2).2).2).1).2) ((((((E.op 0 x0).2).2).2).2).1) (((((((E.op 0 x0).2).2).2).2).2).1) (((((((E.op 0 x0).2).2).2).2).2).2)))))
theorem lp_r22_allRight_0_eq (k j0 : Nat) : lp_r22_allRight_0 k j0 = l_r22_allRight_0 (run M k) j0 := by
  induction j0 with
  | zero => kernel_rfl
  | succ j0 ih => exact Eq.trans (b := s_r22_allRight_0 (run M k) (lp_r22_allRight_0 k j0)) (by kernel_rfl) (by simp only [ih]; rfl)
theorem e_r22_allRight (k : Nat) (x0 : D (.nom 0)) : run M (k + 1) f_r22_allRight [.val (.nom 0) x0] = b_r22_allRight (run M k) (l_r22_allRight_0 (run M k) k) x0 :=
  Eq.trans (b := b_r22_allRight (run M k) (lp_r22_allRight_0 k k) x0) (by kernel_rfl) (by simp only [lp_r22_allRight_0_eq])
abbrev V_r22_Measure_0 := (D tI) → (D tI) → (D tI) → (D tI) → (D (.slice (.nom 0))) → (D (.slice tI)) → (D (.slice tI)) → (D (.slice tI)) → (D (.slice tEdge)) → (D (.slice tSlot)) → (D tI) → (D (.slice tTest)) → Res E
def lp_r22_Measure_0 (k j : Nat) : V_r22_Measure_0 := fun v4 v5 v6 b1_0 b1_1 b1_2 b1_3 b1_4 b1_5 b1_6 b1_7 b1_8 =>
  loopAt M k 102 0 [] [] j ⟨38, [(1, .c (.ptr 1 0 0)), (4, .c (.leaf tI v4)), (5, .c (.leaf tI v5)), (6, .c (.leaf tI v6))], [(1, 0, .box [.leaf tI b1_0, .leaf (.slice (.nom 0)) b1_1, .leaf (.slice tI) b1_2, .leaf (.slice tI) b1_3, .leaf (.slice tI) b1_4, .leaf (.slice tEdge) b1_5, .leaf (.slice tSlot) b1_6, .leaf tI b1_7, .leaf (.slice tTest) b1_8])]⟩
def s_r22_Measure_0 (R : RunT) (self : V_r22_Measure_0) : V_r22_Measure_0 := fun v4 v5 v6 b1_0 b1_1 b1_2 b1_3 b1_4 b1_5 b1_6 b1_7 b1_8 =>
  (cond (decide (v6 < (b1_1.length : Int))) (cond (inB v6 (b1_1.length : Int)) (Option.bind (res tTerm (R f_r22_Measure [.val (.nom 0) (E.cl 0 ((E.op 0 (rd (E := E) (t := (.nom 0)) b1_1 v6)).1, (((E.op 0 (rd (E := E) (t := (.nom 0)) b1_1 v6)).2).1, ((((((E.op 0 (rd (E := E) (t := (.nom 0)) b1_1 v6)).2).2).1).1, ((((E.op 0 (rd (E := E) (t := (.nom 0)) b1_1 v6)).2).2).1).2), (((((((E.op 0 (rd (E := E) (t := (.nom 0)) b1_1 v6)).2).2).2).1).1, (((((E.op 0 (rd (E := E) (t := (.nom 0)) b1_1 v6)).2).2).2).1).2), ((((((E.op 0 (rd (E := E) (t := (.nom 0)) b1_1 v6)).2).2).2).2).1, (((((((E.op 0 (rd (E := E) (t := (.nom 0)) b1_1 v6)).2).2).2).2).2).1, ((((((E.op 0 (rd (E := E) (t := (.nom 0)) b1_1 v6)).2).2).2).2).2).2)))))))])) (fun r1 => (self (IntKind.i64.wrap (v4 + r1.1)) (cond (decide (v5 < r1.2)) r1.2 v5) (IntKind.i64.wrap (v6 + (1 : Int))) b1_0 b1_1 b1_2 b1_3 b1_4 b1_5 b1_6 b1_7 b1_8))) none) (cond (decide (b1_0 = (5 : Int))) (some ⟨tTerm, (v4, (IntKind.i64.wrap (v5 + (1 : Int))))⟩) (some ⟨tTerm, (v4, v5)⟩)))
def l_r22_Measure_0 (R : RunT) : Nat → V_r22_Measure_0
  | 0 => fun _ _ _ _ _ _ _ _ _ _ _ _ => none
  | j + 1 => s_r22_Measure_0 R (l_r22_Measure_0 R j)
def b_r22_Measure (R : RunT) (c0 : V_r22_Measure_0) (x0 : D (.nom 0)) : Res E :=
  (c0 (1 : Int) (0 : Int) (0 : Int) ((E.op 0 x0).1) (((E.op 0 x0).2).1) (((((E.op 0 x0).2).2).1).1) (((((E.op 0 x0).2).2).1).2) ((((((E.op 0 x0).2).2).2).1).1) ((((((E.op 0 x0).2).2).2).1).2) ((((((E.op 0 x0).2).2).2).2).1) (((((((E.op 0 x0).2).2).2).2).2).1) (((((((E.op 0 x0).2).2).2).2).2).2))
theorem lp_r22_Measure_0_eq (k j0 : Nat) : lp_r22_Measure_0 k j0 = l_r22_Measure_0 (run M k) j0 := by
  induction j0 with
  | zero => kernel_rfl
  | succ j0 ih => exact Eq.trans (b := s_r22_Measure_0 (run M k) (lp_r22_Measure_0 k j0)) (by kernel_rfl) (by simp only [ih]; rfl)
theorem e_r22_Measure (k : Nat) (x0 : D (.nom 0)) : run M (k + 1) f_r22_Measure [.val (.nom 0) x0] = b_r22_Measure (run M k) (l_r22_Measure_0 (run M k) k) x0 :=
  Eq.trans (b := b_r22_Measure (run M k) (lp_r22_Measure_0 k k) x0) (by kernel_rfl) (by simp only [lp_r22_Measure_0_eq])
def b_r22_Shape (R : RunT) (x0 : D (.nom 0)) : Res E :=
  (Option.bind (res .bool (R f_r22_allRight [.val (.nom 0) (E.cl 0 ((E.op 0 x0).1, (((E.op 0 x0).2).1, ((((((E.op 0 x0).2).2).1).1, ((((E.op 0 x0).2).2).1).2), (((((((E.op 0 x0).2).2).2).1).1, (((((E.op 0 x0).2).2).2).1).2), ((((((E.op 0 x0).2).2).2).2).1, (((((((E.op 0 x0).2).2).2).2).2).1, ((((((E.op 0 x0).2).2).2).2).2).2)))))))])) (fun r1 => (cond (!r1) (some ⟨tI, (1 : Int)⟩) (Option.bind (res tTerm (R f_r22_Measure [.val (.nom 0) (E.cl 0 ((E.op 0 x0).1, (((E.op 0 x0).2).1, ((((((E.op 0 x0).2).2).1).1, ((((E.op 0 x0).2).2).1).2), (((((((E.op 0 x0).2).2).2).1).1, (((((E.op 0 x0).2).2).2).1).2), ((((((E.op 0 x0).2).2).2).2).1, (((((((E.op 0 x0).2).2).2).2).2).1, ((((((E.op 0 x0).2).2).2).2).2).2)))))))])) (fun r2 => (cond (cond (decide ((12 : Int) < r2.1)) true (decide ((3 : Int) < r2.2))) (some ⟨tI, (3 : Int)⟩) (some ⟨tI, (0 : Int)⟩)))))))
theorem e_r22_Shape (k : Nat) (x0 : D (.nom 0)) : run M (k + 1) f_r22_Shape [.val (.nom 0) x0] = b_r22_Shape (run M k) x0 := by kernel_rfl
abbrev V_r22_occurs_0 := (D tI) → (D tI) → (D (.slice tI)) → (D (.slice tEdge)) → (D (.slice tSlot)) → (D tI) → (D (.slice tTest)) → Res E
def lp_r22_occurs_0 (k j : Nat) : V_r22_occurs_0 := fun v1 v5 b2_0 b2_1 b2_2 b2_3 b2_4 =>
  loopAt M k 168 0 [] [] j ⟨22, [(1, .c (.leaf tI v1)), (2, .c (.ptr 2 0 0)), (5, .c (.leaf tI v5))], [(2, 0, .box [.leaf (.slice tI) b2_0, .leaf (.slice tEdge) b2_1, .leaf (.slice tSlot) b2_2, .leaf tI b2_3, .leaf (.slice tTest) b2_4])]⟩
def s_r22_occurs_0 (R : RunT) (self : V_r22_occurs_0) : V_r22_occurs_0 := fun v1 v5 b2_0 b2_1 b2_2 b2_3 b2_4 =>
  (cond (decide (v5 < (b2_2.length : Int))) (cond (inB v5 (b2_2.length : Int)) (cond (decide ((((rd (E := E) (t := tSlot) b2_2 v5).2).2).1 = v1)) (some ⟨.bool, true⟩) (self v1 (IntKind.i64.wrap (v5 + (1 : Int))) b2_0 b2_1 b2_2 b2_3 b2_4)) none) (some ⟨.bool, false⟩))
def l_r22_occurs_0 (R : RunT) : Nat → V_r22_occurs_0
  | 0 => fun _ _ _ _ _ _ _ => none
  | j + 1 => s_r22_occurs_0 R (l_r22_occurs_0 R j)
def b_r22_occurs (R : RunT) (c0 : V_r22_occurs_0) (x0 : D tPattern) (x1 : D tI) : Res E :=
  (c0 x1 (0 : Int) x0.1.1 x0.1.2 x0.2.1 x0.2.2.1 x0.2.2.2)
theorem lp_r22_occurs_0_eq (k j0 : Nat) : lp_r22_occurs_0 k j0 = l_r22_occurs_0 (run M k) j0 := by
  induction j0 with
  | zero => kernel_rfl
  | succ j0 ih => exact Eq.trans (b := s_r22_occurs_0 (run M k) (lp_r22_occurs_0 k j0)) (by kernel_rfl) (by simp only [ih]; rfl)
theorem e_r22_occurs (k : Nat) (x0 : D tPattern) (x1 : D tI) : run M (k + 1) f_r22_occurs [.val tPattern x0, .val tI x1] = b_r22_occurs (run M k) (l_r22_occurs_0 (run M k) k) x0 x1 :=
  Eq.trans (b := b_r22_occurs (run M k) (lp_r22_occurs_0 k k) x0 x1) (by kernel_rfl) (by simp only [lp_r22_occurs_0_eq])
abbrev V_r22_inner_0 := (D tI) → (D tI) → (D (.slice tI)) → (D (.slice tEdge)) → (D (.slice tSlot)) → (D tI) → (D (.slice tTest)) → Res E
def lp_r22_inner_0 (k j : Nat) : V_r22_inner_0 := fun v7 v8 b5_0 b5_1 b5_2 b5_3 b5_4 =>
  loopAt M k 103 0 [] [] j ⟨31, [(5, .c (.ptr 5 0 0)), (7, .c (.leaf tI v7)), (8, .c (.leaf tI v8))], [(5, 0, .box [.leaf (.slice tI) b5_0, .leaf (.slice tEdge) b5_1, .leaf (.slice tSlot) b5_2, .leaf tI b5_3, .leaf (.slice tTest) b5_4])]⟩
def s_r22_inner_0 (R : RunT) (self : V_r22_inner_0) : V_r22_inner_0 := fun v7 v8 b5_0 b5_1 b5_2 b5_3 b5_4 =>
  (cond (decide (v8 < b5_3)) (Option.bind (res .bool (R f_r22_occurs [.val tPattern ((b5_0, b5_1), (b5_2, (b5_3, b5_4))), .val tI v8])) (fun r1 => (cond (!r1) (some ⟨tI, v7⟩) (self v7 (IntKind.i64.wrap (v8 + (1 : Int))) b5_0 b5_1 b5_2 b5_3 b5_4)))) (some ⟨tI, (0 : Int)⟩))
def l_r22_inner_0 (R : RunT) : Nat → V_r22_inner_0
  | 0 => fun _ _ _ _ _ _ _ => none
  | j + 1 => s_r22_inner_0 R (l_r22_inner_0 R j)
def b_r22_inner (R : RunT) (c0 : V_r22_inner_0) (x0 : D tTypes) (x1 : D tI) (x2 : D tPattern) : Res E :=
  (cond (decide (x2.2.2.1 < x1)) (some ⟨tI, (20 : Int)⟩) (Option.bind (res tI (R f_r21_Valid [.val tTypes (x0.1, x0.2), .val tPattern ((x2.1.1, x2.1.2), (x2.2.1, (x2.2.2.1, x2.2.2.2)))])) (fun r1 => (cond (!(decide (r1 = (9 : Int)))) (some ⟨tI, r1⟩) (c0 r1 x1 x2.1.1 x2.1.2 x2.2.1 x2.2.2.1 x2.2.2.2)))))
theorem lp_r22_inner_0_eq (k j0 : Nat) : lp_r22_inner_0 k j0 = l_r22_inner_0 (run M k) j0 := by
  induction j0 with
  | zero => kernel_rfl
  | succ j0 ih => exact Eq.trans (b := s_r22_inner_0 (run M k) (lp_r22_inner_0 k j0)) (by kernel_rfl) (by simp only [ih]; rfl)
theorem e_r22_inner (k : Nat) (x0 : D tTypes) (x1 : D tI) (x2 : D tPattern) : run M (k + 1) f_r22_inner [.val tTypes x0, .val tI x1, .val tPattern x2] = b_r22_inner (run M k) (l_r22_inner_0 (run M k) k) x0 x1 x2 :=
  Eq.trans (b := b_r22_inner (run M k) (lp_r22_inner_0 k k) x0 x1 x2) (by kernel_rfl) (by simp only [lp_r22_inner_0_eq])
abbrev V_r06_Valid_0 := (D tI) → (D (.slice tI)) → (D (.slice tEdge)) → (D (.slice tI)) → (D (.slice tEdge)) → (D (.slice tI)) → (D (.slice tI)) → Res E
def lp_r06_Valid_0 (k j : Nat) : V_r06_Valid_0 := fun v9 b3_0 b3_1 b4_0 b4_1 b5_0 b5_1 =>
  loopAt M k 104 0 [] [] j ⟨141, [(3, .c (.ptr 3 0 0)), (4, .c (.ptr 4 0 0)), (5, .c (.ptr 5 0 0)), (9, .c (.leaf tI v9))], [(3, 0, .box [.leaf (.slice tI) b3_0, .leaf (.slice tEdge) b3_1]), (4, 0, .box [.leaf (.slice tI) b4_0, .leaf (.slice tEdge) b4_1]), (5, 0, .box [.leaf (.slice tI) b5_0, .leaf (.slice tI) b5_1])]⟩
abbrev V_r06_Valid_2 := (D tI) → (D (.slice tI)) → (D (.slice tEdge)) → (D (.slice tI)) → (D (.slice tEdge)) → (D (.slice tI)) → (D (.slice tI)) → Res E
def lp_r06_Valid_2 (k j : Nat) : V_r06_Valid_2 := fun v10 b3_0 b3_1 b4_0 b4_1 b5_0 b5_1 =>
  loopAt M k 104 2 [] [] j ⟨141, [(3, .c (.ptr 3 0 0)), (4, .c (.ptr 4 0 0)), (5, .c (.ptr 5 0 0)), (10, .c (.leaf tI v10))], [(3, 0, .box [.leaf (.slice tI) b3_0, .leaf (.slice tEdge) b3_1]), (4, 0, .box [.leaf (.slice tI) b4_0, .leaf (.slice tEdge) b4_1]), (5, 0, .box [.leaf (.slice tI) b5_0, .leaf (.slice tI) b5_1])]⟩
def s_r06_Valid_0 (R : RunT) (c2 : V_r06_Valid_2) (self : V_r06_Valid_0) : V_r06_Valid_0 := fun v9 b3_0 b3_1 b4_0 b4_1 b5_0 b5_1 =>
  (cond (decide (v9 < (b3_0.length : Int))) (cond (inB v9 (b5_0.length : Int)) (cond ((inB v9 (b5_0.length : Int)) || !(!(decide ((rd (E := E) (t := tI) b5_0 v9) < (0 : Int))))) (cond (cond (decide ((rd (E := E) (t := tI) b5_0 v9) < (0 : Int))) true (decide ((b4_0.length : Int) ≤ (rd (E := E) (t := tI) b5_0 v9)))) (some ⟨tI, (6 : Int)⟩) (cond (inB v9 (b5_0.length : Int)) (cond (inB (rd (E := E) (t := tI) b5_0 v9) (b4_0.length : Int)) (cond (inB v9 (b3_0.length : Int)) (cond (!(decide ((rd (E := E) (t := tI) b4_0 (rd (E := E) (t := tI) b5_0 v9)) = (rd (E := E) (t := tI) b3_0 v9)))) (some ⟨tI, (13 : Int)⟩) (self (IntKind.i64.wrap (v9 + (1 : Int))) b3_0 b3_1 b4_0 b4_1 b5_0 b5_1)) none) none) none)) none) none) (c2 (0 : Int) b3_0 b3_1 b4_0 b4_1 b5_0 b5_1))
def s_r06_Valid_2 (R : RunT) (self : V_r06_Valid_2) : V_r06_Valid_2 := fun v10 b3_0 b3_1 b4_0 b4_1 b5_0 b5_1 =>
  (cond (decide (v10 < (b3_1.length : Int))) (cond (inB v10 (b5_1.length : Int)) (cond ((inB v10 (b5_1.length : Int)) || !(!(decide ((rd (E := E) (t := tI) b5_1 v10) < (0 : Int))))) (cond (cond (decide ((rd (E := E) (t := tI) b5_1 v10) < (0 : Int))) true (decide ((b4_1.length : Int) ≤ (rd (E := E) (t := tI) b5_1 v10)))) (some ⟨tI, (6 : Int)⟩) (cond (inB v10 (b3_1.length : Int)) (cond (inB v10 (b5_1.length : Int)) (cond (inB (rd (E := E) (t := tI) b5_1 v10) (b4_1.length : Int)) (cond (!(decide ((rd (E := E) (t := tEdge) b3_1 v10).1 = (rd (E := E) (t := tEdge) b4_1 (rd (E := E) (t := tI) b5_1 v10)).1))) (some ⟨tI, (13 : Int)⟩) (cond (inB (((rd (E := E) (t := tEdge) b3_1 v10).2).1) (b5_0.length : Int)) (cond ((inB (((rd (E := E) (t := tEdge) b3_1 v10).2).2) (b5_0.length : Int)) || !(!(!(decide ((rd (E := E) (t := tI) b5_0 (((rd (E := E) (t := tEdge) b3_1 v10).2).1)) = ((rd (E := E) (t := tEdge) b4_1 (rd (E := E) (t := tI) b5_1 v10)).2).1))))) (cond (cond (!(decide ((rd (E := E) (t := tI) b5_0 (((rd (E := E) (t := tEdge) b3_1 v10).2).1)) = ((rd (E := E) (t := tEdge) b4_1 (rd (E := E) (t := tI) b5_1 v10)).2).1))) true (!(decide ((rd (E := E) (t := tI) b5_0 (((rd (E := E) (t := tEdge) b3_1 v10).2).2)) = ((rd (E := E) (t := tEdge) b4_1 (rd (E := E) (t := tI) b5_1 v10)).2).2)))) (some ⟨tI, (11 : Int)⟩) (self (IntKind.i64.wrap (v10 + (1 : Int))) b3_0 b3_1 b4_0 b4_1 b5_0 b5_1)) none) none)) none) none) none)) none) none) (some ⟨tI, (0 : Int)⟩))
def l_r06_Valid_0 (R : RunT) (c2 : V_r06_Valid_2) : Nat → V_r06_Valid_0
  | 0 => fun _ _ _ _ _ _ _ => none
  | j + 1 => s_r06_Valid_0 R c2 (l_r06_Valid_0 R c2 j)
def l_r06_Valid_2 (R : RunT) : Nat → V_r06_Valid_2
  | 0 => fun _ _ _ _ _ _ _ => none
  | j + 1 => s_r06_Valid_2 R (l_r06_Valid_2 R j)
def b_r06_Valid (R : RunT) (c0 : V_r06_Valid_0) (x0 x1 : D tGraph) (x2 : D tMorphism) : Res E :=
  (Option.bind (res tI (R f_r05_Valid [.val tGraph (x0.1, x0.2)])) (fun r1 => (cond (!(decide (r1 = (0 : Int)))) (some ⟨tI, r1⟩) (Option.bind (res tI (R f_r05_Valid [.val tGraph (x1.1, x1.2)])) (fun r2 => (cond (!(decide (r2 = (0 : Int)))) (some ⟨tI, r2⟩) (cond (cond (!(decide ((x2.1.length : Int) = (x0.1.length : Int)))) true (!(decide ((x2.2.length : Int) = (x0.2.length : Int))))) (some ⟨tI, (20 : Int)⟩) (c0 (0 : Int) x0.1 x0.2 x1.1 x1.2 x2.1 x2.2))))))))
theorem lp_r06_Valid_0_eq (k j0 : Nat) : lp_r06_Valid_0 k j0 = l_r06_Valid_0 (run M k) (lp_r06_Valid_2 k k) j0 := by
  induction j0 with
  | zero => kernel_rfl
  | succ j0 ih => exact Eq.trans (b := s_r06_Valid_0 (run M k) (lp_r06_Valid_2 k k) (lp_r06_Valid_0 k j0)) (by kernel_rfl) (by simp only [ih]; rfl)
theorem lp_r06_Valid_2_eq (k j2 : Nat) : lp_r06_Valid_2 k j2 = l_r06_Valid_2 (run M k) j2 := by
  induction j2 with
  | zero => kernel_rfl
  | succ j2 ih => exact Eq.trans (b := s_r06_Valid_2 (run M k) (lp_r06_Valid_2 k j2)) (by kernel_rfl) (by simp only [ih]; rfl)
theorem e_r06_Valid (k : Nat) (x0 x1 : D tGraph) (x2 : D tMorphism) : run M (k + 1) f_r06_Valid [.val tGraph x0, .val tGraph x1, .val tMorphism x2] = b_r06_Valid (run M k) (l_r06_Valid_0 (run M k) (l_r06_Valid_2 (run M k) k) k) x0 x1 x2 :=
  Eq.trans (b := b_r06_Valid (run M k) (lp_r06_Valid_0 k k) x0 x1 x2) (by kernel_rfl) (by simp only [lp_r06_Valid_0_eq, lp_r06_Valid_2_eq])
abbrev V_r06_Distinct_0 := (D (.slice tI)) → (D tI) → Res E
def lp_r06_Distinct_0 (k j : Nat) : V_r06_Distinct_0 := fun v0 v3 =>
  loopAt M k 169 0 [] [] j ⟨25, [(0, .c (.leaf (.slice tI) v0)), (3, .c (.leaf tI v3))], []⟩
abbrev V_r06_Distinct_2 := (D (.slice tI)) → (D tI) → (D tI) → Res E
def lp_r06_Distinct_2 (k j0 j : Nat) : V_r06_Distinct_2 := fun v0 v3 v4 =>
  loopAt M k 169 2 [] [j0] j ⟨25, [(0, .c (.leaf (.slice tI) v0)), (3, .c (.leaf tI v3)), (4, .c (.leaf tI v4))], []⟩
def s_r06_Distinct_2 (R : RunT) (c0 : V_r06_Distinct_0) (self : V_r06_Distinct_2) : V_r06_Distinct_2 := fun v0 v3 v4 =>
  (cond (decide (v4 < v3)) (cond (inB v3 (v0.length : Int)) (cond (inB v4 (v0.length : Int)) (cond (decide ((rd (E := E) (t := tI) v0 v3) = (rd (E := E) (t := tI) v0 v4))) (some ⟨.bool, false⟩) (self v0 v3 (IntKind.i64.wrap (v4 + (1 : Int))))) none) none) (c0 v0 (IntKind.i64.wrap (v3 + (1 : Int)))))
def s_r06_Distinct_0 (R : RunT) (c2 : V_r06_Distinct_2) (self : V_r06_Distinct_0) : V_r06_Distinct_0 := fun v0 v3 =>
  (cond (decide (v3 < (v0.length : Int))) (c2 v0 v3 (0 : Int)) (some ⟨.bool, true⟩))
def l_r06_Distinct_2 (R : RunT) (c0 : V_r06_Distinct_0) : Nat → V_r06_Distinct_2
  | 0 => fun _ _ _ => none
  | j + 1 => s_r06_Distinct_2 R c0 (l_r06_Distinct_2 R c0 j)
def l_r06_Distinct_0 (R : RunT) : Nat → V_r06_Distinct_0
  | 0 => fun _ _ => none
  | j + 1 => s_r06_Distinct_0 R (l_r06_Distinct_2 R (l_r06_Distinct_0 R j) j) (l_r06_Distinct_0 R j)
def b_r06_Distinct (R : RunT) (c0 : V_r06_Distinct_0) (x0 : D (.slice tI)) : Res E :=
  (c0 x0 (0 : Int))
theorem lp_r06_Distinct_2_eq (k j0 j2 : Nat) : lp_r06_Distinct_2 k j0 j2 = l_r06_Distinct_2 (run M k) (lp_r06_Distinct_0 k j0) j2 := by
  induction j2 with
  | zero => kernel_rfl
  | succ j2 ih => exact Eq.trans (b := s_r06_Distinct_2 (run M k) (lp_r06_Distinct_0 k j0) (lp_r06_Distinct_2 k j0 j2)) (by kernel_rfl) (by simp only [ih]; rfl)
theorem lp_r06_Distinct_0_eq (k j0 : Nat) : lp_r06_Distinct_0 k j0 = l_r06_Distinct_0 (run M k) j0 := by
  induction j0 with
  | zero => kernel_rfl
  | succ j0 ih => exact Eq.trans (b := s_r06_Distinct_0 (run M k) (lp_r06_Distinct_2 k j0 j0) (lp_r06_Distinct_0 k j0)) (by kernel_rfl) (by simp only [lp_r06_Distinct_2_eq, ih]; rfl)
theorem e_r06_Distinct (k : Nat) (x0 : D (.slice tI)) : run M (k + 1) f_r06_Distinct [.val (.slice tI) x0] = b_r06_Distinct (run M k) (l_r06_Distinct_0 (run M k) k) x0 :=
  Eq.trans (b := b_r06_Distinct (run M k) (lp_r06_Distinct_0 k k) x0) (by kernel_rfl) (by simp only [lp_r06_Distinct_2_eq, lp_r06_Distinct_0_eq])
def b_r06_Injective (R : RunT) (x0 x1 : D tGraph) (x2 : D tMorphism) : Res E :=
  (Option.bind (res tI (R f_r06_Valid [.val tGraph (x0.1, x0.2), .val tGraph (x1.1, x1.2), .val tMorphism (x2.1, x2.2)])) (fun r1 => (Option.bind (cond (decide (r1 = (0 : Int))) (res .bool (R f_r06_Distinct [.val (.slice tI) x2.1])) (some (dflt E .bool))) (fun r2 => (Option.bind (cond (cond (decide (r1 = (0 : Int))) r2 false) (res .bool (R f_r06_Distinct [.val (.slice tI) x2.2])) (some (dflt E .bool))) (fun r3 => (some ⟨.bool, (cond (cond (decide (r1 = (0 : Int))) r2 false) r3 false)⟩)))))))
theorem e_r06_Injective (k : Nat) (x0 x1 : D tGraph) (x2 : D tMorphism) : run M (k + 1) f_r06_Injective [.val tGraph x0, .val tGraph x1, .val tMorphism x2] = b_r06_Injective (run M k) x0 x1 x2 := by kernel_rfl
abbrev V_r22_over_0 := (D tI) → (D (.slice tNodeType)) → (D (.slice tEdgeType)) → (D tI) → (D (.slice (.nom 0))) → (D (.slice tI)) → (D (.slice tI)) → (D (.slice tI)) → (D (.slice tEdge)) → (D (.slice tSlot)) → (D tI) → (D (.slice tTest)) → (D (.slice tI)) → (D (.slice tEdge)) → (D (.slice tSlot)) → (D tI) → (D (.slice tTest)) → Res E
def lp_r22_over_0 (k j : Nat) : V_r22_over_0 := fun v10 b3_0 b3_1 b5_0 b5_1 b5_2 b5_3 b5_4 b5_5 b5_6 b5_7 b5_8 b7_0 b7_1 b7_2 b7_3 b7_4 =>
  loopAt M k 44 0 [] [] j ⟨65, [(3, .c (.ptr 3 0 0)), (5, .c (.ptr 5 0 0)), (7, .c (.ptr 7 0 0)), (10, .c (.leaf tI v10))], [(3, 0, .box [.leaf (.slice tNodeType) b3_0, .leaf (.slice tEdgeType) b3_1]), (5, 0, .box [.leaf tI b5_0, .leaf (.slice (.nom 0)) b5_1, .leaf (.slice tI) b5_2, .leaf (.slice tI) b5_3, .leaf (.slice tI) b5_4, .leaf (.slice tEdge) b5_5, .leaf (.slice tSlot) b5_6, .leaf tI b5_7, .leaf (.slice tTest) b5_8]), (7, 0, .box [.leaf (.slice tI) b7_0, .leaf (.slice tEdge) b7_1, .leaf (.slice tSlot) b7_2, .leaf tI b7_3, .leaf (.slice tTest) b7_4])]⟩
def s_r22_over_0 (R : RunT) (self : V_r22_over_0) : V_r22_over_0 := fun v10 b3_0 b3_1 b5_0 b5_1 b5_2 b5_3 b5_4 b5_5 b5_6 b5_7 b5_8 b7_0 b7_1 b7_2 b7_3 b7_4 =>
  (cond (decide (v10 < (b5_1.length : Int))) (cond (inB v10 (b5_1.length : Int)) (Option.bind (res tI (R f_r22_over [.val tTypes (b3_0, b3_1), .val tPattern ((b7_0, b7_1), (b7_2, (b7_3, b7_4))), .val (.nom 0) (E.cl 0 ((E.op 0 (rd (E := E) (t := (.nom 0)) b5_1 v10)).1, (((E.op 0 (rd (E := E) (t := (.nom 0)) b5_1 v10)).2).1, ((((((E.op 0 (rd (E := E) (t := (.nom 0)) b5_1 v10)).2).2).1).1, ((((E.op 0 (rd (E := E) (t := (.nom 0)) b5_1 v10)).2).2).1).2), (((((((E.op 0 (rd (E := E) (t := (.nom 0)) b5_1 v10)).2).2).2).1).1, (((((E.op 0 (rd (E := E) (t := (.nom 0)) b5_1 v10)).2).2).2).1).2), ((((((E.op 0 (rd (E := E) (t := (.nom 0)) b5_1 v10)).2).2).2).2).1, (((((((E.op 0 (rd (E := E) (t := (.nom 0)) b5_1 v10)).2).2).2).2).2).1, ((((((E.op 0 (rd (E := E) (t := (.nom 0)) b5_1 v10)).2).2).2).2).2).2)))))))])) (fun r1 => (cond (!(decide (r1 = (0 : Int)))) (some ⟨tI, r1⟩) (self (IntKind.i64.wrap (v10 + (1 : Int))) b3_0 b3_1 b5_0 b5_1 b5_2 b5_3 b5_4 b5_5 b5_6 b5_7 b5_8 b7_0 b7_1 b7_2 b7_3 b7_4)))) none) (some ⟨tI, (0 : Int)⟩))
def l_r22_over_0 (R : RunT) : Nat → V_r22_over_0
  | 0 => fun _ _ _ _ _ _ _ _ _ _ _ _ _ _ _ _ _ => none
  | j + 1 => s_r22_over_0 R (l_r22_over_0 R j)
def b_r22_over (R : RunT) (c0 : V_r22_over_0) (x0 : D tTypes) (x1 : D tPattern) (x2 : D (.nom 0)) : Res E :=
  (cond (decide ((E.op 0 x2).1 = (5 : Int))) (Option.bind (res tI (R f_r22_inner [.val tTypes (x0.1, x0.2), .val tI x1.2.2.1, .val tPattern (((((((E.op 0 x2).2).2).2).1).1, (((((E.op 0 x2).2).2).2).1).2), ((((((E.op 0 x2).2).2).2).2).1, (((((((E.op 0 x2).2).2).2).2).2).1, ((((((E.op 0 x2).2).2).2).2).2).2)))])) (fun r1 => (cond (!(decide (r1 = (0 : Int)))) (some ⟨tI, r1⟩) (Option.bind (res tI (R f_r06_Valid [.val tGraph (x1.1.1, x1.1.2), .val tGraph ((((((E.op 0 x2).2).2).2).1).1, (((((E.op 0 x2).2).2).2).1).2), .val tMorphism (((((E.op 0 x2).2).2).1).1, ((((E.op 0 x2).2).2).1).2)])) (fun r2 => (cond (!(decide (r2 = (0 : Int)))) (some ⟨tI, r2⟩) (Option.bind (res .bool (R f_r06_Injective [.val tGraph (x1.1.1, x1.1.2), .val tGraph ((((((E.op 0 x2).2).2).2).1).1, (((((E.op 0 x2).2).2).2).1).2), .val tMorphism (((((E.op 0 x2).2).2).1).1, ((((E.op 0 x2).2).2).1).2)])) (fun r3 => (cond (!r3) (some ⟨tI, (1 : Int)⟩) (c0 (0 : Int) x0.1 x0.2 ((E.op 0 x2).1) (((E.op 0 x2).2).1) (((((E.op 0 x2).2).2).1).1) (((((E.op 0 x2).2).2).1).2) ((((((E.op 0 x2).2).2).2).1).1) ((((((E.op 0 x2).2).2).2).1).2) ((((((E.op 0 x2).2).2).2).2).1) (((((((E.op 0 x2).2).2).2).2).2).1) (((((((E.op 0 x2).2).2).2).2).2).2) ((((((E.op 0 x2).2).2).2).1).1) ((((((E.op 0 x2).2).2).2).1).2) ((((((E.op 0 x2).2).2).2).2).1) (((((((E.op 0 x2).2).2).2).2).2).1) (((((((E.op 0 x2).2).2).2).2).2).2))))))))))) (c0 (0 : Int) x0.1 x0.2 ((E.op 0 x2).1) (((E.op 0 x2).2).1) (((((E.op 0 x2).2).2).1).1) (((((E.op 0 x2).2).2).1).2) ((((((E.op 0 x2).2).2).2).1).1) ((((((E.op 0 x2).2).2).2).1).2) ((((((E.op 0 x2).2).2).2).2).1) (((((((E.op 0 x2).2).2).2).2).2).1) (((((((E.op 0 x2).2).2).2).2).2).2) x1.1.1 x1.1.2 x1.2.1 x1.2.2.1 x1.2.2.2))
theorem lp_r22_over_0_eq (k j0 : Nat) : lp_r22_over_0 k j0 = l_r22_over_0 (run M k) j0 := by
  induction j0 with
  | zero => kernel_rfl
  | succ j0 ih => exact Eq.trans (b := s_r22_over_0 (run M k) (lp_r22_over_0 k j0)) (by kernel_rfl) (by simp only [ih]; rfl)
theorem e_r22_over (k : Nat) (x0 : D tTypes) (x1 : D tPattern) (x2 : D (.nom 0)) : run M (k + 1) f_r22_over [.val tTypes x0, .val tPattern x1, .val (.nom 0) x2] = b_r22_over (run M k) (l_r22_over_0 (run M k) k) x0 x1 x2 :=
  Eq.trans (b := b_r22_over (run M k) (lp_r22_over_0 k k) x0 x1 x2) (by kernel_rfl) (by simp only [lp_r22_over_0_eq])
def b_r22_Valid (R : RunT) (x0 : D tTypes) (x1 : D tPattern) (x2 : D (.nom 0)) : Res E :=
  (Option.bind (res tI (R f_r21_Valid [.val tTypes (x0.1, x0.2), .val tPattern ((x1.1.1, x1.1.2), (x1.2.1, (x1.2.2.1, x1.2.2.2)))])) (fun r1 => (cond (!(decide (r1 = (0 : Int)))) (some ⟨tI, r1⟩) (Option.bind (res tI (R f_r22_Shape [.val (.nom 0) (E.cl 0 ((E.op 0 x2).1, (((E.op 0 x2).2).1, ((((((E.op 0 x2).2).2).1).1, ((((E.op 0 x2).2).2).1).2), (((((((E.op 0 x2).2).2).2).1).1, (((((E.op 0 x2).2).2).2).1).2), ((((((E.op 0 x2).2).2).2).2).1, (((((((E.op 0 x2).2).2).2).2).2).1, ((((((E.op 0 x2).2).2).2).2).2).2)))))))])) (fun r2 => (cond (!(decide (r2 = (0 : Int)))) (some ⟨tI, r2⟩) (Option.bind (res tI (R f_r22_over [.val tTypes (x0.1, x0.2), .val tPattern ((x1.1.1, x1.1.2), (x1.2.1, (x1.2.2.1, x1.2.2.2))), .val (.nom 0) (E.cl 0 ((E.op 0 x2).1, (((E.op 0 x2).2).1, ((((((E.op 0 x2).2).2).1).1, ((((E.op 0 x2).2).2).1).2), (((((((E.op 0 x2).2).2).2).1).1, (((((E.op 0 x2).2).2).2).1).2), ((((((E.op 0 x2).2).2).2).2).1, (((((((E.op 0 x2).2).2).2).2).2).1, ((((((E.op 0 x2).2).2).2).2).2).2)))))))])) (fun r3 => (some ⟨tI, r3⟩)))))))))
theorem e_r22_Valid (k : Nat) (x0 : D tTypes) (x1 : D tPattern) (x2 : D (.nom 0)) : run M (k + 1) f_r22_Valid [.val tTypes x0, .val tPattern x1, .val (.nom 0) x2] = b_r22_Valid (run M k) x0 x1 x2 := by kernel_rfl
def b_w22_ConditionValid (R : RunT) (x0 : D tTypes) (x1 : D tOver) : Res E :=
  (Option.bind (res .bool (R f_w22_awake [])) (fun r1 => (Option.bind (cond (!(!r1)) (res .bool (R f_r04_Few [.val tTypes (x0.1, x0.2)])) (some (dflt E .bool))) (fun r2 => (Option.bind (cond (!(cond (!r1) true (!r2))) (res .bool (R f_r22_Few [.val (.nom 0) (E.cl 0 ((E.op 0 x1.2).1, (((E.op 0 x1.2).2).1, ((((((E.op 0 x1.2).2).2).1).1, ((((E.op 0 x1.2).2).2).1).2), (((((((E.op 0 x1.2).2).2).2).1).1, (((((E.op 0 x1.2).2).2).2).1).2), ((((((E.op 0 x1.2).2).2).2).2).1, (((((((E.op 0 x1.2).2).2).2).2).2).1, ((((((E.op 0 x1.2).2).2).2).2).2).2)))))))])) (some (dflt E .bool))) (fun r3 => (Option.bind (cond (!(cond (cond (!r1) true (!r2)) true (!r3))) (res .bool (R f_r21_Few [.val tPattern ((x1.1.1.1, x1.1.1.2), (x1.1.2.1, (x1.1.2.2.1, x1.1.2.2.2)))])) (some (dflt E .bool))) (fun r4 => (cond (cond (cond (cond (!r1) true (!r2)) true (!r3)) true (!r4)) (Option.bind (res .bool (R f_w22_awake [])) (fun r5 => (some ⟨.bool, r5⟩))) (Option.bind (res tI (R f_condition_Valid [.val tTypes (x0.1, x0.2), .val tPattern ((x1.1.1.1, x1.1.1.2), (x1.1.2.1, (x1.1.2.2.1, x1.1.2.2.2))), .val (.nom 0) (E.cl 0 ((E.op 0 x1.2).1, (((E.op 0 x1.2).2).1, ((((((E.op 0 x1.2).2).2).1).1, ((((E.op 0 x1.2).2).2).1).2), (((((((E.op 0 x1.2).2).2).2).1).1, (((((E.op 0 x1.2).2).2).2).1).2), ((((((E.op 0 x1.2).2).2).2).2).1, (((((((E.op 0 x1.2).2).2).2).2).2).1, ((((((E.op 0 x1.2).2).2).2).2).2).2)))))))])) (fun r6 => (Option.bind (res tI (R f_r22_Valid [.val tTypes (x0.1, x0.2), .val tPattern ((x1.1.1.1, x1.1.1.2), (x1.1.2.1, (x1.1.2.2.1, x1.1.2.2.2))), .val (.nom 0) (E.cl 0 ((E.op 0 x1.2).1, (((E.op 0 x1.2).2).1, ((((((E.op 0 x1.2).2).2).1).1, ((((E.op 0 x1.2).2).2).1).2), (((((((E.op 0 x1.2).2).2).2).1).1, (((((E.op 0 x1.2).2).2).2).1).2), ((((((E.op 0 x1.2).2).2).2).2).1, (((((((E.op 0 x1.2).2).2).2).2).2).1, ((((((E.op 0 x1.2).2).2).2).2).2).2)))))))])) (fun r7 => (some ⟨.bool, (decide (r6 = r7))⟩))))))))))))))
theorem e_w22_ConditionValid (k : Nat) (x0 : D tTypes) (x1 : D tOver) : run M (k + 1) f_w22_ConditionValid [.val tTypes x0, .val tOver x1] = b_w22_ConditionValid (run M k) x0 x1 := by kernel_rfl
end
end Go.Proofs.AM
