/- Helpers of this claim: an abstract machine over the model, proved sound; what it computes. Part 7. -/
import Derived.Test.YtblkffncllmpnaaGreatDoorAm6
import Derived.KernelRfl
namespace Go.Proofs.AM
open Go
set_option maxRecDepth 100000
abbrev V_r04_Few_0 := (D tI) → (D tI) → (D (.slice tNodeType)) → (D (.slice tEdgeType)) → Res E
noncomputable def lp_r04_Few_0 (k : Nat) (j : Nat) (v3 : D tI) (v4 : D tI) (b1_0 : D (.slice tNodeType)) (b1_1 : D (.slice tEdgeType)) : Res E :=
  loopAt M k 8 0 [] [] j ⟨106, [(1, .c (.ptr 1 0 0)), (3, .c (.leaf tI v3)), (4, .c (.leaf tI v4))], [(1, 0, .box [.leaf (.slice tNodeType) b1_0, .leaf (.slice tEdgeType) b1_1])]⟩
abbrev V_r04_Few_2 := (D tI) → (D tI) → (D tI) → (D (.slice tNodeType)) → (D (.slice tEdgeType)) → Res E
noncomputable def lp_r04_Few_2 (k : Nat) (j0 : Nat) (j : Nat) (v3 : D tI) (v4 : D tI) (v5 : D tI) (b1_0 : D (.slice tNodeType)) (b1_1 : D (.slice tEdgeType)) : Res E :=
  loopAt M k 8 2 [] [j0] j ⟨106, [(1, .c (.ptr 1 0 0)), (3, .c (.leaf tI v3)), (4, .c (.leaf tI v4)), (5, .c (.leaf tI v5))], [(1, 0, .box [.leaf (.slice tNodeType) b1_0, .leaf (.slice tEdgeType) b1_1])]⟩
abbrev V_r04_Few_6 := (D tI) → (D (.slice tNodeType)) → (D (.slice tEdgeType)) → Res E
noncomputable def lp_r04_Few_6 (k : Nat) (j : Nat) (v8 : D tI) (b1_0 : D (.slice tNodeType)) (b1_1 : D (.slice tEdgeType)) : Res E :=
  loopAt M k 8 6 [] [] j ⟨106, [(1, .c (.ptr 1 0 0)), (8, .c (.leaf tI v8))], [(1, 0, .box [.leaf (.slice tNodeType) b1_0, .leaf (.slice tEdgeType) b1_1])]⟩
abbrev V_r04_Few_4 := (D tI) → (D tI) → (D tI) → (D tI) → (D (.slice tNodeType)) → (D (.slice tEdgeType)) → (D .str) → (D tI) → (D tI) → (D (.slice .str)) → Res E
noncomputable def lp_r04_Few_4 (k : Nat) (j0 j2 : Nat) (j : Nat) (v3 : D tI) (v4 : D tI) (v5 : D tI) (v7 : D tI) (b1_0 : D (.slice tNodeType)) (b1_1 : D (.slice tEdgeType)) (b6_0 : D .str) (b6_1 : D tI) (b6_2 : D tI) (b6_3 : D (.slice .str)) : Res E :=
  loopAt M k 8 4 [] [j0, j2] j ⟨106, [(1, .c (.ptr 1 0 0)), (3, .c (.leaf tI v3)), (4, .c (.leaf tI v4)), (5, .c (.leaf tI v5)), (6, .c (.ptr 6 0 0)), (7, .c (.leaf tI v7))], [(1, 0, .box [.leaf (.slice tNodeType) b1_0, .leaf (.slice tEdgeType) b1_1]), (6, 0, .box [.leaf .str b6_0, .leaf tI b6_1, .leaf tI b6_2, .leaf (.slice .str) b6_3])]⟩
noncomputable def s_r04_Few_4 (R : RunT) (c2 : V_r04_Few_2) (self : V_r04_Few_4) (v3 : D tI) (v4 : D tI) (v5 : D tI) (v7 : D tI) (b1_0 : D (.slice tNodeType)) (b1_1 : D (.slice tEdgeType)) (b6_0 : D .str) (b6_1 : D tI) (b6_2 : D tI) (b6_3 : D (.slice .str)) : Res E :=
  (cond (decide (v7 < (b6_3.length : Int))) (cond (inB v7 (b6_3.length : Int)) (cond (decide ((40 : Int) < ((rd (E := E) (t := .str) b6_3 v7).size : Int))) (some ⟨.bool, false⟩) (self v3 v4 v5 (IntKind.i64.wrap (v7 + (1 : Int))) b1_0 b1_1 b6_0 b6_1 b6_2 b6_3)) none) (c2 v3 v4 (IntKind.i64.wrap (v5 + (1 : Int))) b1_0 b1_1))
noncomputable def s_r04_Few_2 (R : RunT) (c4 : V_r04_Few_4) (c0 : V_r04_Few_0) (self : V_r04_Few_2) (v3 : D tI) (v4 : D tI) (v5 : D tI) (b1_0 : D (.slice tNodeType)) (b1_1 : D (.slice tEdgeType)) : Res E :=
  (cond (inB v4 (b1_0.length : Int)) (cond (decide (v5 < (((((rd (E := E) (t := tNodeType) b1_0 v4).2).2).2).length : Int))) (cond (inB v4 (b1_0.length : Int)) (cond (inB v5 (((((rd (E := E) (t := tNodeType) b1_0 v4).2).2).2).length : Int)) (cond (cond (decide ((40 : Int) < (((rd (E := E) (t := tAttr) ((((rd (E := E) (t := tNodeType) b1_0 v4).2).2).2) v5).1).size : Int))) true (decide ((25 : Int) < (((((rd (E := E) (t := tAttr) ((((rd (E := E) (t := tNodeType) b1_0 v4).2).2).2) v5).2).2).2).length : Int)))) (some ⟨.bool, false⟩) (c4 v3 v4 v5 (0 : Int) b1_0 b1_1 ((rd (E := E) (t := tAttr) ((((rd (E := E) (t := tNodeType) b1_0 v4).2).2).2) v5).1) (((rd (E := E) (t := tAttr) ((((rd (E := E) (t := tNodeType) b1_0 v4).2).2).2) v5).2).1) ((((rd (E := E) (t := tAttr) ((((rd (E := E) (t := tNodeType) b1_0 v4).2).2).2) v5).2).2).1) ((((rd (E := E) (t := tAttr) ((((rd (E := E) (t := tNodeType) b1_0 v4).2).2).2) v5).2).2).2))) none) none) (c0 v3 (IntKind.i64.wrap (v4 + (1 : Int))) b1_0 b1_1)) none)
noncomputable def s_r04_Few_0 (R : RunT) (c2 : V_r04_Few_2) (c6 : V_r04_Few_6) (self : V_r04_Few_0) (v3 : D tI) (v4 : D tI) (b1_0 : D (.slice tNodeType)) (b1_1 : D (.slice tEdgeType)) : Res E :=
  (cond (decide (v4 < (b1_0.length : Int))) (cond (inB v4 (b1_0.length : Int)) (cond ((inB v4 (b1_0.length : Int)) || !(!(decide ((30 : Int) < (IntKind.i64.wrap (v3 + (((((rd (E := E) (t := tNodeType) b1_0 v4).2).2).2).length : Int))))))) (cond (cond (decide ((30 : Int) < (IntKind.i64.wrap (v3 + (((((rd (E := E) (t := tNodeType) b1_0 v4).2).2).2).length : Int))))) true (decide ((40 : Int) < (((rd (E := E) (t := tNodeType) b1_0 v4).1).size : Int)))) (some ⟨.bool, false⟩) (c2 (IntKind.i64.wrap (v3 + (((((rd (E := E) (t := tNodeType) b1_0 v4).2).2).2).length : Int))) v4 (0 : Int) b1_0 b1_1)) none) none) (c6 (0 : Int) b1_0 b1_1))
noncomputable def s_r04_Few_6 (R : RunT) (self : V_r04_Few_6) (v8 : D tI) (b1_0 : D (.slice tNodeType)) (b1_1 : D (.slice tEdgeType)) : Res E :=
  (cond (decide (v8 < (b1_1.length : Int))) (cond (inB v8 (b1_1.length : Int)) (cond (decide ((40 : Int) < (((rd (E := E) (t := tEdgeType) b1_1 v8).1).size : Int))) (some ⟨.bool, false⟩) (self (IntKind.i64.wrap (v8 + (1 : Int))) b1_0 b1_1)) none) (some ⟨.bool, true⟩))
noncomputable def l_r04_Few_4 (R : RunT) (c2 : V_r04_Few_2) : Nat → V_r04_Few_4
  | 0 => fun _ _ _ _ _ _ _ _ _ _ => none
  | j + 1 => s_r04_Few_4 R c2 (l_r04_Few_4 R c2 j)
noncomputable def l_r04_Few_2 (R : RunT) (c0 : V_r04_Few_0) : Nat → V_r04_Few_2
  | 0 => fun _ _ _ _ _ => none
  | j + 1 => s_r04_Few_2 R (l_r04_Few_4 R (l_r04_Few_2 R c0 j) j) c0 (l_r04_Few_2 R c0 j)
noncomputable def l_r04_Few_0 (R : RunT) (c6 : V_r04_Few_6) : Nat → V_r04_Few_0
  | 0 => fun _ _ _ _ => none
  | j + 1 => s_r04_Few_0 R (l_r04_Few_2 R (l_r04_Few_0 R c6 j) j) c6 (l_r04_Few_0 R c6 j)
noncomputable def l_r04_Few_6 (R : RunT) : Nat → V_r04_Few_6
  | 0 => fun _ _ _ => none
  | j + 1 => s_r04_Few_6 R (l_r04_Few_6 R j)
noncomputable def b_r04_Few (R : RunT) (c0 : V_r04_Few_0) (x0 : D tTypes) : Res E :=
  (cond (cond (decide ((20 : Int) < (x0.1.length : Int))) true (decide ((30 : Int) < (x0.2.length : Int)))) (some ⟨.bool, false⟩) (c0 (0 : Int) (0 : Int) x0.1 x0.2))
theorem lp_r04_Few_4_step (k : Nat) (j0 : Nat) (j2 : Nat) (j4 : Nat) : lp_r04_Few_4 k j0 j2 (j4 + 1) = s_r04_Few_4 (run M k) (lp_r04_Few_2 k j0 j2) (lp_r04_Few_4 k j0 j2 j4) := by kernel_rfl
theorem lp_r04_Few_4_zero (k : Nat) (j0 : Nat) (j2 : Nat) : lp_r04_Few_4 k j0 j2 0 = fun _ _ _ _ _ _ _ _ _ _ => none := by kernel_rfl
theorem lp_r04_Few_4_eq (k : Nat) (j0 : Nat) (j2 : Nat) (j4 : Nat) : lp_r04_Few_4 k j0 j2 j4 = l_r04_Few_4 (run M k) (lp_r04_Few_2 k j0 j2) j4 := by
  induction j4 with
  | zero => exact lp_r04_Few_4_zero k j0 j2
  | succ j4 ih => rw [lp_r04_Few_4_step]; simp only [ih]; rfl
theorem lp_r04_Few_2_step (k : Nat) (j0 : Nat) (j2 : Nat) : lp_r04_Few_2 k j0 (j2 + 1) = s_r04_Few_2 (run M k) (lp_r04_Few_4 k j0 j2 j2) (lp_r04_Few_0 k j0) (lp_r04_Few_2 k j0 j2) := by kernel_rfl
theorem lp_r04_Few_2_zero (k : Nat) (j0 : Nat) : lp_r04_Few_2 k j0 0 = fun _ _ _ _ _ => none := by kernel_rfl
theorem lp_r04_Few_2_eq (k : Nat) (j0 : Nat) (j2 : Nat) : lp_r04_Few_2 k j0 j2 = l_r04_Few_2 (run M k) (lp_r04_Few_0 k j0) j2 := by
  induction j2 with
  | zero => exact lp_r04_Few_2_zero k j0
  | succ j2 ih => rw [lp_r04_Few_2_step]; simp only [lp_r04_Few_4_eq, ih]; rfl
theorem lp_r04_Few_0_step (k : Nat) (j0 : Nat) : lp_r04_Few_0 k (j0 + 1) = s_r04_Few_0 (run M k) (lp_r04_Few_2 k j0 j0) (lp_r04_Few_6 k k) (lp_r04_Few_0 k j0) := by kernel_rfl
theorem lp_r04_Few_0_zero (k : Nat) : lp_r04_Few_0 k 0 = fun _ _ _ _ => none := by kernel_rfl
theorem lp_r04_Few_0_eq (k : Nat) (j0 : Nat) : lp_r04_Few_0 k j0 = l_r04_Few_0 (run M k) (lp_r04_Few_6 k k) j0 := by
  induction j0 with
  | zero => exact lp_r04_Few_0_zero k
  | succ j0 ih => rw [lp_r04_Few_0_step]; simp only [lp_r04_Few_2_eq, ih]; rfl
theorem lp_r04_Few_6_step (k : Nat) (j6 : Nat) : lp_r04_Few_6 k (j6 + 1) = s_r04_Few_6 (run M k) (lp_r04_Few_6 k j6) := by kernel_rfl
theorem lp_r04_Few_6_zero (k : Nat) : lp_r04_Few_6 k 0 = fun _ _ _ => none := by kernel_rfl
theorem lp_r04_Few_6_eq (k : Nat) (j6 : Nat) : lp_r04_Few_6 k j6 = l_r04_Few_6 (run M k) j6 := by
  induction j6 with
  | zero => exact lp_r04_Few_6_zero k
  | succ j6 ih => rw [lp_r04_Few_6_step]; simp only [ih]; rfl
theorem e0_r04_Few (k : Nat) (x0 : D tTypes) : run M (k + 1) 8 [.val tTypes x0] = b_r04_Few (run M k) (lp_r04_Few_0 k k) x0 := by kernel_rfl
theorem e_r04_Few (k : Nat) (x0 : D tTypes) : run M (k + 1) f_r04_Few [.val tTypes x0] = b_r04_Few (run M k) (l_r04_Few_0 (run M k) (l_r04_Few_6 (run M k) k) k) x0 := by
  rw [show run M (k + 1) f_r04_Few = run M (k + 1) 8 from rfl, e0_r04_Few]; simp only [lp_r04_Few_0_eq, lp_r04_Few_6_eq]
noncomputable def b_r05_Few (R : RunT) (x0 : D tGraph) : Res E :=
  (some ⟨.bool, (cond (decide ((x0.1.length : Int) ≤ (45 : Int))) (decide ((x0.2.length : Int) ≤ (90 : Int))) false)⟩)
theorem e_r05_Few (k : Nat) (x0 : D tGraph) : run M (k + 1) f_r05_Few [.val tGraph x0] = b_r05_Few (run M k) x0 := by kernel_rfl
noncomputable def b_r06_Few (R : RunT) (x0 : D tMorphism) (x1 : D tI) : Res E :=
  (some ⟨.bool, (decide ((IntKind.i64.wrap ((x0.1.length : Int) + (x0.2.length : Int))) ≤ x1))⟩)
theorem e_r06_Few (k : Nat) (x0 : D tMorphism) (x1 : D tI) : run M (k + 1) f_r06_Few [.val tMorphism x0, .val tI x1] = b_r06_Few (run M k) x0 x1 := by kernel_rfl
abbrev V_r42_Few_0 := (D tI) → (D .str) → (D tI) → (D (.slice tI)) → (D (.slice tEdge)) → (D (.slice tExtension)) → Res E
noncomputable def lp_r42_Few_0 (k : Nat) (j : Nat) (v3 : D tI) (b1_0 : D .str) (b1_1 : D tI) (b1_2 : D (.slice tI)) (b1_3 : D (.slice tEdge)) (b1_4 : D (.slice tExtension)) : Res E :=
  loopAt M k 9 0 [] [] j ⟨45, [(1, .c (.ptr 1 0 0)), (3, .c (.leaf tI v3))], [(1, 0, .box [.leaf .str b1_0, .leaf tI b1_1, .leaf (.slice tI) b1_2, .leaf (.slice tEdge) b1_3, .leaf (.slice tExtension) b1_4])]⟩
noncomputable def s_r42_Few_0 (R : RunT) (self : V_r42_Few_0) (v3 : D tI) (b1_0 : D .str) (b1_1 : D tI) (b1_2 : D (.slice tI)) (b1_3 : D (.slice tEdge)) (b1_4 : D (.slice tExtension)) : Res E :=
  (cond (decide (v3 < (b1_4.length : Int))) (cond (inB v3 (b1_4.length : Int)) (Option.bind (res .bool (R f_r05_Few [.val tGraph (((rd (E := E) (t := tExtension) b1_4 v3).2).1, ((rd (E := E) (t := tExtension) b1_4 v3).2).2)])) (fun r1 => (cond ((inB v3 (b1_4.length : Int)) || !(!(!r1))) (Option.bind (cond (!(!r1)) (res .bool (R f_r06_Few [.val tMorphism (((rd (E := E) (t := tExtension) b1_4 v3).1).1, ((rd (E := E) (t := tExtension) b1_4 v3).1).2), .val tI (140 : Int)])) (some (dflt E .bool))) (fun r2 => (cond (cond (!r1) true (!r2)) (some ⟨.bool, false⟩) (self (IntKind.i64.wrap (v3 + (1 : Int))) b1_0 b1_1 b1_2 b1_3 b1_4)))) none))) none) (some ⟨.bool, true⟩))
noncomputable def l_r42_Few_0 (R : RunT) : Nat → V_r42_Few_0
  | 0 => fun _ _ _ _ _ _ => none
  | j + 1 => s_r42_Few_0 R (l_r42_Few_0 R j)
noncomputable def b_r42_Few (R : RunT) (c0 : V_r42_Few_0) (x0 : D tConstraint) : Res E :=
  (Option.bind (cond (!(cond (decide ((60 : Int) < (x0.1.size : Int))) true (decide ((10 : Int) < (x0.2.2.2.length : Int))))) (res .bool (R f_r05_Few [.val tGraph (x0.2.2.1.1, x0.2.2.1.2)])) (some (dflt E .bool))) (fun r1 => (cond (cond (cond (decide ((60 : Int) < (x0.1.size : Int))) true (decide ((10 : Int) < (x0.2.2.2.length : Int)))) true (!r1)) (some ⟨.bool, false⟩) (c0 (0 : Int) x0.1 x0.2.1 x0.2.2.1.1 x0.2.2.1.2 x0.2.2.2))))
theorem lp_r42_Few_0_step (k : Nat) (j0 : Nat) : lp_r42_Few_0 k (j0 + 1) = s_r42_Few_0 (run M k) (lp_r42_Few_0 k j0) := by kernel_rfl
theorem lp_r42_Few_0_zero (k : Nat) : lp_r42_Few_0 k 0 = fun _ _ _ _ _ _ => none := by kernel_rfl
theorem lp_r42_Few_0_eq (k : Nat) (j0 : Nat) : lp_r42_Few_0 k j0 = l_r42_Few_0 (run M k) j0 := by
  induction j0 with
  | zero => exact lp_r42_Few_0_zero k
  | succ j0 ih => rw [lp_r42_Few_0_step]; simp only [ih]; rfl
theorem e0_r42_Few (k : Nat) (x0 : D tConstraint) : run M (k + 1) 9 [.val tConstraint x0] = b_r42_Few (run M k) (lp_r42_Few_0 k k) x0 := by kernel_rfl
theorem e_r42_Few (k : Nat) (x0 : D tConstraint) : run M (k + 1) f_r42_Few [.val tConstraint x0] = b_r42_Few (run M k) (l_r42_Few_0 (run M k) k) x0 := by
  rw [show run M (k + 1) f_r42_Few = run M (k + 1) 9 from rfl, e0_r42_Few]; simp only [lp_r42_Few_0_eq]
noncomputable def b_constraint_not (R : RunT) (x0 : D (.nom 0)) : Res E :=
  (some ⟨(.nom 0), (E.cl 0 ((2 : Int), (([(E.cl 0 ((E.op 0 x0).1, (((E.op 0 x0).2).1, ((((((E.op 0 x0).2).2).1).1, ((((E.op 0 x0).2).2).1).2), (((((((E.op 0 x0).2).2).2).1).1, (((((E.op 0 x0).2).2).2).1).2), ((((((E.op 0 x0).2).2).2).2).1, (((((((E.op 0 x0).2).2).2).2).2).1, ((((((E.op 0 x0).2).2).2).2).2).2)))))))] : List (D (.nom 0))), ((([] : List (D tI)), ([] : List (D tI))), ((([] : List (D tI)), ([] : List (D tEdge))), (([] : List (D tSlot)), ((0 : Int), ([] : List (D tTest)))))))))⟩)
theorem e_constraint_not (k : Nat) (x0 : D (.nom 0)) : run M (k + 1) f_constraint_not [.val (.nom 0) x0] = b_constraint_not (run M k) x0 := by kernel_rfl
noncomputable def b_slices_Clone_Edge (R : RunT) (x0 : D (.slice tEdge)) : Res E :=
  (cond (decide (0 < x0.length)) (cond (roomy (([] : List (D tEdge)).length + x0.length) 24) (some ⟨(.slice tEdge), (([] : List (D tEdge)) ++ x0)⟩) none) (meet E (some ⟨(.slice tEdge), ([] : List (D tEdge))⟩) (cond (roomy (([] : List (D tEdge)).length + x0.length) 24) (some ⟨(.slice tEdge), (([] : List (D tEdge)) ++ x0)⟩) none)))
theorem e_slices_Clone_Edge (k : Nat) (x0 : D (.slice tEdge)) : run M (k + 1) f_slices_Clone_Edge [.val (.slice tEdge) x0] = b_slices_Clone_Edge (run M k) x0 := by kernel_rfl
noncomputable def b_constraint_copied (R : RunT) (x0 : D tGraph) : Res E :=
  (Option.bind (res (.slice tI) (R f_slices_Clone_int [.val (.slice tI) x0.1])) (fun r1 => (Option.bind (res (.slice tEdge) (R f_slices_Clone_Edge [.val (.slice tEdge) x0.2])) (fun r2 => (some ⟨tGraph, (r1, r2)⟩)))))
theorem e_constraint_copied (k : Nat) (x0 : D tGraph) : run M (k + 1) f_constraint_copied [.val tGraph x0] = b_constraint_copied (run M k) x0 := by kernel_rfl
noncomputable def b_constraint_exists (R : RunT) (x0 : D tMorphism) (x1 : D tGraph) (x2 : D (.nom 0)) : Res E :=
  (Option.bind (res (.slice tI) (R f_slices_Clone_int [.val (.slice tI) x0.1])) (fun r1 => (Option.bind (res (.slice tI) (R f_slices_Clone_int [.val (.slice tI) x0.2])) (fun r2 => (Option.bind (res tGraph (R f_constraint_copied [.val tGraph (x1.1, x1.2)])) (fun r3 => (some ⟨(.nom 0), (E.cl 0 ((5 : Int), (([(E.cl 0 ((E.op 0 x2).1, (((E.op 0 x2).2).1, ((((((E.op 0 x2).2).2).1).1, ((((E.op 0 x2).2).2).1).2), (((((((E.op 0 x2).2).2).2).1).1, (((((E.op 0 x2).2).2).2).1).2), ((((((E.op 0 x2).2).2).2).2).1, (((((((E.op 0 x2).2).2).2).2).2).1, ((((((E.op 0 x2).2).2).2).2).2).2)))))))] : List (D (.nom 0))), ((r1, r2), ((r3.1, r3.2), (([] : List (D tSlot)), ((0 : Int), ([] : List (D tTest)))))))))⟩)))))))
theorem e_constraint_exists (k : Nat) (x0 : D tMorphism) (x1 : D tGraph) (x2 : D (.nom 0)) : run M (k + 1) f_constraint_exists [.val tMorphism x0, .val tGraph x1, .val (.nom 0) x2] = b_constraint_exists (run M k) x0 x1 x2 := by kernel_rfl
abbrev V_constraint_Condition_0 := (D (.slice tExtension)) → (D tI) → (D tI) → (D .str) → (D tI) → (D (.slice tI)) → (D (.slice tEdge)) → (D (.slice tExtension)) → (D tI) → (D tI) → (D tI) → (D tI) → (D tI) → (D tI) → (List (D (.nom 0))) → Res E
noncomputable def lp_constraint_Condition_0 (k : Nat) (j : Nat) (v27 : D (.slice tExtension)) (v28 : D tI) (v29 : D tI) (b1_0 : D .str) (b1_1 : D tI) (b1_2 : D (.slice tI)) (b1_3 : D (.slice tEdge)) (b1_4 : D (.slice tExtension)) (b2_0 : D tI) (b2_7 : D tI) (b5_0 : D tI) (b5_7 : D tI) (b6_0 : D tI) (b6_7 : D tI) (t600385 : List (D (.nom 0))) : Res E :=
  loopAt M k 10 0 [] [] j ⟨52, [(1, .c (.ptr 1 0 0)), (2, .c (.ptr 2 0 0)), (5, .c (.ptr 5 0 0)), (6, .c (.ptr 6 0 0)), (27, .c (.leaf (.slice tExtension) v27)), (28, .c (.leaf tI v28)), (29, .c (.leaf tI v29))], [(1, 0, .box [.leaf .str b1_0, .leaf tI b1_1, .leaf (.slice tI) b1_2, .leaf (.slice tEdge) b1_3, .leaf (.slice tExtension) b1_4]), (2, 0, .box [.leaf tI b2_0, .nilS, .nilS, .nilS, .nilS, .nilS, .nilS, .leaf tI b2_7, .nilS]), (5, 0, .box [.leaf tI b5_0, .nilS, .nilS, .nilS, .nilS, .nilS, .nilS, .leaf tI b5_7, .nilS]), (6, 0, .box [.leaf tI b6_0, .ref 600385 0 none, .nilS, .nilS, .nilS, .nilS, .nilS, .leaf tI b6_7, .nilS]), (600385, 0, .tok (.nom 0) t600385)]⟩
noncomputable def s_constraint_Condition_0 (R : RunT) (self : V_constraint_Condition_0) (v27 : D (.slice tExtension)) (v28 : D tI) (v29 : D tI) (b1_0 : D .str) (b1_1 : D tI) (b1_2 : D (.slice tI)) (b1_3 : D (.slice tEdge)) (b1_4 : D (.slice tExtension)) (b2_0 : D tI) (b2_7 : D tI) (b5_0 : D tI) (b5_7 : D tI) (b6_0 : D tI) (b6_7 : D tI) (t600385 : List (D (.nom 0))) : Res E :=
  (cond (decide (v29 < v28)) (cond (inB v29 (v27.length : Int)) (Option.bind (res (.nom 0) (R f_constraint_exists [.val tMorphism (((rd (E := E) (t := tExtension) v27 v29).1).1, ((rd (E := E) (t := tExtension) v27 v29).1).2), .val tGraph (((rd (E := E) (t := tExtension) v27 v29).2).1, ((rd (E := E) (t := tExtension) v27 v29).2).2), .val (.nom 0) (E.cl 0 (b5_0, (([] : List (D (.nom 0))), ((([] : List (D tI)), ([] : List (D tI))), ((([] : List (D tI)), ([] : List (D tEdge))), (([] : List (D tSlot)), (b5_7, ([] : List (D tTest)))))))))])) (fun r1 => (cond (roomy (t600385.length + ([(E.cl 0 ((E.op 0 r1).1, (((E.op 0 r1).2).1, ((((((E.op 0 r1).2).2).1).1, ((((E.op 0 r1).2).2).1).2), (((((((E.op 0 r1).2).2).2).1).1, (((((E.op 0 r1).2).2).2).1).2), ((((((E.op 0 r1).2).2).2).2).1, (((((((E.op 0 r1).2).2).2).2).2).1, ((((((E.op 0 r1).2).2).2).2).2).2)))))))] : List (D (.nom 0))).length) 184) (self v27 v28 (IntKind.i64.wrap (v29 + (1 : Int))) b1_0 b1_1 b1_2 b1_3 b1_4 b2_0 b2_7 b5_0 b5_7 b6_0 b6_7 (t600385 ++ ([(E.cl 0 ((E.op 0 r1).1, (((E.op 0 r1).2).1, ((((((E.op 0 r1).2).2).1).1, ((((E.op 0 r1).2).2).1).2), (((((((E.op 0 r1).2).2).2).1).1, (((((E.op 0 r1).2).2).2).1).2), ((((((E.op 0 r1).2).2).2).2).1, (((((((E.op 0 r1).2).2).2).2).2).1, ((((((E.op 0 r1).2).2).2).2).2).2)))))))] : List (D (.nom 0))))) none))) none) (Option.bind (res (.nom 0) (R f_constraint_not [.val (.nom 0) (E.cl 0 (b6_0, (t600385, ((([] : List (D tI)), ([] : List (D tI))), ((([] : List (D tI)), ([] : List (D tEdge))), (([] : List (D tSlot)), (b6_7, ([] : List (D tTest)))))))))])) (fun r2 => (Option.bind (res (.nom 0) (R f_constraint_exists [.val tMorphism (([] : List (D tI)), ([] : List (D tI))), .val tGraph (b1_2, b1_3), .val (.nom 0) (E.cl 0 ((E.op 0 r2).1, (((E.op 0 r2).2).1, ((((((E.op 0 r2).2).2).1).1, ((((E.op 0 r2).2).2).1).2), (((((((E.op 0 r2).2).2).2).1).1, (((((E.op 0 r2).2).2).2).1).2), ((((((E.op 0 r2).2).2).2).2).1, (((((((E.op 0 r2).2).2).2).2).2).1, ((((((E.op 0 r2).2).2).2).2).2).2)))))))])) (fun r3 => (Option.bind (res (.nom 0) (R f_constraint_not [.val (.nom 0) (E.cl 0 ((E.op 0 r3).1, (((E.op 0 r3).2).1, ((((((E.op 0 r3).2).2).1).1, ((((E.op 0 r3).2).2).1).2), (((((((E.op 0 r3).2).2).2).1).1, (((((E.op 0 r3).2).2).2).1).2), ((((((E.op 0 r3).2).2).2).2).1, (((((((E.op 0 r3).2).2).2).2).2).1, ((((((E.op 0 r3).2).2).2).2).2).2)))))))])) (fun r4 => (some ⟨(.pair (.nom 0) tI), ((E.cl 0 ((E.op 0 r4).1, (((E.op 0 r4).2).1, ((((((E.op 0 r4).2).2).1).1, ((((E.op 0 r4).2).2).1).2), (((((((E.op 0 r4).2).2).2).1).1, (((((E.op 0 r4).2).2).2).1).2), ((((((E.op 0 r4).2).2).2).2).1, (((((((E.op 0 r4).2).2).2).2).2).1, ((((((E.op 0 r4).2).2).2).2).2).2))))))), (0 : Int))⟩))))))))
noncomputable def l_constraint_Condition_0 (R : RunT) : Nat → V_constraint_Condition_0
  | 0 => fun _ _ _ _ _ _ _ _ _ _ _ _ _ _ _ => none
  | j + 1 => s_constraint_Condition_0 R (l_constraint_Condition_0 R j)
noncomputable def b_constraint_Condition (R : RunT) (c0 : V_constraint_Condition_0) (x0 : D tConstraint) : Res E :=
  (Option.bind (res tI (R f_constraint_shape [.val tConstraint (x0.1, (x0.2.1, ((x0.2.2.1.1, x0.2.2.1.2), x0.2.2.2)))])) (fun r1 => (cond (!(decide (r1 = (0 : Int)))) (some ⟨(.pair (.nom 0) tI), ((E.cl 0 ((0 : Int), (([] : List (D (.nom 0))), ((([] : List (D tI)), ([] : List (D tI))), ((([] : List (D tI)), ([] : List (D tEdge))), (([] : List (D tSlot)), ((0 : Int), ([] : List (D tTest))))))))), r1)⟩) (cond (decide (x0.2.1 = (1 : Int))) (Option.bind (res (.nom 0) (R f_constraint_exists [.val tMorphism (([] : List (D tI)), ([] : List (D tI))), .val tGraph (x0.2.2.1.1, x0.2.2.1.2), .val (.nom 0) (E.cl 0 ((1 : Int), (([] : List (D (.nom 0))), ((([] : List (D tI)), ([] : List (D tI))), ((([] : List (D tI)), ([] : List (D tEdge))), (([] : List (D tSlot)), ((0 : Int), ([] : List (D tTest)))))))))])) (fun r2 => (Option.bind (res (.nom 0) (R f_constraint_not [.val (.nom 0) (E.cl 0 ((E.op 0 r2).1, (((E.op 0 r2).2).1, ((((((E.op 0 r2).2).2).1).1, ((((E.op 0 r2).2).2).1).2), (((((((E.op 0 r2).2).2).2).1).1, (((((E.op 0 r2).2).2).2).1).2), ((((((E.op 0 r2).2).2).2).2).1, (((((((E.op 0 r2).2).2).2).2).2).1, ((((((E.op 0 r2).2).2).2).2).2).2)))))))])) (fun r3 => (some ⟨(.pair (.nom 0) tI), ((E.cl 0 ((E.op 0 r3).1, (((E.op 0 r3).2).1, ((((((E.op 0 r3).2).2).1).1, ((((E.op 0 r3).2).2).1).2), (((((((E.op 0 r3).2).2).2).1).1, (((((E.op 0 r3).2).2).2).1).2), ((((((E.op 0 r3).2).2).2).2).1, (((((((E.op 0 r3).2).2).2).2).2).1, ((((((E.op 0 r3).2).2).2).2).2).2))))))), (0 : Int))⟩))))) (c0 x0.2.2.2 (x0.2.2.2.length : Int) (0 : Int) x0.1 x0.2.1 x0.2.2.1.1 x0.2.2.1.2 x0.2.2.2 (0 : Int) (0 : Int) (1 : Int) (0 : Int) (4 : Int) (0 : Int) ([] : List (D (.nom 0))))))))
theorem lp_constraint_Condition_0_step (k : Nat) (j0 : Nat) : lp_constraint_Condition_0 k (j0 + 1) = s_constraint_Condition_0 (run M k) (lp_constraint_Condition_0 k j0) := by kernel_rfl
theorem lp_constraint_Condition_0_zero (k : Nat) : lp_constraint_Condition_0 k 0 = fun _ _ _ _ _ _ _ _ _ _ _ _ _ _ _ => none := by kernel_rfl
theorem lp_constraint_Condition_0_eq (k : Nat) (j0 : Nat) : lp_constraint_Condition_0 k j0 = l_constraint_Condition_0 (run M k) j0 := by
  induction j0 with
  | zero => exact lp_constraint_Condition_0_zero k
  | succ j0 ih => rw [lp_constraint_Condition_0_step]; simp only [ih]; rfl
theorem e0_constraint_Condition (k : Nat) (x0 : D tConstraint) : run M (k + 1) 10 [.val tConstraint x0] = b_constraint_Condition (run M k) (lp_constraint_Condition_0 k k) x0 := by kernel_rfl
theorem e_constraint_Condition (k : Nat) (x0 : D tConstraint) : run M (k + 1) f_constraint_Condition [.val tConstraint x0] = b_constraint_Condition (run M k) (l_constraint_Condition_0 (run M k) k) x0 := by
  rw [show run M (k + 1) f_constraint_Condition = run M (k + 1) 10 from rfl, e0_constraint_Condition]; simp only [lp_constraint_Condition_0_eq]
noncomputable def b_r01_text (R : RunT) (x0 : D tToken) : Res E :=
  (cond (decide (x0.1 = (3 : Int))) (cond (decide ((⟨#[34]⟩ : ByteArray).size + x0.2.1.size ≤ 9223372036854775807)) (cond (decide ((appS (⟨#[34]⟩ : ByteArray) x0.2.1).size + (⟨#[34]⟩ : ByteArray).size ≤ 9223372036854775807)) (some ⟨.str, (appS (appS (⟨#[34]⟩ : ByteArray) x0.2.1) (⟨#[34]⟩ : ByteArray))⟩) none) none) (some ⟨.str, x0.2.1⟩))
theorem e_r01_text (k : Nat) (x0 : D tToken) : run M (k + 1) f_r01_text [.val tToken x0] = b_r01_text (run M k) x0 := by kernel_rfl
noncomputable def b_r01_letter (R : RunT) (x0 : D tU8) : Res E :=
  (some ⟨.bool, (cond (cond (decide ((97 : Int) ≤ x0)) (decide (x0 ≤ (122 : Int))) false) true (cond (decide ((65 : Int) ≤ x0)) (decide (x0 ≤ (90 : Int))) false))⟩)
theorem e_r01_letter (k : Nat) (x0 : D tU8) : run M (k + 1) f_r01_letter [.val tU8 x0] = b_r01_letter (run M k) x0 := by kernel_rfl
noncomputable def b_r01_digit (R : RunT) (x0 : D tU8) : Res E :=
  (some ⟨.bool, (cond (decide ((48 : Int) ≤ x0)) (decide (x0 ≤ (57 : Int))) false)⟩)
theorem e_r01_digit (k : Nat) (x0 : D tU8) : run M (k + 1) f_r01_digit [.val tU8 x0] = b_r01_digit (run M k) x0 := by kernel_rfl
abbrev V_r01_run_0 := (D .str) → (D tI) → (D .bool) → (D tI) → Res E
noncomputable def lp_r01_run_0 (k : Nat) (j : Nat) (v0 : D .str) (v1 : D tI) (v2 : D .bool) (v7 : D tI) : Res E :=
  loopAt M k 183 0 [] [] j ⟨45, [(0, .c (.leaf .str v0)), (1, .c (.leaf tI v1)), (2, .c (.leaf .bool v2)), (7, .c (.leaf tI v7))], []⟩
noncomputable def s_r01_run_0 (R : RunT) (self : V_r01_run_0) (v0 : D .str) (v1 : D tI) (v2 : D .bool) (v7 : D tI) : Res E :=
  (cond ((inB (IntKind.i64.wrap (v1 + v7)) (v0.size : Int)) || !(decide ((IntKind.i64.wrap (v1 + v7)) < (v0.size : Int)))) (Option.bind (cond (decide ((IntKind.i64.wrap (v1 + v7)) < (v0.size : Int))) (res .bool (R f_r01_digit [.val tU8 (bt v0 (IntKind.i64.wrap (v1 + v7)))])) (some (dflt E .bool))) (fun r1 => (cond ((inB (IntKind.i64.wrap (v1 + v7)) (v0.size : Int)) || !(((decide ((IntKind.i64.wrap (v1 + v7)) < (v0.size : Int))) && !r1) && !v2)) (Option.bind (cond (((decide ((IntKind.i64.wrap (v1 + v7)) < (v0.size : Int))) && !r1) && !v2) (res .bool (R f_r01_letter [.val tU8 (bt v0 (IntKind.i64.wrap (v1 + v7)))])) (some (dflt E .bool))) (fun r2 => (cond ((inB (IntKind.i64.wrap (v1 + v7)) (v0.size : Int)) || !((((decide ((IntKind.i64.wrap (v1 + v7)) < (v0.size : Int))) && !r1) && !v2) && !r2)) (cond (cond (decide ((IntKind.i64.wrap (v1 + v7)) < (v0.size : Int))) (cond r1 true (cond (!v2) (cond r2 true (decide ((bt v0 (IntKind.i64.wrap (v1 + v7))) = (95 : Int)))) false)) false) (self v0 v1 v2 (IntKind.i64.wrap (v7 + (1 : Int)))) (some ⟨tI, v7⟩)) none))) none))) none)
noncomputable def l_r01_run_0 (R : RunT) : Nat → V_r01_run_0
  | 0 => fun _ _ _ _ => none
  | j + 1 => s_r01_run_0 R (l_r01_run_0 R j)
noncomputable def b_r01_run (R : RunT) (c0 : V_r01_run_0) (x0 : D .str) (x1 : D tI) (x2 : D .bool) : Res E :=
  (c0 x0 x1 x2 (0 : Int))
theorem lp_r01_run_0_step (k : Nat) (j0 : Nat) : lp_r01_run_0 k (j0 + 1) = s_r01_run_0 (run M k) (lp_r01_run_0 k j0) := by kernel_rfl
theorem lp_r01_run_0_zero (k : Nat) : lp_r01_run_0 k 0 = fun _ _ _ _ => none := by kernel_rfl
theorem lp_r01_run_0_eq (k : Nat) (j0 : Nat) : lp_r01_run_0 k j0 = l_r01_run_0 (run M k) j0 := by
  induction j0 with
  | zero => exact lp_r01_run_0_zero k
  | succ j0 ih => rw [lp_r01_run_0_step]; simp only [ih]; rfl
theorem e0_r01_run (k : Nat) (x0 : D .str) (x1 : D tI) (x2 : D .bool) : run M (k + 1) 183 [.val .str x0, .val tI x1, .val .bool x2] = b_r01_run (run M k) (lp_r01_run_0 k k) x0 x1 x2 := by kernel_rfl
theorem e_r01_run (k : Nat) (x0 : D .str) (x1 : D tI) (x2 : D .bool) : run M (k + 1) f_r01_run [.val .str x0, .val tI x1, .val .bool x2] = b_r01_run (run M k) (l_r01_run_0 (run M k) k) x0 x1 x2 := by
  rw [show run M (k + 1) f_r01_run = run M (k + 1) 183 from rfl, e0_r01_run]; simp only [lp_r01_run_0_eq]
abbrev V_r01_quoted_0 := (D .str) → (D tI) → (D tI) → Res E
noncomputable def lp_r01_quoted_0 (k : Nat) (j : Nat) (v0 : D .str) (v1 : D tI) (v5 : D tI) : Res E :=
  loopAt M k 184 0 [] [] j ⟨30, [(0, .c (.leaf .str v0)), (1, .c (.leaf tI v1)), (5, .c (.leaf tI v5))], []⟩
noncomputable def s_r01_quoted_0 (R : RunT) (self : V_r01_quoted_0) (v0 : D .str) (v1 : D tI) (v5 : D tI) : Res E :=
  (cond (decide ((IntKind.i64.wrap (v1 + v5)) < (v0.size : Int))) (cond (inB (IntKind.i64.wrap (v1 + v5)) (v0.size : Int)) (cond (decide ((bt v0 (IntKind.i64.wrap (v1 + v5))) = (34 : Int))) (some ⟨tI, (IntKind.i64.wrap (v5 + (1 : Int)))⟩) (cond (cond (decide ((bt v0 (IntKind.i64.wrap (v1 + v5))) < (32 : Int))) true (decide ((126 : Int) < (bt v0 (IntKind.i64.wrap (v1 + v5)))))) (some ⟨tI, (0 : Int)⟩) (self v0 v1 (IntKind.i64.wrap (v5 + (1 : Int)))))) none) (some ⟨tI, (0 : Int)⟩))
noncomputable def l_r01_quoted_0 (R : RunT) : Nat → V_r01_quoted_0
  | 0 => fun _ _ _ => none
  | j + 1 => s_r01_quoted_0 R (l_r01_quoted_0 R j)
noncomputable def b_r01_quoted (R : RunT) (c0 : V_r01_quoted_0) (x0 : D .str) (x1 : D tI) : Res E :=
  (c0 x0 x1 (1 : Int))
theorem lp_r01_quoted_0_step (k : Nat) (j0 : Nat) : lp_r01_quoted_0 k (j0 + 1) = s_r01_quoted_0 (run M k) (lp_r01_quoted_0 k j0) := by kernel_rfl
theorem lp_r01_quoted_0_zero (k : Nat) : lp_r01_quoted_0 k 0 = fun _ _ _ => none := by kernel_rfl
theorem lp_r01_quoted_0_eq (k : Nat) (j0 : Nat) : lp_r01_quoted_0 k j0 = l_r01_quoted_0 (run M k) j0 := by
  induction j0 with
  | zero => exact lp_r01_quoted_0_zero k
  | succ j0 ih => rw [lp_r01_quoted_0_step]; simp only [ih]; rfl
theorem e0_r01_quoted (k : Nat) (x0 : D .str) (x1 : D tI) : run M (k + 1) 184 [.val .str x0, .val tI x1] = b_r01_quoted (run M k) (lp_r01_quoted_0 k k) x0 x1 := by kernel_rfl
theorem e_r01_quoted (k : Nat) (x0 : D .str) (x1 : D tI) : run M (k + 1) f_r01_quoted [.val .str x0, .val tI x1] = b_r01_quoted (run M k) (l_r01_quoted_0 (run M k) k) x0 x1 := by
  rw [show run M (k + 1) f_r01_quoted = run M (k + 1) 184 from rfl, e0_r01_quoted]; simp only [lp_r01_quoted_0_eq]
noncomputable def b_r01_signs (R : RunT) : Res E :=
  (some ⟨(.slice .str), ([(⟨#[45, 62]⟩ : ByteArray), (⟨#[60, 61]⟩ : ByteArray), (⟨#[62, 61]⟩ : ByteArray), (⟨#[61, 61]⟩ : ByteArray), (⟨#[33, 61]⟩ : ByteArray), (⟨#[123]⟩ : ByteArray), (⟨#[125]⟩ : ByteArray), (⟨#[40]⟩ : ByteArray), (⟨#[41]⟩ : ByteArray), (⟨#[91]⟩ : ByteArray), (⟨#[93]⟩ : ByteArray), (⟨#[44]⟩ : ByteArray), (⟨#[59]⟩ : ByteArray), (⟨#[58]⟩ : ByteArray), (⟨#[61]⟩ : ByteArray), (⟨#[43]⟩ : ByteArray), (⟨#[45]⟩ : ByteArray), (⟨#[42]⟩ : ByteArray), (⟨#[60]⟩ : ByteArray), (⟨#[62]⟩ : ByteArray), (⟨#[33]⟩ : ByteArray), (⟨#[38]⟩ : ByteArray), (⟨#[124]⟩ : ByteArray), (⟨#[46]⟩ : ByteArray), (⟨#[63]⟩ : ByteArray)] : List (D .str))⟩)
theorem e_r01_signs (k : Nat) : run M (k + 1) f_r01_signs [] = b_r01_signs (run M k) := by kernel_rfl
abbrev V_r01_one_0 := (D .str) → (D tI) → (D tI) → (D tI) → (D .str) → (D tI) → (List (D .str)) → Res E
noncomputable def lp_r01_one_0 (k : Nat) (j : Nat) (v0 : D .str) (v1 : D tI) (v13 : D tI) (b4_0 : D tI) (b4_1 : D .str) (b4_2 : D tI) (t1004160 : List (D .str)) : Res E :=
  loopAt M k 153 0 [] [] j ⟨110, [(0, .c (.leaf .str v0)), (1, .c (.leaf tI v1)), (4, .c (.ptr 4 0 0)), (12, .c (.ref 1004160 0 none)), (13, .c (.leaf tI v13))], [(4, 0, .box [.leaf tI b4_0, .leaf .str b4_1, .leaf tI b4_2]), (1004160, 0, .tok .str t1004160)]⟩
noncomputable def s_r01_one_0 (R : RunT) (self : V_r01_one_0) (v0 : D .str) (v1 : D tI) (v13 : D tI) (b4_0 : D tI) (b4_1 : D .str) (b4_2 : D tI) (t1004160 : List (D .str)) : Res E :=
  (cond (decide (v13 < (t1004160.length : Int))) (cond (inB v13 (t1004160.length : Int)) (cond ((inB v13 (t1004160.length : Int)) || !(decide ((IntKind.i64.wrap (v1 + ((List.getD t1004160 (Int.toNat v13) (dflt E .str)).size : Int))) ≤ (v0.size : Int)))) (cond ((inS v1 (IntKind.i64.wrap (v1 + ((List.getD t1004160 (Int.toNat v13) (dflt E .str)).size : Int))) (v0.size : Int)) || !(decide ((IntKind.i64.wrap (v1 + ((List.getD t1004160 (Int.toNat v13) (dflt E .str)).size : Int))) ≤ (v0.size : Int)))) (cond ((inB v13 (t1004160.length : Int)) || !(decide ((IntKind.i64.wrap (v1 + ((List.getD t1004160 (Int.toNat v13) (dflt E .str)).size : Int))) ≤ (v0.size : Int)))) (cond (cond (decide ((IntKind.i64.wrap (v1 + ((List.getD t1004160 (Int.toNat v13) (dflt E .str)).size : Int))) ≤ (v0.size : Int))) (beqS (subS v0 v1 (IntKind.i64.wrap (v1 + ((List.getD t1004160 (Int.toNat v13) (dflt E .str)).size : Int)))) (List.getD t1004160 (Int.toNat v13) (dflt E .str))) false) (cond (inB v13 (t1004160.length : Int)) (cond (inB v13 (t1004160.length : Int)) (some ⟨(.pair tI (.pair .str tEdge)), ((4 : Int), ((List.getD t1004160 (Int.toNat v13) (dflt E .str)), ((0 : Int), (((List.getD t1004160 (Int.toNat v13) (dflt E .str)).size : Int), (0 : Int)))))⟩) none) none) (self v0 v1 (IntKind.i64.wrap (v13 + (1 : Int))) b4_0 b4_1 b4_2 t1004160)) none) none) none) none) (some ⟨(.pair tI (.pair .str tEdge)), ((0 : Int), ((⟨#[]⟩ : ByteArray), ((0 : Int), ((0 : Int), (2 : Int)))))⟩))
noncomputable def l_r01_one_0 (R : RunT) : Nat → V_r01_one_0
  | 0 => fun _ _ _ _ _ _ _ => none
  | j + 1 => s_r01_one_0 R (l_r01_one_0 R j)
noncomputable def b_r01_one (R : RunT) (c0 : V_r01_one_0) (x0 : D .str) (x1 : D tI) : Res E :=
  (cond (inB x1 (x0.size : Int)) (Option.bind (res .bool (R f_r01_letter [.val tU8 (bt x0 x1)])) (fun r1 => (Option.bind (cond (!r1) (res .bool (R f_r01_digit [.val tU8 (bt x0 x1)])) (some (dflt E .bool))) (fun r2 => (cond (cond r1 true r2) (Option.bind (res .bool (R f_r01_digit [.val tU8 (bt x0 x1)])) (fun r3 => (Option.bind (res tI (R f_r01_run [.val .str x0, .val tI x1, .val .bool r3])) (fun r4 => (Option.bind (res .bool (R f_r01_digit [.val tU8 (bt x0 x1)])) (fun r5 => (cond r5 (cond (decide ((9 : Int) < r4)) (some ⟨(.pair tI (.pair .str tEdge)), ((0 : Int), ((⟨#[]⟩ : ByteArray), ((0 : Int), ((0 : Int), (3 : Int)))))⟩) (cond (inS x1 (IntKind.i64.wrap (x1 + r4)) (x0.size : Int)) (some ⟨(.pair tI (.pair .str tEdge)), ((2 : Int), ((subS x0 x1 (IntKind.i64.wrap (x1 + r4))), ((0 : Int), (r4, (0 : Int)))))⟩) none)) (cond (decide ((20 : Int) < r4)) (some ⟨(.pair tI (.pair .str tEdge)), ((0 : Int), ((⟨#[]⟩ : ByteArray), ((0 : Int), ((0 : Int), (3 : Int)))))⟩) (cond (inS x1 (IntKind.i64.wrap (x1 + r4)) (x0.size : Int)) (some ⟨(.pair tI (.pair .str tEdge)), ((1 : Int), ((subS x0 x1 (IntKind.i64.wrap (x1 + r4))), ((0 : Int), (r4, (0 : Int)))))⟩) none))))))))) (cond (decide ((bt x0 x1) = (34 : Int))) (Option.bind (res tI (R f_r01_quoted [.val .str x0, .val tI x1])) (fun r6 => (cond (decide (r6 = (0 : Int))) (some ⟨(.pair tI (.pair .str tEdge)), ((0 : Int), ((⟨#[]⟩ : ByteArray), ((0 : Int), ((0 : Int), (2 : Int)))))⟩) (cond (decide ((60 : Int) < (IntKind.i64.wrap (r6 - (2 : Int))))) (some ⟨(.pair tI (.pair .str tEdge)), ((0 : Int), ((⟨#[]⟩ : ByteArray), ((0 : Int), ((0 : Int), (3 : Int)))))⟩) (cond (inS (IntKind.i64.wrap (x1 + (1 : Int))) (IntKind.i64.wrap ((IntKind.i64.wrap (x1 + r6)) - (1 : Int))) (x0.size : Int)) (some ⟨(.pair tI (.pair .str tEdge)), ((3 : Int), ((subS x0 (IntKind.i64.wrap (x1 + (1 : Int))) (IntKind.i64.wrap ((IntKind.i64.wrap (x1 + r6)) - (1 : Int)))), ((0 : Int), (r6, (0 : Int)))))⟩) none))))) (Option.bind (res (.slice .str) (R f_r01_signs [])) (fun r7 => (c0 x0 x1 (0 : Int) (0 : Int) (⟨#[]⟩ : ByteArray) (0 : Int) r7))))))))) none)
theorem lp_r01_one_0_step (k : Nat) (j0 : Nat) : lp_r01_one_0 k (j0 + 1) = s_r01_one_0 (run M k) (lp_r01_one_0 k j0) := by kernel_rfl
theorem lp_r01_one_0_zero (k : Nat) : lp_r01_one_0 k 0 = fun _ _ _ _ _ _ _ => none := by kernel_rfl
theorem lp_r01_one_0_eq (k : Nat) (j0 : Nat) : lp_r01_one_0 k j0 = l_r01_one_0 (run M k) j0 := by
  induction j0 with
  | zero => exact lp_r01_one_0_zero k
  | succ j0 ih => rw [lp_r01_one_0_step]; simp only [ih]; rfl
theorem e0_r01_one (k : Nat) (x0 : D .str) (x1 : D tI) : run M (k + 1) 153 [.val .str x0, .val tI x1] = b_r01_one (run M k) (lp_r01_one_0 k k) x0 x1 := by kernel_rfl
theorem e_r01_one (k : Nat) (x0 : D .str) (x1 : D tI) : run M (k + 1) f_r01_one [.val .str x0, .val tI x1] = b_r01_one (run M k) (l_r01_one_0 (run M k) k) x0 x1 := by
  rw [show run M (k + 1) f_r01_one = run M (k + 1) 153 from rfl, e0_r01_one]; simp only [lp_r01_one_0_eq]
noncomputable def b_r01_Right (R : RunT) (x0 : D tToken) : Res E :=
  (Option.bind (res .str (R f_r01_text [.val tToken (x0.1, (x0.2.1, x0.2.2))])) (fun r1 => (cond (beqS r1 (⟨#[]⟩ : ByteArray)) (some ⟨.bool, false⟩) (Option.bind (res (.pair tI (.pair .str tEdge)) (R f_r01_one [.val .str r1, .val tI (0 : Int)])) (fun r2 => (some ⟨.bool, (cond (cond (decide (r2.2.2.2.2 = (0 : Int))) (decide (r2.2.2.2.1 = (r1.size : Int))) false) (decide (r2.1 = x0.1)) false)⟩))))))
theorem e_r01_Right (k : Nat) (x0 : D tToken) : run M (k + 1) f_r01_Right [.val tToken x0] = b_r01_Right (run M k) x0 := by kernel_rfl
noncomputable def b_r01_IsName (R : RunT) (x0 : D .str) : Res E :=
  (Option.bind (res .bool (R f_r01_Right [.val tToken ((1 : Int), (x0, (0 : Int)))])) (fun r1 => (some ⟨.bool, r1⟩)))
theorem e_r01_IsName (k : Nat) (x0 : D .str) : run M (k + 1) f_r01_IsName [.val .str x0] = b_r01_IsName (run M k) x0 := by kernel_rfl
noncomputable def b_r05_kind (R : RunT) (x0 : D tI) : Res E :=
  (some ⟨.bool, (cond (decide ((0 : Int) ≤ x0)) (decide (x0 ≤ (99 : Int))) false)⟩)
theorem e_r05_kind (k : Nat) (x0 : D tI) : run M (k + 1) f_r05_kind [.val tI x0] = b_r05_kind (run M k) x0 := by kernel_rfl
noncomputable def b_r05_right (R : RunT) (x0 : D tEdge) (x1 : D tI) : Res E :=
  (Option.bind (res .bool (R f_r05_kind [.val tI x0.1])) (fun r1 => (some ⟨.bool, (cond (cond (cond (cond r1 (decide ((0 : Int) ≤ x0.2.1)) false) (decide (x0.2.1 < x1)) false) (decide ((0 : Int) ≤ x0.2.2)) false) (decide (x0.2.2 < x1)) false)⟩)))
theorem e_r05_right (k : Nat) (x0 : D tEdge) (x1 : D tI) : run M (k + 1) f_r05_right [.val tEdge x0, .val tI x1] = b_r05_right (run M k) x0 x1 := by kernel_rfl
abbrev V_r05_Valid_0 := (D tI) → (D (.slice tI)) → (D (.slice tEdge)) → Res E
noncomputable def lp_r05_Valid_0 (k : Nat) (j : Nat) (v3 : D tI) (b1_0 : D (.slice tI)) (b1_1 : D (.slice tEdge)) : Res E :=
  loopAt M k 73 0 [] [] j ⟨46, [(1, .c (.ptr 1 0 0)), (3, .c (.leaf tI v3))], [(1, 0, .box [.leaf (.slice tI) b1_0, .leaf (.slice tEdge) b1_1])]⟩
abbrev V_r05_Valid_2 := (D tI) → (D (.slice tI)) → (D (.slice tEdge)) → Res E
noncomputable def lp_r05_Valid_2 (k : Nat) (j : Nat) (v4 : D tI) (b1_0 : D (.slice tI)) (b1_1 : D (.slice tEdge)) : Res E :=
  loopAt M k 73 2 [] [] j ⟨46, [(1, .c (.ptr 1 0 0)), (4, .c (.leaf tI v4))], [(1, 0, .box [.leaf (.slice tI) b1_0, .leaf (.slice tEdge) b1_1])]⟩
noncomputable def s_r05_Valid_0 (R : RunT) (c2 : V_r05_Valid_2) (self : V_r05_Valid_0) (v3 : D tI) (b1_0 : D (.slice tI)) (b1_1 : D (.slice tEdge)) : Res E :=
  (cond (decide (v3 < (b1_0.length : Int))) (cond (inB v3 (b1_0.length : Int)) (Option.bind (res .bool (R f_r05_kind [.val tI (rd (E := E) (t := tI) b1_0 v3)])) (fun r1 => (cond (!r1) (some ⟨tI, (6 : Int)⟩) (self (IntKind.i64.wrap (v3 + (1 : Int))) b1_0 b1_1)))) none) (c2 (0 : Int) b1_0 b1_1))
noncomputable def s_r05_Valid_2 (R : RunT) (self : V_r05_Valid_2) (v4 : D tI) (b1_0 : D (.slice tI)) (b1_1 : D (.slice tEdge)) : Res E :=
  (cond (decide (v4 < (b1_1.length : Int))) (cond (inB v4 (b1_1.length : Int)) (Option.bind (res .bool (R f_r05_right [.val tEdge ((rd (E := E) (t := tEdge) b1_1 v4).1, (((rd (E := E) (t := tEdge) b1_1 v4).2).1, ((rd (E := E) (t := tEdge) b1_1 v4).2).2)), .val tI (b1_0.length : Int)])) (fun r1 => (cond (!r1) (some ⟨tI, (6 : Int)⟩) (self (IntKind.i64.wrap (v4 + (1 : Int))) b1_0 b1_1)))) none) (some ⟨tI, (0 : Int)⟩))
noncomputable def l_r05_Valid_0 (R : RunT) (c2 : V_r05_Valid_2) : Nat → V_r05_Valid_0
  | 0 => fun _ _ _ => none
  | j + 1 => s_r05_Valid_0 R c2 (l_r05_Valid_0 R c2 j)
noncomputable def l_r05_Valid_2 (R : RunT) : Nat → V_r05_Valid_2
  | 0 => fun _ _ _ => none
  | j + 1 => s_r05_Valid_2 R (l_r05_Valid_2 R j)
noncomputable def b_r05_Valid (R : RunT) (c0 : V_r05_Valid_0) (x0 : D tGraph) : Res E :=
  (cond (cond (decide ((40 : Int) < (x0.1.length : Int))) true (decide ((80 : Int) < (x0.2.length : Int)))) (some ⟨tI, (3 : Int)⟩) (c0 (0 : Int) x0.1 x0.2))
theorem lp_r05_Valid_0_step (k : Nat) (j0 : Nat) : lp_r05_Valid_0 k (j0 + 1) = s_r05_Valid_0 (run M k) (lp_r05_Valid_2 k k) (lp_r05_Valid_0 k j0) := by kernel_rfl
theorem lp_r05_Valid_0_zero (k : Nat) : lp_r05_Valid_0 k 0 = fun _ _ _ => none := by kernel_rfl
theorem lp_r05_Valid_0_eq (k : Nat) (j0 : Nat) : lp_r05_Valid_0 k j0 = l_r05_Valid_0 (run M k) (lp_r05_Valid_2 k k) j0 := by
  induction j0 with
  | zero => exact lp_r05_Valid_0_zero k
  | succ j0 ih => rw [lp_r05_Valid_0_step]; simp only [ih]; rfl
theorem lp_r05_Valid_2_step (k : Nat) (j2 : Nat) : lp_r05_Valid_2 k (j2 + 1) = s_r05_Valid_2 (run M k) (lp_r05_Valid_2 k j2) := by kernel_rfl
theorem lp_r05_Valid_2_zero (k : Nat) : lp_r05_Valid_2 k 0 = fun _ _ _ => none := by kernel_rfl
theorem lp_r05_Valid_2_eq (k : Nat) (j2 : Nat) : lp_r05_Valid_2 k j2 = l_r05_Valid_2 (run M k) j2 := by
  induction j2 with
  | zero => exact lp_r05_Valid_2_zero k
  | succ j2 ih => rw [lp_r05_Valid_2_step]; simp only [ih]; rfl
theorem e0_r05_Valid (k : Nat) (x0 : D tGraph) : run M (k + 1) 73 [.val tGraph x0] = b_r05_Valid (run M k) (lp_r05_Valid_0 k k) x0 := by kernel_rfl
theorem e_r05_Valid (k : Nat) (x0 : D tGraph) : run M (k + 1) f_r05_Valid [.val tGraph x0] = b_r05_Valid (run M k) (l_r05_Valid_0 (run M k) (l_r05_Valid_2 (run M k) k) k) x0 := by
  rw [show run M (k + 1) f_r05_Valid = run M (k + 1) 73 from rfl, e0_r05_Valid]; simp only [lp_r05_Valid_0_eq, lp_r05_Valid_2_eq]
noncomputable def b_r42_large (R : RunT) (x0 : D tGraph) : Res E :=
  (some ⟨.bool, (cond (decide ((6 : Int) < (x0.1.length : Int))) true (decide ((8 : Int) < (x0.2.length : Int))))⟩)
theorem e_r42_large (k : Nat) (x0 : D tGraph) : run M (k + 1) f_r42_large [.val tGraph x0] = b_r42_large (run M k) x0 := by kernel_rfl
abbrev V_r06_Valid_0 := (D tI) → (D (.slice tI)) → (D (.slice tEdge)) → (D (.slice tI)) → (D (.slice tEdge)) → (D (.slice tI)) → (D (.slice tI)) → Res E
noncomputable def lp_r06_Valid_0 (k : Nat) (j : Nat) (v9 : D tI) (b3_0 : D (.slice tI)) (b3_1 : D (.slice tEdge)) (b4_0 : D (.slice tI)) (b4_1 : D (.slice tEdge)) (b5_0 : D (.slice tI)) (b5_1 : D (.slice tI)) : Res E :=
  loopAt M k 75 0 [] [] j ⟨141, [(3, .c (.ptr 3 0 0)), (4, .c (.ptr 4 0 0)), (5, .c (.ptr 5 0 0)), (9, .c (.leaf tI v9))], [(3, 0, .box [.leaf (.slice tI) b3_0, .leaf (.slice tEdge) b3_1]), (4, 0, .box [.leaf (.slice tI) b4_0, .leaf (.slice tEdge) b4_1]), (5, 0, .box [.leaf (.slice tI) b5_0, .leaf (.slice tI) b5_1])]⟩
abbrev V_r06_Valid_2 := (D tI) → (D (.slice tI)) → (D (.slice tEdge)) → (D (.slice tI)) → (D (.slice tEdge)) → (D (.slice tI)) → (D (.slice tI)) → Res E
noncomputable def lp_r06_Valid_2 (k : Nat) (j : Nat) (v10 : D tI) (b3_0 : D (.slice tI)) (b3_1 : D (.slice tEdge)) (b4_0 : D (.slice tI)) (b4_1 : D (.slice tEdge)) (b5_0 : D (.slice tI)) (b5_1 : D (.slice tI)) : Res E :=
  loopAt M k 75 2 [] [] j ⟨141, [(3, .c (.ptr 3 0 0)), (4, .c (.ptr 4 0 0)), (5, .c (.ptr 5 0 0)), (10, .c (.leaf tI v10))], [(3, 0, .box [.leaf (.slice tI) b3_0, .leaf (.slice tEdge) b3_1]), (4, 0, .box [.leaf (.slice tI) b4_0, .leaf (.slice tEdge) b4_1]), (5, 0, .box [.leaf (.slice tI) b5_0, .leaf (.slice tI) b5_1])]⟩
noncomputable def s_r06_Valid_0 (R : RunT) (c2 : V_r06_Valid_2) (self : V_r06_Valid_0) (v9 : D tI) (b3_0 : D (.slice tI)) (b3_1 : D (.slice tEdge)) (b4_0 : D (.slice tI)) (b4_1 : D (.slice tEdge)) (b5_0 : D (.slice tI)) (b5_1 : D (.slice tI)) : Res E :=
  (cond (decide (v9 < (b3_0.length : Int))) (cond (inB v9 (b5_0.length : Int)) (cond ((inB v9 (b5_0.length : Int)) || !(!(decide ((rd (E := E) (t := tI) b5_0 v9) < (0 : Int))))) (cond (cond (decide ((rd (E := E) (t := tI) b5_0 v9) < (0 : Int))) true (decide ((b4_0.length : Int) ≤ (rd (E := E) (t := tI) b5_0 v9)))) (some ⟨tI, (6 : Int)⟩) (cond (inB v9 (b5_0.length : Int)) (cond (inB (rd (E := E) (t := tI) b5_0 v9) (b4_0.length : Int)) (cond (inB v9 (b3_0.length : Int)) (cond (!(decide ((rd (E := E) (t := tI) b4_0 (rd (E := E) (t := tI) b5_0 v9)) = (rd (E := E) (t := tI) b3_0 v9)))) (some ⟨tI, (13 : Int)⟩) (self (IntKind.i64.wrap (v9 + (1 : Int))) b3_0 b3_1 b4_0 b4_1 b5_0 b5_1)) none) none) none)) none) none) (c2 (0 : Int) b3_0 b3_1 b4_0 b4_1 b5_0 b5_1))
noncomputable def s_r06_Valid_2 (R : RunT) (self : V_r06_Valid_2) (v10 : D tI) (b3_0 : D (.slice tI)) (b3_1 : D (.slice tEdge)) (b4_0 : D (.slice tI)) (b4_1 : D (.slice tEdge)) (b5_0 : D (.slice tI)) (b5_1 : D (.slice tI)) : Res E :=
  (cond (decide (v10 < (b3_1.length : Int))) (cond (inB v10 (b5_1.length : Int)) (cond ((inB v10 (b5_1.length : Int)) || !(!(decide ((rd (E := E) (t := tI) b5_1 v10) < (0 : Int))))) (cond (cond (decide ((rd (E := E) (t := tI) b5_1 v10) < (0 : Int))) true (decide ((b4_1.length : Int) ≤ (rd (E := E) (t := tI) b5_1 v10)))) (some ⟨tI, (6 : Int)⟩) (cond (inB v10 (b3_1.length : Int)) (cond (inB v10 (b5_1.length : Int)) (cond (inB (rd (E := E) (t := tI) b5_1 v10) (b4_1.length : Int)) (cond (!(decide ((rd (E := E) (t := tEdge) b3_1 v10).1 = (rd (E := E) (t := tEdge) b4_1 (rd (E := E) (t := tI) b5_1 v10)).1))) (some ⟨tI, (13 : Int)⟩) (cond (inB (((rd (E := E) (t := tEdge) b3_1 v10).2).1) (b5_0.length : Int)) (cond ((inB (((rd (E := E) (t := tEdge) b3_1 v10).2).2) (b5_0.length : Int)) || !(!(!(decide ((rd (E := E) (t := tI) b5_0 (((rd (E := E) (t := tEdge) b3_1 v10).2).1)) = ((rd (E := E) (t := tEdge) b4_1 (rd (E := E) (t := tI) b5_1 v10)).2).1))))) (cond (cond (!(decide ((rd (E := E) (t := tI) b5_0 (((rd (E := E) (t := tEdge) b3_1 v10).2).1)) = ((rd (E := E) (t := tEdge) b4_1 (rd (E := E) (t := tI) b5_1 v10)).2).1))) true (!(decide ((rd (E := E) (t := tI) b5_0 (((rd (E := E) (t := tEdge) b3_1 v10).2).2)) = ((rd (E := E) (t := tEdge) b4_1 (rd (E := E) (t := tI) b5_1 v10)).2).2)))) (some ⟨tI, (11 : Int)⟩) (self (IntKind.i64.wrap (v10 + (1 : Int))) b3_0 b3_1 b4_0 b4_1 b5_0 b5_1)) none) none)) none) none) none)) none) none) (some ⟨tI, (0 : Int)⟩))
noncomputable def l_r06_Valid_0 (R : RunT) (c2 : V_r06_Valid_2) : Nat → V_r06_Valid_0
  | 0 => fun _ _ _ _ _ _ _ => none
  | j + 1 => s_r06_Valid_0 R c2 (l_r06_Valid_0 R c2 j)
noncomputable def l_r06_Valid_2 (R : RunT) : Nat → V_r06_Valid_2
  | 0 => fun _ _ _ _ _ _ _ => none
  | j + 1 => s_r06_Valid_2 R (l_r06_Valid_2 R j)
noncomputable def b_r06_Valid (R : RunT) (c0 : V_r06_Valid_0) (x0 : D tGraph) (x1 : D tGraph) (x2 : D tMorphism) : Res E :=
  (Option.bind (res tI (R f_r05_Valid [.val tGraph (x0.1, x0.2)])) (fun r1 => (cond (!(decide (r1 = (0 : Int)))) (some ⟨tI, r1⟩) (Option.bind (res tI (R f_r05_Valid [.val tGraph (x1.1, x1.2)])) (fun r2 => (cond (!(decide (r2 = (0 : Int)))) (some ⟨tI, r2⟩) (cond (cond (!(decide ((x2.1.length : Int) = (x0.1.length : Int)))) true (!(decide ((x2.2.length : Int) = (x0.2.length : Int))))) (some ⟨tI, (20 : Int)⟩) (c0 (0 : Int) x0.1 x0.2 x1.1 x1.2 x2.1 x2.2))))))))
theorem lp_r06_Valid_0_step (k : Nat) (j0 : Nat) : lp_r06_Valid_0 k (j0 + 1) = s_r06_Valid_0 (run M k) (lp_r06_Valid_2 k k) (lp_r06_Valid_0 k j0) := by kernel_rfl
theorem lp_r06_Valid_0_zero (k : Nat) : lp_r06_Valid_0 k 0 = fun _ _ _ _ _ _ _ => none := by kernel_rfl
theorem lp_r06_Valid_0_eq (k : Nat) (j0 : Nat) : lp_r06_Valid_0 k j0 = l_r06_Valid_0 (run M k) (lp_r06_Valid_2 k k) j0 := by
  induction j0 with
  | zero => exact lp_r06_Valid_0_zero k
  | succ j0 ih => rw [lp_r06_Valid_0_step]; simp only [ih]; rfl
theorem lp_r06_Valid_2_step (k : Nat) (j2 : Nat) : lp_r06_Valid_2 k (j2 + 1) = s_r06_Valid_2 (run M k) (lp_r06_Valid_2 k j2) := by kernel_rfl
theorem lp_r06_Valid_2_zero (k : Nat) : lp_r06_Valid_2 k 0 = fun _ _ _ _ _ _ _ => none := by kernel_rfl
theorem lp_r06_Valid_2_eq (k : Nat) (j2 : Nat) : lp_r06_Valid_2 k j2 = l_r06_Valid_2 (run M k) j2 := by
  induction j2 with
  | zero => exact lp_r06_Valid_2_zero k
  | succ j2 ih => rw [lp_r06_Valid_2_step]; simp only [ih]; rfl
theorem e0_r06_Valid (k : Nat) (x0 : D tGraph) (x1 : D tGraph) (x2 : D tMorphism) : run M (k + 1) 75 [.val tGraph x0, .val tGraph x1, .val tMorphism x2] = b_r06_Valid (run M k) (lp_r06_Valid_0 k k) x0 x1 x2 := by kernel_rfl
theorem e_r06_Valid (k : Nat) (x0 : D tGraph) (x1 : D tGraph) (x2 : D tMorphism) : run M (k + 1) f_r06_Valid [.val tGraph x0, .val tGraph x1, .val tMorphism x2] = b_r06_Valid (run M k) (l_r06_Valid_0 (run M k) (l_r06_Valid_2 (run M k) k) k) x0 x1 x2 := by
  rw [show run M (k + 1) f_r06_Valid = run M (k + 1) 75 from rfl, e0_r06_Valid]; simp only [lp_r06_Valid_0_eq, lp_r06_Valid_2_eq]
abbrev V_r06_Distinct_0 := (D (.slice tI)) → (D tI) → Res E
noncomputable def lp_r06_Distinct_0 (k : Nat) (j : Nat) (v0 : D (.slice tI)) (v3 : D tI) : Res E :=
  loopAt M k 121 0 [] [] j ⟨25, [(0, .c (.leaf (.slice tI) v0)), (3, .c (.leaf tI v3))], []⟩
abbrev V_r06_Distinct_2 := (D (.slice tI)) → (D tI) → (D tI) → Res E
noncomputable def lp_r06_Distinct_2 (k : Nat) (j0 : Nat) (j : Nat) (v0 : D (.slice tI)) (v3 : D tI) (v4 : D tI) : Res E :=
  loopAt M k 121 2 [] [j0] j ⟨25, [(0, .c (.leaf (.slice tI) v0)), (3, .c (.leaf tI v3)), (4, .c (.leaf tI v4))], []⟩
noncomputable def s_r06_Distinct_2 (R : RunT) (c0 : V_r06_Distinct_0) (self : V_r06_Distinct_2) (v0 : D (.slice tI)) (v3 : D tI) (v4 : D tI) : Res E :=
  (cond (decide (v4 < v3)) (cond (inB v3 (v0.length : Int)) (cond (inB v4 (v0.length : Int)) (cond (decide ((rd (E := E) (t := tI) v0 v3) = (rd (E := E) (t := tI) v0 v4))) (some ⟨.bool, false⟩) (self v0 v3 (IntKind.i64.wrap (v4 + (1 : Int))))) none) none) (c0 v0 (IntKind.i64.wrap (v3 + (1 : Int)))))
noncomputable def s_r06_Distinct_0 (R : RunT) (c2 : V_r06_Distinct_2) (self : V_r06_Distinct_0) (v0 : D (.slice tI)) (v3 : D tI) : Res E :=
  (cond (decide (v3 < (v0.length : Int))) (c2 v0 v3 (0 : Int)) (some ⟨.bool, true⟩))
noncomputable def l_r06_Distinct_2 (R : RunT) (c0 : V_r06_Distinct_0) : Nat → V_r06_Distinct_2
  | 0 => fun _ _ _ => none
  | j + 1 => s_r06_Distinct_2 R c0 (l_r06_Distinct_2 R c0 j)
noncomputable def l_r06_Distinct_0 (R : RunT) : Nat → V_r06_Distinct_0
  | 0 => fun _ _ => none
  | j + 1 => s_r06_Distinct_0 R (l_r06_Distinct_2 R (l_r06_Distinct_0 R j) j) (l_r06_Distinct_0 R j)
noncomputable def b_r06_Distinct (R : RunT) (c0 : V_r06_Distinct_0) (x0 : D (.slice tI)) : Res E :=
  (c0 x0 (0 : Int))
theorem lp_r06_Distinct_2_step (k : Nat) (j0 : Nat) (j2 : Nat) : lp_r06_Distinct_2 k j0 (j2 + 1) = s_r06_Distinct_2 (run M k) (lp_r06_Distinct_0 k j0) (lp_r06_Distinct_2 k j0 j2) := by kernel_rfl
theorem lp_r06_Distinct_2_zero (k : Nat) (j0 : Nat) : lp_r06_Distinct_2 k j0 0 = fun _ _ _ => none := by kernel_rfl
theorem lp_r06_Distinct_2_eq (k : Nat) (j0 : Nat) (j2 : Nat) : lp_r06_Distinct_2 k j0 j2 = l_r06_Distinct_2 (run M k) (lp_r06_Distinct_0 k j0) j2 := by
  induction j2 with
  | zero => exact lp_r06_Distinct_2_zero k j0
  | succ j2 ih => rw [lp_r06_Distinct_2_step]; simp only [ih]; rfl
theorem lp_r06_Distinct_0_step (k : Nat) (j0 : Nat) : lp_r06_Distinct_0 k (j0 + 1) = s_r06_Distinct_0 (run M k) (lp_r06_Distinct_2 k j0 j0) (lp_r06_Distinct_0 k j0) := by kernel_rfl
theorem lp_r06_Distinct_0_zero (k : Nat) : lp_r06_Distinct_0 k 0 = fun _ _ => none := by kernel_rfl
theorem lp_r06_Distinct_0_eq (k : Nat) (j0 : Nat) : lp_r06_Distinct_0 k j0 = l_r06_Distinct_0 (run M k) j0 := by
  induction j0 with
  | zero => exact lp_r06_Distinct_0_zero k
  | succ j0 ih => rw [lp_r06_Distinct_0_step]; simp only [lp_r06_Distinct_2_eq, ih]; rfl
theorem e0_r06_Distinct (k : Nat) (x0 : D (.slice tI)) : run M (k + 1) 121 [.val (.slice tI) x0] = b_r06_Distinct (run M k) (lp_r06_Distinct_0 k k) x0 := by kernel_rfl
theorem e_r06_Distinct (k : Nat) (x0 : D (.slice tI)) : run M (k + 1) f_r06_Distinct [.val (.slice tI) x0] = b_r06_Distinct (run M k) (l_r06_Distinct_0 (run M k) k) x0 := by
  rw [show run M (k + 1) f_r06_Distinct = run M (k + 1) 121 from rfl, e0_r06_Distinct]; simp only [lp_r06_Distinct_0_eq]
noncomputable def b_r06_Injective (R : RunT) (x0 : D tGraph) (x1 : D tGraph) (x2 : D tMorphism) : Res E :=
  (Option.bind (res tI (R f_r06_Valid [.val tGraph (x0.1, x0.2), .val tGraph (x1.1, x1.2), .val tMorphism (x2.1, x2.2)])) (fun r1 => (Option.bind (cond (decide (r1 = (0 : Int))) (res .bool (R f_r06_Distinct [.val (.slice tI) x2.1])) (some (dflt E .bool))) (fun r2 => (Option.bind (cond (cond (decide (r1 = (0 : Int))) r2 false) (res .bool (R f_r06_Distinct [.val (.slice tI) x2.2])) (some (dflt E .bool))) (fun r3 => (some ⟨.bool, (cond (cond (decide (r1 = (0 : Int))) r2 false) r3 false)⟩)))))))
theorem e_r06_Injective (k : Nat) (x0 : D tGraph) (x1 : D tGraph) (x2 : D tMorphism) : run M (k + 1) f_r06_Injective [.val tGraph x0, .val tGraph x1, .val tMorphism x2] = b_r06_Injective (run M k) x0 x1 x2 := by kernel_rfl
abbrev V_r42_Shape_0 := (D tI) → (D .str) → (D tI) → (D (.slice tI)) → (D (.slice tEdge)) → (D (.slice tExtension)) → Res E
noncomputable def lp_r42_Shape_0 (k : Nat) (j : Nat) (v4 : D tI) (b1_0 : D .str) (b1_1 : D tI) (b1_2 : D (.slice tI)) (b1_3 : D (.slice tEdge)) (b1_4 : D (.slice tExtension)) : Res E :=
  loopAt M k 34 0 [] [] j ⟨85, [(1, .c (.ptr 1 0 0)), (4, .c (.leaf tI v4))], [(1, 0, .box [.leaf .str b1_0, .leaf tI b1_1, .leaf (.slice tI) b1_2, .leaf (.slice tEdge) b1_3, .leaf (.slice tExtension) b1_4])]⟩
noncomputable def s_r42_Shape_0 (R : RunT) (self : V_r42_Shape_0) (v4 : D tI) (b1_0 : D .str) (b1_1 : D tI) (b1_2 : D (.slice tI)) (b1_3 : D (.slice tEdge)) (b1_4 : D (.slice tExtension)) : Res E :=
  (cond (decide (v4 < (b1_4.length : Int))) (cond (inB v4 (b1_4.length : Int)) (Option.bind (res tI (R f_r06_Valid [.val tGraph (b1_2, b1_3), .val tGraph (((rd (E := E) (t := tExtension) b1_4 v4).2).1, ((rd (E := E) (t := tExtension) b1_4 v4).2).2), .val tMorphism (((rd (E := E) (t := tExtension) b1_4 v4).1).1, ((rd (E := E) (t := tExtension) b1_4 v4).1).2)])) (fun r1 => (cond (!(decide (r1 = (0 : Int)))) (some ⟨tI, r1⟩) (Option.bind (res .bool (R f_r42_large [.val tGraph (((rd (E := E) (t := tExtension) b1_4 v4).2).1, ((rd (E := E) (t := tExtension) b1_4 v4).2).2)])) (fun r2 => (cond r2 (some ⟨tI, (3 : Int)⟩) (Option.bind (res .bool (R f_r06_Injective [.val tGraph (b1_2, b1_3), .val tGraph (((rd (E := E) (t := tExtension) b1_4 v4).2).1, ((rd (E := E) (t := tExtension) b1_4 v4).2).2), .val tMorphism (((rd (E := E) (t := tExtension) b1_4 v4).1).1, ((rd (E := E) (t := tExtension) b1_4 v4).1).2)])) (fun r3 => (cond (!r3) (some ⟨tI, (1 : Int)⟩) (self (IntKind.i64.wrap (v4 + (1 : Int))) b1_0 b1_1 b1_2 b1_3 b1_4)))))))))) none) (some ⟨tI, (0 : Int)⟩))
noncomputable def l_r42_Shape_0 (R : RunT) : Nat → V_r42_Shape_0
  | 0 => fun _ _ _ _ _ _ => none
  | j + 1 => s_r42_Shape_0 R (l_r42_Shape_0 R j)
noncomputable def b_r42_Shape (R : RunT) (c0 : V_r42_Shape_0) (x0 : D tConstraint) : Res E :=
  (Option.bind (res .bool (R f_r01_IsName [.val .str x0.1])) (fun r1 => (cond (!r1) (some ⟨tI, (2 : Int)⟩) (cond (cond (cond (!(decide (x0.2.1 = (1 : Int)))) (!(decide (x0.2.1 = (2 : Int)))) false) true (cond (decide (x0.2.1 = (1 : Int))) (decide ((0 : Int) < (x0.2.2.2.length : Int))) false)) (some ⟨tI, (1 : Int)⟩) (cond (cond (decide (x0.2.1 = (2 : Int))) (decide ((x0.2.2.2.length : Int) = (0 : Int))) false) (some ⟨tI, (7 : Int)⟩) (cond (decide ((6 : Int) < (x0.2.2.2.length : Int))) (some ⟨tI, (3 : Int)⟩) (Option.bind (res tI (R f_r05_Valid [.val tGraph (x0.2.2.1.1, x0.2.2.1.2)])) (fun r2 => (cond (!(decide (r2 = (0 : Int)))) (some ⟨tI, r2⟩) (Option.bind (res .bool (R f_r42_large [.val tGraph (x0.2.2.1.1, x0.2.2.1.2)])) (fun r3 => (cond r3 (some ⟨tI, (3 : Int)⟩) (c0 (0 : Int) x0.1 x0.2.1 x0.2.2.1.1 x0.2.2.1.2 x0.2.2.2)))))))))))))
theorem lp_r42_Shape_0_step (k : Nat) (j0 : Nat) : lp_r42_Shape_0 k (j0 + 1) = s_r42_Shape_0 (run M k) (lp_r42_Shape_0 k j0) := by kernel_rfl
theorem lp_r42_Shape_0_zero (k : Nat) : lp_r42_Shape_0 k 0 = fun _ _ _ _ _ _ => none := by kernel_rfl
theorem lp_r42_Shape_0_eq (k : Nat) (j0 : Nat) : lp_r42_Shape_0 k j0 = l_r42_Shape_0 (run M k) j0 := by
  induction j0 with
  | zero => exact lp_r42_Shape_0_zero k
  | succ j0 ih => rw [lp_r42_Shape_0_step]; simp only [ih]; rfl
theorem e0_r42_Shape (k : Nat) (x0 : D tConstraint) : run M (k + 1) 34 [.val tConstraint x0] = b_r42_Shape (run M k) (lp_r42_Shape_0 k k) x0 := by kernel_rfl
theorem e_r42_Shape (k : Nat) (x0 : D tConstraint) : run M (k + 1) f_r42_Shape [.val tConstraint x0] = b_r42_Shape (run M k) (l_r42_Shape_0 (run M k) k) x0 := by
  rw [show run M (k + 1) f_r42_Shape = run M (k + 1) 34 from rfl, e0_r42_Shape]; simp only [lp_r42_Shape_0_eq]
noncomputable def b_r42_exists (R : RunT) (x0 : D tMorphism) (x1 : D tGraph) (x2 : D (.nom 0)) : Res E :=
  (some ⟨(.nom 0), (E.cl 0 ((5 : Int), (([(E.cl 0 ((E.op 0 x2).1, (((E.op 0 x2).2).1, ((((((E.op 0 x2).2).2).1).1, ((((E.op 0 x2).2).2).1).2), (((((((E.op 0 x2).2).2).2).1).1, (((((E.op 0 x2).2).2).2).1).2), ((((((E.op 0 x2).2).2).2).2).1, (((((((E.op 0 x2).2).2).2).2).2).1, ((((((E.op 0 x2).2).2).2).2).2).2)))))))] : List (D (.nom 0))), ((x0.1, x0.2), ((x1.1, x1.2), (([] : List (D tSlot)), ((0 : Int), ([] : List (D tTest)))))))))⟩)
theorem e_r42_exists (k : Nat) (x0 : D tMorphism) (x1 : D tGraph) (x2 : D (.nom 0)) : run M (k + 1) f_r42_exists [.val tMorphism x0, .val tGraph x1, .val (.nom 0) x2] = b_r42_exists (run M k) x0 x1 x2 := by kernel_rfl
noncomputable def b_r42_not (R : RunT) (x0 : D (.nom 0)) : Res E :=
  (some ⟨(.nom 0), (E.cl 0 ((2 : Int), (([(E.cl 0 ((E.op 0 x0).1, (((E.op 0 x0).2).1, ((((((E.op 0 x0).2).2).1).1, ((((E.op 0 x0).2).2).1).2), (((((((E.op 0 x0).2).2).2).1).1, (((((E.op 0 x0).2).2).2).1).2), ((((((E.op 0 x0).2).2).2).2).1, (((((((E.op 0 x0).2).2).2).2).2).1, ((((((E.op 0 x0).2).2).2).2).2).2)))))))] : List (D (.nom 0))), ((([] : List (D tI)), ([] : List (D tI))), ((([] : List (D tI)), ([] : List (D tEdge))), (([] : List (D tSlot)), ((0 : Int), ([] : List (D tTest)))))))))⟩)
theorem e_r42_not (k : Nat) (x0 : D (.nom 0)) : run M (k + 1) f_r42_not [.val (.nom 0) x0] = b_r42_not (run M k) x0 := by kernel_rfl
end Go.Proofs.AM

namespace Go.Proofs.AM
open Go
set_option maxRecDepth 100000
abbrev V_r42_Condition_0 := (D tI) → (D .str) → (D tI) → (D (.slice tI)) → (D (.slice tEdge)) → (D (.slice tExtension)) → (D tI) → (D tI) → (D tI) → (D tI) → (D tI) → (D tI) → (List (D (.nom 0))) → Res E
noncomputable def lp_r42_Condition_0 (k : Nat) (j : Nat) (v7 : D tI) (b1_0 : D .str) (b1_1 : D tI) (b1_2 : D (.slice tI)) (b1_3 : D (.slice tEdge)) (b1_4 : D (.slice tExtension)) (b2_0 : D tI) (b2_7 : D tI) (b5_0 : D tI) (b5_7 : D tI) (b6_0 : D tI) (b6_7 : D tI) (t600385 : List (D (.nom 0))) : Res E :=
  loopAt M k 11 0 [] [] j ⟨51, [(1, .c (.ptr 1 0 0)), (2, .c (.ptr 2 0 0)), (5, .c (.ptr 5 0 0)), (6, .c (.ptr 6 0 0)), (7, .c (.leaf tI v7))], [(1, 0, .box [.leaf .str b1_0, .leaf tI b1_1, .leaf (.slice tI) b1_2, .leaf (.slice tEdge) b1_3, .leaf (.slice tExtension) b1_4]), (2, 0, .box [.leaf tI b2_0, .nilS, .nilS, .nilS, .nilS, .nilS, .nilS, .leaf tI b2_7, .nilS]), (5, 0, .box [.leaf tI b5_0, .nilS, .nilS, .nilS, .nilS, .nilS, .nilS, .leaf tI b5_7, .nilS]), (6, 0, .box [.leaf tI b6_0, .ref 600385 0 none, .nilS, .nilS, .nilS, .nilS, .nilS, .leaf tI b6_7, .nilS]), (600385, 0, .tok (.nom 0) t600385)]⟩
noncomputable def s_r42_Condition_0 (R : RunT) (self : V_r42_Condition_0) (v7 : D tI) (b1_0 : D .str) (b1_1 : D tI) (b1_2 : D (.slice tI)) (b1_3 : D (.slice tEdge)) (b1_4 : D (.slice tExtension)) (b2_0 : D tI) (b2_7 : D tI) (b5_0 : D tI) (b5_7 : D tI) (b6_0 : D tI) (b6_7 : D tI) (t600385 : List (D (.nom 0))) : Res E :=
  (cond (decide (v7 < (b1_4.length : Int))) (cond (inB v7 (b1_4.length : Int)) (Option.bind (res (.nom 0) (R f_r42_exists [.val tMorphism (((rd (E := E) (t := tExtension) b1_4 v7).1).1, ((rd (E := E) (t := tExtension) b1_4 v7).1).2), .val tGraph (((rd (E := E) (t := tExtension) b1_4 v7).2).1, ((rd (E := E) (t := tExtension) b1_4 v7).2).2), .val (.nom 0) (E.cl 0 ((1 : Int), (([] : List (D (.nom 0))), ((([] : List (D tI)), ([] : List (D tI))), ((([] : List (D tI)), ([] : List (D tEdge))), (([] : List (D tSlot)), ((0 : Int), ([] : List (D tTest)))))))))])) (fun r1 => (cond (roomy (t600385.length + ([(E.cl 0 ((E.op 0 r1).1, (((E.op 0 r1).2).1, ((((((E.op 0 r1).2).2).1).1, ((((E.op 0 r1).2).2).1).2), (((((((E.op 0 r1).2).2).2).1).1, (((((E.op 0 r1).2).2).2).1).2), ((((((E.op 0 r1).2).2).2).2).1, (((((((E.op 0 r1).2).2).2).2).2).1, ((((((E.op 0 r1).2).2).2).2).2).2)))))))] : List (D (.nom 0))).length) 184) (self (IntKind.i64.wrap (v7 + (1 : Int))) b1_0 b1_1 b1_2 b1_3 b1_4 b2_0 b2_7 b5_0 b5_7 b6_0 b6_7 (t600385 ++ ([(E.cl 0 ((E.op 0 r1).1, (((E.op 0 r1).2).1, ((((((E.op 0 r1).2).2).1).1, ((((E.op 0 r1).2).2).1).2), (((((((E.op 0 r1).2).2).2).1).1, (((((E.op 0 r1).2).2).2).1).2), ((((((E.op 0 r1).2).2).2).2).1, (((((((E.op 0 r1).2).2).2).2).2).1, ((((((E.op 0 r1).2).2).2).2).2).2)))))))] : List (D (.nom 0))))) none))) none) (Option.bind (res (.nom 0) (R f_r42_not [.val (.nom 0) (E.cl 0 (b6_0, (t600385, ((([] : List (D tI)), ([] : List (D tI))), ((([] : List (D tI)), ([] : List (D tEdge))), (([] : List (D tSlot)), (b6_7, ([] : List (D tTest)))))))))])) (fun r2 => (Option.bind (res (.nom 0) (R f_r42_exists [.val tMorphism (([] : List (D tI)), ([] : List (D tI))), .val tGraph (b1_2, b1_3), .val (.nom 0) (E.cl 0 ((E.op 0 r2).1, (((E.op 0 r2).2).1, ((((((E.op 0 r2).2).2).1).1, ((((E.op 0 r2).2).2).1).2), (((((((E.op 0 r2).2).2).2).1).1, (((((E.op 0 r2).2).2).2).1).2), ((((((E.op 0 r2).2).2).2).2).1, (((((((E.op 0 r2).2).2).2).2).2).1, ((((((E.op 0 r2).2).2).2).2).2).2)))))))])) (fun r3 => (Option.bind (res (.nom 0) (R f_r42_not [.val (.nom 0) (E.cl 0 ((E.op 0 r3).1, (((E.op 0 r3).2).1, ((((((E.op 0 r3).2).2).1).1, ((((E.op 0 r3).2).2).1).2), (((((((E.op 0 r3).2).2).2).1).1, (((((E.op 0 r3).2).2).2).1).2), ((((((E.op 0 r3).2).2).2).2).1, (((((((E.op 0 r3).2).2).2).2).2).1, ((((((E.op 0 r3).2).2).2).2).2).2)))))))])) (fun r4 => (some ⟨(.pair (.nom 0) tI), ((E.cl 0 ((E.op 0 r4).1, (((E.op 0 r4).2).1, ((((((E.op 0 r4).2).2).1).1, ((((E.op 0 r4).2).2).1).2), (((((((E.op 0 r4).2).2).2).1).1, (((((E.op 0 r4).2).2).2).1).2), ((((((E.op 0 r4).2).2).2).2).1, (((((((E.op 0 r4).2).2).2).2).2).1, ((((((E.op 0 r4).2).2).2).2).2).2))))))), (0 : Int))⟩))))))))
noncomputable def l_r42_Condition_0 (R : RunT) : Nat → V_r42_Condition_0
  | 0 => fun _ _ _ _ _ _ _ _ _ _ _ _ _ => none
  | j + 1 => s_r42_Condition_0 R (l_r42_Condition_0 R j)
noncomputable def b_r42_Condition (R : RunT) (c0 : V_r42_Condition_0) (x0 : D tConstraint) : Res E :=
  (Option.bind (res tI (R f_r42_Shape [.val tConstraint (x0.1, (x0.2.1, ((x0.2.2.1.1, x0.2.2.1.2), x0.2.2.2)))])) (fun r1 => (cond (!(decide (r1 = (0 : Int)))) (some ⟨(.pair (.nom 0) tI), ((E.cl 0 ((0 : Int), (([] : List (D (.nom 0))), ((([] : List (D tI)), ([] : List (D tI))), ((([] : List (D tI)), ([] : List (D tEdge))), (([] : List (D tSlot)), ((0 : Int), ([] : List (D tTest))))))))), r1)⟩) (cond (decide (x0.2.1 = (2 : Int))) (c0 (0 : Int) x0.1 x0.2.1 x0.2.2.1.1 x0.2.2.1.2 x0.2.2.2 (0 : Int) (0 : Int) (1 : Int) (0 : Int) (4 : Int) (0 : Int) ([] : List (D (.nom 0)))) (Option.bind (res (.nom 0) (R f_r42_exists [.val tMorphism (([] : List (D tI)), ([] : List (D tI))), .val tGraph (x0.2.2.1.1, x0.2.2.1.2), .val (.nom 0) (E.cl 0 ((1 : Int), (([] : List (D (.nom 0))), ((([] : List (D tI)), ([] : List (D tI))), ((([] : List (D tI)), ([] : List (D tEdge))), (([] : List (D tSlot)), ((0 : Int), ([] : List (D tTest)))))))))])) (fun r2 => (Option.bind (res (.nom 0) (R f_r42_not [.val (.nom 0) (E.cl 0 ((E.op 0 r2).1, (((E.op 0 r2).2).1, ((((((E.op 0 r2).2).2).1).1, ((((E.op 0 r2).2).2).1).2), (((((((E.op 0 r2).2).2).2).1).1, (((((E.op 0 r2).2).2).2).1).2), ((((((E.op 0 r2).2).2).2).2).1, (((((((E.op 0 r2).2).2).2).2).2).1, ((((((E.op 0 r2).2).2).2).2).2).2)))))))])) (fun r3 => (some ⟨(.pair (.nom 0) tI), ((E.cl 0 ((E.op 0 r3).1, (((E.op 0 r3).2).1, ((((((E.op 0 r3).2).2).1).1, ((((E.op 0 r3).2).2).1).2), (((((((E.op 0 r3).2).2).2).1).1, (((((E.op 0 r3).2).2).2).1).2), ((((((E.op 0 r3).2).2).2).2).1, (((((((E.op 0 r3).2).2).2).2).2).1, ((((((E.op 0 r3).2).2).2).2).2).2))))))), (0 : Int))⟩)))))))))
theorem lp_r42_Condition_0_step (k : Nat) (j0 : Nat) : lp_r42_Condition_0 k (j0 + 1) = s_r42_Condition_0 (run M k) (lp_r42_Condition_0 k j0) := by kernel_rfl
theorem lp_r42_Condition_0_zero (k : Nat) : lp_r42_Condition_0 k 0 = fun _ _ _ _ _ _ _ _ _ _ _ _ _ => none := by kernel_rfl
theorem lp_r42_Condition_0_eq (k : Nat) (j0 : Nat) : lp_r42_Condition_0 k j0 = l_r42_Condition_0 (run M k) j0 := by
  induction j0 with
  | zero => exact lp_r42_Condition_0_zero k
  | succ j0 ih => rw [lp_r42_Condition_0_step]; simp only [ih]; rfl
theorem e0_r42_Condition (k : Nat) (x0 : D tConstraint) : run M (k + 1) 11 [.val tConstraint x0] = b_r42_Condition (run M k) (lp_r42_Condition_0 k k) x0 := by kernel_rfl
theorem e_r42_Condition (k : Nat) (x0 : D tConstraint) : run M (k + 1) f_r42_Condition [.val tConstraint x0] = b_r42_Condition (run M k) (l_r42_Condition_0 (run M k) k) x0 := by
  rw [show run M (k + 1) f_r42_Condition = run M (k + 1) 11 from rfl, e0_r42_Condition]; simp only [lp_r42_Condition_0_eq]
noncomputable def b_r04_in (R : RunT) (x0 : D tI) (x1 : D tI) (x2 : D tI) : Res E :=
  (some ⟨.bool, (cond (decide (x1 ≤ x0)) (decide (x0 ≤ x2)) false)⟩)
theorem e_r04_in (k : Nat) (x0 : D tI) (x1 : D tI) (x2 : D tI) : run M (k + 1) f_r04_in [.val tI x0, .val tI x1, .val tI x2] = b_r04_in (run M k) x0 x1 x2 := by kernel_rfl
noncomputable def b_r04_attrs (R : RunT) (x0 : D tTypes) (x1 : D tI) : Res E :=
  (cond (decide (x1 < (0 : Int))) (some ⟨(.slice tAttr), ([] : List (D tAttr))⟩) (cond (inB x1 (x0.1.length : Int)) (Option.bind (res (.slice tAttr) (R f_r04_attrs [.val tTypes (x0.1, x0.2), .val tI (((rd (E := E) (t := tNodeType) x0.1 x1).2).1)])) (fun r1 => (cond (roomy (([] : List (D tAttr)).length + r1.length) 56) (cond (inB x1 (x0.1.length : Int)) (cond (roomy ((([] : List (D tAttr)) ++ r1).length + ((((rd (E := E) (t := tNodeType) x0.1 x1).2).2).2).length) 56) (some ⟨(.slice tAttr), ((([] : List (D tAttr)) ++ r1) ++ ((((rd (E := E) (t := tNodeType) x0.1 x1).2).2).2))⟩) none) none) none))) none))
theorem e_r04_attrs (k : Nat) (x0 : D tTypes) (x1 : D tI) : run M (k + 1) f_r04_attrs [.val tTypes x0, .val tI x1] = b_r04_attrs (run M k) x0 x1 := by kernel_rfl
abbrev V_r04_names_0 := (D (.slice .str)) → (D tI) → Res E
noncomputable def lp_r04_names_0 (k : Nat) (j : Nat) (v0 : D (.slice .str)) (v3 : D tI) : Res E :=
  loopAt M k 158 0 [] [] j ⟨34, [(0, .c (.leaf (.slice .str) v0)), (3, .c (.leaf tI v3))], []⟩
abbrev V_r04_names_2 := (D (.slice .str)) → (D tI) → (D tI) → Res E
noncomputable def lp_r04_names_2 (k : Nat) (j0 : Nat) (j : Nat) (v0 : D (.slice .str)) (v3 : D tI) (v4 : D tI) : Res E :=
  loopAt M k 158 2 [] [j0] j ⟨34, [(0, .c (.leaf (.slice .str) v0)), (3, .c (.leaf tI v3)), (4, .c (.leaf tI v4))], []⟩
noncomputable def s_r04_names_2 (R : RunT) (c0 : V_r04_names_0) (self : V_r04_names_2) (v0 : D (.slice .str)) (v3 : D tI) (v4 : D tI) : Res E :=
  (cond (decide (v4 < v3)) (cond (inB v4 (v0.length : Int)) (cond (inB v3 (v0.length : Int)) (cond (beqS (rd (E := E) (t := .str) v0 v4) (rd (E := E) (t := .str) v0 v3)) (some ⟨tI, (5 : Int)⟩) (self v0 v3 (IntKind.i64.wrap (v4 + (1 : Int))))) none) none) (c0 v0 (IntKind.i64.wrap (v3 + (1 : Int)))))
noncomputable def s_r04_names_0 (R : RunT) (c2 : V_r04_names_2) (self : V_r04_names_0) (v0 : D (.slice .str)) (v3 : D tI) : Res E :=
  (cond (decide (v3 < (v0.length : Int))) (cond (inB v3 (v0.length : Int)) (Option.bind (res .bool (R f_r01_IsName [.val .str (rd (E := E) (t := .str) v0 v3)])) (fun r1 => (cond (!r1) (some ⟨tI, (2 : Int)⟩) (c2 v0 v3 (0 : Int))))) none) (some ⟨tI, (0 : Int)⟩))
noncomputable def l_r04_names_2 (R : RunT) (c0 : V_r04_names_0) : Nat → V_r04_names_2
  | 0 => fun _ _ _ => none
  | j + 1 => s_r04_names_2 R c0 (l_r04_names_2 R c0 j)
noncomputable def l_r04_names_0 (R : RunT) : Nat → V_r04_names_0
  | 0 => fun _ _ => none
  | j + 1 => s_r04_names_0 R (l_r04_names_2 R (l_r04_names_0 R j) j) (l_r04_names_0 R j)
noncomputable def b_r04_names (R : RunT) (c0 : V_r04_names_0) (x0 : D (.slice .str)) : Res E :=
  (cond (decide ((20 : Int) < (x0.length : Int))) (some ⟨tI, (3 : Int)⟩) (c0 x0 (0 : Int)))
theorem lp_r04_names_2_step (k : Nat) (j0 : Nat) (j2 : Nat) : lp_r04_names_2 k j0 (j2 + 1) = s_r04_names_2 (run M k) (lp_r04_names_0 k j0) (lp_r04_names_2 k j0 j2) := by kernel_rfl
theorem lp_r04_names_2_zero (k : Nat) (j0 : Nat) : lp_r04_names_2 k j0 0 = fun _ _ _ => none := by kernel_rfl
theorem lp_r04_names_2_eq (k : Nat) (j0 : Nat) (j2 : Nat) : lp_r04_names_2 k j0 j2 = l_r04_names_2 (run M k) (lp_r04_names_0 k j0) j2 := by
  induction j2 with
  | zero => exact lp_r04_names_2_zero k j0
  | succ j2 ih => rw [lp_r04_names_2_step]; simp only [ih]; rfl
theorem lp_r04_names_0_step (k : Nat) (j0 : Nat) : lp_r04_names_0 k (j0 + 1) = s_r04_names_0 (run M k) (lp_r04_names_2 k j0 j0) (lp_r04_names_0 k j0) := by kernel_rfl
theorem lp_r04_names_0_zero (k : Nat) : lp_r04_names_0 k 0 = fun _ _ => none := by kernel_rfl
theorem lp_r04_names_0_eq (k : Nat) (j0 : Nat) : lp_r04_names_0 k j0 = l_r04_names_0 (run M k) j0 := by
  induction j0 with
  | zero => exact lp_r04_names_0_zero k
  | succ j0 ih => rw [lp_r04_names_0_step]; simp only [lp_r04_names_2_eq, ih]; rfl
theorem e0_r04_names (k : Nat) (x0 : D (.slice .str)) : run M (k + 1) 158 [.val (.slice .str) x0] = b_r04_names (run M k) (lp_r04_names_0 k k) x0 := by kernel_rfl
theorem e_r04_names (k : Nat) (x0 : D (.slice .str)) : run M (k + 1) f_r04_names [.val (.slice .str) x0] = b_r04_names (run M k) (l_r04_names_0 (run M k) k) x0 := by
  rw [show run M (k + 1) f_r04_names = run M (k + 1) 158 from rfl, e0_r04_names]; simp only [lp_r04_names_0_eq]
noncomputable def b_r04_attribute (R : RunT) (x0 : D tAttr) : Res E :=
  (cond (decide ((x0.2.2.2.length : Int) = (0 : Int))) (Option.bind (res .bool (R f_r04_in [.val tI x0.2.1, .val tI (-1000000 : Int), .val tI (1000000 : Int)])) (fun r1 => (Option.bind (cond (!(!r1)) (res .bool (R f_r04_in [.val tI x0.2.2.1, .val tI x0.2.1, .val tI (1000000 : Int)])) (some (dflt E .bool))) (fun r2 => (cond (cond (!r1) true (!r2)) (some ⟨tI, (6 : Int)⟩) (some ⟨tI, (0 : Int)⟩)))))) (Option.bind (res tI (R f_r04_names [.val (.slice .str) x0.2.2.2])) (fun r3 => (cond (!(decide (r3 = (0 : Int)))) (some ⟨tI, r3⟩) (cond (cond (!(decide (x0.2.1 = (0 : Int)))) true (!(decide (x0.2.2.1 = (IntKind.i64.wrap ((x0.2.2.2.length : Int) - (1 : Int))))))) (some ⟨tI, (6 : Int)⟩) (some ⟨tI, (0 : Int)⟩))))))
theorem e_r04_attribute (k : Nat) (x0 : D tAttr) : run M (k + 1) f_r04_attribute [.val tAttr x0] = b_r04_attribute (run M k) x0 := by kernel_rfl
abbrev V_r04_node_0 := (D tI) → (D tI) → (D (.slice tNodeType)) → (D (.slice tEdgeType)) → (D .str) → (D tI) → (D .bool) → (D (.slice tAttr)) → Res E
noncomputable def lp_r04_node_0 (k : Nat) (j : Nat) (v1 : D tI) (v6 : D tI) (b2_0 : D (.slice tNodeType)) (b2_1 : D (.slice tEdgeType)) (b5_0 : D .str) (b5_1 : D tI) (b5_2 : D .bool) (b5_3 : D (.slice tAttr)) : Res E :=
  loopAt M k 83 0 [] [] j ⟨95, [(1, .c (.leaf tI v1)), (2, .c (.ptr 2 0 0)), (5, .c (.ptr 5 0 0)), (6, .c (.leaf tI v6))], [(2, 0, .box [.leaf (.slice tNodeType) b2_0, .leaf (.slice tEdgeType) b2_1]), (5, 0, .box [.leaf .str b5_0, .leaf tI b5_1, .leaf .bool b5_2, .leaf (.slice tAttr) b5_3])]⟩
abbrev V_r04_node_2 := (D tI) → (List (D tAttr)) → Res E
noncomputable def lp_r04_node_2 (k : Nat) (j : Nat) (v8 : D tI) (t1002688 : List (D tAttr)) : Res E :=
  loopAt M k 83 2 [] [] j ⟨95, [(7, .c (.ref 1002688 0 none)), (8, .c (.leaf tI v8))], [(1002688, 0, .tok tAttr t1002688)]⟩
abbrev V_r04_node_4 := (D tI) → (D tI) → (List (D tAttr)) → Res E
noncomputable def lp_r04_node_4 (k : Nat) (j2 : Nat) (j : Nat) (v8 : D tI) (v9 : D tI) (t1002688 : List (D tAttr)) : Res E :=
  loopAt M k 83 4 [] [j2] j ⟨95, [(7, .c (.ref 1002688 0 none)), (8, .c (.leaf tI v8)), (9, .c (.leaf tI v9))], [(1002688, 0, .tok tAttr t1002688)]⟩
noncomputable def s_r04_node_4 (R : RunT) (c2 : V_r04_node_2) (self : V_r04_node_4) (v8 : D tI) (v9 : D tI) (t1002688 : List (D tAttr)) : Res E :=
  (cond (decide (v9 < v8)) (cond (inB v9 (t1002688.length : Int)) (cond (inB v8 (t1002688.length : Int)) (cond (beqS ((List.getD t1002688 (Int.toNat v9) (dflt E tAttr)).1) ((List.getD t1002688 (Int.toNat v8) (dflt E tAttr)).1)) (some ⟨tI, (5 : Int)⟩) (self v8 (IntKind.i64.wrap (v9 + (1 : Int))) t1002688)) none) none) (cond (inB v8 (t1002688.length : Int)) (Option.bind (res tI (R f_r04_attribute [.val tAttr ((List.getD t1002688 (Int.toNat v8) (dflt E tAttr)).1, (((List.getD t1002688 (Int.toNat v8) (dflt E tAttr)).2).1, ((((List.getD t1002688 (Int.toNat v8) (dflt E tAttr)).2).2).1, (((List.getD t1002688 (Int.toNat v8) (dflt E tAttr)).2).2).2)))])) (fun r1 => (cond (!(decide (r1 = (0 : Int)))) (some ⟨tI, r1⟩) (c2 (IntKind.i64.wrap (v8 + (1 : Int))) t1002688)))) none))
noncomputable def s_r04_node_0 (R : RunT) (c2 : V_r04_node_2) (self : V_r04_node_0) (v1 : D tI) (v6 : D tI) (b2_0 : D (.slice tNodeType)) (b2_1 : D (.slice tEdgeType)) (b5_0 : D .str) (b5_1 : D tI) (b5_2 : D .bool) (b5_3 : D (.slice tAttr)) : Res E :=
  (cond (decide (v6 < v1)) (cond (inB v6 (b2_0.length : Int)) (cond (beqS ((rd (E := E) (t := tNodeType) b2_0 v6).1) b5_0) (some ⟨tI, (5 : Int)⟩) (self v1 (IntKind.i64.wrap (v6 + (1 : Int))) b2_0 b2_1 b5_0 b5_1 b5_2 b5_3)) none) (Option.bind (res .bool (R f_r04_in [.val tI b5_1, .val tI (-1 : Int), .val tI (IntKind.i64.wrap (v1 - (1 : Int)))])) (fun r1 => (cond (!r1) (some ⟨tI, (6 : Int)⟩) (Option.bind (res (.slice tAttr) (R f_r04_attrs [.val tTypes (b2_0, b2_1), .val tI v1])) (fun r2 => (cond (cond (decide ((4 : Int) < (b5_3.length : Int))) true (decide ((8 : Int) < (r2.length : Int)))) (some ⟨tI, (3 : Int)⟩) (c2 (IntKind.i64.wrap ((r2.length : Int) - (b5_3.length : Int))) r2))))))))
noncomputable def s_r04_node_2 (R : RunT) (c4 : V_r04_node_4) (self : V_r04_node_2) (v8 : D tI) (t1002688 : List (D tAttr)) : Res E :=
  (cond (decide (v8 < (t1002688.length : Int))) (cond (inB v8 (t1002688.length : Int)) (Option.bind (res .bool (R f_r01_IsName [.val .str ((List.getD t1002688 (Int.toNat v8) (dflt E tAttr)).1)])) (fun r1 => (cond (!r1) (some ⟨tI, (2 : Int)⟩) (c4 v8 (0 : Int) t1002688)))) none) (some ⟨tI, (0 : Int)⟩))
noncomputable def l_r04_node_4 (R : RunT) (c2 : V_r04_node_2) : Nat → V_r04_node_4
  | 0 => fun _ _ _ => none
  | j + 1 => s_r04_node_4 R c2 (l_r04_node_4 R c2 j)
noncomputable def l_r04_node_0 (R : RunT) (c2 : V_r04_node_2) : Nat → V_r04_node_0
  | 0 => fun _ _ _ _ _ _ _ _ => none
  | j + 1 => s_r04_node_0 R c2 (l_r04_node_0 R c2 j)
noncomputable def l_r04_node_2 (R : RunT) : Nat → V_r04_node_2
  | 0 => fun _ _ => none
  | j + 1 => s_r04_node_2 R (l_r04_node_4 R (l_r04_node_2 R j) j) (l_r04_node_2 R j)
noncomputable def b_r04_node (R : RunT) (c0 : V_r04_node_0) (x0 : D tTypes) (x1 : D tI) : Res E :=
  (cond (inB x1 (x0.1.length : Int)) (Option.bind (res .bool (R f_r01_IsName [.val .str ((rd (E := E) (t := tNodeType) x0.1 x1).1)])) (fun r1 => (cond (!r1) (some ⟨tI, (2 : Int)⟩) (c0 x1 (0 : Int) x0.1 x0.2 ((rd (E := E) (t := tNodeType) x0.1 x1).1) (((rd (E := E) (t := tNodeType) x0.1 x1).2).1) ((((rd (E := E) (t := tNodeType) x0.1 x1).2).2).1) ((((rd (E := E) (t := tNodeType) x0.1 x1).2).2).2))))) none)
theorem lp_r04_node_4_step (k : Nat) (j2 : Nat) (j4 : Nat) : lp_r04_node_4 k j2 (j4 + 1) = s_r04_node_4 (run M k) (lp_r04_node_2 k j2) (lp_r04_node_4 k j2 j4) := by kernel_rfl
theorem lp_r04_node_4_zero (k : Nat) (j2 : Nat) : lp_r04_node_4 k j2 0 = fun _ _ _ => none := by kernel_rfl
theorem lp_r04_node_4_eq (k : Nat) (j2 : Nat) (j4 : Nat) : lp_r04_node_4 k j2 j4 = l_r04_node_4 (run M k) (lp_r04_node_2 k j2) j4 := by
  induction j4 with
  | zero => exact lp_r04_node_4_zero k j2
  | succ j4 ih => rw [lp_r04_node_4_step]; simp only [ih]; rfl
theorem lp_r04_node_0_step (k : Nat) (j0 : Nat) : lp_r04_node_0 k (j0 + 1) = s_r04_node_0 (run M k) (lp_r04_node_2 k k) (lp_r04_node_0 k j0) := by kernel_rfl
theorem lp_r04_node_0_zero (k : Nat) : lp_r04_node_0 k 0 = fun _ _ _ _ _ _ _ _ => none := by kernel_rfl
theorem lp_r04_node_0_eq (k : Nat) (j0 : Nat) : lp_r04_node_0 k j0 = l_r04_node_0 (run M k) (lp_r04_node_2 k k) j0 := by
  induction j0 with
  | zero => exact lp_r04_node_0_zero k
  | succ j0 ih => rw [lp_r04_node_0_step]; simp only [ih]; rfl
theorem lp_r04_node_2_step (k : Nat) (j2 : Nat) : lp_r04_node_2 k (j2 + 1) = s_r04_node_2 (run M k) (lp_r04_node_4 k j2 j2) (lp_r04_node_2 k j2) := by kernel_rfl
theorem lp_r04_node_2_zero (k : Nat) : lp_r04_node_2 k 0 = fun _ _ => none := by kernel_rfl
theorem lp_r04_node_2_eq (k : Nat) (j2 : Nat) : lp_r04_node_2 k j2 = l_r04_node_2 (run M k) j2 := by
  induction j2 with
  | zero => exact lp_r04_node_2_zero k
  | succ j2 ih => rw [lp_r04_node_2_step]; simp only [lp_r04_node_4_eq, ih]; rfl
theorem e0_r04_node (k : Nat) (x0 : D tTypes) (x1 : D tI) : run M (k + 1) 83 [.val tTypes x0, .val tI x1] = b_r04_node (run M k) (lp_r04_node_0 k k) x0 x1 := by kernel_rfl
theorem e_r04_node (k : Nat) (x0 : D tTypes) (x1 : D tI) : run M (k + 1) f_r04_node [.val tTypes x0, .val tI x1] = b_r04_node (run M k) (l_r04_node_0 (run M k) (l_r04_node_2 (run M k) k) k) x0 x1 := by
  rw [show run M (k + 1) f_r04_node = run M (k + 1) 83 from rfl, e0_r04_node]; simp only [lp_r04_node_0_eq, lp_r04_node_2_eq]
noncomputable def b_r04_bound (R : RunT) (x0 : D tI) (x1 : D tI) : Res E :=
  (Option.bind (res .bool (R f_r04_in [.val tI x0, .val tI (0 : Int), .val tI (40 : Int)])) (fun r1 => (Option.bind (cond (r1 && !(decide (x1 = (-1 : Int)))) (res .bool (R f_r04_in [.val tI x1, .val tI x0, .val tI (40 : Int)])) (some (dflt E .bool))) (fun r2 => (some ⟨.bool, (cond r1 (cond (decide (x1 = (-1 : Int))) true r2) false)⟩)))))
theorem e_r04_bound (k : Nat) (x0 : D tI) (x1 : D tI) : run M (k + 1) f_r04_bound [.val tI x0, .val tI x1] = b_r04_bound (run M k) x0 x1 := by kernel_rfl
abbrev V_r04_edge_0 := (D tI) → (D tI) → (D (.slice tNodeType)) → (D (.slice tEdgeType)) → (D .str) → (D tI) → (D tI) → (D tI) → (D tI) → (D tI) → (D tI) → Res E
noncomputable def lp_r04_edge_0 (k : Nat) (j : Nat) (v1 : D tI) (v6 : D tI) (b2_0 : D (.slice tNodeType)) (b2_1 : D (.slice tEdgeType)) (b5_0 : D .str) (b5_1 : D tI) (b5_2 : D tI) (b5_3 : D tI) (b5_4 : D tI) (b5_5 : D tI) (b5_6 : D tI) : Res E :=
  loopAt M k 84 0 [] [] j ⟨63, [(1, .c (.leaf tI v1)), (2, .c (.ptr 2 0 0)), (5, .c (.ptr 5 0 0)), (6, .c (.leaf tI v6))], [(2, 0, .box [.leaf (.slice tNodeType) b2_0, .leaf (.slice tEdgeType) b2_1]), (5, 0, .box [.leaf .str b5_0, .leaf tI b5_1, .leaf tI b5_2, .leaf tI b5_3, .leaf tI b5_4, .leaf tI b5_5, .leaf tI b5_6])]⟩
noncomputable def s_r04_edge_0 (R : RunT) (self : V_r04_edge_0) (v1 : D tI) (v6 : D tI) (b2_0 : D (.slice tNodeType)) (b2_1 : D (.slice tEdgeType)) (b5_0 : D .str) (b5_1 : D tI) (b5_2 : D tI) (b5_3 : D tI) (b5_4 : D tI) (b5_5 : D tI) (b5_6 : D tI) : Res E :=
  (cond (decide (v6 < v1)) (cond (inB v6 (b2_1.length : Int)) (cond (beqS ((rd (E := E) (t := tEdgeType) b2_1 v6).1) b5_0) (some ⟨tI, (5 : Int)⟩) (self v1 (IntKind.i64.wrap (v6 + (1 : Int))) b2_0 b2_1 b5_0 b5_1 b5_2 b5_3 b5_4 b5_5 b5_6)) none) (Option.bind (res .bool (R f_r04_in [.val tI b5_1, .val tI (0 : Int), .val tI (IntKind.i64.wrap ((b2_0.length : Int) - (1 : Int)))])) (fun r1 => (Option.bind (cond (!(!r1)) (res .bool (R f_r04_in [.val tI b5_2, .val tI (0 : Int), .val tI (IntKind.i64.wrap ((b2_0.length : Int) - (1 : Int)))])) (some (dflt E .bool))) (fun r2 => (Option.bind (cond (!(cond (!r1) true (!r2))) (res .bool (R f_r04_bound [.val tI b5_3, .val tI b5_4])) (some (dflt E .bool))) (fun r3 => (Option.bind (cond (!(cond (cond (!r1) true (!r2)) true (!r3))) (res .bool (R f_r04_bound [.val tI b5_5, .val tI b5_6])) (some (dflt E .bool))) (fun r4 => (cond (cond (cond (cond (!r1) true (!r2)) true (!r3)) true (!r4)) (some ⟨tI, (6 : Int)⟩) (some ⟨tI, (0 : Int)⟩)))))))))))
noncomputable def l_r04_edge_0 (R : RunT) : Nat → V_r04_edge_0
  | 0 => fun _ _ _ _ _ _ _ _ _ _ _ => none
  | j + 1 => s_r04_edge_0 R (l_r04_edge_0 R j)
noncomputable def b_r04_edge (R : RunT) (c0 : V_r04_edge_0) (x0 : D tTypes) (x1 : D tI) : Res E :=
  (cond (inB x1 (x0.2.length : Int)) (Option.bind (res .bool (R f_r01_IsName [.val .str ((rd (E := E) (t := tEdgeType) x0.2 x1).1)])) (fun r1 => (cond (!r1) (some ⟨tI, (2 : Int)⟩) (c0 x1 (0 : Int) x0.1 x0.2 ((rd (E := E) (t := tEdgeType) x0.2 x1).1) (((rd (E := E) (t := tEdgeType) x0.2 x1).2).1) ((((rd (E := E) (t := tEdgeType) x0.2 x1).2).2).1) (((((rd (E := E) (t := tEdgeType) x0.2 x1).2).2).2).1) ((((((rd (E := E) (t := tEdgeType) x0.2 x1).2).2).2).2).1) (((((((rd (E := E) (t := tEdgeType) x0.2 x1).2).2).2).2).2).1) (((((((rd (E := E) (t := tEdgeType) x0.2 x1).2).2).2).2).2).2))))) none)
theorem lp_r04_edge_0_step (k : Nat) (j0 : Nat) : lp_r04_edge_0 k (j0 + 1) = s_r04_edge_0 (run M k) (lp_r04_edge_0 k j0) := by kernel_rfl
theorem lp_r04_edge_0_zero (k : Nat) : lp_r04_edge_0 k 0 = fun _ _ _ _ _ _ _ _ _ _ _ => none := by kernel_rfl
theorem lp_r04_edge_0_eq (k : Nat) (j0 : Nat) : lp_r04_edge_0 k j0 = l_r04_edge_0 (run M k) j0 := by
  induction j0 with
  | zero => exact lp_r04_edge_0_zero k
  | succ j0 ih => rw [lp_r04_edge_0_step]; simp only [ih]; rfl
theorem e0_r04_edge (k : Nat) (x0 : D tTypes) (x1 : D tI) : run M (k + 1) 84 [.val tTypes x0, .val tI x1] = b_r04_edge (run M k) (lp_r04_edge_0 k k) x0 x1 := by kernel_rfl
theorem e_r04_edge (k : Nat) (x0 : D tTypes) (x1 : D tI) : run M (k + 1) f_r04_edge [.val tTypes x0, .val tI x1] = b_r04_edge (run M k) (l_r04_edge_0 (run M k) k) x0 x1 := by
  rw [show run M (k + 1) f_r04_edge = run M (k + 1) 84 from rfl, e0_r04_edge]; simp only [lp_r04_edge_0_eq]
abbrev V_r04_Valid_0 := (D tI) → (D (.slice tNodeType)) → (D (.slice tEdgeType)) → Res E
noncomputable def lp_r04_Valid_0 (k : Nat) (j : Nat) (v4 : D tI) (b1_0 : D (.slice tNodeType)) (b1_1 : D (.slice tEdgeType)) : Res E :=
  loopAt M k 41 0 [] [] j ⟨60, [(1, .c (.ptr 1 0 0)), (4, .c (.leaf tI v4))], [(1, 0, .box [.leaf (.slice tNodeType) b1_0, .leaf (.slice tEdgeType) b1_1])]⟩
abbrev V_r04_Valid_2 := (D tI) → (D (.slice tNodeType)) → (D (.slice tEdgeType)) → Res E
noncomputable def lp_r04_Valid_2 (k : Nat) (j : Nat) (v6 : D tI) (b1_0 : D (.slice tNodeType)) (b1_1 : D (.slice tEdgeType)) : Res E :=
  loopAt M k 41 2 [] [] j ⟨60, [(1, .c (.ptr 1 0 0)), (6, .c (.leaf tI v6))], [(1, 0, .box [.leaf (.slice tNodeType) b1_0, .leaf (.slice tEdgeType) b1_1])]⟩
noncomputable def s_r04_Valid_0 (R : RunT) (c2 : V_r04_Valid_2) (self : V_r04_Valid_0) (v4 : D tI) (b1_0 : D (.slice tNodeType)) (b1_1 : D (.slice tEdgeType)) : Res E :=
  (cond (decide (v4 < (b1_0.length : Int))) (Option.bind (res tI (R f_r04_node [.val tTypes (b1_0, b1_1), .val tI v4])) (fun r1 => (cond (!(decide (r1 = (0 : Int)))) (cond (inB v4 (b1_0.length : Int)) (some ⟨(.pair .str tI), ((rd (E := E) (t := tNodeType) b1_0 v4).1, r1)⟩) none) (self (IntKind.i64.wrap (v4 + (1 : Int))) b1_0 b1_1)))) (c2 (0 : Int) b1_0 b1_1))
noncomputable def s_r04_Valid_2 (R : RunT) (self : V_r04_Valid_2) (v6 : D tI) (b1_0 : D (.slice tNodeType)) (b1_1 : D (.slice tEdgeType)) : Res E :=
  (cond (decide (v6 < (b1_1.length : Int))) (Option.bind (res tI (R f_r04_edge [.val tTypes (b1_0, b1_1), .val tI v6])) (fun r1 => (cond (!(decide (r1 = (0 : Int)))) (cond (inB v6 (b1_1.length : Int)) (some ⟨(.pair .str tI), ((rd (E := E) (t := tEdgeType) b1_1 v6).1, r1)⟩) none) (self (IntKind.i64.wrap (v6 + (1 : Int))) b1_0 b1_1)))) (some ⟨(.pair .str tI), ((⟨#[]⟩ : ByteArray), (0 : Int))⟩))
noncomputable def l_r04_Valid_0 (R : RunT) (c2 : V_r04_Valid_2) : Nat → V_r04_Valid_0
  | 0 => fun _ _ _ => none
  | j + 1 => s_r04_Valid_0 R c2 (l_r04_Valid_0 R c2 j)
noncomputable def l_r04_Valid_2 (R : RunT) : Nat → V_r04_Valid_2
  | 0 => fun _ _ _ => none
  | j + 1 => s_r04_Valid_2 R (l_r04_Valid_2 R j)
noncomputable def b_r04_Valid (R : RunT) (c0 : V_r04_Valid_0) (x0 : D tTypes) : Res E :=
  (cond (decide ((x0.1.length : Int) = (0 : Int))) (some ⟨(.pair .str tI), ((⟨#[]⟩ : ByteArray), (7 : Int))⟩) (cond (cond (decide ((12 : Int) < (x0.1.length : Int))) true (decide ((20 : Int) < (x0.2.length : Int)))) (some ⟨(.pair .str tI), ((⟨#[]⟩ : ByteArray), (3 : Int))⟩) (c0 (0 : Int) x0.1 x0.2)))
theorem lp_r04_Valid_0_step (k : Nat) (j0 : Nat) : lp_r04_Valid_0 k (j0 + 1) = s_r04_Valid_0 (run M k) (lp_r04_Valid_2 k k) (lp_r04_Valid_0 k j0) := by kernel_rfl
theorem lp_r04_Valid_0_zero (k : Nat) : lp_r04_Valid_0 k 0 = fun _ _ _ => none := by kernel_rfl
theorem lp_r04_Valid_0_eq (k : Nat) (j0 : Nat) : lp_r04_Valid_0 k j0 = l_r04_Valid_0 (run M k) (lp_r04_Valid_2 k k) j0 := by
  induction j0 with
  | zero => exact lp_r04_Valid_0_zero k
  | succ j0 ih => rw [lp_r04_Valid_0_step]; simp only [ih]; rfl
theorem lp_r04_Valid_2_step (k : Nat) (j2 : Nat) : lp_r04_Valid_2 k (j2 + 1) = s_r04_Valid_2 (run M k) (lp_r04_Valid_2 k j2) := by kernel_rfl
theorem lp_r04_Valid_2_zero (k : Nat) : lp_r04_Valid_2 k 0 = fun _ _ _ => none := by kernel_rfl
theorem lp_r04_Valid_2_eq (k : Nat) (j2 : Nat) : lp_r04_Valid_2 k j2 = l_r04_Valid_2 (run M k) j2 := by
  induction j2 with
  | zero => exact lp_r04_Valid_2_zero k
  | succ j2 ih => rw [lp_r04_Valid_2_step]; simp only [ih]; rfl
theorem e0_r04_Valid (k : Nat) (x0 : D tTypes) : run M (k + 1) 41 [.val tTypes x0] = b_r04_Valid (run M k) (lp_r04_Valid_0 k k) x0 := by kernel_rfl
theorem e_r04_Valid (k : Nat) (x0 : D tTypes) : run M (k + 1) f_r04_Valid [.val tTypes x0] = b_r04_Valid (run M k) (l_r04_Valid_0 (run M k) (l_r04_Valid_2 (run M k) k) k) x0 := by
  rw [show run M (k + 1) f_r04_Valid = run M (k + 1) 41 from rfl, e0_r04_Valid]; simp only [lp_r04_Valid_0_eq, lp_r04_Valid_2_eq]
abbrev V_r42_Leaf_0 := (D tI) → (D tI) → (D (.slice tNodeType)) → (D (.slice tEdgeType)) → Res E
noncomputable def lp_r42_Leaf_0 (k : Nat) (j : Nat) (v1 : D tI) (v5 : D tI) (b2_0 : D (.slice tNodeType)) (b2_1 : D (.slice tEdgeType)) : Res E :=
  loopAt M k 23 0 [] [] j ⟨21, [(1, .c (.leaf tI v1)), (2, .c (.ptr 2 0 0)), (5, .c (.leaf tI v5))], [(2, 0, .box [.leaf (.slice tNodeType) b2_0, .leaf (.slice tEdgeType) b2_1])]⟩
noncomputable def s_r42_Leaf_0 (R : RunT) (self : V_r42_Leaf_0) (v1 : D tI) (v5 : D tI) (b2_0 : D (.slice tNodeType)) (b2_1 : D (.slice tEdgeType)) : Res E :=
  (cond (decide (v5 < (b2_0.length : Int))) (cond (inB v5 (b2_0.length : Int)) (cond (decide (((rd (E := E) (t := tNodeType) b2_0 v5).2).1 = v1)) (some ⟨.bool, false⟩) (self v1 (IntKind.i64.wrap (v5 + (1 : Int))) b2_0 b2_1)) none) (some ⟨.bool, true⟩))
noncomputable def l_r42_Leaf_0 (R : RunT) : Nat → V_r42_Leaf_0
  | 0 => fun _ _ _ _ => none
  | j + 1 => s_r42_Leaf_0 R (l_r42_Leaf_0 R j)
noncomputable def b_r42_Leaf (R : RunT) (c0 : V_r42_Leaf_0) (x0 : D tTypes) (x1 : D tI) : Res E :=
  (c0 x1 (0 : Int) x0.1 x0.2)
theorem lp_r42_Leaf_0_step (k : Nat) (j0 : Nat) : lp_r42_Leaf_0 k (j0 + 1) = s_r42_Leaf_0 (run M k) (lp_r42_Leaf_0 k j0) := by kernel_rfl
theorem lp_r42_Leaf_0_zero (k : Nat) : lp_r42_Leaf_0 k 0 = fun _ _ _ _ => none := by kernel_rfl
theorem lp_r42_Leaf_0_eq (k : Nat) (j0 : Nat) : lp_r42_Leaf_0 k j0 = l_r42_Leaf_0 (run M k) j0 := by
  induction j0 with
  | zero => exact lp_r42_Leaf_0_zero k
  | succ j0 ih => rw [lp_r42_Leaf_0_step]; simp only [ih]; rfl
theorem e0_r42_Leaf (k : Nat) (x0 : D tTypes) (x1 : D tI) : run M (k + 1) 23 [.val tTypes x0, .val tI x1] = b_r42_Leaf (run M k) (lp_r42_Leaf_0 k k) x0 x1 := by kernel_rfl
theorem e_r42_Leaf (k : Nat) (x0 : D tTypes) (x1 : D tI) : run M (k + 1) f_r42_Leaf [.val tTypes x0, .val tI x1] = b_r42_Leaf (run M k) (l_r42_Leaf_0 (run M k) k) x0 x1 := by
  rw [show run M (k + 1) f_r42_Leaf = run M (k + 1) 23 from rfl, e0_r42_Leaf]; simp only [lp_r42_Leaf_0_eq]
noncomputable def b_r04_given (R : RunT) (x0 : D tTypes) (x1 : D tI) (x2 : D tI) : Res E :=
  (Option.bind (res (.pair .str tI) (R f_r04_Valid [.val tTypes (x0.1, x0.2)])) (fun r1 => (cond (!(decide (r1.2 = (0 : Int)))) (some ⟨tI, r1.2⟩) (Option.bind (res .bool (R f_r04_in [.val tI x1, .val tI (0 : Int), .val tI (IntKind.i64.wrap ((x0.1.length : Int) - (1 : Int)))])) (fun r2 => (Option.bind (cond (!(!r2)) (res .bool (R f_r04_in [.val tI x2, .val tI (0 : Int), .val tI (IntKind.i64.wrap ((x0.1.length : Int) - (1 : Int)))])) (some (dflt E .bool))) (fun r3 => (cond (cond (!r2) true (!r3)) (some ⟨tI, (6 : Int)⟩) (some ⟨tI, (0 : Int)⟩)))))))))
theorem e_r04_given (k : Nat) (x0 : D tTypes) (x1 : D tI) (x2 : D tI) : run M (k + 1) f_r04_given [.val tTypes x0, .val tI x1, .val tI x2] = b_r04_given (run M k) x0 x1 x2 := by kernel_rfl
noncomputable def b_r04_Below1 (R : RunT) (x0 : D tTypes) (x1 : D tI) (x2 : D tI) : Res E :=
  (cond ((inB x1 (x0.1.length : Int)) || !(!(decide (x1 = x2)) && (decide ((0 : Int) ≤ x1)))) (Option.bind (cond (!(decide (x1 = x2)) && (decide ((0 : Int) ≤ x1))) (res .bool (R f_r04_Below1 [.val tTypes (x0.1, x0.2), .val tI (((rd (E := E) (t := tNodeType) x0.1 x1).2).1), .val tI x2])) (some (dflt E .bool))) (fun r1 => (some ⟨.bool, (cond (decide (x1 = x2)) true (cond (decide ((0 : Int) ≤ x1)) r1 false))⟩))) none)
theorem e_r04_Below1 (k : Nat) (x0 : D tTypes) (x1 : D tI) (x2 : D tI) : run M (k + 1) f_r04_Below1 [.val tTypes x0, .val tI x1, .val tI x2] = b_r04_Below1 (run M k) x0 x1 x2 := by kernel_rfl
noncomputable def b_r04_Fits (R : RunT) (x0 : D tTypes) (x1 : D tI) (x2 : D tI) (x3 : D tI) : Res E :=
  (Option.bind (res tI (R f_r04_given [.val tTypes (x0.1, x0.2), .val tI x2, .val tI x3])) (fun r1 => (Option.bind (cond (!(!(decide (r1 = (0 : Int))))) (res .bool (R f_r04_in [.val tI x1, .val tI (0 : Int), .val tI (IntKind.i64.wrap ((x0.2.length : Int) - (1 : Int)))])) (some (dflt E .bool))) (fun r2 => (cond (cond (!(decide (r1 = (0 : Int)))) true (!r2)) (some ⟨.bool, false⟩) (cond (inB x1 (x0.2.length : Int)) (Option.bind (res .bool (R f_r04_Below1 [.val tTypes (x0.1, x0.2), .val tI x2, .val tI (((rd (E := E) (t := tEdgeType) x0.2 x1).2).1)])) (fun r3 => (cond ((inB x1 (x0.2.length : Int)) || !r3) (Option.bind (cond r3 (res .bool (R f_r04_Below1 [.val tTypes (x0.1, x0.2), .val tI x3, .val tI ((((rd (E := E) (t := tEdgeType) x0.2 x1).2).2).1)])) (some (dflt E .bool))) (fun r4 => (some ⟨.bool, (cond r3 r4 false)⟩))) none))) none))))))
theorem e_r04_Fits (k : Nat) (x0 : D tTypes) (x1 : D tI) (x2 : D tI) (x3 : D tI) : run M (k + 1) f_r04_Fits [.val tTypes x0, .val tI x1, .val tI x2, .val tI x3] = b_r04_Fits (run M k) x0 x1 x2 x3 := by kernel_rfl
abbrev V_r42_Leaves_0 := (D tI) → (D (.slice tNodeType)) → (D (.slice tEdgeType)) → (D (.slice tI)) → (D (.slice tEdge)) → Res E
noncomputable def lp_r42_Leaves_0 (k : Nat) (j : Nat) (v5 : D tI) (b2_0 : D (.slice tNodeType)) (b2_1 : D (.slice tEdgeType)) (b3_0 : D (.slice tI)) (b3_1 : D (.slice tEdge)) : Res E :=
  loopAt M k 42 0 [] [] j ⟨63, [(2, .c (.ptr 2 0 0)), (3, .c (.ptr 3 0 0)), (5, .c (.leaf tI v5))], [(2, 0, .box [.leaf (.slice tNodeType) b2_0, .leaf (.slice tEdgeType) b2_1]), (3, 0, .box [.leaf (.slice tI) b3_0, .leaf (.slice tEdge) b3_1])]⟩
abbrev V_r42_Leaves_2 := (D tI) → (D (.slice tNodeType)) → (D (.slice tEdgeType)) → (D (.slice tI)) → (D (.slice tEdge)) → Res E
noncomputable def lp_r42_Leaves_2 (k : Nat) (j : Nat) (v6 : D tI) (b2_0 : D (.slice tNodeType)) (b2_1 : D (.slice tEdgeType)) (b3_0 : D (.slice tI)) (b3_1 : D (.slice tEdge)) : Res E :=
  loopAt M k 42 2 [] [] j ⟨63, [(2, .c (.ptr 2 0 0)), (3, .c (.ptr 3 0 0)), (6, .c (.leaf tI v6))], [(2, 0, .box [.leaf (.slice tNodeType) b2_0, .leaf (.slice tEdgeType) b2_1]), (3, 0, .box [.leaf (.slice tI) b3_0, .leaf (.slice tEdge) b3_1])]⟩
noncomputable def s_r42_Leaves_0 (R : RunT) (c2 : V_r42_Leaves_2) (self : V_r42_Leaves_0) (v5 : D tI) (b2_0 : D (.slice tNodeType)) (b2_1 : D (.slice tEdgeType)) (b3_0 : D (.slice tI)) (b3_1 : D (.slice tEdge)) : Res E :=
  (cond (decide (v5 < (b3_0.length : Int))) (cond (inB v5 (b3_0.length : Int)) (cond ((inB v5 (b3_0.length : Int)) || !(!(decide ((b2_0.length : Int) ≤ (rd (E := E) (t := tI) b3_0 v5))))) (Option.bind (cond (!(decide ((b2_0.length : Int) ≤ (rd (E := E) (t := tI) b3_0 v5)))) (res .bool (R f_r42_Leaf [.val tTypes (b2_0, b2_1), .val tI (rd (E := E) (t := tI) b3_0 v5)])) (some (dflt E .bool))) (fun r1 => (cond (cond (decide ((b2_0.length : Int) ≤ (rd (E := E) (t := tI) b3_0 v5))) true (!r1)) (some ⟨.bool, false⟩) (self (IntKind.i64.wrap (v5 + (1 : Int))) b2_0 b2_1 b3_0 b3_1)))) none) none) (c2 (0 : Int) b2_0 b2_1 b3_0 b3_1))
noncomputable def s_r42_Leaves_2 (R : RunT) (self : V_r42_Leaves_2) (v6 : D tI) (b2_0 : D (.slice tNodeType)) (b2_1 : D (.slice tEdgeType)) (b3_0 : D (.slice tI)) (b3_1 : D (.slice tEdge)) : Res E :=
  (cond (decide (v6 < (b3_1.length : Int))) (cond (inB v6 (b3_1.length : Int)) (cond (inB (((rd (E := E) (t := tEdge) b3_1 v6).2).1) (b3_0.length : Int)) (cond (inB (((rd (E := E) (t := tEdge) b3_1 v6).2).2) (b3_0.length : Int)) (Option.bind (res .bool (R f_r04_Fits [.val tTypes (b2_0, b2_1), .val tI ((rd (E := E) (t := tEdge) b3_1 v6).1), .val tI (rd (E := E) (t := tI) b3_0 (((rd (E := E) (t := tEdge) b3_1 v6).2).1)), .val tI (rd (E := E) (t := tI) b3_0 (((rd (E := E) (t := tEdge) b3_1 v6).2).2))])) (fun r1 => (cond (!r1) (some ⟨.bool, false⟩) (self (IntKind.i64.wrap (v6 + (1 : Int))) b2_0 b2_1 b3_0 b3_1)))) none) none) none) (some ⟨.bool, true⟩))
noncomputable def l_r42_Leaves_0 (R : RunT) (c2 : V_r42_Leaves_2) : Nat → V_r42_Leaves_0
  | 0 => fun _ _ _ _ _ => none
  | j + 1 => s_r42_Leaves_0 R c2 (l_r42_Leaves_0 R c2 j)
noncomputable def l_r42_Leaves_2 (R : RunT) : Nat → V_r42_Leaves_2
  | 0 => fun _ _ _ _ _ => none
  | j + 1 => s_r42_Leaves_2 R (l_r42_Leaves_2 R j)
noncomputable def b_r42_Leaves (R : RunT) (c0 : V_r42_Leaves_0) (x0 : D tTypes) (x1 : D tGraph) : Res E :=
  (c0 (0 : Int) x0.1 x0.2 x1.1 x1.2)
theorem lp_r42_Leaves_0_step (k : Nat) (j0 : Nat) : lp_r42_Leaves_0 k (j0 + 1) = s_r42_Leaves_0 (run M k) (lp_r42_Leaves_2 k k) (lp_r42_Leaves_0 k j0) := by kernel_rfl
theorem lp_r42_Leaves_0_zero (k : Nat) : lp_r42_Leaves_0 k 0 = fun _ _ _ _ _ => none := by kernel_rfl
theorem lp_r42_Leaves_0_eq (k : Nat) (j0 : Nat) : lp_r42_Leaves_0 k j0 = l_r42_Leaves_0 (run M k) (lp_r42_Leaves_2 k k) j0 := by
  induction j0 with
  | zero => exact lp_r42_Leaves_0_zero k
  | succ j0 ih => rw [lp_r42_Leaves_0_step]; simp only [ih]; rfl
theorem lp_r42_Leaves_2_step (k : Nat) (j2 : Nat) : lp_r42_Leaves_2 k (j2 + 1) = s_r42_Leaves_2 (run M k) (lp_r42_Leaves_2 k j2) := by kernel_rfl
theorem lp_r42_Leaves_2_zero (k : Nat) : lp_r42_Leaves_2 k 0 = fun _ _ _ _ _ => none := by kernel_rfl
theorem lp_r42_Leaves_2_eq (k : Nat) (j2 : Nat) : lp_r42_Leaves_2 k j2 = l_r42_Leaves_2 (run M k) j2 := by
  induction j2 with
  | zero => exact lp_r42_Leaves_2_zero k
  | succ j2 ih => rw [lp_r42_Leaves_2_step]; simp only [ih]; rfl
theorem e0_r42_Leaves (k : Nat) (x0 : D tTypes) (x1 : D tGraph) : run M (k + 1) 42 [.val tTypes x0, .val tGraph x1] = b_r42_Leaves (run M k) (lp_r42_Leaves_0 k k) x0 x1 := by kernel_rfl
theorem e_r42_Leaves (k : Nat) (x0 : D tTypes) (x1 : D tGraph) : run M (k + 1) f_r42_Leaves [.val tTypes x0, .val tGraph x1] = b_r42_Leaves (run M k) (l_r42_Leaves_0 (run M k) (l_r42_Leaves_2 (run M k) k) k) x0 x1 := by
  rw [show run M (k + 1) f_r42_Leaves = run M (k + 1) 42 from rfl, e0_r42_Leaves]; simp only [lp_r42_Leaves_0_eq, lp_r42_Leaves_2_eq]
abbrev V_r42_Valid_0 := (D tI) → (D (.slice tNodeType)) → (D (.slice tEdgeType)) → (D .str) → (D tI) → (D (.slice tI)) → (D (.slice tEdge)) → (D (.slice tExtension)) → Res E
noncomputable def lp_r42_Valid_0 (k : Nat) (j : Nat) (v8 : D tI) (b2_0 : D (.slice tNodeType)) (b2_1 : D (.slice tEdgeType)) (b3_0 : D .str) (b3_1 : D tI) (b3_2 : D (.slice tI)) (b3_3 : D (.slice tEdge)) (b3_4 : D (.slice tExtension)) : Res E :=
  loopAt M k 13 0 [] [] j ⟨43, [(2, .c (.ptr 2 0 0)), (3, .c (.ptr 3 0 0)), (8, .c (.leaf tI v8))], [(2, 0, .box [.leaf (.slice tNodeType) b2_0, .leaf (.slice tEdgeType) b2_1]), (3, 0, .box [.leaf .str b3_0, .leaf tI b3_1, .leaf (.slice tI) b3_2, .leaf (.slice tEdge) b3_3, .leaf (.slice tExtension) b3_4])]⟩
noncomputable def s_r42_Valid_0 (R : RunT) (self : V_r42_Valid_0) (v8 : D tI) (b2_0 : D (.slice tNodeType)) (b2_1 : D (.slice tEdgeType)) (b3_0 : D .str) (b3_1 : D tI) (b3_2 : D (.slice tI)) (b3_3 : D (.slice tEdge)) (b3_4 : D (.slice tExtension)) : Res E :=
  (cond (decide (v8 < (b3_4.length : Int))) (cond (inB v8 (b3_4.length : Int)) (Option.bind (res .bool (R f_r42_Leaves [.val tTypes (b2_0, b2_1), .val tGraph (((rd (E := E) (t := tExtension) b3_4 v8).2).1, ((rd (E := E) (t := tExtension) b3_4 v8).2).2)])) (fun r1 => (cond (!r1) (some ⟨tI, (13 : Int)⟩) (self (IntKind.i64.wrap (v8 + (1 : Int))) b2_0 b2_1 b3_0 b3_1 b3_2 b3_3 b3_4)))) none) (some ⟨tI, (0 : Int)⟩))
noncomputable def l_r42_Valid_0 (R : RunT) : Nat → V_r42_Valid_0
  | 0 => fun _ _ _ _ _ _ _ _ => none
  | j + 1 => s_r42_Valid_0 R (l_r42_Valid_0 R j)
noncomputable def b_r42_Valid (R : RunT) (c0 : V_r42_Valid_0) (x0 : D tTypes) (x1 : D tConstraint) : Res E :=
  (Option.bind (res (.pair .str tI) (R f_r04_Valid [.val tTypes (x0.1, x0.2)])) (fun r1 => (cond (!(decide (r1.2 = (0 : Int)))) (some ⟨tI, r1.2⟩) (Option.bind (res tI (R f_r42_Shape [.val tConstraint (x1.1, (x1.2.1, ((x1.2.2.1.1, x1.2.2.1.2), x1.2.2.2)))])) (fun r2 => (cond (!(decide (r2 = (0 : Int)))) (some ⟨tI, r2⟩) (Option.bind (res .bool (R f_r42_Leaves [.val tTypes (x0.1, x0.2), .val tGraph (x1.2.2.1.1, x1.2.2.1.2)])) (fun r3 => (cond (!r3) (some ⟨tI, (13 : Int)⟩) (c0 (0 : Int) x0.1 x0.2 x1.1 x1.2.1 x1.2.2.1.1 x1.2.2.1.2 x1.2.2.2))))))))))
theorem lp_r42_Valid_0_step (k : Nat) (j0 : Nat) : lp_r42_Valid_0 k (j0 + 1) = s_r42_Valid_0 (run M k) (lp_r42_Valid_0 k j0) := by kernel_rfl
theorem lp_r42_Valid_0_zero (k : Nat) : lp_r42_Valid_0 k 0 = fun _ _ _ _ _ _ _ _ => none := by kernel_rfl
theorem lp_r42_Valid_0_eq (k : Nat) (j0 : Nat) : lp_r42_Valid_0 k j0 = l_r42_Valid_0 (run M k) j0 := by
  induction j0 with
  | zero => exact lp_r42_Valid_0_zero k
  | succ j0 ih => rw [lp_r42_Valid_0_step]; simp only [ih]; rfl
theorem e0_r42_Valid (k : Nat) (x0 : D tTypes) (x1 : D tConstraint) : run M (k + 1) 13 [.val tTypes x0, .val tConstraint x1] = b_r42_Valid (run M k) (lp_r42_Valid_0 k k) x0 x1 := by kernel_rfl
theorem e_r42_Valid (k : Nat) (x0 : D tTypes) (x1 : D tConstraint) : run M (k + 1) f_r42_Valid [.val tTypes x0, .val tConstraint x1] = b_r42_Valid (run M k) (l_r42_Valid_0 (run M k) k) x0 x1 := by
  rw [show run M (k + 1) f_r42_Valid = run M (k + 1) 13 from rfl, e0_r42_Valid]; simp only [lp_r42_Valid_0_eq]
abbrev V_r02_SameInts_0 := (D (.slice tI)) → (D (.slice tI)) → (D tI) → Res E
noncomputable def lp_r02_SameInts_0 (k : Nat) (j : Nat) (v0 : D (.slice tI)) (v1 : D (.slice tI)) (v5 : D tI) : Res E :=
  loopAt M k 46 0 [] [] j ⟨26, [(0, .c (.leaf (.slice tI) v0)), (1, .c (.leaf (.slice tI) v1)), (5, .c (.leaf tI v5))], []⟩
noncomputable def s_r02_SameInts_0 (R : RunT) (self : V_r02_SameInts_0) (v0 : D (.slice tI)) (v1 : D (.slice tI)) (v5 : D tI) : Res E :=
  (cond (decide (v5 < (v0.length : Int))) (cond (inB v5 (v0.length : Int)) (cond (inB v5 (v1.length : Int)) (cond (!(decide ((rd (E := E) (t := tI) v0 v5) = (rd (E := E) (t := tI) v1 v5)))) (some ⟨.bool, false⟩) (self v0 v1 (IntKind.i64.wrap (v5 + (1 : Int))))) none) none) (some ⟨.bool, true⟩))
noncomputable def l_r02_SameInts_0 (R : RunT) : Nat → V_r02_SameInts_0
  | 0 => fun _ _ _ => none
  | j + 1 => s_r02_SameInts_0 R (l_r02_SameInts_0 R j)
noncomputable def b_r02_SameInts (R : RunT) (c0 : V_r02_SameInts_0) (x0 : D (.slice tI)) (x1 : D (.slice tI)) : Res E :=
  (cond (!(decide ((x0.length : Int) = (x1.length : Int)))) (some ⟨.bool, false⟩) (c0 x0 x1 (0 : Int)))
theorem lp_r02_SameInts_0_step (k : Nat) (j0 : Nat) : lp_r02_SameInts_0 k (j0 + 1) = s_r02_SameInts_0 (run M k) (lp_r02_SameInts_0 k j0) := by kernel_rfl
theorem lp_r02_SameInts_0_zero (k : Nat) : lp_r02_SameInts_0 k 0 = fun _ _ _ => none := by kernel_rfl
theorem lp_r02_SameInts_0_eq (k : Nat) (j0 : Nat) : lp_r02_SameInts_0 k j0 = l_r02_SameInts_0 (run M k) j0 := by
  induction j0 with
  | zero => exact lp_r02_SameInts_0_zero k
  | succ j0 ih => rw [lp_r02_SameInts_0_step]; simp only [ih]; rfl
theorem e0_r02_SameInts (k : Nat) (x0 : D (.slice tI)) (x1 : D (.slice tI)) : run M (k + 1) 46 [.val (.slice tI) x0, .val (.slice tI) x1] = b_r02_SameInts (run M k) (lp_r02_SameInts_0 k k) x0 x1 := by kernel_rfl
theorem e_r02_SameInts (k : Nat) (x0 : D (.slice tI)) (x1 : D (.slice tI)) : run M (k + 1) f_r02_SameInts [.val (.slice tI) x0, .val (.slice tI) x1] = b_r02_SameInts (run M k) (l_r02_SameInts_0 (run M k) k) x0 x1 := by
  rw [show run M (k + 1) f_r02_SameInts = run M (k + 1) 46 from rfl, e0_r02_SameInts]; simp only [lp_r02_SameInts_0_eq]
noncomputable def b_r06_Same (R : RunT) (x0 : D tMorphism) (x1 : D tMorphism) : Res E :=
  (Option.bind (res .bool (R f_r02_SameInts [.val (.slice tI) x0.1, .val (.slice tI) x1.1])) (fun r1 => (Option.bind (cond r1 (res .bool (R f_r02_SameInts [.val (.slice tI) x0.2, .val (.slice tI) x1.2])) (some (dflt E .bool))) (fun r2 => (some ⟨.bool, (cond r1 r2 false)⟩)))))
theorem e_r06_Same (k : Nat) (x0 : D tMorphism) (x1 : D tMorphism) : run M (k + 1) f_r06_Same [.val tMorphism x0, .val tMorphism x1] = b_r06_Same (run M k) x0 x1 := by kernel_rfl
abbrev V_r05_SameInts_0 := (D (.slice tI)) → (D (.slice tI)) → (D tI) → Res E
noncomputable def lp_r05_SameInts_0 (k : Nat) (j : Nat) (v0 : D (.slice tI)) (v1 : D (.slice tI)) (v5 : D tI) : Res E :=
  loopAt M k 85 0 [] [] j ⟨26, [(0, .c (.leaf (.slice tI) v0)), (1, .c (.leaf (.slice tI) v1)), (5, .c (.leaf tI v5))], []⟩
noncomputable def s_r05_SameInts_0 (R : RunT) (self : V_r05_SameInts_0) (v0 : D (.slice tI)) (v1 : D (.slice tI)) (v5 : D tI) : Res E :=
  (cond (decide (v5 < (v0.length : Int))) (cond (inB v5 (v0.length : Int)) (cond (inB v5 (v1.length : Int)) (cond (!(decide ((rd (E := E) (t := tI) v0 v5) = (rd (E := E) (t := tI) v1 v5)))) (some ⟨.bool, false⟩) (self v0 v1 (IntKind.i64.wrap (v5 + (1 : Int))))) none) none) (some ⟨.bool, true⟩))
noncomputable def l_r05_SameInts_0 (R : RunT) : Nat → V_r05_SameInts_0
  | 0 => fun _ _ _ => none
  | j + 1 => s_r05_SameInts_0 R (l_r05_SameInts_0 R j)
noncomputable def b_r05_SameInts (R : RunT) (c0 : V_r05_SameInts_0) (x0 : D (.slice tI)) (x1 : D (.slice tI)) : Res E :=
  (cond (!(decide ((x0.length : Int) = (x1.length : Int)))) (some ⟨.bool, false⟩) (c0 x0 x1 (0 : Int)))
theorem lp_r05_SameInts_0_step (k : Nat) (j0 : Nat) : lp_r05_SameInts_0 k (j0 + 1) = s_r05_SameInts_0 (run M k) (lp_r05_SameInts_0 k j0) := by kernel_rfl
theorem lp_r05_SameInts_0_zero (k : Nat) : lp_r05_SameInts_0 k 0 = fun _ _ _ => none := by kernel_rfl
theorem lp_r05_SameInts_0_eq (k : Nat) (j0 : Nat) : lp_r05_SameInts_0 k j0 = l_r05_SameInts_0 (run M k) j0 := by
  induction j0 with
  | zero => exact lp_r05_SameInts_0_zero k
  | succ j0 ih => rw [lp_r05_SameInts_0_step]; simp only [ih]; rfl
theorem e0_r05_SameInts (k : Nat) (x0 : D (.slice tI)) (x1 : D (.slice tI)) : run M (k + 1) 85 [.val (.slice tI) x0, .val (.slice tI) x1] = b_r05_SameInts (run M k) (lp_r05_SameInts_0 k k) x0 x1 := by kernel_rfl
theorem e_r05_SameInts (k : Nat) (x0 : D (.slice tI)) (x1 : D (.slice tI)) : run M (k + 1) f_r05_SameInts [.val (.slice tI) x0, .val (.slice tI) x1] = b_r05_SameInts (run M k) (l_r05_SameInts_0 (run M k) k) x0 x1 := by
  rw [show run M (k + 1) f_r05_SameInts = run M (k + 1) 85 from rfl, e0_r05_SameInts]; simp only [lp_r05_SameInts_0_eq]
abbrev V_r05_Same_0 := (D tI) → (D (.slice tI)) → (D (.slice tEdge)) → (D (.slice tI)) → (D (.slice tEdge)) → Res E
noncomputable def lp_r05_Same_0 (k : Nat) (j : Nat) (v5 : D tI) (b2_0 : D (.slice tI)) (b2_1 : D (.slice tEdge)) (b3_0 : D (.slice tI)) (b3_1 : D (.slice tEdge)) : Res E :=
  loopAt M k 43 0 [] [] j ⟨39, [(2, .c (.ptr 2 0 0)), (3, .c (.ptr 3 0 0)), (5, .c (.leaf tI v5))], [(2, 0, .box [.leaf (.slice tI) b2_0, .leaf (.slice tEdge) b2_1]), (3, 0, .box [.leaf (.slice tI) b3_0, .leaf (.slice tEdge) b3_1])]⟩
noncomputable def s_r05_Same_0 (R : RunT) (self : V_r05_Same_0) (v5 : D tI) (b2_0 : D (.slice tI)) (b2_1 : D (.slice tEdge)) (b3_0 : D (.slice tI)) (b3_1 : D (.slice tEdge)) : Res E :=
  (cond (decide (v5 < (b2_1.length : Int))) (cond (inB v5 (b2_1.length : Int)) (cond (inB v5 (b3_1.length : Int)) (cond (!((decide ((rd (E := E) (t := tEdge) b2_1 v5).1 = (rd (E := E) (t := tEdge) b3_1 v5).1)) && ((decide (((rd (E := E) (t := tEdge) b2_1 v5).2).1 = ((rd (E := E) (t := tEdge) b3_1 v5).2).1)) && (decide (((rd (E := E) (t := tEdge) b2_1 v5).2).2 = ((rd (E := E) (t := tEdge) b3_1 v5).2).2))))) (some ⟨.bool, false⟩) (self (IntKind.i64.wrap (v5 + (1 : Int))) b2_0 b2_1 b3_0 b3_1)) none) none) (some ⟨.bool, true⟩))
noncomputable def l_r05_Same_0 (R : RunT) : Nat → V_r05_Same_0
  | 0 => fun _ _ _ _ _ => none
  | j + 1 => s_r05_Same_0 R (l_r05_Same_0 R j)
noncomputable def b_r05_Same (R : RunT) (c0 : V_r05_Same_0) (x0 : D tGraph) (x1 : D tGraph) : Res E :=
  (Option.bind (res .bool (R f_r05_SameInts [.val (.slice tI) x0.1, .val (.slice tI) x1.1])) (fun r1 => (cond (cond (!r1) true (!(decide ((x0.2.length : Int) = (x1.2.length : Int))))) (some ⟨.bool, false⟩) (c0 (0 : Int) x0.1 x0.2 x1.1 x1.2))))
theorem lp_r05_Same_0_step (k : Nat) (j0 : Nat) : lp_r05_Same_0 k (j0 + 1) = s_r05_Same_0 (run M k) (lp_r05_Same_0 k j0) := by kernel_rfl
theorem lp_r05_Same_0_zero (k : Nat) : lp_r05_Same_0 k 0 = fun _ _ _ _ _ => none := by kernel_rfl
theorem lp_r05_Same_0_eq (k : Nat) (j0 : Nat) : lp_r05_Same_0 k j0 = l_r05_Same_0 (run M k) j0 := by
  induction j0 with
  | zero => exact lp_r05_Same_0_zero k
  | succ j0 ih => rw [lp_r05_Same_0_step]; simp only [ih]; rfl
theorem e0_r05_Same (k : Nat) (x0 : D tGraph) (x1 : D tGraph) : run M (k + 1) 43 [.val tGraph x0, .val tGraph x1] = b_r05_Same (run M k) (lp_r05_Same_0 k k) x0 x1 := by kernel_rfl
theorem e_r05_Same (k : Nat) (x0 : D tGraph) (x1 : D tGraph) : run M (k + 1) f_r05_Same [.val tGraph x0, .val tGraph x1] = b_r05_Same (run M k) (l_r05_Same_0 (run M k) k) x0 x1 := by
  rw [show run M (k + 1) f_r05_Same = run M (k + 1) 43 from rfl, e0_r05_Same]; simp only [lp_r05_Same_0_eq]
end Go.Proofs.AM

namespace Go.Proofs.AM
open Go
set_option maxRecDepth 100000
abbrev V_r33_Same_0 := (D tI) → (D tI) → (D (.slice (.nom 0))) → (D (.slice tI)) → (D (.slice tI)) → (D (.slice tI)) → (D (.slice tEdge)) → (D (.slice tSlot)) → (D tI) → (D (.slice tTest)) → (D tI) → (D (.slice (.nom 0))) → (D (.slice tI)) → (D (.slice tI)) → (D (.slice tI)) → (D (.slice tEdge)) → (D (.slice tSlot)) → (D tI) → (D (.slice tTest)) → Res E
noncomputable def lp_r33_Same_0 (k : Nat) (j : Nat) (v5 : D tI) (b2_0 : D tI) (b2_1 : D (.slice (.nom 0))) (b2_2 : D (.slice tI)) (b2_3 : D (.slice tI)) (b2_4 : D (.slice tI)) (b2_5 : D (.slice tEdge)) (b2_6 : D (.slice tSlot)) (b2_7 : D tI) (b2_8 : D (.slice tTest)) (b3_0 : D tI) (b3_1 : D (.slice (.nom 0))) (b3_2 : D (.slice tI)) (b3_3 : D (.slice tI)) (b3_4 : D (.slice tI)) (b3_5 : D (.slice tEdge)) (b3_6 : D (.slice tSlot)) (b3_7 : D tI) (b3_8 : D (.slice tTest)) : Res E :=
  loopAt M k 14 0 [] [] j ⟨132, [(2, .c (.ptr 2 0 0)), (3, .c (.ptr 3 0 0)), (5, .c (.leaf tI v5))], [(2, 0, .box [.leaf tI b2_0, .leaf (.slice (.nom 0)) b2_1, .leaf (.slice tI) b2_2, .leaf (.slice tI) b2_3, .leaf (.slice tI) b2_4, .leaf (.slice tEdge) b2_5, .leaf (.slice tSlot) b2_6, .leaf tI b2_7, .leaf (.slice tTest) b2_8]), (3, 0, .box [.leaf tI b3_0, .leaf (.slice (.nom 0)) b3_1, .leaf (.slice tI) b3_2, .leaf (.slice tI) b3_3, .leaf (.slice tI) b3_4, .leaf (.slice tEdge) b3_5, .leaf (.slice tSlot) b3_6, .leaf tI b3_7, .leaf (.slice tTest) b3_8])]⟩
abbrev V_r33_Same_2 := (D tI) → (D tI) → (D (.slice (.nom 0))) → (D (.slice tI)) → (D (.slice tI)) → (D (.slice tI)) → (D (.slice tEdge)) → (D (.slice tSlot)) → (D tI) → (D (.slice tTest)) → (D tI) → (D (.slice (.nom 0))) → (D (.slice tI)) → (D (.slice tI)) → (D (.slice tI)) → (D (.slice tEdge)) → (D (.slice tSlot)) → (D tI) → (D (.slice tTest)) → Res E
noncomputable def lp_r33_Same_2 (k : Nat) (j : Nat) (v6 : D tI) (b2_0 : D tI) (b2_1 : D (.slice (.nom 0))) (b2_2 : D (.slice tI)) (b2_3 : D (.slice tI)) (b2_4 : D (.slice tI)) (b2_5 : D (.slice tEdge)) (b2_6 : D (.slice tSlot)) (b2_7 : D tI) (b2_8 : D (.slice tTest)) (b3_0 : D tI) (b3_1 : D (.slice (.nom 0))) (b3_2 : D (.slice tI)) (b3_3 : D (.slice tI)) (b3_4 : D (.slice tI)) (b3_5 : D (.slice tEdge)) (b3_6 : D (.slice tSlot)) (b3_7 : D tI) (b3_8 : D (.slice tTest)) : Res E :=
  loopAt M k 14 2 [] [] j ⟨132, [(2, .c (.ptr 2 0 0)), (3, .c (.ptr 3 0 0)), (6, .c (.leaf tI v6))], [(2, 0, .box [.leaf tI b2_0, .leaf (.slice (.nom 0)) b2_1, .leaf (.slice tI) b2_2, .leaf (.slice tI) b2_3, .leaf (.slice tI) b2_4, .leaf (.slice tEdge) b2_5, .leaf (.slice tSlot) b2_6, .leaf tI b2_7, .leaf (.slice tTest) b2_8]), (3, 0, .box [.leaf tI b3_0, .leaf (.slice (.nom 0)) b3_1, .leaf (.slice tI) b3_2, .leaf (.slice tI) b3_3, .leaf (.slice tI) b3_4, .leaf (.slice tEdge) b3_5, .leaf (.slice tSlot) b3_6, .leaf tI b3_7, .leaf (.slice tTest) b3_8])]⟩
abbrev V_r33_Same_4 := (D tI) → (D tI) → (D (.slice (.nom 0))) → (D (.slice tI)) → (D (.slice tI)) → (D (.slice tI)) → (D (.slice tEdge)) → (D (.slice tSlot)) → (D tI) → (D (.slice tTest)) → (D tI) → (D (.slice (.nom 0))) → (D (.slice tI)) → (D (.slice tI)) → (D (.slice tI)) → (D (.slice tEdge)) → (D (.slice tSlot)) → (D tI) → (D (.slice tTest)) → Res E
noncomputable def lp_r33_Same_4 (k : Nat) (j : Nat) (v7 : D tI) (b2_0 : D tI) (b2_1 : D (.slice (.nom 0))) (b2_2 : D (.slice tI)) (b2_3 : D (.slice tI)) (b2_4 : D (.slice tI)) (b2_5 : D (.slice tEdge)) (b2_6 : D (.slice tSlot)) (b2_7 : D tI) (b2_8 : D (.slice tTest)) (b3_0 : D tI) (b3_1 : D (.slice (.nom 0))) (b3_2 : D (.slice tI)) (b3_3 : D (.slice tI)) (b3_4 : D (.slice tI)) (b3_5 : D (.slice tEdge)) (b3_6 : D (.slice tSlot)) (b3_7 : D tI) (b3_8 : D (.slice tTest)) : Res E :=
  loopAt M k 14 4 [] [] j ⟨132, [(2, .c (.ptr 2 0 0)), (3, .c (.ptr 3 0 0)), (7, .c (.leaf tI v7))], [(2, 0, .box [.leaf tI b2_0, .leaf (.slice (.nom 0)) b2_1, .leaf (.slice tI) b2_2, .leaf (.slice tI) b2_3, .leaf (.slice tI) b2_4, .leaf (.slice tEdge) b2_5, .leaf (.slice tSlot) b2_6, .leaf tI b2_7, .leaf (.slice tTest) b2_8]), (3, 0, .box [.leaf tI b3_0, .leaf (.slice (.nom 0)) b3_1, .leaf (.slice tI) b3_2, .leaf (.slice tI) b3_3, .leaf (.slice tI) b3_4, .leaf (.slice tEdge) b3_5, .leaf (.slice tSlot) b3_6, .leaf tI b3_7, .leaf (.slice tTest) b3_8])]⟩
noncomputable def s_r33_Same_0 (R : RunT) (c2 : V_r33_Same_2) (self : V_r33_Same_0) (v5 : D tI) (b2_0 : D tI) (b2_1 : D (.slice (.nom 0))) (b2_2 : D (.slice tI)) (b2_3 : D (.slice tI)) (b2_4 : D (.slice tI)) (b2_5 : D (.slice tEdge)) (b2_6 : D (.slice tSlot)) (b2_7 : D tI) (b2_8 : D (.slice tTest)) (b3_0 : D tI) (b3_1 : D (.slice (.nom 0))) (b3_2 : D (.slice tI)) (b3_3 : D (.slice tI)) (b3_4 : D (.slice tI)) (b3_5 : D (.slice tEdge)) (b3_6 : D (.slice tSlot)) (b3_7 : D tI) (b3_8 : D (.slice tTest)) : Res E :=
  (cond (decide (v5 < (b2_6.length : Int))) (cond (inB v5 (b2_6.length : Int)) (cond (inB v5 (b3_6.length : Int)) (cond (!((decide ((rd (E := E) (t := tSlot) b2_6 v5).1 = (rd (E := E) (t := tSlot) b3_6 v5).1)) && ((decide (((rd (E := E) (t := tSlot) b2_6 v5).2).1 = ((rd (E := E) (t := tSlot) b3_6 v5).2).1)) && ((decide ((((rd (E := E) (t := tSlot) b2_6 v5).2).2).1 = (((rd (E := E) (t := tSlot) b3_6 v5).2).2).1)) && (decide ((((rd (E := E) (t := tSlot) b2_6 v5).2).2).2 = (((rd (E := E) (t := tSlot) b3_6 v5).2).2).2)))))) (some ⟨.bool, false⟩) (self (IntKind.i64.wrap (v5 + (1 : Int))) b2_0 b2_1 b2_2 b2_3 b2_4 b2_5 b2_6 b2_7 b2_8 b3_0 b3_1 b3_2 b3_3 b3_4 b3_5 b3_6 b3_7 b3_8)) none) none) (c2 (0 : Int) b2_0 b2_1 b2_2 b2_3 b2_4 b2_5 b2_6 b2_7 b2_8 b3_0 b3_1 b3_2 b3_3 b3_4 b3_5 b3_6 b3_7 b3_8))
noncomputable def s_r33_Same_2 (R : RunT) (c4 : V_r33_Same_4) (self : V_r33_Same_2) (v6 : D tI) (b2_0 : D tI) (b2_1 : D (.slice (.nom 0))) (b2_2 : D (.slice tI)) (b2_3 : D (.slice tI)) (b2_4 : D (.slice tI)) (b2_5 : D (.slice tEdge)) (b2_6 : D (.slice tSlot)) (b2_7 : D tI) (b2_8 : D (.slice tTest)) (b3_0 : D tI) (b3_1 : D (.slice (.nom 0))) (b3_2 : D (.slice tI)) (b3_3 : D (.slice tI)) (b3_4 : D (.slice tI)) (b3_5 : D (.slice tEdge)) (b3_6 : D (.slice tSlot)) (b3_7 : D tI) (b3_8 : D (.slice tTest)) : Res E :=
  (cond (decide (v6 < (b2_8.length : Int))) (cond (inB v6 (b2_8.length : Int)) (cond (inB v6 (b3_8.length : Int)) (cond (!((decide ((rd (E := E) (t := tTest) b2_8 v6).1 = (rd (E := E) (t := tTest) b3_8 v6).1)) && ((decide ((((rd (E := E) (t := tTest) b2_8 v6).2).1).1 = (((rd (E := E) (t := tTest) b3_8 v6).2).1).1)) && ((decide ((((rd (E := E) (t := tTest) b2_8 v6).2).1).2 = (((rd (E := E) (t := tTest) b3_8 v6).2).1).2)) && ((decide ((((rd (E := E) (t := tTest) b2_8 v6).2).2).1 = (((rd (E := E) (t := tTest) b3_8 v6).2).2).1)) && (decide ((((rd (E := E) (t := tTest) b2_8 v6).2).2).2 = (((rd (E := E) (t := tTest) b3_8 v6).2).2).2))))))) (some ⟨.bool, false⟩) (self (IntKind.i64.wrap (v6 + (1 : Int))) b2_0 b2_1 b2_2 b2_3 b2_4 b2_5 b2_6 b2_7 b2_8 b3_0 b3_1 b3_2 b3_3 b3_4 b3_5 b3_6 b3_7 b3_8)) none) none) (c4 (0 : Int) b2_0 b2_1 b2_2 b2_3 b2_4 b2_5 b2_6 b2_7 b2_8 b3_0 b3_1 b3_2 b3_3 b3_4 b3_5 b3_6 b3_7 b3_8))
noncomputable def s_r33_Same_4 (R : RunT) (self : V_r33_Same_4) (v7 : D tI) (b2_0 : D tI) (b2_1 : D (.slice (.nom 0))) (b2_2 : D (.slice tI)) (b2_3 : D (.slice tI)) (b2_4 : D (.slice tI)) (b2_5 : D (.slice tEdge)) (b2_6 : D (.slice tSlot)) (b2_7 : D tI) (b2_8 : D (.slice tTest)) (b3_0 : D tI) (b3_1 : D (.slice (.nom 0))) (b3_2 : D (.slice tI)) (b3_3 : D (.slice tI)) (b3_4 : D (.slice tI)) (b3_5 : D (.slice tEdge)) (b3_6 : D (.slice tSlot)) (b3_7 : D tI) (b3_8 : D (.slice tTest)) : Res E :=
  (cond (decide (v7 < (b2_1.length : Int))) (cond (inB v7 (b2_1.length : Int)) (cond (inB v7 (b3_1.length : Int)) (Option.bind (res .bool (R f_r33_Same [.val (.nom 0) (E.cl 0 ((E.op 0 (rd (E := E) (t := (.nom 0)) b2_1 v7)).1, (((E.op 0 (rd (E := E) (t := (.nom 0)) b2_1 v7)).2).1, ((((((E.op 0 (rd (E := E) (t := (.nom 0)) b2_1 v7)).2).2).1).1, ((((E.op 0 (rd (E := E) (t := (.nom 0)) b2_1 v7)).2).2).1).2), (((((((E.op 0 (rd (E := E) (t := (.nom 0)) b2_1 v7)).2).2).2).1).1, (((((E.op 0 (rd (E := E) (t := (.nom 0)) b2_1 v7)).2).2).2).1).2), ((((((E.op 0 (rd (E := E) (t := (.nom 0)) b2_1 v7)).2).2).2).2).1, (((((((E.op 0 (rd (E := E) (t := (.nom 0)) b2_1 v7)).2).2).2).2).2).1, ((((((E.op 0 (rd (E := E) (t := (.nom 0)) b2_1 v7)).2).2).2).2).2).2))))))), .val (.nom 0) (E.cl 0 ((E.op 0 (rd (E := E) (t := (.nom 0)) b3_1 v7)).1, (((E.op 0 (rd (E := E) (t := (.nom 0)) b3_1 v7)).2).1, ((((((E.op 0 (rd (E := E) (t := (.nom 0)) b3_1 v7)).2).2).1).1, ((((E.op 0 (rd (E := E) (t := (.nom 0)) b3_1 v7)).2).2).1).2), (((((((E.op 0 (rd (E := E) (t := (.nom 0)) b3_1 v7)).2).2).2).1).1, (((((E.op 0 (rd (E := E) (t := (.nom 0)) b3_1 v7)).2).2).2).1).2), ((((((E.op 0 (rd (E := E) (t := (.nom 0)) b3_1 v7)).2).2).2).2).1, (((((((E.op 0 (rd (E := E) (t := (.nom 0)) b3_1 v7)).2).2).2).2).2).1, ((((((E.op 0 (rd (E := E) (t := (.nom 0)) b3_1 v7)).2).2).2).2).2).2)))))))])) (fun r1 => (cond (!r1) (some ⟨.bool, false⟩) (self (IntKind.i64.wrap (v7 + (1 : Int))) b2_0 b2_1 b2_2 b2_3 b2_4 b2_5 b2_6 b2_7 b2_8 b3_0 b3_1 b3_2 b3_3 b3_4 b3_5 b3_6 b3_7 b3_8)))) none) none) (some ⟨.bool, true⟩))
noncomputable def l_r33_Same_0 (R : RunT) (c2 : V_r33_Same_2) : Nat → V_r33_Same_0
  | 0 => fun _ _ _ _ _ _ _ _ _ _ _ _ _ _ _ _ _ _ _ => none
  | j + 1 => s_r33_Same_0 R c2 (l_r33_Same_0 R c2 j)
noncomputable def l_r33_Same_2 (R : RunT) (c4 : V_r33_Same_4) : Nat → V_r33_Same_2
  | 0 => fun _ _ _ _ _ _ _ _ _ _ _ _ _ _ _ _ _ _ _ => none
  | j + 1 => s_r33_Same_2 R c4 (l_r33_Same_2 R c4 j)
noncomputable def l_r33_Same_4 (R : RunT) : Nat → V_r33_Same_4
  | 0 => fun _ _ _ _ _ _ _ _ _ _ _ _ _ _ _ _ _ _ _ => none
  | j + 1 => s_r33_Same_4 R (l_r33_Same_4 R j)
noncomputable def b_r33_Same (R : RunT) (c0 : V_r33_Same_0) (x0 : D (.nom 0)) (x1 : D (.nom 0)) : Res E :=
  (Option.bind (cond (!(cond (!(decide ((E.op 0 x0).1 = (E.op 0 x1).1))) true (!(decide (((((E.op 0 x0).2).1).length : Int) = ((((E.op 0 x1).2).1).length : Int)))))) (res .bool (R f_r06_Same [.val tMorphism (((((E.op 0 x0).2).2).1).1, ((((E.op 0 x0).2).2).1).2), .val tMorphism (((((E.op 0 x1).2).2).1).1, ((((E.op 0 x1).2).2).1).2)])) (some (dflt E .bool))) (fun r1 => (Option.bind (cond (!(cond (cond (!(decide ((E.op 0 x0).1 = (E.op 0 x1).1))) true (!(decide (((((E.op 0 x0).2).1).length : Int) = ((((E.op 0 x1).2).1).length : Int))))) true (!r1))) (res .bool (R f_r05_Same [.val tGraph ((((((E.op 0 x0).2).2).2).1).1, (((((E.op 0 x0).2).2).2).1).2), .val tGraph ((((((E.op 0 x1).2).2).2).1).1, (((((E.op 0 x1).2).2).2).1).2)])) (some (dflt E .bool))) (fun r2 => (cond (cond (cond (cond (cond (cond (cond (!(decide ((E.op 0 x0).1 = (E.op 0 x1).1))) true (!(decide (((((E.op 0 x0).2).1).length : Int) = ((((E.op 0 x1).2).1).length : Int))))) true (!r1)) true (!r2)) true (!(decide (((((((E.op 0 x0).2).2).2).2).2).1 = ((((((E.op 0 x1).2).2).2).2).2).1)))) true (!(decide ((((((((E.op 0 x0).2).2).2).2).1).length : Int) = (((((((E.op 0 x1).2).2).2).2).1).length : Int))))) true (!(decide (((((((((E.op 0 x0).2).2).2).2).2).2).length : Int) = ((((((((E.op 0 x1).2).2).2).2).2).2).length : Int))))) (some ⟨.bool, false⟩) (c0 (0 : Int) ((E.op 0 x0).1) (((E.op 0 x0).2).1) (((((E.op 0 x0).2).2).1).1) (((((E.op 0 x0).2).2).1).2) ((((((E.op 0 x0).2).2).2).1).1) ((((((E.op 0 x0).2).2).2).1).2) ((((((E.op 0 x0).2).2).2).2).1) (((((((E.op 0 x0).2).2).2).2).2).1) (((((((E.op 0 x0).2).2).2).2).2).2) ((E.op 0 x1).1) (((E.op 0 x1).2).1) (((((E.op 0 x1).2).2).1).1) (((((E.op 0 x1).2).2).1).2) ((((((E.op 0 x1).2).2).2).1).1) ((((((E.op 0 x1).2).2).2).1).2) ((((((E.op 0 x1).2).2).2).2).1) (((((((E.op 0 x1).2).2).2).2).2).1) (((((((E.op 0 x1).2).2).2).2).2).2)))))))
theorem lp_r33_Same_0_step (k : Nat) (j0 : Nat) : lp_r33_Same_0 k (j0 + 1) = s_r33_Same_0 (run M k) (lp_r33_Same_2 k k) (lp_r33_Same_0 k j0) := by kernel_rfl
theorem lp_r33_Same_0_zero (k : Nat) : lp_r33_Same_0 k 0 = fun _ _ _ _ _ _ _ _ _ _ _ _ _ _ _ _ _ _ _ => none := by kernel_rfl
theorem lp_r33_Same_0_eq (k : Nat) (j0 : Nat) : lp_r33_Same_0 k j0 = l_r33_Same_0 (run M k) (lp_r33_Same_2 k k) j0 := by
  induction j0 with
  | zero => exact lp_r33_Same_0_zero k
  | succ j0 ih => rw [lp_r33_Same_0_step]; simp only [ih]; rfl
theorem lp_r33_Same_2_step (k : Nat) (j2 : Nat) : lp_r33_Same_2 k (j2 + 1) = s_r33_Same_2 (run M k) (lp_r33_Same_4 k k) (lp_r33_Same_2 k j2) := by kernel_rfl
theorem lp_r33_Same_2_zero (k : Nat) : lp_r33_Same_2 k 0 = fun _ _ _ _ _ _ _ _ _ _ _ _ _ _ _ _ _ _ _ => none := by kernel_rfl
theorem lp_r33_Same_2_eq (k : Nat) (j2 : Nat) : lp_r33_Same_2 k j2 = l_r33_Same_2 (run M k) (lp_r33_Same_4 k k) j2 := by
  induction j2 with
  | zero => exact lp_r33_Same_2_zero k
  | succ j2 ih => rw [lp_r33_Same_2_step]; simp only [ih]; rfl
theorem lp_r33_Same_4_step (k : Nat) (j4 : Nat) : lp_r33_Same_4 k (j4 + 1) = s_r33_Same_4 (run M k) (lp_r33_Same_4 k j4) := by kernel_rfl
theorem lp_r33_Same_4_zero (k : Nat) : lp_r33_Same_4 k 0 = fun _ _ _ _ _ _ _ _ _ _ _ _ _ _ _ _ _ _ _ => none := by kernel_rfl
theorem lp_r33_Same_4_eq (k : Nat) (j4 : Nat) : lp_r33_Same_4 k j4 = l_r33_Same_4 (run M k) j4 := by
  induction j4 with
  | zero => exact lp_r33_Same_4_zero k
  | succ j4 ih => rw [lp_r33_Same_4_step]; simp only [ih]; rfl
theorem e0_r33_Same (k : Nat) (x0 : D (.nom 0)) (x1 : D (.nom 0)) : run M (k + 1) 14 [.val (.nom 0) x0, .val (.nom 0) x1] = b_r33_Same (run M k) (lp_r33_Same_0 k k) x0 x1 := by kernel_rfl
theorem e_r33_Same (k : Nat) (x0 : D (.nom 0)) (x1 : D (.nom 0)) : run M (k + 1) f_r33_Same [.val (.nom 0) x0, .val (.nom 0) x1] = b_r33_Same (run M k) (l_r33_Same_0 (run M k) (l_r33_Same_2 (run M k) (l_r33_Same_4 (run M k) k) k) k) x0 x1 := by
  rw [show run M (k + 1) f_r33_Same = run M (k + 1) 14 from rfl, e0_r33_Same]; simp only [lp_r33_Same_0_eq, lp_r33_Same_2_eq, lp_r33_Same_4_eq]
noncomputable def b_w42_ConstraintValid (R : RunT) (x0 : D tTypes) (x1 : D tConstraint) : Res E :=
  (Option.bind (res .bool (R f_w42_awake [])) (fun r1 => (Option.bind (cond (!(!r1)) (res .bool (R f_r04_Few [.val tTypes (x0.1, x0.2)])) (some (dflt E .bool))) (fun r2 => (Option.bind (cond (!(cond (!r1) true (!r2))) (res .bool (R f_r42_Few [.val tConstraint (x1.1, (x1.2.1, ((x1.2.2.1.1, x1.2.2.1.2), x1.2.2.2)))])) (some (dflt E .bool))) (fun r3 => (cond (cond (cond (!r1) true (!r2)) true (!r3)) (Option.bind (res .bool (R f_w42_awake [])) (fun r4 => (some ⟨.bool, r4⟩))) (Option.bind (res (.pair (.nom 0) tI) (R f_constraint_Condition [.val tConstraint (x1.1, (x1.2.1, ((x1.2.2.1.1, x1.2.2.1.2), x1.2.2.2)))])) (fun r5 => (Option.bind (res (.pair (.nom 0) tI) (R f_r42_Condition [.val tConstraint (x1.1, (x1.2.1, ((x1.2.2.1.1, x1.2.2.1.2), x1.2.2.2)))])) (fun r6 => (Option.bind (res tI (R f_constraint_Valid [.val tTypes (x0.1, x0.2), .val tConstraint (x1.1, (x1.2.1, ((x1.2.2.1.1, x1.2.2.1.2), x1.2.2.2)))])) (fun r7 => (Option.bind (res tI (R f_r42_Valid [.val tTypes (x0.1, x0.2), .val tConstraint (x1.1, (x1.2.1, ((x1.2.2.1.1, x1.2.2.1.2), x1.2.2.2)))])) (fun r8 => (Option.bind (cond (cond (decide (r7 = r8)) (decide (r5.2 = r6.2)) false) (res .bool (R f_r33_Same [.val (.nom 0) (E.cl 0 ((E.op 0 r5.1).1, (((E.op 0 r5.1).2).1, ((((((E.op 0 r5.1).2).2).1).1, ((((E.op 0 r5.1).2).2).1).2), (((((((E.op 0 r5.1).2).2).2).1).1, (((((E.op 0 r5.1).2).2).2).1).2), ((((((E.op 0 r5.1).2).2).2).2).1, (((((((E.op 0 r5.1).2).2).2).2).2).1, ((((((E.op 0 r5.1).2).2).2).2).2).2))))))), .val (.nom 0) (E.cl 0 ((E.op 0 r6.1).1, (((E.op 0 r6.1).2).1, ((((((E.op 0 r6.1).2).2).1).1, ((((E.op 0 r6.1).2).2).1).2), (((((((E.op 0 r6.1).2).2).2).1).1, (((((E.op 0 r6.1).2).2).2).1).2), ((((((E.op 0 r6.1).2).2).2).2).1, (((((((E.op 0 r6.1).2).2).2).2).2).1, ((((((E.op 0 r6.1).2).2).2).2).2).2)))))))])) (some (dflt E .bool))) (fun r9 => (some ⟨.bool, (cond (cond (decide (r7 = r8)) (decide (r5.2 = r6.2)) false) r9 false)⟩))))))))))))))))))
theorem e_w42_ConstraintValid (k : Nat) (x0 : D tTypes) (x1 : D tConstraint) : run M (k + 1) f_w42_ConstraintValid [.val tTypes x0, .val tConstraint x1] = b_w42_ConstraintValid (run M k) x0 x1 := by kernel_rfl
end Go.Proofs.AM
