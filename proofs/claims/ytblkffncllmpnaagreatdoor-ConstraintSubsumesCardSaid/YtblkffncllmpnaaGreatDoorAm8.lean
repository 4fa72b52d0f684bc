/- Helpers of this claim: an abstract machine over the model, proved sound; what it computes. Part 8. -/
import Derived.Test.YtblkffncllmpnaaGreatDoorAm6
import Derived.Test.YtblkffncllmpnaaGreatDoorAm7
import Derived.Test.YtblkffncllmpnaaGreatDoorAm3
import Derived.KernelRfl
namespace Go.Proofs.AM
open Go
set_option maxRecDepth 100000
def aN (b : Res E) (d : List (Arg E) → Res E) : List (Arg E) → Res E
  | [] => b
  | l => d l
noncomputable def aV (ty : Ty) (f : D ty → List (Arg E) → Res E) (d : List (Arg E) → Res E) : List (Arg E) → Res E
  | .val t x :: r => if h : t = ty then f (castD h x) r else d (.val t x :: r)
  | l => d l
noncomputable def aR (ty : Ty) (f : D ty → List (Arg E) → Res E) (d : List (Arg E) → Res E) : List (Arg E) → Res E
  | .ro t x :: r => if h : t = ty then f (castD h x) r else d (.ro t x :: r)
  | l => d l
def aO (ty : Ty) (f : List (D ty) → List (Arg E) → Res E) (d : List (Arg E) → Res E) : List (Arg E) → Res E
  | .own t x :: r => if h : t = ty then f (h ▸ x) r else d (.own t x :: r)
  | l => d l
def aK (ty : Ty) (f : List (D ty) → List (Arg E) → Res E) (d : List (Arg E) → Res E) : List (Arg E) → Res E
  | .take t x :: r => if h : t = ty then f (h ▸ x) r else d (.take t x :: r)
  | l => d l
def aF (f : FuncId → List (Dt E) → List (Arg E) → Res E) (d : List (Arg E) → Res E) : List (Arg E) → Res E
  | .fn g c :: r => f g c r
  | l => d l
def aW (cs : List (Ty × Bool)) (f : D (tyL (cs.map (·.1))) → List (Arg E) → Res E) (d : List (Arg E) → Res E) : List (Arg E) → Res E
  | .rw t x :: r => if h : t = cs then f (h ▸ x) r else d (.rw t x :: r)
  | l => d l
theorem aN_eq {b : Res E} {d : List (Arg E) → Res E} (h : b = d []) : ∀ l, aN b d l = d l := by
  intro l; cases l with
  | nil => exact h
  | cons _ _ => rfl
theorem aV_eq {ty : Ty} {f : D ty → List (Arg E) → Res E} {d : List (Arg E) → Res E} (h : ∀ x r, f x r = d (.val ty x :: r)) : ∀ l, aV ty f d l = d l := by
  intro l; unfold aV; split
  · split
    · rename_i h'; subst h'; exact h _ _
    · rfl
  · rfl
theorem aR_eq {ty : Ty} {f : D ty → List (Arg E) → Res E} {d : List (Arg E) → Res E} (h : ∀ x r, f x r = d (.ro ty x :: r)) : ∀ l, aR ty f d l = d l := by
  intro l; unfold aR; split
  · split
    · rename_i h'; subst h'; exact h _ _
    · rfl
  · rfl
theorem aO_eq {ty : Ty} {f : List (D ty) → List (Arg E) → Res E} {d : List (Arg E) → Res E} (h : ∀ x r, f x r = d (.own ty x :: r)) : ∀ l, aO ty f d l = d l := by
  intro l; unfold aO; split
  · split
    · rename_i h'; subst h'; exact h _ _
    · rfl
  · rfl
theorem aK_eq {ty : Ty} {f : List (D ty) → List (Arg E) → Res E} {d : List (Arg E) → Res E} (h : ∀ x r, f x r = d (.take ty x :: r)) : ∀ l, aK ty f d l = d l := by
  intro l; unfold aK; split
  · split
    · rename_i h'; subst h'; exact h _ _
    · rfl
  · rfl
theorem aF_eq {f : FuncId → List (Dt E) → List (Arg E) → Res E} {d : List (Arg E) → Res E} (h : ∀ g c r, f g c r = d (.fn g c :: r)) : ∀ l, aF f d l = d l := by
  intro l; unfold aF; split
  · exact h _ _ _
  · rfl
theorem aW_eq {cs : List (Ty × Bool)} {f : D (tyL (cs.map (·.1))) → List (Arg E) → Res E} {d : List (Arg E) → Res E} (h : ∀ x r, f x r = d (.rw cs x :: r)) : ∀ l, aW cs f d l = d l := by
  intro l; unfold aW; split
  · split
    · rename_i h'; subst h'; exact h _ _
    · rfl
  · rfl
noncomputable def t_token_letter (R : RunT) (k : Nat) (d : List (Arg E) → Res E) : List (Arg E) → Res E :=
  aV tU8 (fun x0 => aN (b_token_letter R x0) (fun r => d (.val tU8 x0 :: r))) d
theorem t_token_letter_eq (k : Nat) (l : List (Arg E)) : t_token_letter (run M k) k (run M (k + 1) 172) l = run M (k + 1) 172 l := by
  refine aV_eq (fun x0 r => ?_) l
  refine aN_eq ?_ r
  exact (e_token_letter k x0).symm
noncomputable def t_token_run (R : RunT) (k : Nat) (d : List (Arg E) → Res E) : List (Arg E) → Res E :=
  aV .str (fun x0 => aF (fun x1 x1c => aN (b_token_run R (l_token_run_0 R k) x0 x1 x1c) (fun r => d (.val .str x0 :: .fn x1 x1c :: r))) (fun r => d (.val .str x0 :: r))) d
theorem t_token_run_eq (k : Nat) (l : List (Arg E)) : t_token_run (run M k) k (run M (k + 1) 173) l = run M (k + 1) 173 l := by
  refine aV_eq (fun x0 r => ?_) l
  refine aF_eq (fun x1 x1c r => ?_) r
  refine aN_eq ?_ r
  exact (e_token_run k x0 x1 x1c).symm
noncomputable def t_token_digit (R : RunT) (k : Nat) (d : List (Arg E) → Res E) : List (Arg E) → Res E :=
  aV tU8 (fun x0 => aN (b_token_digit R x0) (fun r => d (.val tU8 x0 :: r))) d
theorem t_token_digit_eq (k : Nat) (l : List (Arg E)) : t_token_digit (run M k) k (run M (k + 1) 175) l = run M (k + 1) 175 l := by
  refine aV_eq (fun x0 r => ?_) l
  refine aN_eq ?_ r
  exact (e_token_digit k x0).symm
noncomputable def t_token_part (R : RunT) (k : Nat) (d : List (Arg E) → Res E) : List (Arg E) → Res E :=
  aV tU8 (fun x0 => aN (b_token_part R x0) (fun r => d (.val tU8 x0 :: r))) d
theorem t_token_part_eq (k : Nat) (l : List (Arg E)) : t_token_part (run M k) k (run M (k + 1) 174) l = run M (k + 1) 174 l := by
  refine aV_eq (fun x0 r => ?_) l
  refine aN_eq ?_ r
  exact (e_token_part k x0).symm
noncomputable def t_token_quoted_1 (R : RunT) (k : Nat) (d : List (Arg E) → Res E) : List (Arg E) → Res E :=
  aV tU8 (fun x0 => aN (b_token_quoted_1 R x0) (fun r => d (.val tU8 x0 :: r))) d
theorem t_token_quoted_1_eq (k : Nat) (l : List (Arg E)) : t_token_quoted_1 (run M k) k (run M (k + 1) 200) l = run M (k + 1) 200 l := by
  refine aV_eq (fun x0 r => ?_) l
  refine aN_eq ?_ r
  exact (e_token_quoted_1 k x0).symm
noncomputable def t_token_quoted (R : RunT) (k : Nat) (d : List (Arg E) → Res E) : List (Arg E) → Res E :=
  aV .str (fun x0 => aN (b_token_quoted R x0) (fun r => d (.val .str x0 :: r))) d
theorem t_token_quoted_eq (k : Nat) (l : List (Arg E)) : t_token_quoted (run M k) k (run M (k + 1) 176) l = run M (k + 1) 176 l := by
  refine aV_eq (fun x0 r => ?_) l
  refine aN_eq ?_ r
  exact (e_token_quoted k x0).symm
noncomputable def t_slices_Index_string (R : RunT) (k : Nat) (d : List (Arg E) → Res E) : List (Arg E) → Res E :=
  aV (.slice .str) (fun x0 => aV .str (fun x1 => aN (b_slices_Index_string R (l_slices_Index_string_0 R k) x0 x1) (fun r => d (.val (.slice .str) x0 :: .val .str x1 :: r))) (fun r => d (.val (.slice .str) x0 :: r))) d
theorem t_slices_Index_string_eq (k : Nat) (l : List (Arg E)) : t_slices_Index_string (run M k) k (run M (k + 1) 212) l = run M (k + 1) 212 l := by
  refine aV_eq (fun x0 r => ?_) l
  refine aV_eq (fun x1 r => ?_) r
  refine aN_eq ?_ r
  exact (e_slices_Index_string k x0 x1).symm
noncomputable def t_slices_Contains_string (R : RunT) (k : Nat) (d : List (Arg E) → Res E) : List (Arg E) → Res E :=
  aV (.slice .str) (fun x0 => aV .str (fun x1 => aN (b_slices_Contains_string R x0 x1) (fun r => d (.val (.slice .str) x0 :: .val .str x1 :: r))) (fun r => d (.val (.slice .str) x0 :: r))) d
theorem t_slices_Contains_string_eq (k : Nat) (l : List (Arg E)) : t_slices_Contains_string (run M k) k (run M (k + 1) 187) l = run M (k + 1) 187 l := by
  refine aV_eq (fun x0 r => ?_) l
  refine aV_eq (fun x1 r => ?_) r
  refine aN_eq ?_ r
  exact (e_slices_Contains_string k x0 x1).symm
noncomputable def t_token_pair (R : RunT) (k : Nat) (d : List (Arg E) → Res E) : List (Arg E) → Res E :=
  aV .str (fun x0 => aN (b_token_pair R x0) (fun r => d (.val .str x0 :: r))) d
theorem t_token_pair_eq (k : Nat) (l : List (Arg E)) : t_token_pair (run M k) k (run M (k + 1) 177) l = run M (k + 1) 177 l := by
  refine aV_eq (fun x0 r => ?_) l
  refine aN_eq ?_ r
  exact (e_token_pair k x0).symm
noncomputable def t_token_next (R : RunT) (k : Nat) (d : List (Arg E) → Res E) : List (Arg E) → Res E :=
  aV .str (fun x0 => aN (b_token_next R x0) (fun r => d (.val .str x0 :: r))) d
theorem t_token_next_eq (k : Nat) (l : List (Arg E)) : t_token_next (run M k) k (run M (k + 1) 148) l = run M (k + 1) 148 l := by
  refine aV_eq (fun x0 r => ?_) l
  refine aN_eq ?_ r
  exact (e_token_next k x0).symm
noncomputable def t_token_whole (R : RunT) (k : Nat) (d : List (Arg E) → Res E) : List (Arg E) → Res E :=
  aV tToken (fun x0 => aN (b_token_whole R x0) (fun r => d (.val tToken x0 :: r))) d
theorem t_token_whole_eq (k : Nat) (l : List (Arg E)) : t_token_whole (run M k) k (run M (k + 1) 110) l = run M (k + 1) 110 l := by
  refine aV_eq (fun x0 r => ?_) l
  refine aN_eq ?_ r
  exact (e_token_whole k x0).symm
noncomputable def t_token_IsName (R : RunT) (k : Nat) (d : List (Arg E) → Res E) : List (Arg E) → Res E :=
  aV .str (fun x0 => aN (b_token_IsName R x0) (fun r => d (.val .str x0 :: r))) d
theorem t_token_IsName_eq (k : Nat) (l : List (Arg E)) : t_token_IsName (run M k) k (run M (k + 1) 65) l = run M (k + 1) 65 l := by
  refine aV_eq (fun x0 r => ?_) l
  refine aN_eq ?_ r
  exact (e_token_IsName k x0).symm
noncomputable def t_slices_IndexFunc_Edge (R : RunT) (k : Nat) (d : List (Arg E) → Res E) : List (Arg E) → Res E :=
  aV (.slice tEdge) (fun x0 => aF (fun x1 x1c => aN (b_slices_IndexFunc_Edge R (l_slices_IndexFunc_Edge_0 R k) x0 x1 x1c) (fun r => d (.val (.slice tEdge) x0 :: .fn x1 x1c :: r))) (fun r => d (.val (.slice tEdge) x0 :: r))) d
theorem t_slices_IndexFunc_Edge_eq (k : Nat) (l : List (Arg E)) : t_slices_IndexFunc_Edge (run M k) k (run M (k + 1) 129) l = run M (k + 1) 129 l := by
  refine aV_eq (fun x0 r => ?_) l
  refine aF_eq (fun x1 x1c r => ?_) r
  refine aN_eq ?_ r
  exact (e_slices_IndexFunc_Edge k x0 x1 x1c).symm
noncomputable def t_slices_ContainsFunc_Edge (R : RunT) (k : Nat) (d : List (Arg E) → Res E) : List (Arg E) → Res E :=
  aV (.slice tEdge) (fun x0 => aF (fun x1 x1c => aN (b_slices_ContainsFunc_Edge R x0 x1 x1c) (fun r => d (.val (.slice tEdge) x0 :: .fn x1 x1c :: r))) (fun r => d (.val (.slice tEdge) x0 :: r))) d
theorem t_slices_ContainsFunc_Edge_eq (k : Nat) (l : List (Arg E)) : t_slices_ContainsFunc_Edge (run M k) k (run M (k + 1) 79) l = run M (k + 1) 79 l := by
  refine aV_eq (fun x0 r => ?_) l
  refine aF_eq (fun x1 x1c r => ?_) r
  refine aN_eq ?_ r
  exact (e_slices_ContainsFunc_Edge k x0 x1 x1c).symm
noncomputable def t_slices_IndexFunc_int (R : RunT) (k : Nat) (d : List (Arg E) → Res E) : List (Arg E) → Res E :=
  aV (.slice tI) (fun x0 => aF (fun x1 x1c => aN (b_slices_IndexFunc_int R (l_slices_IndexFunc_int_0 R k) x0 x1 x1c) (fun r => d (.val (.slice tI) x0 :: .fn x1 x1c :: r))) (fun r => d (.val (.slice tI) x0 :: r))) d
theorem t_slices_IndexFunc_int_eq (k : Nat) (l : List (Arg E)) : t_slices_IndexFunc_int (run M k) k (run M (k + 1) 149) l = run M (k + 1) 149 l := by
  refine aV_eq (fun x0 r => ?_) l
  refine aF_eq (fun x1 x1c r => ?_) r
  refine aN_eq ?_ r
  exact (e_slices_IndexFunc_int k x0 x1 x1c).symm
noncomputable def t_slices_ContainsFunc_int (R : RunT) (k : Nat) (d : List (Arg E) → Res E) : List (Arg E) → Res E :=
  aV (.slice tI) (fun x0 => aF (fun x1 x1c => aN (b_slices_ContainsFunc_int R x0 x1 x1c) (fun r => d (.val (.slice tI) x0 :: .fn x1 x1c :: r))) (fun r => d (.val (.slice tI) x0 :: r))) d
theorem t_slices_ContainsFunc_int_eq (k : Nat) (l : List (Arg E)) : t_slices_ContainsFunc_int (run M k) k (run M (k + 1) 111) l = run M (k + 1) 111 l := by
  refine aV_eq (fun x0 r => ?_) l
  refine aF_eq (fun x1 x1c r => ?_) r
  refine aN_eq ?_ r
  exact (e_slices_ContainsFunc_int k x0 x1 x1c).symm
noncomputable def t_graph_within (R : RunT) (k : Nat) (d : List (Arg E) → Res E) : List (Arg E) → Res E :=
  aV tI (fun x0 => aV tI (fun x1 => aN (b_graph_within R x0 x1) (fun r => d (.val tI x0 :: .val tI x1 :: r))) (fun r => d (.val tI x0 :: r))) d
theorem t_graph_within_eq (k : Nat) (l : List (Arg E)) : t_graph_within (run M k) k (run M (k + 1) 113) l = run M (k + 1) 113 l := by
  refine aV_eq (fun x0 r => ?_) l
  refine aV_eq (fun x1 r => ?_) r
  refine aN_eq ?_ r
  exact (e_graph_within k x0 x1).symm
noncomputable def t_graph_Valid_1 (R : RunT) (k : Nat) (d : List (Arg E) → Res E) : List (Arg E) → Res E :=
  aV tI (fun x0 => aN (b_graph_Valid_1 R x0) (fun r => d (.val tI x0 :: r))) d
theorem t_graph_Valid_1_eq (k : Nat) (l : List (Arg E)) : t_graph_Valid_1 (run M k) k (run M (k + 1) 112) l = run M (k + 1) 112 l := by
  refine aV_eq (fun x0 r => ?_) l
  refine aN_eq ?_ r
  exact (e_graph_Valid_1 k x0).symm
noncomputable def t_graph_fits (R : RunT) (k : Nat) (d : List (Arg E) → Res E) : List (Arg E) → Res E :=
  aV tEdge (fun x0 => aV tI (fun x1 => aN (b_graph_fits R x0 x1) (fun r => d (.val tEdge x0 :: .val tI x1 :: r))) (fun r => d (.val tEdge x0 :: r))) d
theorem t_graph_fits_eq (k : Nat) (l : List (Arg E)) : t_graph_fits (run M k) k (run M (k + 1) 115) l = run M (k + 1) 115 l := by
  refine aV_eq (fun x0 r => ?_) l
  refine aV_eq (fun x1 r => ?_) r
  refine aN_eq ?_ r
  exact (e_graph_fits k x0 x1).symm
noncomputable def t_graph_Valid_2 (R : RunT) (k : Nat) (d : List (Arg E) → Res E) : List (Arg E) → Res E :=
  aV tEdge (fun x0 => aR tGraph (fun x1 => aN (b_graph_Valid_2 R x0 x1) (fun r => d (.val tEdge x0 :: .ro tGraph x1 :: r))) (fun r => d (.val tEdge x0 :: r))) d
theorem t_graph_Valid_2_eq (k : Nat) (l : List (Arg E)) : t_graph_Valid_2 (run M k) k (run M (k + 1) 114) l = run M (k + 1) 114 l := by
  refine aV_eq (fun x0 r => ?_) l
  refine aR_eq (fun x1 r => ?_) r
  refine aN_eq ?_ r
  exact (e_graph_Valid_2 k x0 x1).symm
noncomputable def t_graph_Valid (R : RunT) (k : Nat) (d : List (Arg E) → Res E) : List (Arg E) → Res E :=
  aV tGraph (fun x0 => aN (b_graph_Valid R x0) (fun r => d (.val tGraph x0 :: r))) d
theorem t_graph_Valid_eq (k : Nat) (l : List (Arg E)) : t_graph_Valid (run M k) k (run M (k + 1) 66) l = run M (k + 1) 66 l := by
  refine aV_eq (fun x0 r => ?_) l
  refine aN_eq ?_ r
  exact (e_graph_Valid k x0).symm
noncomputable def t_constraint_large (R : RunT) (k : Nat) (d : List (Arg E) → Res E) : List (Arg E) → Res E :=
  aV tGraph (fun x0 => aN (b_constraint_large R x0) (fun r => d (.val tGraph x0 :: r))) d
theorem t_constraint_large_eq (k : Nat) (l : List (Arg E)) : t_constraint_large (run M k) k (run M (k + 1) 67) l = run M (k + 1) 67 l := by
  refine aV_eq (fun x0 r => ?_) l
  refine aN_eq ?_ r
  exact (e_constraint_large k x0).symm
noncomputable def t_morphism_Valid (R : RunT) (k : Nat) (d : List (Arg E) → Res E) : List (Arg E) → Res E :=
  aV tGraph (fun x0 => aV tGraph (fun x1 => aV tMorphism (fun x2 => aN (b_morphism_Valid R (l_morphism_Valid_0 R (l_morphism_Valid_2 R k) k) x0 x1 x2) (fun r => d (.val tGraph x0 :: .val tGraph x1 :: .val tMorphism x2 :: r))) (fun r => d (.val tGraph x0 :: .val tGraph x1 :: r))) (fun r => d (.val tGraph x0 :: r))) d
theorem t_morphism_Valid_eq (k : Nat) (l : List (Arg E)) : t_morphism_Valid (run M k) k (run M (k + 1) 68) l = run M (k + 1) 68 l := by
  refine aV_eq (fun x0 r => ?_) l
  refine aV_eq (fun x1 r => ?_) r
  refine aV_eq (fun x2 r => ?_) r
  refine aN_eq ?_ r
  exact (e_morphism_Valid k x0 x1 x2).symm
noncomputable def t_slices_Clone_int (R : RunT) (k : Nat) (d : List (Arg E) → Res E) : List (Arg E) → Res E :=
  aV (.slice tI) (fun x0 => aN (b_slices_Clone_int R x0) (fun r => d (.val (.slice tI) x0 :: r))) d
theorem t_slices_Clone_int_eq (k : Nat) (l : List (Arg E)) : t_slices_Clone_int (run M k) k (run M (k + 1) 70) l = run M (k + 1) 70 l := by
  refine aV_eq (fun x0 r => ?_) l
  refine aN_eq ?_ r
  exact (e_slices_Clone_int k x0).symm
noncomputable def t_morphism_images (R : RunT) (k : Nat) (d : List (Arg E) → Res E) : List (Arg E) → Res E :=
  aV (.slice tI) (fun x0 => aN (b_morphism_images R x0) (fun r => d (.val (.slice tI) x0 :: r))) d
theorem t_morphism_images_eq (k : Nat) (l : List (Arg E)) : t_morphism_images (run M k) k (run M (k + 1) 116) l = run M (k + 1) 116 l := by
  refine aV_eq (fun x0 r => ?_) l
  refine aN_eq ?_ r
  exact (e_morphism_images k x0).symm
noncomputable def t_morphism_Injective (R : RunT) (k : Nat) (d : List (Arg E) → Res E) : List (Arg E) → Res E :=
  aV tGraph (fun x0 => aV tGraph (fun x1 => aV tMorphism (fun x2 => aN (b_morphism_Injective R x0 x1 x2) (fun r => d (.val tGraph x0 :: .val tGraph x1 :: .val tMorphism x2 :: r))) (fun r => d (.val tGraph x0 :: .val tGraph x1 :: r))) (fun r => d (.val tGraph x0 :: r))) d
theorem t_morphism_Injective_eq (k : Nat) (l : List (Arg E)) : t_morphism_Injective (run M k) k (run M (k + 1) 69) l = run M (k + 1) 69 l := by
  refine aV_eq (fun x0 r => ?_) l
  refine aV_eq (fun x1 r => ?_) r
  refine aV_eq (fun x2 r => ?_) r
  refine aN_eq ?_ r
  exact (e_morphism_Injective k x0 x1 x2).symm
noncomputable def t_constraint_shape (R : RunT) (k : Nat) (d : List (Arg E) → Res E) : List (Arg E) → Res E :=
  aV tConstraint (fun x0 => aN (b_constraint_shape R (l_constraint_shape_1 R k) x0) (fun r => d (.val tConstraint x0 :: r))) d
theorem t_constraint_shape_eq (k : Nat) (l : List (Arg E)) : t_constraint_shape (run M k) k (run M (k + 1) 31) l = run M (k + 1) 31 l := by
  refine aV_eq (fun x0 r => ?_) l
  refine aN_eq ?_ r
  exact (e_constraint_shape k x0).symm
noncomputable def t_slices_IndexFunc_NodeType (R : RunT) (k : Nat) (d : List (Arg E) → Res E) : List (Arg E) → Res E :=
  aV (.slice tNodeType) (fun x0 => aF (fun x1 x1c => aN (b_slices_IndexFunc_NodeType R (l_slices_IndexFunc_NodeType_0 R k) x0 x1 x1c) (fun r => d (.val (.slice tNodeType) x0 :: .fn x1 x1c :: r))) (fun r => d (.val (.slice tNodeType) x0 :: r))) d
theorem t_slices_IndexFunc_NodeType_eq (k : Nat) (l : List (Arg E)) : t_slices_IndexFunc_NodeType (run M k) k (run M (k + 1) 138) l = run M (k + 1) 138 l := by
  refine aV_eq (fun x0 r => ?_) l
  refine aF_eq (fun x1 x1c r => ?_) r
  refine aN_eq ?_ r
  exact (e_slices_IndexFunc_NodeType k x0 x1 x1c).symm
noncomputable def t_slices_ContainsFunc_NodeType (R : RunT) (k : Nat) (d : List (Arg E) → Res E) : List (Arg E) → Res E :=
  aV (.slice tNodeType) (fun x0 => aF (fun x1 x1c => aN (b_slices_ContainsFunc_NodeType R x0 x1 x1c) (fun r => d (.val (.slice tNodeType) x0 :: .fn x1 x1c :: r))) (fun r => d (.val (.slice tNodeType) x0 :: r))) d
theorem t_slices_ContainsFunc_NodeType_eq (k : Nat) (l : List (Arg E)) : t_slices_ContainsFunc_NodeType (run M k) k (run M (k + 1) 96) l = run M (k + 1) 96 l := by
  refine aV_eq (fun x0 r => ?_) l
  refine aF_eq (fun x1 x1c r => ?_) r
  refine aN_eq ?_ r
  exact (e_slices_ContainsFunc_NodeType k x0 x1 x1c).symm
noncomputable def t_types_node_1 (R : RunT) (k : Nat) (d : List (Arg E) → Res E) : List (Arg E) → Res E :=
  aV tNodeType (fun x0 => aR tNodeType (fun x1 => aN (b_types_node_1 R x0 x1) (fun r => d (.val tNodeType x0 :: .ro tNodeType x1 :: r))) (fun r => d (.val tNodeType x0 :: r))) d
theorem t_types_node_1_eq (k : Nat) (l : List (Arg E)) : t_types_node_1 (run M k) k (run M (k + 1) 122) l = run M (k + 1) 122 l := by
  refine aV_eq (fun x0 r => ?_) l
  refine aR_eq (fun x1 r => ?_) r
  refine aN_eq ?_ r
  exact (e_types_node_1 k x0 x1).symm
noncomputable def t_types_attrs (R : RunT) (k : Nat) (d : List (Arg E) → Res E) : List (Arg E) → Res E :=
  aV tTypes (fun x0 => aV tI (fun x1 => aN (b_types_attrs R x0 x1) (fun r => d (.val tTypes x0 :: .val tI x1 :: r))) (fun r => d (.val tTypes x0 :: r))) d
theorem t_types_attrs_eq (k : Nat) (l : List (Arg E)) : t_types_attrs (run M k) k (run M (k + 1) 123) l = run M (k + 1) 123 l := by
  refine aV_eq (fun x0 r => ?_) l
  refine aV_eq (fun x1 r => ?_) r
  refine aN_eq ?_ r
  exact (e_types_attrs k x0 x1).symm
noncomputable def t_slices_IndexFunc_Attr (R : RunT) (k : Nat) (d : List (Arg E) → Res E) : List (Arg E) → Res E :=
  aV (.slice tAttr) (fun x0 => aF (fun x1 x1c => aN (b_slices_IndexFunc_Attr R (l_slices_IndexFunc_Attr_0 R k) x0 x1 x1c) (fun r => d (.val (.slice tAttr) x0 :: .fn x1 x1c :: r))) (fun r => d (.val (.slice tAttr) x0 :: r))) d
theorem t_slices_IndexFunc_Attr_eq (k : Nat) (l : List (Arg E)) : t_slices_IndexFunc_Attr (run M k) k (run M (k + 1) 186) l = run M (k + 1) 186 l := by
  refine aV_eq (fun x0 r => ?_) l
  refine aF_eq (fun x1 x1c r => ?_) r
  refine aN_eq ?_ r
  exact (e_slices_IndexFunc_Attr k x0 x1 x1c).symm
noncomputable def t_slices_ContainsFunc_Attr (R : RunT) (k : Nat) (d : List (Arg E) → Res E) : List (Arg E) → Res E :=
  aV (.slice tAttr) (fun x0 => aF (fun x1 x1c => aN (b_slices_ContainsFunc_Attr R x0 x1 x1c) (fun r => d (.val (.slice tAttr) x0 :: .fn x1 x1c :: r))) (fun r => d (.val (.slice tAttr) x0 :: r))) d
theorem t_slices_ContainsFunc_Attr_eq (k : Nat) (l : List (Arg E)) : t_slices_ContainsFunc_Attr (run M k) k (run M (k + 1) 154) l = run M (k + 1) 154 l := by
  refine aV_eq (fun x0 r => ?_) l
  refine aF_eq (fun x1 x1c r => ?_) r
  refine aN_eq ?_ r
  exact (e_slices_ContainsFunc_Attr k x0 x1 x1c).symm
noncomputable def t_types_attribute_1 (R : RunT) (k : Nat) (d : List (Arg E) → Res E) : List (Arg E) → Res E :=
  aV tAttr (fun x0 => aR tAttr (fun x1 => aN (b_types_attribute_1 R x0 x1) (fun r => d (.val tAttr x0 :: .ro tAttr x1 :: r))) (fun r => d (.val tAttr x0 :: r))) d
theorem t_types_attribute_1_eq (k : Nat) (l : List (Arg E)) : t_types_attribute_1 (run M k) k (run M (k + 1) 155) l = run M (k + 1) 155 l := by
  refine aV_eq (fun x0 r => ?_) l
  refine aR_eq (fun x1 r => ?_) r
  refine aN_eq ?_ r
  exact (e_types_attribute_1 k x0 x1).symm
noncomputable def t_types_names (R : RunT) (k : Nat) (d : List (Arg E) → Res E) : List (Arg E) → Res E :=
  aV (.slice .str) (fun x0 => aN (b_types_names R (l_types_names_0 R k) x0) (fun r => d (.val (.slice .str) x0 :: r))) d
theorem t_types_names_eq (k : Nat) (l : List (Arg E)) : t_types_names (run M k) k (run M (k + 1) 156) l = run M (k + 1) 156 l := by
  refine aV_eq (fun x0 r => ?_) l
  refine aN_eq ?_ r
  exact (e_types_names k x0).symm
noncomputable def t_types_attribute (R : RunT) (k : Nat) (d : List (Arg E) → Res E) : List (Arg E) → Res E :=
  aV tAttr (fun x0 => aV (.slice tAttr) (fun x1 => aN (b_types_attribute R x0 x1) (fun r => d (.val tAttr x0 :: .val (.slice tAttr) x1 :: r))) (fun r => d (.val tAttr x0 :: r))) d
theorem t_types_attribute_eq (k : Nat) (l : List (Arg E)) : t_types_attribute (run M k) k (run M (k + 1) 124) l = run M (k + 1) 124 l := by
  refine aV_eq (fun x0 r => ?_) l
  refine aV_eq (fun x1 r => ?_) r
  refine aN_eq ?_ r
  exact (e_types_attribute k x0 x1).symm
noncomputable def t_types_node (R : RunT) (k : Nat) (d : List (Arg E) → Res E) : List (Arg E) → Res E :=
  aV tTypes (fun x0 => aV tI (fun x1 => aN (b_types_node R (l_types_node_1 R k) x0 x1) (fun r => d (.val tTypes x0 :: .val tI x1 :: r))) (fun r => d (.val tTypes x0 :: r))) d
theorem t_types_node_eq (k : Nat) (l : List (Arg E)) : t_types_node (run M k) k (run M (k + 1) 77) l = run M (k + 1) 77 l := by
  refine aV_eq (fun x0 r => ?_) l
  refine aV_eq (fun x1 r => ?_) r
  refine aN_eq ?_ r
  exact (e_types_node k x0 x1).symm
noncomputable def t_types_edge_1 (R : RunT) (k : Nat) (d : List (Arg E) → Res E) : List (Arg E) → Res E :=
  aV tI (fun x0 => aR tTypes (fun x1 => aN (b_types_edge_1 R x0 x1) (fun r => d (.val tI x0 :: .ro tTypes x1 :: r))) (fun r => d (.val tI x0 :: r))) d
theorem t_types_edge_1_eq (k : Nat) (l : List (Arg E)) : t_types_edge_1 (run M k) k (run M (k + 1) 125) l = run M (k + 1) 125 l := by
  refine aV_eq (fun x0 r => ?_) l
  refine aR_eq (fun x1 r => ?_) r
  refine aN_eq ?_ r
  exact (e_types_edge_1 k x0 x1).symm
noncomputable def t_slices_IndexFunc_EdgeType (R : RunT) (k : Nat) (d : List (Arg E) → Res E) : List (Arg E) → Res E :=
  aV (.slice tEdgeType) (fun x0 => aF (fun x1 x1c => aN (b_slices_IndexFunc_EdgeType R (l_slices_IndexFunc_EdgeType_0 R k) x0 x1 x1c) (fun r => d (.val (.slice tEdgeType) x0 :: .fn x1 x1c :: r))) (fun r => d (.val (.slice tEdgeType) x0 :: r))) d
theorem t_slices_IndexFunc_EdgeType_eq (k : Nat) (l : List (Arg E)) : t_slices_IndexFunc_EdgeType (run M k) k (run M (k + 1) 157) l = run M (k + 1) 157 l := by
  refine aV_eq (fun x0 r => ?_) l
  refine aF_eq (fun x1 x1c r => ?_) r
  refine aN_eq ?_ r
  exact (e_slices_IndexFunc_EdgeType k x0 x1 x1c).symm
noncomputable def t_slices_ContainsFunc_EdgeType (R : RunT) (k : Nat) (d : List (Arg E) → Res E) : List (Arg E) → Res E :=
  aV (.slice tEdgeType) (fun x0 => aF (fun x1 x1c => aN (b_slices_ContainsFunc_EdgeType R x0 x1 x1c) (fun r => d (.val (.slice tEdgeType) x0 :: .fn x1 x1c :: r))) (fun r => d (.val (.slice tEdgeType) x0 :: r))) d
theorem t_slices_ContainsFunc_EdgeType_eq (k : Nat) (l : List (Arg E)) : t_slices_ContainsFunc_EdgeType (run M k) k (run M (k + 1) 126) l = run M (k + 1) 126 l := by
  refine aV_eq (fun x0 r => ?_) l
  refine aF_eq (fun x1 x1c r => ?_) r
  refine aN_eq ?_ r
  exact (e_slices_ContainsFunc_EdgeType k x0 x1 x1c).symm
noncomputable def t_types_edge_2 (R : RunT) (k : Nat) (d : List (Arg E) → Res E) : List (Arg E) → Res E :=
  aV tEdgeType (fun x0 => aR tEdgeType (fun x1 => aN (b_types_edge_2 R x0 x1) (fun r => d (.val tEdgeType x0 :: .ro tEdgeType x1 :: r))) (fun r => d (.val tEdgeType x0 :: r))) d
theorem t_types_edge_2_eq (k : Nat) (l : List (Arg E)) : t_types_edge_2 (run M k) k (run M (k + 1) 127) l = run M (k + 1) 127 l := by
  refine aV_eq (fun x0 r => ?_) l
  refine aR_eq (fun x1 r => ?_) r
  refine aN_eq ?_ r
  exact (e_types_edge_2 k x0 x1).symm
noncomputable def t_types_bounded (R : RunT) (k : Nat) (d : List (Arg E) → Res E) : List (Arg E) → Res E :=
  aV tI (fun x0 => aV tI (fun x1 => aN (b_types_bounded R x0 x1) (fun r => d (.val tI x0 :: .val tI x1 :: r))) (fun r => d (.val tI x0 :: r))) d
theorem t_types_bounded_eq (k : Nat) (l : List (Arg E)) : t_types_bounded (run M k) k (run M (k + 1) 128) l = run M (k + 1) 128 l := by
  refine aV_eq (fun x0 r => ?_) l
  refine aV_eq (fun x1 r => ?_) r
  refine aN_eq ?_ r
  exact (e_types_bounded k x0 x1).symm
noncomputable def t_types_edge (R : RunT) (k : Nat) (d : List (Arg E) → Res E) : List (Arg E) → Res E :=
  aV tTypes (fun x0 => aV tI (fun x1 => aN (b_types_edge R x0 x1) (fun r => d (.val tTypes x0 :: .val tI x1 :: r))) (fun r => d (.val tTypes x0 :: r))) d
theorem t_types_edge_eq (k : Nat) (l : List (Arg E)) : t_types_edge (run M k) k (run M (k + 1) 78) l = run M (k + 1) 78 l := by
  refine aV_eq (fun x0 r => ?_) l
  refine aV_eq (fun x1 r => ?_) r
  refine aN_eq ?_ r
  exact (e_types_edge k x0 x1).symm
noncomputable def t_types_Valid (R : RunT) (k : Nat) (d : List (Arg E) → Res E) : List (Arg E) → Res E :=
  aV tTypes (fun x0 => aN (b_types_Valid R (l_types_Valid_1 R (l_types_Valid_3 R k) k) x0) (fun r => d (.val tTypes x0 :: r))) d
theorem t_types_Valid_eq (k : Nat) (l : List (Arg E)) : t_types_Valid (run M k) k (run M (k + 1) 37) l = run M (k + 1) 37 l := by
  refine aV_eq (fun x0 r => ?_) l
  refine aN_eq ?_ r
  exact (e_types_Valid k x0).symm
noncomputable def t_constraint_leaf_1 (R : RunT) (k : Nat) (d : List (Arg E) → Res E) : List (Arg E) → Res E :=
  aV tNodeType (fun x0 => aR tI (fun x1 => aN (b_constraint_leaf_1 R x0 x1) (fun r => d (.val tNodeType x0 :: .ro tI x1 :: r))) (fun r => d (.val tNodeType x0 :: r))) d
theorem t_constraint_leaf_1_eq (k : Nat) (l : List (Arg E)) : t_constraint_leaf_1 (run M k) k (run M (k + 1) 97) l = run M (k + 1) 97 l := by
  refine aV_eq (fun x0 r => ?_) l
  refine aR_eq (fun x1 r => ?_) r
  refine aN_eq ?_ r
  exact (e_constraint_leaf_1 k x0 x1).symm
noncomputable def t_constraint_leaf (R : RunT) (k : Nat) (d : List (Arg E) → Res E) : List (Arg E) → Res E :=
  aV tTypes (fun x0 => aV tI (fun x1 => aN (b_constraint_leaf R x0 x1) (fun r => d (.val tTypes x0 :: .val tI x1 :: r))) (fun r => d (.val tTypes x0 :: r))) d
theorem t_constraint_leaf_eq (k : Nat) (l : List (Arg E)) : t_constraint_leaf (run M k) k (run M (k + 1) 55) l = run M (k + 1) 55 l := by
  refine aV_eq (fun x0 r => ?_) l
  refine aV_eq (fun x1 r => ?_) r
  refine aN_eq ?_ r
  exact (e_constraint_leaf k x0 x1).symm
noncomputable def t_types_given_1 (R : RunT) (k : Nat) (d : List (Arg E) → Res E) : List (Arg E) → Res E :=
  aV tI (fun x0 => aR tTypes (fun x1 => aN (b_types_given_1 R x0 x1) (fun r => d (.val tI x0 :: .ro tTypes x1 :: r))) (fun r => d (.val tI x0 :: r))) d
theorem t_types_given_1_eq (k : Nat) (l : List (Arg E)) : t_types_given_1 (run M k) k (run M (k + 1) 139) l = run M (k + 1) 139 l := by
  refine aV_eq (fun x0 r => ?_) l
  refine aR_eq (fun x1 r => ?_) r
  refine aN_eq ?_ r
  exact (e_types_given_1 k x0 x1).symm
noncomputable def t_types_given (R : RunT) (k : Nat) (d : List (Arg E) → Res E) : List (Arg E) → Res E :=
  aV tTypes (fun x0 => aV (.slice tI) (fun x1 => aN (b_types_given R x0 x1) (fun r => d (.val tTypes x0 :: .val (.slice tI) x1 :: r))) (fun r => d (.val tTypes x0 :: r))) d
theorem t_types_given_eq (k : Nat) (l : List (Arg E)) : t_types_given (run M k) k (run M (k + 1) 98) l = run M (k + 1) 98 l := by
  refine aV_eq (fun x0 r => ?_) l
  refine aV_eq (fun x1 r => ?_) r
  refine aN_eq ?_ r
  exact (e_types_given k x0 x1).symm
noncomputable def t_slices_Index_int (R : RunT) (k : Nat) (d : List (Arg E) → Res E) : List (Arg E) → Res E :=
  aV (.slice tI) (fun x0 => aV tI (fun x1 => aN (b_slices_Index_int R (l_slices_Index_int_0 R k) x0 x1) (fun r => d (.val (.slice tI) x0 :: .val tI x1 :: r))) (fun r => d (.val (.slice tI) x0 :: r))) d
theorem t_slices_Index_int_eq (k : Nat) (l : List (Arg E)) : t_slices_Index_int (run M k) k (run M (k + 1) 133) l = run M (k + 1) 133 l := by
  refine aV_eq (fun x0 r => ?_) l
  refine aV_eq (fun x1 r => ?_) r
  refine aN_eq ?_ r
  exact (e_slices_Index_int k x0 x1).symm
noncomputable def t_slices_Contains_int (R : RunT) (k : Nat) (d : List (Arg E) → Res E) : List (Arg E) → Res E :=
  aV (.slice tI) (fun x0 => aV tI (fun x1 => aN (b_slices_Contains_int R x0 x1) (fun r => d (.val (.slice tI) x0 :: .val tI x1 :: r))) (fun r => d (.val (.slice tI) x0 :: r))) d
theorem t_slices_Contains_int_eq (k : Nat) (l : List (Arg E)) : t_slices_Contains_int (run M k) k (run M (k + 1) 87) l = run M (k + 1) 87 l := by
  refine aV_eq (fun x0 r => ?_) l
  refine aV_eq (fun x1 r => ?_) r
  refine aN_eq ?_ r
  exact (e_slices_Contains_int k x0 x1).symm
noncomputable def t_slices_Reverse_int (R : RunT) (k : Nat) (d : List (Arg E) → Res E) : List (Arg E) → Res E :=
  aO tI (fun x0 => aN (b_slices_Reverse_int R (l_slices_Reverse_int_0 R k) x0) (fun r => d (.own tI x0 :: r))) d
theorem t_slices_Reverse_int_eq (k : Nat) (l : List (Arg E)) : t_slices_Reverse_int (run M k) k (run M (k + 1) 159) l = run M (k + 1) 159 l := by
  refine aO_eq (fun x0 r => ?_) l
  refine aN_eq ?_ r
  exact (e_slices_Reverse_int k x0).symm
noncomputable def t_types_line (R : RunT) (k : Nat) (d : List (Arg E) → Res E) : List (Arg E) → Res E :=
  aV tTypes (fun x0 => aV tI (fun x1 => aN (b_types_line R (l_types_line_0 R k) x0 x1) (fun r => d (.val tTypes x0 :: .val tI x1 :: r))) (fun r => d (.val tTypes x0 :: r))) d
theorem t_types_line_eq (k : Nat) (l : List (Arg E)) : t_types_line (run M k) k (run M (k + 1) 140) l = run M (k + 1) 140 l := by
  refine aV_eq (fun x0 r => ?_) l
  refine aV_eq (fun x1 r => ?_) r
  refine aN_eq ?_ r
  exact (e_types_line k x0 x1).symm
noncomputable def t_types_is (R : RunT) (k : Nat) (d : List (Arg E) → Res E) : List (Arg E) → Res E :=
  aV tTypes (fun x0 => aV tI (fun x1 => aV tI (fun x2 => aN (b_types_is R x0 x1 x2) (fun r => d (.val tTypes x0 :: .val tI x1 :: .val tI x2 :: r))) (fun r => d (.val tTypes x0 :: .val tI x1 :: r))) (fun r => d (.val tTypes x0 :: r))) d
theorem t_types_is_eq (k : Nat) (l : List (Arg E)) : t_types_is (run M k) k (run M (k + 1) 99) l = run M (k + 1) 99 l := by
  refine aV_eq (fun x0 r => ?_) l
  refine aV_eq (fun x1 r => ?_) r
  refine aV_eq (fun x2 r => ?_) r
  refine aN_eq ?_ r
  exact (e_types_is k x0 x1 x2).symm
noncomputable def t_types_Fits (R : RunT) (k : Nat) (d : List (Arg E) → Res E) : List (Arg E) → Res E :=
  aV tTypes (fun x0 => aV tI (fun x1 => aV tI (fun x2 => aV tI (fun x3 => aN (b_types_Fits R x0 x1 x2 x3) (fun r => d (.val tTypes x0 :: .val tI x1 :: .val tI x2 :: .val tI x3 :: r))) (fun r => d (.val tTypes x0 :: .val tI x1 :: .val tI x2 :: r))) (fun r => d (.val tTypes x0 :: .val tI x1 :: r))) (fun r => d (.val tTypes x0 :: r))) d
theorem t_types_Fits_eq (k : Nat) (l : List (Arg E)) : t_types_Fits (run M k) k (run M (k + 1) 81) l = run M (k + 1) 81 l := by
  refine aV_eq (fun x0 r => ?_) l
  refine aV_eq (fun x1 r => ?_) r
  refine aV_eq (fun x2 r => ?_) r
  refine aV_eq (fun x3 r => ?_) r
  refine aN_eq ?_ r
  exact (e_types_Fits k x0 x1 x2 x3).symm
noncomputable def t_constraint_leaves_1 (R : RunT) (k : Nat) (d : List (Arg E) → Res E) : List (Arg E) → Res E :=
  aV tEdge (fun x0 => aR tTypes (fun x1 => aR tGraph (fun x2 => aN (b_constraint_leaves_1 R x0 x1 x2) (fun r => d (.val tEdge x0 :: .ro tTypes x1 :: .ro tGraph x2 :: r))) (fun r => d (.val tEdge x0 :: .ro tTypes x1 :: r))) (fun r => d (.val tEdge x0 :: r))) d
theorem t_constraint_leaves_1_eq (k : Nat) (l : List (Arg E)) : t_constraint_leaves_1 (run M k) k (run M (k + 1) 80) l = run M (k + 1) 80 l := by
  refine aV_eq (fun x0 r => ?_) l
  refine aR_eq (fun x1 r => ?_) r
  refine aR_eq (fun x2 r => ?_) r
  refine aN_eq ?_ r
  exact (e_constraint_leaves_1 k x0 x1 x2).symm
noncomputable def t_constraint_leaves (R : RunT) (k : Nat) (d : List (Arg E) → Res E) : List (Arg E) → Res E :=
  aV tTypes (fun x0 => aV tGraph (fun x1 => aN (b_constraint_leaves R (l_constraint_leaves_0 R k) x0 x1) (fun r => d (.val tTypes x0 :: .val tGraph x1 :: r))) (fun r => d (.val tTypes x0 :: r))) d
theorem t_constraint_leaves_eq (k : Nat) (l : List (Arg E)) : t_constraint_leaves (run M k) k (run M (k + 1) 38) l = run M (k + 1) 38 l := by
  refine aV_eq (fun x0 r => ?_) l
  refine aV_eq (fun x1 r => ?_) r
  refine aN_eq ?_ r
  exact (e_constraint_leaves k x0 x1).symm
noncomputable def t_slices_IndexFunc_Extension (R : RunT) (k : Nat) (d : List (Arg E) → Res E) : List (Arg E) → Res E :=
  aV (.slice tExtension) (fun x0 => aF (fun x1 x1c => aN (b_slices_IndexFunc_Extension R (l_slices_IndexFunc_Extension_0 R k) x0 x1 x1c) (fun r => d (.val (.slice tExtension) x0 :: .fn x1 x1c :: r))) (fun r => d (.val (.slice tExtension) x0 :: r))) d
theorem t_slices_IndexFunc_Extension_eq (k : Nat) (l : List (Arg E)) : t_slices_IndexFunc_Extension (run M k) k (run M (k + 1) 82) l = run M (k + 1) 82 l := by
  refine aV_eq (fun x0 r => ?_) l
  refine aF_eq (fun x1 x1c r => ?_) r
  refine aN_eq ?_ r
  exact (e_slices_IndexFunc_Extension k x0 x1 x1c).symm
noncomputable def t_slices_ContainsFunc_Extension (R : RunT) (k : Nat) (d : List (Arg E) → Res E) : List (Arg E) → Res E :=
  aV (.slice tExtension) (fun x0 => aF (fun x1 x1c => aN (b_slices_ContainsFunc_Extension R x0 x1 x1c) (fun r => d (.val (.slice tExtension) x0 :: .fn x1 x1c :: r))) (fun r => d (.val (.slice tExtension) x0 :: r))) d
theorem t_slices_ContainsFunc_Extension_eq (k : Nat) (l : List (Arg E)) : t_slices_ContainsFunc_Extension (run M k) k (run M (k + 1) 39) l = run M (k + 1) 39 l := by
  refine aV_eq (fun x0 r => ?_) l
  refine aF_eq (fun x1 x1c r => ?_) r
  refine aN_eq ?_ r
  exact (e_slices_ContainsFunc_Extension k x0 x1 x1c).symm
noncomputable def t_constraint_Valid_1 (R : RunT) (k : Nat) (d : List (Arg E) → Res E) : List (Arg E) → Res E :=
  aV tExtension (fun x0 => aR tTypes (fun x1 => aN (b_constraint_Valid_1 R x0 x1) (fun r => d (.val tExtension x0 :: .ro tTypes x1 :: r))) (fun r => d (.val tExtension x0 :: r))) d
theorem t_constraint_Valid_1_eq (k : Nat) (l : List (Arg E)) : t_constraint_Valid_1 (run M k) k (run M (k + 1) 40) l = run M (k + 1) 40 l := by
  refine aV_eq (fun x0 r => ?_) l
  refine aR_eq (fun x1 r => ?_) r
  refine aN_eq ?_ r
  exact (e_constraint_Valid_1 k x0 x1).symm
noncomputable def t_constraint_Valid (R : RunT) (k : Nat) (d : List (Arg E) → Res E) : List (Arg E) → Res E :=
  aV tTypes (fun x0 => aV tConstraint (fun x1 => aN (b_constraint_Valid R x0 x1) (fun r => d (.val tTypes x0 :: .val tConstraint x1 :: r))) (fun r => d (.val tTypes x0 :: r))) d
theorem t_constraint_Valid_eq (k : Nat) (l : List (Arg E)) : t_constraint_Valid (run M k) k (run M (k + 1) 12) l = run M (k + 1) 12 l := by
  refine aV_eq (fun x0 r => ?_) l
  refine aV_eq (fun x1 r => ?_) r
  refine aN_eq ?_ r
  exact (e_constraint_Valid k x0 x1).symm
noncomputable def t_constraint_sides (R : RunT) (k : Nat) (d : List (Arg E) → Res E) : List (Arg E) → Res E :=
  aV tTypes (fun x0 => aN (b_constraint_sides R (l_constraint_sides_0 R k) x0) (fun r => d (.val tTypes x0 :: r))) d
theorem t_constraint_sides_eq (k : Nat) (l : List (Arg E)) : t_constraint_sides (run M k) k (run M (k + 1) 54) l = run M (k + 1) 54 l := by
  refine aV_eq (fun x0 r => ?_) l
  refine aN_eq ?_ r
  exact (e_constraint_sides k x0).symm
noncomputable def t_constraint_bounded (R : RunT) (k : Nat) (d : List (Arg E) → Res E) : List (Arg E) → Res E :=
  aV tTypes (fun x0 => aN (b_constraint_bounded R (l_constraint_bounded_0 R (l_constraint_bounded_2 R k) k) x0) (fun r => d (.val tTypes x0 :: r))) d
theorem t_constraint_bounded_eq (k : Nat) (l : List (Arg E)) : t_constraint_bounded (run M k) k (run M (k + 1) 53) l = run M (k + 1) 53 l := by
  refine aV_eq (fun x0 r => ?_) l
  refine aN_eq ?_ r
  exact (e_constraint_bounded k x0).symm
noncomputable def t_types_Is (R : RunT) (k : Nat) (d : List (Arg E) → Res E) : List (Arg E) → Res E :=
  aV tTypes (fun x0 => aV tI (fun x1 => aV tI (fun x2 => aN (b_types_Is R x0 x1 x2) (fun r => d (.val tTypes x0 :: .val tI x1 :: .val tI x2 :: r))) (fun r => d (.val tTypes x0 :: .val tI x1 :: r))) (fun r => d (.val tTypes x0 :: r))) d
theorem t_types_Is_eq (k : Nat) (l : List (Arg E)) : t_types_Is (run M k) k (run M (k + 1) 56) l = run M (k + 1) 56 l := by
  refine aV_eq (fun x0 r => ?_) l
  refine aV_eq (fun x1 r => ?_) r
  refine aV_eq (fun x2 r => ?_) r
  refine aN_eq ?_ r
  exact (e_types_Is k x0 x1 x2).symm
noncomputable def t_constraint_side_ends (R : RunT) (k : Nat) (d : List (Arg E) → Res E) : List (Arg E) → Res E :=
  aV tSide (fun x0 => aV tTypes (fun x1 => aV tI (fun x2 => aN (b_constraint_side_ends R (l_constraint_side_ends_0 R k) x0 x1 x2) (fun r => d (.val tSide x0 :: .val tTypes x1 :: .val tI x2 :: r))) (fun r => d (.val tSide x0 :: .val tTypes x1 :: r))) (fun r => d (.val tSide x0 :: r))) d
theorem t_constraint_side_ends_eq (k : Nat) (l : List (Arg E)) : t_constraint_side_ends (run M k) k (run M (k + 1) 57) l = run M (k + 1) 57 l := by
  refine aV_eq (fun x0 r => ?_) l
  refine aV_eq (fun x1 r => ?_) r
  refine aV_eq (fun x2 r => ?_) r
  refine aN_eq ?_ r
  exact (e_constraint_side_ends k x0 x1 x2).symm
noncomputable def t_constraint_side_link (R : RunT) (k : Nat) (d : List (Arg E) → Res E) : List (Arg E) → Res E :=
  aV tSide (fun x0 => aV tI (fun x1 => aN (b_constraint_side_link R x0 x1) (fun r => d (.val tSide x0 :: .val tI x1 :: r))) (fun r => d (.val tSide x0 :: r))) d
theorem t_constraint_side_link_eq (k : Nat) (l : List (Arg E)) : t_constraint_side_link (run M k) k (run M (k + 1) 100) l = run M (k + 1) 100 l := by
  refine aV_eq (fun x0 r => ?_) l
  refine aV_eq (fun x1 r => ?_) r
  refine aN_eq ?_ r
  exact (e_constraint_side_link k x0 x1).symm
noncomputable def t_constraint_side_least (R : RunT) (k : Nat) (d : List (Arg E) → Res E) : List (Arg E) → Res E :=
  aV tSide (fun x0 => aV tI (fun x1 => aV (.slice tI) (fun x2 => aN (b_constraint_side_least R (l_constraint_side_least_0 R k) x0 x1 x2) (fun r => d (.val tSide x0 :: .val tI x1 :: .val (.slice tI) x2 :: r))) (fun r => d (.val tSide x0 :: .val tI x1 :: r))) (fun r => d (.val tSide x0 :: r))) d
theorem t_constraint_side_least_eq (k : Nat) (l : List (Arg E)) : t_constraint_side_least (run M k) k (run M (k + 1) 58) l = run M (k + 1) 58 l := by
  refine aV_eq (fun x0 r => ?_) l
  refine aV_eq (fun x1 r => ?_) r
  refine aV_eq (fun x2 r => ?_) r
  refine aN_eq ?_ r
  exact (e_constraint_side_least k x0 x1 x2).symm
noncomputable def t_partition_All (R : RunT) (k : Nat) (d : List (Arg E) → Res E) : List (Arg E) → Res E :=
  aV tI (fun x0 => aN (b_partition_All R (l_partition_All_0 R k) x0) (fun r => d (.val tI x0 :: r))) d
theorem t_partition_All_eq (k : Nat) (l : List (Arg E)) : t_partition_All (run M k) k (run M (k + 1) 101) l = run M (k + 1) 101 l := by
  refine aV_eq (fun x0 r => ?_) l
  refine aN_eq ?_ r
  exact (e_partition_All k x0).symm
noncomputable def t_partition_right (R : RunT) (k : Nat) (d : List (Arg E) → Res E) : List (Arg E) → Res E :=
  aV (.slice tI) (fun x0 => aN (b_partition_right R (l_partition_right_0 R k) x0) (fun r => d (.val (.slice tI) x0 :: r))) d
theorem t_partition_right_eq (k : Nat) (l : List (Arg E)) : t_partition_right (run M k) k (run M (k + 1) 160) l = run M (k + 1) 160 l := by
  refine aV_eq (fun x0 r => ?_) l
  refine aN_eq ?_ r
  exact (e_partition_right k x0).symm
noncomputable def t_partition_one (R : RunT) (k : Nat) (d : List (Arg E) → Res E) : List (Arg E) → Res E :=
  aV (.slice tI) (fun x0 => aN (b_partition_one R x0) (fun r => d (.val (.slice tI) x0 :: r))) d
theorem t_partition_one_eq (k : Nat) (l : List (Arg E)) : t_partition_one (run M k) k (run M (k + 1) 141) l = run M (k + 1) 141 l := by
  refine aV_eq (fun x0 r => ?_) l
  refine aN_eq ?_ r
  exact (e_partition_one k x0).symm
noncomputable def t_partition_Quotient (R : RunT) (k : Nat) (d : List (Arg E) → Res E) : List (Arg E) → Res E :=
  aV (.slice tI) (fun x0 => aN (b_partition_Quotient R (l_partition_Quotient_0 R k) x0) (fun r => d (.val (.slice tI) x0 :: r))) d
theorem t_partition_Quotient_eq (k : Nat) (l : List (Arg E)) : t_partition_Quotient (run M k) k (run M (k + 1) 102) l = run M (k + 1) 102 l := by
  refine aV_eq (fun x0 r => ?_) l
  refine aN_eq ?_ r
  exact (e_partition_Quotient k x0).symm
noncomputable def t_constraint_choices (R : RunT) (k : Nat) (d : List (Arg E) → Res E) : List (Arg E) → Res E :=
  aV (.slice tI) (fun x0 => aV tI (fun x1 => aN (b_constraint_choices R (l_constraint_choices_0 R k) x0 x1) (fun r => d (.val (.slice tI) x0 :: .val tI x1 :: r))) (fun r => d (.val (.slice tI) x0 :: r))) d
theorem t_constraint_choices_eq (k : Nat) (l : List (Arg E)) : t_constraint_choices (run M k) k (run M (k + 1) 103) l = run M (k + 1) 103 l := by
  refine aV_eq (fun x0 r => ?_) l
  refine aV_eq (fun x1 r => ?_) r
  refine aN_eq ?_ r
  exact (e_constraint_choices k x0 x1).symm
noncomputable def t_constraint_side_greatest (R : RunT) (k : Nat) (d : List (Arg E) → Res E) : List (Arg E) → Res E :=
  aV tSide (fun x0 => aV tI (fun x1 => aV (.slice tI) (fun x2 => aN (b_constraint_side_greatest R (l_constraint_side_greatest_0 R k) x0 x1 x2) (fun r => d (.val tSide x0 :: .val tI x1 :: .val (.slice tI) x2 :: r))) (fun r => d (.val tSide x0 :: .val tI x1 :: r))) (fun r => d (.val tSide x0 :: r))) d
theorem t_constraint_side_greatest_eq (k : Nat) (l : List (Arg E)) : t_constraint_side_greatest (run M k) k (run M (k + 1) 59) l = run M (k + 1) 59 l := by
  refine aV_eq (fun x0 r => ?_) l
  refine aV_eq (fun x1 r => ?_) r
  refine aV_eq (fun x2 r => ?_) r
  refine aN_eq ?_ r
  exact (e_constraint_side_greatest k x0 x1 x2).symm
noncomputable def t_constraint_Multiplicities (R : RunT) (k : Nat) (d : List (Arg E) → Res E) : List (Arg E) → Res E :=
  aV tTypes (fun x0 => aN (b_constraint_Multiplicities R (l_constraint_Multiplicities_0 R (l_constraint_Multiplicities_4 R k) k) x0) (fun r => d (.val tTypes x0 :: r))) d
theorem t_constraint_Multiplicities_eq (k : Nat) (l : List (Arg E)) : t_constraint_Multiplicities (run M k) k (run M (k + 1) 25) l = run M (k + 1) 25 l := by
  refine aV_eq (fun x0 r => ?_) l
  refine aN_eq ?_ r
  exact (e_constraint_Multiplicities k x0).symm
noncomputable def t_search_within_1 (R : RunT) (k : Nat) (d : List (Arg E) → Res E) : List (Arg E) → Res E :=
  aV tI (fun x0 => aR tTypes (fun x1 => aN (b_search_within_1 R x0 x1) (fun r => d (.val tI x0 :: .ro tTypes x1 :: r))) (fun r => d (.val tI x0 :: r))) d
theorem t_search_within_1_eq (k : Nat) (l : List (Arg E)) : t_search_within_1 (run M k) k (run M (k + 1) 166) l = run M (k + 1) 166 l := by
  refine aV_eq (fun x0 r => ?_) l
  refine aR_eq (fun x1 r => ?_) r
  refine aN_eq ?_ r
  exact (e_search_within_1 k x0 x1).symm
noncomputable def t_search_within_2 (R : RunT) (k : Nat) (d : List (Arg E) → Res E) : List (Arg E) → Res E :=
  aV tEdge (fun x0 => aR tTypes (fun x1 => aN (b_search_within_2 R x0 x1) (fun r => d (.val tEdge x0 :: .ro tTypes x1 :: r))) (fun r => d (.val tEdge x0 :: r))) d
theorem t_search_within_2_eq (k : Nat) (l : List (Arg E)) : t_search_within_2 (run M k) k (run M (k + 1) 167) l = run M (k + 1) 167 l := by
  refine aV_eq (fun x0 r => ?_) l
  refine aR_eq (fun x1 r => ?_) r
  refine aN_eq ?_ r
  exact (e_search_within_2 k x0 x1).symm
noncomputable def t_search_within (R : RunT) (k : Nat) (d : List (Arg E) → Res E) : List (Arg E) → Res E :=
  aV tTypes (fun x0 => aV tGraph (fun x1 => aN (b_search_within R x0 x1) (fun r => d (.val tTypes x0 :: .val tGraph x1 :: r))) (fun r => d (.val tTypes x0 :: r))) d
theorem t_search_within_eq (k : Nat) (l : List (Arg E)) : t_search_within (run M k) k (run M (k + 1) 144) l = run M (k + 1) 144 l := by
  refine aV_eq (fun x0 r => ?_) l
  refine aV_eq (fun x1 r => ?_) r
  refine aN_eq ?_ r
  exact (e_search_within k x0 x1).symm
noncomputable def t_search_valid (R : RunT) (k : Nat) (d : List (Arg E) → Res E) : List (Arg E) → Res E :=
  aV tTypes (fun x0 => aV tGraph (fun x1 => aV tGraph (fun x2 => aN (b_search_valid R (l_search_valid_0 R k) x0 x1 x2) (fun r => d (.val tTypes x0 :: .val tGraph x1 :: .val tGraph x2 :: r))) (fun r => d (.val tTypes x0 :: .val tGraph x1 :: r))) (fun r => d (.val tTypes x0 :: r))) d
theorem t_search_valid_eq (k : Nat) (l : List (Arg E)) : t_search_valid (run M k) k (run M (k + 1) 106) l = run M (k + 1) 106 l := by
  refine aV_eq (fun x0 r => ?_) l
  refine aV_eq (fun x1 r => ?_) r
  refine aV_eq (fun x2 r => ?_) r
  refine aN_eq ?_ r
  exact (e_search_valid k x0 x1 x2).symm
noncomputable def t_types_Below (R : RunT) (k : Nat) (d : List (Arg E) → Res E) : List (Arg E) → Res E :=
  aV tTypes (fun x0 => aV tI (fun x1 => aN (b_types_Below R (l_types_Below_0 R k) x0 x1) (fun r => d (.val tTypes x0 :: .val tI x1 :: r))) (fun r => d (.val tTypes x0 :: r))) d
theorem t_types_Below_eq (k : Nat) (l : List (Arg E)) : t_types_Below (run M k) k (run M (k + 1) 194) l = run M (k + 1) 194 l := by
  refine aV_eq (fun x0 r => ?_) l
  refine aV_eq (fun x1 r => ?_) r
  refine aN_eq ?_ r
  exact (e_types_Below k x0 x1).symm
noncomputable def t_search_below (R : RunT) (k : Nat) (d : List (Arg E) → Res E) : List (Arg E) → Res E :=
  aV tTypes (fun x0 => aN (b_search_below R (l_search_below_0 R k) x0) (fun r => d (.val tTypes x0 :: r))) d
theorem t_search_below_eq (k : Nat) (l : List (Arg E)) : t_search_below (run M k) k (run M (k + 1) 168) l = run M (k + 1) 168 l := by
  refine aV_eq (fun x0 r => ?_) l
  refine aN_eq ?_ r
  exact (e_search_below k x0).symm
noncomputable def t_search_given (R : RunT) (k : Nat) (d : List (Arg E) → Res E) : List (Arg E) → Res E :=
  aV (.opt tI) (fun x0 => aV tI (fun x1 => aN (b_search_given R x0 x1) (fun r => d (.val (.opt tI) x0 :: .val tI x1 :: r))) (fun r => d (.val (.opt tI) x0 :: r))) d
theorem t_search_given_eq (k : Nat) (l : List (Arg E)) : t_search_given (run M k) k (run M (k + 1) 195) l = run M (k + 1) 195 l := by
  refine aV_eq (fun x0 r => ?_) l
  refine aV_eq (fun x1 r => ?_) r
  refine aN_eq ?_ r
  exact (e_search_given k x0 x1).symm
noncomputable def t_search_finder_fits (R : RunT) (k : Nat) (d : List (Arg E) → Res E) : List (Arg E) → Res E :=
  aW [((.slice tI), false), ((.slice tEdge), false), ((.slice tI), false), ((.slice tEdge), false), ((.slice (.slice .bool)), true), ((.opt tI), false), ((.opt tI), false), (.bool, false), (tI, false), ((.slice tI), true), ((.slice tI), true), ((.slice tMorphism), true)] (fun x0 => aV tI (fun x1 => aV tI (fun x2 => aN (b_search_finder_fits R x0 x1 x2) (fun r => d (.rw [((.slice tI), false), ((.slice tEdge), false), ((.slice tI), false), ((.slice tEdge), false), ((.slice (.slice .bool)), true), ((.opt tI), false), ((.opt tI), false), (.bool, false), (tI, false), ((.slice tI), true), ((.slice tI), true), ((.slice tMorphism), true)] x0 :: .val tI x1 :: .val tI x2 :: r))) (fun r => d (.rw [((.slice tI), false), ((.slice tEdge), false), ((.slice tI), false), ((.slice tEdge), false), ((.slice (.slice .bool)), true), ((.opt tI), false), ((.opt tI), false), (.bool, false), (tI, false), ((.slice tI), true), ((.slice tI), true), ((.slice tMorphism), true)] x0 :: .val tI x1 :: r))) (fun r => d (.rw [((.slice tI), false), ((.slice tEdge), false), ((.slice tI), false), ((.slice tEdge), false), ((.slice (.slice .bool)), true), ((.opt tI), false), ((.opt tI), false), (.bool, false), (tI, false), ((.slice tI), true), ((.slice tI), true), ((.slice tMorphism), true)] x0 :: r))) d
theorem t_search_finder_fits_eq (k : Nat) (l : List (Arg E)) : t_search_finder_fits (run M k) k (run M (k + 1) 197) l = run M (k + 1) 197 l := by
  refine aW_eq (fun x0 r => ?_) l
  refine aV_eq (fun x1 r => ?_) r
  refine aV_eq (fun x2 r => ?_) r
  refine aN_eq ?_ r
  exact (e_search_finder_fits k x0 x1 x2).symm
noncomputable def t_search_finder_possible (R : RunT) (k : Nat) (d : List (Arg E) → Res E) : List (Arg E) → Res E :=
  aW [((.slice tI), false), ((.slice tEdge), false), ((.slice tI), false), ((.slice tEdge), false), ((.slice (.slice .bool)), true), ((.opt tI), false), ((.opt tI), false), (.bool, false), (tI, false), ((.slice tI), true), ((.slice tI), true), ((.slice tMorphism), true)] (fun x0 => aN (b_search_finder_possible R (l_search_finder_possible_0 R k) x0) (fun r => d (.rw [((.slice tI), false), ((.slice tEdge), false), ((.slice tI), false), ((.slice tEdge), false), ((.slice (.slice .bool)), true), ((.opt tI), false), ((.opt tI), false), (.bool, false), (tI, false), ((.slice tI), true), ((.slice tI), true), ((.slice tMorphism), true)] x0 :: r))) d
theorem t_search_finder_possible_eq (k : Nat) (l : List (Arg E)) : t_search_finder_possible (run M k) k (run M (k + 1) 196) l = run M (k + 1) 196 l := by
  refine aW_eq (fun x0 r => ?_) l
  refine aN_eq ?_ r
  exact (e_search_finder_possible k x0).symm
noncomputable def t_search_finder_find (R : RunT) (k : Nat) (d : List (Arg E) → Res E) : List (Arg E) → Res E :=
  aW [((.slice tI), false), ((.slice tEdge), false), ((.slice tI), false), ((.slice tEdge), false), ((.slice (.slice .bool)), true), ((.opt tI), false), ((.opt tI), false), (.bool, false), (tI, false), ((.slice tI), true), ((.slice tI), true), ((.slice tMorphism), true)] (fun x0 => aN (b_search_finder_find R (l_search_finder_find_1 R k) (l_search_finder_find_3 R k) x0) (fun r => d (.rw [((.slice tI), false), ((.slice tEdge), false), ((.slice tI), false), ((.slice tEdge), false), ((.slice (.slice .bool)), true), ((.opt tI), false), ((.opt tI), false), (.bool, false), (tI, false), ((.slice tI), true), ((.slice tI), true), ((.slice tMorphism), true)] x0 :: r))) d
theorem t_search_finder_find_eq (k : Nat) (l : List (Arg E)) : t_search_finder_find (run M k) k (run M (k + 1) 169) l = run M (k + 1) 169 l := by
  refine aW_eq (fun x0 r => ?_) l
  refine aN_eq ?_ r
  exact (e_search_finder_find k x0).symm
noncomputable def t_search_found (R : RunT) (k : Nat) (d : List (Arg E) → Res E) : List (Arg E) → Res E :=
  aV tTypes (fun x0 => aV tGraph (fun x1 => aV tGraph (fun x2 => aV (.pair (.opt tI) (.opt tI)) (fun x3 => aV .bool (fun x4 => aV tI (fun x5 => aN (b_search_found R x0 x1 x2 x3 x4 x5) (fun r => d (.val tTypes x0 :: .val tGraph x1 :: .val tGraph x2 :: .val (.pair (.opt tI) (.opt tI)) x3 :: .val .bool x4 :: .val tI x5 :: r))) (fun r => d (.val tTypes x0 :: .val tGraph x1 :: .val tGraph x2 :: .val (.pair (.opt tI) (.opt tI)) x3 :: .val .bool x4 :: r))) (fun r => d (.val tTypes x0 :: .val tGraph x1 :: .val tGraph x2 :: .val (.pair (.opt tI) (.opt tI)) x3 :: r))) (fun r => d (.val tTypes x0 :: .val tGraph x1 :: .val tGraph x2 :: r))) (fun r => d (.val tTypes x0 :: .val tGraph x1 :: r))) (fun r => d (.val tTypes x0 :: r))) d
theorem t_search_found_eq (k : Nat) (l : List (Arg E)) : t_search_found (run M k) k (run M (k + 1) 145) l = run M (k + 1) 145 l := by
  refine aV_eq (fun x0 r => ?_) l
  refine aV_eq (fun x1 r => ?_) r
  refine aV_eq (fun x2 r => ?_) r
  refine aV_eq (fun x3 r => ?_) r
  refine aV_eq (fun x4 r => ?_) r
  refine aV_eq (fun x5 r => ?_) r
  refine aN_eq ?_ r
  exact (e_search_found k x0 x1 x2 x3 x4 x5).symm
noncomputable def t_search_all (R : RunT) (k : Nat) (d : List (Arg E) → Res E) : List (Arg E) → Res E :=
  aV tTypes (fun x0 => aV tGraph (fun x1 => aV tGraph (fun x2 => aV (.pair (.opt tI) (.opt tI)) (fun x3 => aV .bool (fun x4 => aN (b_search_all R x0 x1 x2 x3 x4) (fun r => d (.val tTypes x0 :: .val tGraph x1 :: .val tGraph x2 :: .val (.pair (.opt tI) (.opt tI)) x3 :: .val .bool x4 :: r))) (fun r => d (.val tTypes x0 :: .val tGraph x1 :: .val tGraph x2 :: .val (.pair (.opt tI) (.opt tI)) x3 :: r))) (fun r => d (.val tTypes x0 :: .val tGraph x1 :: .val tGraph x2 :: r))) (fun r => d (.val tTypes x0 :: .val tGraph x1 :: r))) (fun r => d (.val tTypes x0 :: r))) d
theorem t_search_all_eq (k : Nat) (l : List (Arg E)) : t_search_all (run M k) k (run M (k + 1) 107) l = run M (k + 1) 107 l := by
  refine aV_eq (fun x0 r => ?_) l
  refine aV_eq (fun x1 r => ?_) r
  refine aV_eq (fun x2 r => ?_) r
  refine aV_eq (fun x3 r => ?_) r
  refine aV_eq (fun x4 r => ?_) r
  refine aN_eq ?_ r
  exact (e_search_all k x0 x1 x2 x3 x4).symm
noncomputable def t_search_All (R : RunT) (k : Nat) (d : List (Arg E) → Res E) : List (Arg E) → Res E :=
  aV tTypes (fun x0 => aV tGraph (fun x1 => aV tGraph (fun x2 => aV .bool (fun x3 => aN (b_search_All R x0 x1 x2 x3) (fun r => d (.val tTypes x0 :: .val tGraph x1 :: .val tGraph x2 :: .val .bool x3 :: r))) (fun r => d (.val tTypes x0 :: .val tGraph x1 :: .val tGraph x2 :: r))) (fun r => d (.val tTypes x0 :: .val tGraph x1 :: r))) (fun r => d (.val tTypes x0 :: r))) d
theorem t_search_All_eq (k : Nat) (l : List (Arg E)) : t_search_All (run M k) k (run M (k + 1) 63) l = run M (k + 1) 63 l := by
  refine aV_eq (fun x0 r => ?_) l
  refine aV_eq (fun x1 r => ?_) r
  refine aV_eq (fun x2 r => ?_) r
  refine aV_eq (fun x3 r => ?_) r
  refine aN_eq ?_ r
  exact (e_search_All k x0 x1 x2 x3).symm
noncomputable def t_math_bits_Mul64 (R : RunT) (k : Nat) (d : List (Arg E) → Res E) : List (Arg E) → Res E :=
  aV (.int .u64) (fun x0 => aV (.int .u64) (fun x1 => aN (b_math_bits_Mul64 R x0 x1) (fun r => d (.val (.int .u64) x0 :: .val (.int .u64) x1 :: r))) (fun r => d (.val (.int .u64) x0 :: r))) d
theorem t_math_bits_Mul64_eq (k : Nat) (l : List (Arg E)) : t_math_bits_Mul64 (run M k) k (run M (k + 1) 199) l = run M (k + 1) 199 l := by
  refine aV_eq (fun x0 r => ?_) l
  refine aV_eq (fun x1 r => ?_) r
  refine aN_eq ?_ r
  exact (e_math_bits_Mul64 k x0 x1).symm
noncomputable def t_math_bits_Mul (R : RunT) (k : Nat) (d : List (Arg E) → Res E) : List (Arg E) → Res E :=
  aV (.int .u64) (fun x0 => aV (.int .u64) (fun x1 => aN (b_math_bits_Mul R x0 x1) (fun r => d (.val (.int .u64) x0 :: .val (.int .u64) x1 :: r))) (fun r => d (.val (.int .u64) x0 :: r))) d
theorem t_math_bits_Mul_eq (k : Nat) (l : List (Arg E)) : t_math_bits_Mul (run M k) k (run M (k + 1) 170) l = run M (k + 1) 170 l := by
  refine aV_eq (fun x0 r => ?_) l
  refine aV_eq (fun x1 r => ?_) r
  refine aN_eq ?_ r
  exact (e_math_bits_Mul k x0 x1).symm
noncomputable def t_slices_Repeat_int (R : RunT) (k : Nat) (d : List (Arg E) → Res E) : List (Arg E) → Res E :=
  aV (.slice tI) (fun x0 => aV tI (fun x1 => aN (b_slices_Repeat_int R (l_slices_Repeat_int_0 R k) x0 x1) (fun r => d (.val (.slice tI) x0 :: .val tI x1 :: r))) (fun r => d (.val (.slice tI) x0 :: r))) d
theorem t_slices_Repeat_int_eq (k : Nat) (l : List (Arg E)) : t_slices_Repeat_int (run M k) k (run M (k + 1) 146) l = run M (k + 1) 146 l := by
  refine aV_eq (fun x0 r => ?_) l
  refine aV_eq (fun x1 r => ?_) r
  refine aN_eq ?_ r
  exact (e_slices_Repeat_int k x0 x1).symm
noncomputable def t_constraint_open (R : RunT) (k : Nat) (d : List (Arg E) → Res E) : List (Arg E) → Res E :=
  aV tI (fun x0 => aV (.slice tI) (fun x1 => aV (.slice tI) (fun x2 => aN (b_constraint_open R (l_constraint_open_0 R k) x0 x1 x2) (fun r => d (.val tI x0 :: .val (.slice tI) x1 :: .val (.slice tI) x2 :: r))) (fun r => d (.val tI x0 :: .val (.slice tI) x1 :: r))) (fun r => d (.val tI x0 :: r))) d
theorem t_constraint_open_eq (k : Nat) (l : List (Arg E)) : t_constraint_open (run M k) k (run M (k + 1) 108) l = run M (k + 1) 108 l := by
  refine aV_eq (fun x0 r => ?_) l
  refine aV_eq (fun x1 r => ?_) r
  refine aV_eq (fun x2 r => ?_) r
  refine aN_eq ?_ r
  exact (e_constraint_open k x0 x1 x2).symm
noncomputable def t_search_open_1 (R : RunT) (k : Nat) (d : List (Arg E) → Res E) : List (Arg E) → Res E :=
  aV tI (fun x0 => aR tI (fun x1 => aN (b_search_open_1 R x0 x1) (fun r => d (.val tI x0 :: .ro tI x1 :: r))) (fun r => d (.val tI x0 :: r))) d
theorem t_search_open_1_eq (k : Nat) (l : List (Arg E)) : t_search_open_1 (run M k) k (run M (k + 1) 171) l = run M (k + 1) 171 l := by
  refine aV_eq (fun x0 r => ?_) l
  refine aR_eq (fun x1 r => ?_) r
  refine aN_eq ?_ r
  exact (e_search_open_1 k x0 x1).symm
noncomputable def t_search_open (R : RunT) (k : Nat) (d : List (Arg E) → Res E) : List (Arg E) → Res E :=
  aV (.slice tI) (fun x0 => aV tI (fun x1 => aN (b_search_open R x0 x1) (fun r => d (.val (.slice tI) x0 :: .val tI x1 :: r))) (fun r => d (.val (.slice tI) x0 :: r))) d
theorem t_search_open_eq (k : Nat) (l : List (Arg E)) : t_search_open (run M k) k (run M (k + 1) 147) l = run M (k + 1) 147 l := by
  refine aV_eq (fun x0 r => ?_) l
  refine aV_eq (fun x1 r => ?_) r
  refine aN_eq ?_ r
  exact (e_search_open k x0 x1).symm
noncomputable def t_search_Extend (R : RunT) (k : Nat) (d : List (Arg E) → Res E) : List (Arg E) → Res E :=
  aV tTypes (fun x0 => aV tGraph (fun x1 => aV tGraph (fun x2 => aV tMorphism (fun x3 => aV .bool (fun x4 => aN (b_search_Extend R x0 x1 x2 x3 x4) (fun r => d (.val tTypes x0 :: .val tGraph x1 :: .val tGraph x2 :: .val tMorphism x3 :: .val .bool x4 :: r))) (fun r => d (.val tTypes x0 :: .val tGraph x1 :: .val tGraph x2 :: .val tMorphism x3 :: r))) (fun r => d (.val tTypes x0 :: .val tGraph x1 :: .val tGraph x2 :: r))) (fun r => d (.val tTypes x0 :: .val tGraph x1 :: r))) (fun r => d (.val tTypes x0 :: r))) d
theorem t_search_Extend_eq (k : Nat) (l : List (Arg E)) : t_search_Extend (run M k) k (run M (k + 1) 109) l = run M (k + 1) 109 l := by
  refine aV_eq (fun x0 r => ?_) l
  refine aV_eq (fun x1 r => ?_) r
  refine aV_eq (fun x2 r => ?_) r
  refine aV_eq (fun x3 r => ?_) r
  refine aV_eq (fun x4 r => ?_) r
  refine aN_eq ?_ r
  exact (e_search_Extend k x0 x1 x2 x3 x4).symm
noncomputable def t_constraint_extended (R : RunT) (k : Nat) (d : List (Arg E) → Res E) : List (Arg E) → Res E :=
  aV tTypes (fun x0 => aV tConstraint (fun x1 => aV tGraph (fun x2 => aV tMorphism (fun x3 => aN (b_constraint_extended R (l_constraint_extended_0 R k) x0 x1 x2 x3) (fun r => d (.val tTypes x0 :: .val tConstraint x1 :: .val tGraph x2 :: .val tMorphism x3 :: r))) (fun r => d (.val tTypes x0 :: .val tConstraint x1 :: .val tGraph x2 :: r))) (fun r => d (.val tTypes x0 :: .val tConstraint x1 :: r))) (fun r => d (.val tTypes x0 :: r))) d
theorem t_constraint_extended_eq (k : Nat) (l : List (Arg E)) : t_constraint_extended (run M k) k (run M (k + 1) 64) l = run M (k + 1) 64 l := by
  refine aV_eq (fun x0 r => ?_) l
  refine aV_eq (fun x1 r => ?_) r
  refine aV_eq (fun x2 r => ?_) r
  refine aV_eq (fun x3 r => ?_) r
  refine aN_eq ?_ r
  exact (e_constraint_extended k x0 x1 x2 x3).symm
noncomputable def t_constraint_Violations (R : RunT) (k : Nat) (d : List (Arg E) → Res E) : List (Arg E) → Res E :=
  aV tTypes (fun x0 => aV tConstraint (fun x1 => aV tGraph (fun x2 => aN (b_constraint_Violations R (l_constraint_Violations_0 R k) x0 x1 x2) (fun r => d (.val tTypes x0 :: .val tConstraint x1 :: .val tGraph x2 :: r))) (fun r => d (.val tTypes x0 :: .val tConstraint x1 :: r))) (fun r => d (.val tTypes x0 :: r))) d
theorem t_constraint_Violations_eq (k : Nat) (l : List (Arg E)) : t_constraint_Violations (run M k) k (run M (k + 1) 27) l = run M (k + 1) 27 l := by
  refine aV_eq (fun x0 r => ?_) l
  refine aV_eq (fun x1 r => ?_) r
  refine aV_eq (fun x2 r => ?_) r
  refine aN_eq ?_ r
  exact (e_constraint_Violations k x0 x1 x2).symm
noncomputable def t_r04_Example (R : RunT) (k : Nat) (d : List (Arg E) → Res E) : List (Arg E) → Res E :=
  aN (b_r04_Example R) d
theorem t_r04_Example_eq (k : Nat) (l : List (Arg E)) : t_r04_Example (run M k) k (run M (k + 1) 28) l = run M (k + 1) 28 l := by
  refine aN_eq ?_ l
  exact (e_r04_Example k).symm
noncomputable def t_w42_awake (R : RunT) (k : Nat) (d : List (Arg E) → Res E) : List (Arg E) → Res E :=
  aN (b_w42_awake R) d
theorem t_w42_awake_eq (k : Nat) (l : List (Arg E)) : t_w42_awake (run M k) k (run M (k + 1) 7) l = run M (k + 1) 7 l := by
  refine aN_eq ?_ l
  exact (e_w42_awake k).symm
noncomputable def tabT (R : RunT) (k : Nat) : Tr (List (Arg E) → Res E) := (.node 114 (t_graph_Valid_2 R k (run M (k + 1) 114)) (.node 70 (t_slices_Clone_int R k (run M (k + 1) 70)) (.node 55 (t_constraint_leaf R k (run M (k + 1) 55)) (.node 37 (t_types_Valid R k (run M (k + 1) 37)) (.node 27 (t_constraint_Violations R k (run M (k + 1) 27)) (.node 12 (t_constraint_Valid R k (run M (k + 1) 12)) (.node 7 (t_w42_awake R k (run M (k + 1) 7)) .leaf .leaf) (.node 25 (t_constraint_Multiplicities R k (run M (k + 1) 25)) .leaf .leaf)) (.node 31 (t_constraint_shape R k (run M (k + 1) 31)) (.node 28 (t_r04_Example R k (run M (k + 1) 28)) .leaf .leaf) .leaf)) (.node 40 (t_constraint_Valid_1 R k (run M (k + 1) 40)) (.node 39 (t_slices_ContainsFunc_Extension R k (run M (k + 1) 39)) (.node 38 (t_constraint_leaves R k (run M (k + 1) 38)) .leaf .leaf) .leaf) (.node 54 (t_constraint_sides R k (run M (k + 1) 54)) (.node 53 (t_constraint_bounded R k (run M (k + 1) 53)) .leaf .leaf) .leaf))) (.node 64 (t_constraint_extended R k (run M (k + 1) 64)) (.node 58 (t_constraint_side_least R k (run M (k + 1) 58)) (.node 57 (t_constraint_side_ends R k (run M (k + 1) 57)) (.node 56 (t_types_Is R k (run M (k + 1) 56)) .leaf .leaf) .leaf) (.node 63 (t_search_All R k (run M (k + 1) 63)) (.node 59 (t_constraint_side_greatest R k (run M (k + 1) 59)) .leaf .leaf) .leaf)) (.node 67 (t_constraint_large R k (run M (k + 1) 67)) (.node 66 (t_graph_Valid R k (run M (k + 1) 66)) (.node 65 (t_token_IsName R k (run M (k + 1) 65)) .leaf .leaf) .leaf) (.node 69 (t_morphism_Injective R k (run M (k + 1) 69)) (.node 68 (t_morphism_Valid R k (run M (k + 1) 68)) .leaf .leaf) .leaf)))) (.node 100 (t_constraint_side_link R k (run M (k + 1) 100)) (.node 82 (t_slices_IndexFunc_Extension R k (run M (k + 1) 82)) (.node 79 (t_slices_ContainsFunc_Edge R k (run M (k + 1) 79)) (.node 78 (t_types_edge R k (run M (k + 1) 78)) (.node 77 (t_types_node R k (run M (k + 1) 77)) .leaf .leaf) .leaf) (.node 81 (t_types_Fits R k (run M (k + 1) 81)) (.node 80 (t_constraint_leaves_1 R k (run M (k + 1) 80)) .leaf .leaf) .leaf)) (.node 97 (t_constraint_leaf_1 R k (run M (k + 1) 97)) (.node 96 (t_slices_ContainsFunc_NodeType R k (run M (k + 1) 96)) (.node 87 (t_slices_Contains_int R k (run M (k + 1) 87)) .leaf .leaf) .leaf) (.node 99 (t_types_is R k (run M (k + 1) 99)) (.node 98 (t_types_given R k (run M (k + 1) 98)) .leaf .leaf) .leaf))) (.node 108 (t_constraint_open R k (run M (k + 1) 108)) (.node 103 (t_constraint_choices R k (run M (k + 1) 103)) (.node 102 (t_partition_Quotient R k (run M (k + 1) 102)) (.node 101 (t_partition_All R k (run M (k + 1) 101)) .leaf .leaf) .leaf) (.node 107 (t_search_all R k (run M (k + 1) 107)) (.node 106 (t_search_valid R k (run M (k + 1) 106)) .leaf .leaf) .leaf)) (.node 111 (t_slices_ContainsFunc_int R k (run M (k + 1) 111)) (.node 110 (t_token_whole R k (run M (k + 1) 110)) (.node 109 (t_search_Extend R k (run M (k + 1) 109)) .leaf .leaf) .leaf) (.node 113 (t_graph_within R k (run M (k + 1) 113)) (.node 112 (t_graph_Valid_1 R k (run M (k + 1) 112)) .leaf .leaf) .leaf))))) (.node 157 (t_slices_IndexFunc_EdgeType R k (run M (k + 1) 157)) (.node 139 (t_types_given_1 R k (run M (k + 1) 139)) (.node 126 (t_slices_ContainsFunc_EdgeType R k (run M (k + 1) 126)) (.node 123 (t_types_attrs R k (run M (k + 1) 123)) (.node 116 (t_morphism_images R k (run M (k + 1) 116)) (.node 115 (t_graph_fits R k (run M (k + 1) 115)) .leaf .leaf) (.node 122 (t_types_node_1 R k (run M (k + 1) 122)) .leaf .leaf)) (.node 125 (t_types_edge_1 R k (run M (k + 1) 125)) (.node 124 (t_types_attribute R k (run M (k + 1) 124)) .leaf .leaf) .leaf)) (.node 129 (t_slices_IndexFunc_Edge R k (run M (k + 1) 129)) (.node 128 (t_types_bounded R k (run M (k + 1) 128)) (.node 127 (t_types_edge_2 R k (run M (k + 1) 127)) .leaf .leaf) .leaf) (.node 138 (t_slices_IndexFunc_NodeType R k (run M (k + 1) 138)) (.node 133 (t_slices_Index_int R k (run M (k + 1) 133)) .leaf .leaf) .leaf))) (.node 147 (t_search_open R k (run M (k + 1) 147)) (.node 144 (t_search_within R k (run M (k + 1) 144)) (.node 141 (t_partition_one R k (run M (k + 1) 141)) (.node 140 (t_types_line R k (run M (k + 1) 140)) .leaf .leaf) .leaf) (.node 146 (t_slices_Repeat_int R k (run M (k + 1) 146)) (.node 145 (t_search_found R k (run M (k + 1) 145)) .leaf .leaf) .leaf)) (.node 154 (t_slices_ContainsFunc_Attr R k (run M (k + 1) 154)) (.node 149 (t_slices_IndexFunc_int R k (run M (k + 1) 149)) (.node 148 (t_token_next R k (run M (k + 1) 148)) .leaf .leaf) .leaf) (.node 156 (t_types_names R k (run M (k + 1) 156)) (.node 155 (t_types_attribute_1 R k (run M (k + 1) 155)) .leaf .leaf) .leaf)))) (.node 175 (t_token_digit R k (run M (k + 1) 175)) (.node 169 (t_search_finder_find R k (run M (k + 1) 169)) (.node 166 (t_search_within_1 R k (run M (k + 1) 166)) (.node 160 (t_partition_right R k (run M (k + 1) 160)) (.node 159 (t_slices_Reverse_int R k (run M (k + 1) 159)) .leaf .leaf) .leaf) (.node 168 (t_search_below R k (run M (k + 1) 168)) (.node 167 (t_search_within_2 R k (run M (k + 1) 167)) .leaf .leaf) .leaf)) (.node 172 (t_token_letter R k (run M (k + 1) 172)) (.node 171 (t_search_open_1 R k (run M (k + 1) 171)) (.node 170 (t_math_bits_Mul R k (run M (k + 1) 170)) .leaf .leaf) .leaf) (.node 174 (t_token_part R k (run M (k + 1) 174)) (.node 173 (t_token_run R k (run M (k + 1) 173)) .leaf .leaf) .leaf))) (.node 195 (t_search_given R k (run M (k + 1) 195)) (.node 186 (t_slices_IndexFunc_Attr R k (run M (k + 1) 186)) (.node 177 (t_token_pair R k (run M (k + 1) 177)) (.node 176 (t_token_quoted R k (run M (k + 1) 176)) .leaf .leaf) .leaf) (.node 194 (t_types_Below R k (run M (k + 1) 194)) (.node 187 (t_slices_Contains_string R k (run M (k + 1) 187)) .leaf .leaf) .leaf)) (.node 199 (t_math_bits_Mul64 R k (run M (k + 1) 199)) (.node 197 (t_search_finder_fits R k (run M (k + 1) 197)) (.node 196 (t_search_finder_possible R k (run M (k + 1) 196)) .leaf .leaf) .leaf) (.node 212 (t_slices_Index_string R k (run M (k + 1) 212)) (.node 200 (t_token_quoted_1 R k (run M (k + 1) 200)) .leaf .leaf) .leaf))))))
theorem tabT_ok (k : Nat) : Tr.AllP (fun f (g : List (Arg E) → Res E) => ∀ l, g l = run M (k + 1) f l) (tabT (run M k) k) := by unfold tabT; exact (.node (t_graph_Valid_2_eq k) (.node (t_slices_Clone_int_eq k) (.node (t_constraint_leaf_eq k) (.node (t_types_Valid_eq k) (.node (t_constraint_Violations_eq k) (.node (t_constraint_Valid_eq k) (.node (t_w42_awake_eq k) .leaf .leaf) (.node (t_constraint_Multiplicities_eq k) .leaf .leaf)) (.node (t_constraint_shape_eq k) (.node (t_r04_Example_eq k) .leaf .leaf) .leaf)) (.node (t_constraint_Valid_1_eq k) (.node (t_slices_ContainsFunc_Extension_eq k) (.node (t_constraint_leaves_eq k) .leaf .leaf) .leaf) (.node (t_constraint_sides_eq k) (.node (t_constraint_bounded_eq k) .leaf .leaf) .leaf))) (.node (t_constraint_extended_eq k) (.node (t_constraint_side_least_eq k) (.node (t_constraint_side_ends_eq k) (.node (t_types_Is_eq k) .leaf .leaf) .leaf) (.node (t_search_All_eq k) (.node (t_constraint_side_greatest_eq k) .leaf .leaf) .leaf)) (.node (t_constraint_large_eq k) (.node (t_graph_Valid_eq k) (.node (t_token_IsName_eq k) .leaf .leaf) .leaf) (.node (t_morphism_Injective_eq k) (.node (t_morphism_Valid_eq k) .leaf .leaf) .leaf)))) (.node (t_constraint_side_link_eq k) (.node (t_slices_IndexFunc_Extension_eq k) (.node (t_slices_ContainsFunc_Edge_eq k) (.node (t_types_edge_eq k) (.node (t_types_node_eq k) .leaf .leaf) .leaf) (.node (t_types_Fits_eq k) (.node (t_constraint_leaves_1_eq k) .leaf .leaf) .leaf)) (.node (t_constraint_leaf_1_eq k) (.node (t_slices_ContainsFunc_NodeType_eq k) (.node (t_slices_Contains_int_eq k) .leaf .leaf) .leaf) (.node (t_types_is_eq k) (.node (t_types_given_eq k) .leaf .leaf) .leaf))) (.node (t_constraint_open_eq k) (.node (t_constraint_choices_eq k) (.node (t_partition_Quotient_eq k) (.node (t_partition_All_eq k) .leaf .leaf) .leaf) (.node (t_search_all_eq k) (.node (t_search_valid_eq k) .leaf .leaf) .leaf)) (.node (t_slices_ContainsFunc_int_eq k) (.node (t_token_whole_eq k) (.node (t_search_Extend_eq k) .leaf .leaf) .leaf) (.node (t_graph_within_eq k) (.node (t_graph_Valid_1_eq k) .leaf .leaf) .leaf))))) (.node (t_slices_IndexFunc_EdgeType_eq k) (.node (t_types_given_1_eq k) (.node (t_slices_ContainsFunc_EdgeType_eq k) (.node (t_types_attrs_eq k) (.node (t_morphism_images_eq k) (.node (t_graph_fits_eq k) .leaf .leaf) (.node (t_types_node_1_eq k) .leaf .leaf)) (.node (t_types_edge_1_eq k) (.node (t_types_attribute_eq k) .leaf .leaf) .leaf)) (.node (t_slices_IndexFunc_Edge_eq k) (.node (t_types_bounded_eq k) (.node (t_types_edge_2_eq k) .leaf .leaf) .leaf) (.node (t_slices_IndexFunc_NodeType_eq k) (.node (t_slices_Index_int_eq k) .leaf .leaf) .leaf))) (.node (t_search_open_eq k) (.node (t_search_within_eq k) (.node (t_partition_one_eq k) (.node (t_types_line_eq k) .leaf .leaf) .leaf) (.node (t_slices_Repeat_int_eq k) (.node (t_search_found_eq k) .leaf .leaf) .leaf)) (.node (t_slices_ContainsFunc_Attr_eq k) (.node (t_slices_IndexFunc_int_eq k) (.node (t_token_next_eq k) .leaf .leaf) .leaf) (.node (t_types_names_eq k) (.node (t_types_attribute_1_eq k) .leaf .leaf) .leaf)))) (.node (t_token_digit_eq k) (.node (t_search_finder_find_eq k) (.node (t_search_within_1_eq k) (.node (t_partition_right_eq k) (.node (t_slices_Reverse_int_eq k) .leaf .leaf) .leaf) (.node (t_search_below_eq k) (.node (t_search_within_2_eq k) .leaf .leaf) .leaf)) (.node (t_token_letter_eq k) (.node (t_search_open_1_eq k) (.node (t_math_bits_Mul_eq k) .leaf .leaf) .leaf) (.node (t_token_part_eq k) (.node (t_token_run_eq k) .leaf .leaf) .leaf))) (.node (t_search_given_eq k) (.node (t_slices_IndexFunc_Attr_eq k) (.node (t_token_pair_eq k) (.node (t_token_quoted_eq k) .leaf .leaf) .leaf) (.node (t_types_Below_eq k) (.node (t_slices_Contains_string_eq k) .leaf .leaf) .leaf)) (.node (t_math_bits_Mul64_eq k) (.node (t_search_finder_fits_eq k) (.node (t_search_finder_possible_eq k) .leaf .leaf) .leaf) (.node (t_slices_Index_string_eq k) (.node (t_token_quoted_1_eq k) .leaf .leaf) .leaf))))))
noncomputable def T : Nat → RunT
  | 0 => run M 0
  | k + 1 => fun f l => match (tabT (T k) k).find f with
    | some g => g l
    | none => run M (k + 1) f l
theorem T_eq : ∀ k, T k = run M k
  | 0 => rfl
  | k + 1 => by
    funext f l
    show (match (tabT (T k) k).find f with | some g => g l | none => run M (k + 1) f l) = _
    rw [T_eq k]
    cases h : (tabT (run M k) k).find f with
    | none => rfl
    | some g => exact (tabT_ok k).find h l
end Go.Proofs.AM

namespace Go.Proofs.AM
open Go
set_option maxRecDepth 100000
theorem awake_T (k : Nat) : T (k + 100) f_w42_awake [] = some ⟨.bool, true⟩ := by kernel_rfl
theorem awake {k : Nat} (hk : 100 ≤ k) : run M k f_w42_awake [] = some ⟨.bool, true⟩ := by
  obtain ⟨j, rfl⟩ : ∃ j, k = j + 100 := ⟨k - 100, by omega⟩
  rw [← T_eq]; exact awake_T j
end Go.Proofs.AM
