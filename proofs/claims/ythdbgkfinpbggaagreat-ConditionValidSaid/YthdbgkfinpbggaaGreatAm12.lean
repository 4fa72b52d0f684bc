/- scarfjointlaw22.ConditionValid: the row, proved. -/
import Derived.Test.YthdbgkfinpbggaaGreatAm11
import Derived.Test.YthdbgkfinpbggaaGreatAm10
import Derived.Test.YthdbgkfinpbggaaGreatAm5
set_option linter.unusedVariables false
set_option linter.unusedSimpArgs false
namespace Go.Proofs.AM
open Go
open Go.Proofs.YthdbgkfinpbggaaGreat
theorem validLaw : ValidLaw := by
  intro xs hxs
  have hp : Tryz.f3.params.toList = [25, 40] := by kernel_rfl
  rw [hp] at hxs
  cases hxs with
  | cons h1 hxs =>
    cases hxs with
    | cons h2 hxs =>
      cases hxs
      rename_i a b
      obtain ⟨⟨ti, hti, ha⟩, hga⟩ := h1
      obtain ⟨⟨tj, htj, hb⟩, hgb⟩ := h2
      have e1 : (tysT.find 25).map (·.ty) = some tTypes := by kernel_rfl
      have e2 : (tysT.find 40).map (·.ty) = some tOver := by kernel_rfl
      rw [hti] at e1
      rw [htj] at e2
      injection e1 with e1
      injection e2 with e2
      have e1 : ti.ty = tTypes := e1
      have e2 : tj.ty = tOver := e2
      obtain ⟨ta, x⟩ := a
      obtain ⟨tb, y⟩ := b
      simp only at ha hb
      rw [e1] at ha
      rw [e2] at hb
      subst ha; subst hb
      obtain ⟨p, c⟩ := y
      have hgb : Good E (.pair tPattern (.nom 0)) (p, c) := hgb
      cases hgb with
      | pair _ hc => exact ⟨100001, valid22_data x p c (good_types hga) (good_big c hc)⟩
end Go.Proofs.AM
namespace Go.Proofs.YthdbgkfinpbggaaGreat
theorem conditionValid_holds : Rows.ConditionValidSaid := AM.valid_row AM.machOk AM.validLaw
end Go.Proofs.YthdbgkfinpbggaaGreat
