/- scarfjointlaw22.ConditionSimplify: the row, proved. -/
import Derived.Test.YthdbgkfinpbggaaGreatSAm11
import Derived.Test.YthdbgkfinpbggaaGreatSAm10
import Derived.Test.YthdbgkfinpbggaaGreatSAm5
set_option linter.unusedVariables false
set_option linter.unusedSimpArgs false
namespace Go.Proofs.AM
open Go
open Go.Proofs.YthdbgkfinpbggaaGreat
theorem simplifyLaw : SimplifyLaw := by
  intro xs hxs
  have hp : Tryz.f9.params.toList = [38, 38] := by kernel_rfl
  rw [hp] at hxs
  cases hxs with
  | cons h1 hxs =>
    cases hxs with
    | cons h2 hxs =>
      cases hxs
      rename_i a b
      obtain ⟨⟨ti, hti, ha⟩, hga⟩ := h1
      obtain ⟨⟨tj, htj, hb⟩, hgb⟩ := h2
      have e1 : (tysT.find 38).map (·.ty) = some (.nom 0) := by kernel_rfl
      rw [hti] at e1
      injection e1 with e1
      have e1 : ti.ty = .nom 0 := e1
      have e2 : tj.ty = .nom 0 := by
        rw [hti] at htj; injection htj with htj; rw [← htj]; exact e1
      obtain ⟨ta, x⟩ := a
      obtain ⟨tb, y⟩ := b
      simp only at ha hb
      rw [e1] at ha
      rw [e2] at hb
      subst ha; subst hb
      exact ⟨3000001, simp22_data x y (good_big x hga)⟩
end Go.Proofs.AM
namespace Go.Proofs.YthdbgkfinpbggaaGreat
theorem conditionSimplify_holds : Rows.ConditionSimplifySaid := AM.simplify_row AM.machOk AM.simplifyLaw
end Go.Proofs.YthdbgkfinpbggaaGreat
