/- ConstraintSubsumes: the claim's card. -/
import Derived.Test.YtblkffncllmpnaaGreatDoorAm10
import Derived.Test.YtblkffncllmpnaaGreatDoorAm11
import Derived.Test.YtblkffncllmpnaaGreatDoorAm5
namespace Go.Proofs.AM
open Go
open Go.Proofs.YtblkffncllmpnaaGreatDoor
theorem subLaw : SubLaw := by
  intro xs hxs
  have hp : Tryz.f4.params.toList = [32, 32] := by kernel_rfl
  rw [hp] at hxs
  cases hxs with
  | cons h1 hxs =>
    cases hxs with
    | cons h2 hxs =>
      cases hxs
      rename_i a b
      obtain ⟨⟨ti, hti, ha⟩, _⟩ := h1
      obtain ⟨⟨tj, htj, hb⟩, _⟩ := h2
      have e2 : (tysT.find 32).map (·.ty) = some tConstraint := by kernel_rfl
      have e1 := e2
      rw [hti] at e1
      rw [htj] at e2
      injection e1 with e1
      injection e2 with e2
      have e1 : ti.ty = tConstraint := e1
      have e2 : tj.ty = tConstraint := e2
      obtain ⟨ta, x⟩ := a
      obtain ⟨tb, y⟩ := b
      simp only at ha hb
      rw [e1] at ha
      rw [e2] at hb
      subst ha; subst hb
      exact ⟨30001, subsumes_data x y⟩
end Go.Proofs.AM
namespace Go.Proofs.YtblkffncllmpnaaGreatDoor
theorem constraintSubsumes_holds : Rows.ConstraintSubsumesCardSaid := AM.sub_card AM.machOk AM.subLaw
end Go.Proofs.YtblkffncllmpnaaGreatDoor
