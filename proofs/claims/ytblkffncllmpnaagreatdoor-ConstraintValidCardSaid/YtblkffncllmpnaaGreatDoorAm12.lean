/- scarfjointlaw42.ConstraintValid returns true for every type graph and every constraint, and each argument reads behind the call as it read before: the tied card (Rows.ConstraintValidCardSaid); no condition beyond the row's own. -/
import Derived.Test.YtblkffncllmpnaaGreatDoorAm10
import Derived.Test.YtblkffncllmpnaaGreatDoorAm8
import Derived.Test.YtblkffncllmpnaaGreatDoorAm11
import Derived.Test.YtblkffncllmpnaaGreatDoorAm5
namespace Go.Proofs.AM
open Go
open Go.Proofs.YtblkffncllmpnaaGreatDoor
def few5 (g : GraphD) : Bool := cond (decide ((g.1.length : Int) ≤ (45 : Int))) (decide ((g.2.length : Int) ≤ (90 : Int))) false
def few6 (m : MorD) : Bool := decide ((IntKind.i64.wrap ((m.1.length : Int) + (m.2.length : Int))) ≤ (140 : Int))
def fewC (c : ConD) : Bool := cond (cond (cond (decide ((60 : Int) < (c.1.size : Int))) true (decide ((10 : Int) < (c.2.2.2.length : Int)))) true (!few5 c.2.2.1)) false (c.2.2.2.all fun x => few5 x.2 && few6 x.1)
theorem r05_Few_ev (g : GraphD) : ∀ k, 1 ≤ k → run M k f_r05_Few [.val tGraph g] = some ⟨.bool, few5 g⟩ := by
  intro k hk
  obtain ⟨k, rfl⟩ : ∃ i, k = i + 1 := ⟨k - 1, by omega⟩
  exact e_r05_Few k g
theorem r06_Few_ev (m : MorD) : ∀ k, 1 ≤ k → run M k f_r06_Few [.val tMorphism m, .val tI (140 : Int)] = some ⟨.bool, few6 m⟩ := by
  intro k hk
  obtain ⟨k, rfl⟩ : ∃ i, k = i + 1 := ⟨k - 1, by omega⟩
  exact e_r06_Few k m 140
theorem r42_Few_ev (c : ConD) : ∀ k, 50 ≤ k → run M k f_r42_Few [.val tConstraint c] = some ⟨.bool, fewC c⟩ := by
  intro k hk
  obtain ⟨k, rfl⟩ : ∃ i, k = i + 1 := ⟨k - 1, by omega⟩
  obtain ⟨name, kind, g, xs⟩ := c
  rw [e_r42_Few, b_r42_Few]
  unfold fewC
  simp only
  cases h1 : decide ((60 : Int) < (name.size : Int)) with
  | true => rfl
  | false =>
    cases h2 : decide ((10 : Int) < (xs.length : Int)) with
    | true => rfl
    | false =>
      have h2 := of_decide_eq_false h2
      simp only [cond_false, Bool.not_false, cond_true]
      show Option.bind (res .bool (run M k f_r05_Few [.val tGraph g])) _ = _
      rw [r05_Few_ev g k (by omega), res_some, bindS]
      cases few5 g with
      | false => rfl
      | true =>
        simp only [Bool.not_true, cond_false]
        exact loop_down (n := xs.length) (F := fun j i => l_r42_Few_0 (run M k) j i name kind g.1 g.2 xs) (G := fun q => some ⟨.bool, (xs.drop q).all fun x => few5 x.2 && few6 x.1⟩)
          (fun j => by
            show s_r42_Few_0 (run M k) _ _ name kind g.1 g.2 xs = _
            rw [List.drop_eq_nil_of_le (Nat.le_refl _)]
            simp [s_r42_Few_0])
          (fun q j hq ih => by
            show s_r42_Few_0 (run M k) _ _ name kind g.1 g.2 xs = _
            rw [all_drop _ _ q hq]
            simp only [s_r42_Few_0, inB_nat, hq, decide_true, Int.ofNat_lt, cond_true, rd_nat (t := tExtension) xs q hq, Bool.true_or]
            rw [wrap_succ (by omega), ih]
            generalize xs[q] = x
            show Option.bind (res .bool (run M k f_r05_Few [.val tGraph x.2])) (fun r1 => Option.bind (cond (!(!r1)) (res .bool (run M k f_r06_Few [.val tMorphism x.1, .val tI (140 : Int)])) (some (dflt E .bool))) _) = _
            rw [r05_Few_ev _ k (by omega), res_some, bindS, r06_Few_ev _ k (by omega), res_some]
            cases few5 x.2 <;> cases few6 x.1 <;> rfl) 0 (Nat.zero_le _) k (by omega)
theorem fewC_name {c : ConD} (h : fewC c = true) : c.1.size ≤ 60 := by
  unfold fewC at h
  cases h1 : decide ((60 : Int) < (c.1.size : Int)) with
  | true => rw [h1] at h; cases h
  | false => have := of_decide_eq_false h1; omega
theorem valid_data (t : TypesD) (c : ConD) (hs : ∀ n ∈ t.1, n.2.2.2.length ≤ reachBytes) : run M 30001 f_w42_ConstraintValid [.val tTypes t, .val tConstraint c] = some ⟨.bool, true⟩ := by
  rw [e_w42_ConstraintValid, b_w42_ConstraintValid, awake (by omega), res_some, bindS]
  simp only [Bool.not_true, Bool.not_false, cond_true, cond_false]
  show Option.bind (res .bool (run M 30000 f_r04_Few [.val tTypes t])) _ = _
  rw [r04_Few_ev t hs 30000 (by omega), res_some, bindS]
  cases hT : fewT t with
  | false => rfl
  | true =>
    simp only [Bool.not_true, Bool.not_false, cond_true, cond_false]
    show Option.bind (res .bool (run M 30000 f_r42_Few [.val tConstraint c])) _ = _
    rw [r42_Few_ev c 30000 (by omega), res_some, bindS]
    cases hC : fewC c with
    | false => rfl
    | true =>
      have hst := fewT_small hT
      have hn := fewC_name hC
      simp only [Bool.not_true, cond_false]
      show Option.bind (res (.pair (.nom 0) tI) (run M 30000 f_constraint_Condition [.val tConstraint c])) _ = _
      rw [constraint_Condition_ev c hn 30000 (by omega), res_some, bindS]
      show Option.bind (res (.pair (.nom 0) tI) (run M 30000 f_r42_Condition [.val tConstraint c])) _ = _
      rw [r42_Condition_ev c hn 30000 (by omega), res_some, bindS]
      show Option.bind (res tI (run M 30000 f_constraint_Valid [.val tTypes t, .val tConstraint c])) _ = _
      rw [constraint_Valid_ev t hst c hn 30000 (by omega), res_some, bindS]
      show Option.bind (res tI (run M 30000 f_r42_Valid [.val tTypes t, .val tConstraint c])) _ = _
      rw [r42_Valid_ev t hst c hn 30000 (by omega), res_some, bindS]
      simp only [decide_true, cond_true]
      rw [repack, Same_condP c 30000 (by omega), res_some, bindS]
theorem validLaw : ValidLaw := by
  intro xs hxs
  have hp : Tryz.f3.params.toList = [25, 32] := by kernel_rfl
  rw [hp] at hxs
  cases hxs with
  | cons h1 hxs =>
    cases hxs with
    | cons h2 hxs =>
      cases hxs
      rename_i a b
      obtain ⟨⟨ti, hti, ha⟩, hga⟩ := h1
      obtain ⟨⟨tj, htj, hb⟩, hgb⟩ := h2
      have e1 : (tysT.find 25).map (·.ty) = some tTypes := by kernel_rfl
      have e2 : (tysT.find 32).map (·.ty) = some tConstraint := by kernel_rfl
      rw [hti] at e1
      rw [htj] at e2
      injection e1 with e1
      injection e2 with e2
      have e1 : ti.ty = tTypes := e1
      have e2 : tj.ty = tConstraint := e2
      obtain ⟨ta, x⟩ := a
      obtain ⟨tb, y⟩ := b
      simp only at ha hb
      rw [e1] at ha
      rw [e2] at hb
      subst ha; subst hb
      refine ⟨30001, valid_data x y ?_⟩
      have hga : Good E (.pair (.slice tNodeType) (.slice tEdgeType)) x := hga
      cases hga with
      | pair g1 g2 =>
        rename_i ns es
        cases g1 with
        | slice hl hn =>
          intro n hn'
          obtain ⟨i, hi, rfl⟩ := List.getElem_of_mem hn'
          have := hn i hi
          generalize ns[i] = z at this
          cases this with
          | pair _ q1 =>
            cases q1 with
            | pair _ q2 =>
              cases q2 with
              | pair _ q3 =>
                cases q3 with
                | slice hl2 _ => exact hl2
end Go.Proofs.AM
namespace Go.Proofs.YtblkffncllmpnaaGreatDoor
theorem constraintValid_holds : Rows.ConstraintValidCardSaid := AM.valid_card AM.machOk AM.validLaw
end Go.Proofs.YtblkffncllmpnaaGreatDoor
