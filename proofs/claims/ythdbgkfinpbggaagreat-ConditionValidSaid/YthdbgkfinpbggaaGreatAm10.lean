/- Helpers of this claim: an abstract machine over the model, proved sound; what it computes. Part 10. -/
import Derived.Test.YthdbgkfinpbggaaGreatAm9
set_option linter.unusedVariables false
set_option linter.unusedSimpArgs false
namespace Go.Proofs.AM
open Go Go.RowKit Go.ChangeShapes Go.WideShapes
open Go.Proofs.YthdbgkfinpbggaaGreat
set_option maxRecDepth 100000
theorem prm3 : Tryz.f3.params.toList.all (argTy Tryz.prog tysT) = true := by kernel_rfl
theorem lt3 : (Tryz.f3.params.toList.all fun t => decide (t < Tryz.prog.types.size)) = true := by kernel_rfl
def ValidLaw : Prop := ∀ xs : List (Dt E), All2 (fun t (a : Dt E) => (∃ ti, tysT.find t = some ti ∧ a.1 = ti.ty) ∧ Good E a.1 a.2) Tryz.f3.params.toList xs → ∃ k, run M k 3 (xs.map fun d => Arg.val d.1 d.2) = some ⟨.bool, true⟩
theorem valid_lifted (hM : MOk Tryz.prog M) (law : ValidLaw) (os : Os) (started : os.Started) (H : Type) (enc : TypeId × Value → H) :
    ReturnsInHanded {} Tryz.checked os 3 .any (Rows.conditionValidSpec.pre6 enc Tryz.prog Tryz.f3 [] false)
      (Rows.conditionValidSpec.post enc Tryz.prog Tryz.f3 false true false false) := by
  refine returnsInHanded_of_change_sized (C := Tryz.checked) own started (by kernel_rfl) Tryz.func3
    (ChangeSpec.witness6 false ⟨#[], #[.agg #[.slice none 0 0, .slice none 0 0], .agg #[.slice none 0 0, .slice none 0 0, .slice none 0 0, .int .i64 0, .slice none 0 0, .int .i64 0, .slice none 0 0, .slice none 0 0, .slice none 0 0, .slice none 0 0, .slice none 0 0, .slice none 0 0, .int .i64 0, .slice none 0 0]], []⟩ 8 (by kernel_rfl) (by kernel_rfl) (by kernel_rfl) (by kernel_rfl)) ?_
  intro W base args ds gs before hval hW _ hwt _
  refine law_row envOk hM tysKind Tryz.func3 (by kernel_rfl) (c := Tryz.f3.body.get!) (by kernel_rfl) (sg := ⟨[.val tTypes, .val tOver], [(false, [(.bool, false)])]⟩) (by kernel_rfl) (by kernel_rfl) (tb := 4) (by kernel_rfl) (by kernel_rfl) (kids_rows laidOut rowed) slicesFull prm3 lt3 rfl (fun ds h => ?_) law hval hW hwt
  have h : ds.length = 2 := h
  match ds, h with
  | [d1, d2], _ => rfl
theorem j3_1 : Rows.conditionValidRow.wf (OpenSpec.ofChange Rows.conditionValidSpec) = true := by kernel_rfl
theorem j3_4 : Tryz.f3.params.all (Tryz.prog.readableRec ·) = true := by kernel_rfl
theorem j3_10 : (Rows.conditionValidRow.inPlace == Tryz.prog.inPlace 3) = true := by kernel_rfl
theorem j3_11 : (Rows.conditionValidRow.unfollowed == Tryz.prog.unfollowed 3) = true := by kernel_rfl
theorem j3_12 : (Rows.conditionValidRow.recurses == Tryz.prog.recurses 3) = true := by kernel_rfl
theorem j3_13 : (Rows.conditionValidRow.named == Tryz.prog.varsNamed 3) = true := by kernel_rfl
theorem j3_17 : (Rows.conditionValidRow.loops == (Tryz.f3.params.toList ++ Rows.conditionValidSpec.plain.varTypes Tryz.prog).any (Tryz.prog.loopsFrom ·)) = true := by kernel_rfl
theorem j3_18 : (Rows.conditionValidRow.wideKeys == (Tryz.f3.params.toList ++ Rows.conditionValidSpec.plain.varTypes Tryz.prog ++ Tryz.f3.resultTypes.toList).any (Tryz.prog.wideKeysFrom ·)) = true := by kernel_rfl
theorem j3_20 : Tryz.f3.resultTypes.all (fun t => Tryz.prog.readableRec t && decide (t < Tryz.prog.types.size)) = true := by kernel_rfl
theorem j3_22 : (Rows.conditionValidRow.loopsOut == Tryz.f3.resultTypes.toList.any (Tryz.prog.loopsFrom ·)) = true := by kernel_rfl
theorem j3_28 : (Tryz.prog.make == some Rows.conditionValidRow.make) = true := by kernel_rfl
theorem j3_31 : (Rows.conditionValidRow.veiled == (Tryz.f3.params.toList ++ Rows.conditionValidSpec.plain.varTypes Tryz.prog ++ Tryz.f3.resultTypes.toList).any (Tryz.prog.veiledRec ·)) = true := by kernel_rfl
theorem j3_32 : Rows.conditionValidRow.veiledFits Tryz.prog Tryz.f3.params.toList (Tryz.f3.params.toList ++ Rows.conditionValidSpec.plain.varTypes Tryz.prog ++ Tryz.f3.resultTypes.toList) = true := by kernel_rfl
theorem joined3 : joinedFacts Tryz.prog 3 Tryz.f3 Rows.conditionValidSpec Rows.conditionValidRow = true :=
  joined_of j3_1 laidOut rowed j3_4 (by kernel_rfl) (by kernel_rfl) c22_7 (by kernel_rfl) c22_9 j3_10 j3_11 j3_12 j3_13 (by kernel_rfl) (by kernel_rfl) (by kernel_rfl) j3_17 j3_18 (by kernel_rfl) j3_20 (by kernel_rfl) j3_22 c22_23 (by kernel_rfl) c22_25 c22_26 c22_27 j3_28 (by kernel_rfl) (by kernel_rfl) j3_31 j3_32
theorem valid_row (hM : MOk Tryz.prog M) (law : ValidLaw) : Rows.ConditionValidSaid :=
  OpenClaim.holds_of_wide 3 Tryz.f3 rfl rfl rfl rfl rfl rfl rfl ⟨rfl, rfl, rfl, rfl, rfl⟩ rfl rfl rfl rfl rfl (by kernel_rfl) Tryz.func3 joined3
    (of_decide_eq_true (by kernel_rfl)) (by unfold Func.isWrapper; rw [if_neg (of_decide_eq_false (by kernel_rfl))]; exact ⟨rfl, rfl⟩)
    (fun os started H enc _ => valid_lifted hM law os started H enc)
end Go.Proofs.AM
