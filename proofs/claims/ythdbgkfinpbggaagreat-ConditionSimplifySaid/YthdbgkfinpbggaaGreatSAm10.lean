/- Helpers of this claim: an abstract machine over the model, proved sound; what it computes. Part 10. -/
import Derived.Test.YthdbgkfinpbggaaGreatSAm9
set_option linter.unusedVariables false
set_option linter.unusedSimpArgs false
namespace Go.Proofs.AM
open Go Go.RowKit Go.ChangeShapes Go.WideShapes
open Go.Proofs.YthdbgkfinpbggaaGreat
set_option maxRecDepth 100000
theorem prm9 : Tryz.f9.params.toList.all (argTy Tryz.prog tysT) = true := by kernel_rfl
theorem lt9 : (Tryz.f9.params.toList.all fun t => decide (t < Tryz.prog.types.size)) = true := by kernel_rfl
def SimplifyLaw : Prop := ∀ xs : List (Dt E), All2 (fun t (a : Dt E) => (∃ ti, tysT.find t = some ti ∧ a.1 = ti.ty) ∧ Good E a.1 a.2) Tryz.f9.params.toList xs → ∃ k, run M k 9 (xs.map fun d => Arg.val d.1 d.2) = some ⟨.bool, true⟩
theorem simplify_lifted (hM : MOk Tryz.prog M) (law : SimplifyLaw) (os : Os) (started : os.Started) (H : Type) (enc : TypeId × Value → H) :
    ReturnsInHanded {} Tryz.checked os 9 .any (Rows.conditionSimplifySpec.pre6 enc Tryz.prog Tryz.f9 [] false)
      (Rows.conditionSimplifySpec.post enc Tryz.prog Tryz.f9 false true false false) := by
  refine returnsInHanded_of_change_sized (C := Tryz.checked) own started (by kernel_rfl) Tryz.func9
    (ChangeSpec.witness6 false ⟨#[], #[.agg #[.int .i64 0, .slice none 0 0, .slice none 0 0, .slice none 0 0, .slice none 0 0, .slice none 0 0, .slice none 0 0, .int .i64 0, .slice none 0 0], .agg #[.int .i64 0, .slice none 0 0, .slice none 0 0, .slice none 0 0, .slice none 0 0, .slice none 0 0, .slice none 0 0, .int .i64 0, .slice none 0 0]], []⟩ 8 (by kernel_rfl) (by kernel_rfl) (by kernel_rfl) (by kernel_rfl)) ?_
  intro W base args ds gs before hval hW _ hwt _
  refine law_row envOk hM tysKind Tryz.func9 (by kernel_rfl) (c := Tryz.f9.body.get!) (by kernel_rfl) (sg := ⟨[.val (.nom 0), .val (.nom 0)], [(false, [(.bool, false)])]⟩) (by kernel_rfl) (by kernel_rfl) (tb := 4) (by kernel_rfl) (by kernel_rfl) (kids_rows laidOut rowed) slicesFull prm9 lt9 rfl (fun ds h => ?_) law hval hW hwt
  have h : ds.length = 2 := h
  match ds, h with
  | [d1, d2], _ => rfl
theorem j9_1 : Rows.conditionSimplifyRow.wf (OpenSpec.ofChange Rows.conditionSimplifySpec) = true := by kernel_rfl
theorem j9_4 : Tryz.f9.params.all (Tryz.prog.readableRec ·) = true := by kernel_rfl
theorem j9_10 : (Rows.conditionSimplifyRow.inPlace == Tryz.prog.inPlace 9) = true := by kernel_rfl
theorem j9_11 : (Rows.conditionSimplifyRow.unfollowed == Tryz.prog.unfollowed 9) = true := by kernel_rfl
theorem j9_12 : (Rows.conditionSimplifyRow.recurses == Tryz.prog.recurses 9) = true := by kernel_rfl
theorem j9_13 : (Rows.conditionSimplifyRow.named == Tryz.prog.varsNamed 9) = true := by kernel_rfl
theorem j9_17 : (Rows.conditionSimplifyRow.loops == (Tryz.f9.params.toList ++ Rows.conditionSimplifySpec.plain.varTypes Tryz.prog).any (Tryz.prog.loopsFrom ·)) = true := by kernel_rfl
theorem j9_18 : (Rows.conditionSimplifyRow.wideKeys == (Tryz.f9.params.toList ++ Rows.conditionSimplifySpec.plain.varTypes Tryz.prog ++ Tryz.f9.resultTypes.toList).any (Tryz.prog.wideKeysFrom ·)) = true := by kernel_rfl
theorem j9_20 : Tryz.f9.resultTypes.all (fun t => Tryz.prog.readableRec t && decide (t < Tryz.prog.types.size)) = true := by kernel_rfl
theorem j9_22 : (Rows.conditionSimplifyRow.loopsOut == Tryz.f9.resultTypes.toList.any (Tryz.prog.loopsFrom ·)) = true := by kernel_rfl
theorem j9_28 : (Tryz.prog.make == some Rows.conditionSimplifyRow.make) = true := by kernel_rfl
theorem j9_31 : (Rows.conditionSimplifyRow.veiled == (Tryz.f9.params.toList ++ Rows.conditionSimplifySpec.plain.varTypes Tryz.prog ++ Tryz.f9.resultTypes.toList).any (Tryz.prog.veiledRec ·)) = true := by kernel_rfl
theorem j9_32 : Rows.conditionSimplifyRow.veiledFits Tryz.prog Tryz.f9.params.toList (Tryz.f9.params.toList ++ Rows.conditionSimplifySpec.plain.varTypes Tryz.prog ++ Tryz.f9.resultTypes.toList) = true := by kernel_rfl
theorem joined9 : joinedFacts Tryz.prog 9 Tryz.f9 Rows.conditionSimplifySpec Rows.conditionSimplifyRow = true :=
  joined_of j9_1 laidOut rowed j9_4 (by kernel_rfl) (by kernel_rfl) c22_7 (by kernel_rfl) c22_9 j9_10 j9_11 j9_12 j9_13 (by kernel_rfl) (by kernel_rfl) (by kernel_rfl) j9_17 j9_18 (by kernel_rfl) j9_20 (by kernel_rfl) j9_22 c22_23 (by kernel_rfl) c22_25 c22_26 c22_27 j9_28 (by kernel_rfl) (by kernel_rfl) j9_31 j9_32
theorem simplify_row (hM : MOk Tryz.prog M) (law : SimplifyLaw) : Rows.ConditionSimplifySaid :=
  OpenClaim.holds_of_wide 9 Tryz.f9 rfl rfl rfl rfl rfl rfl rfl ⟨rfl, rfl, rfl, rfl, rfl⟩ rfl rfl rfl rfl rfl (by kernel_rfl) Tryz.func9 joined9
    (of_decide_eq_true (by kernel_rfl)) (by unfold Func.isWrapper; rw [if_neg (of_decide_eq_false (by kernel_rfl))]; exact ⟨rfl, rfl⟩)
    (fun os started H enc _ => simplify_lifted hM law os started H enc)
end Go.Proofs.AM
