/- Helpers of this claim: an abstract machine over the model, proved sound; what it computes. Part 11. -/
import Derived.Test.YtblkffncllmpnaaGreatDoorAm9
import Derived.Test.YtblkffncllmpnaaGreatDoorCards
import Derived.Test.YtblkffncllmpnaaGreatDoorTie
import Derived.Deep.DeepLaidRun
import Derived.SevenTiedAt
namespace Go.Proofs.AM
open Go Go.RowKit Go.ChangeShapes Go.WideShapes
open Go.Proofs.YtblkffncllmpnaaGreatDoor
set_option maxRecDepth 100000
def cellsOfLaid : DataW Unit → Array Value
  | .agg l => (l.map fun d => match d with | .lit (.int k n) => Value.int k n | _ => Value.bool false).toArray
  | _ => #[]
noncomputable def laidWorld (os : Os) : World :=
  let w0 := World.holding Tryz.prog os ⟨#[], #[], []⟩
  { w0 with heap := Rows.constraintValidRow.laid.foldl (fun h x => match Tryz.prog.globalNamed x.1 with
      | some g => h.modify g fun o => match o with
        | .cells _ t frozen => .cells (cellsOfLaid x.2) t frozen
        | o => o
      | none => h) w0.heap }
noncomputable abbrev theWorld (os : Os) (args : Array Value) : World := ((laidWorld os).forCall (fun _ _ => 0) ⟨#[], args, []⟩).memory
theorem laidRun_same (os : Os) (args : Array Value) : (DataW.laidRun Tryz.prog (theWorld os args) 8 (Rows.constraintValidRow.laid.map (·.1))).map (·.1) = some Rows.constraintValidRow.laid := by kernel_rfl
theorem laidRun_nodup (os : Os) (args : Array Value) : (DataW.laidRun Tryz.prog (theWorld os args) 8 (Rows.constraintValidRow.laid.map (·.1))).map (fun x => nodupB (x.2.map MemPlace.codeOf)) = some true := by kernel_rfl
theorem laidRun_rows (os : Os) (args : Array Value) : (DataW.laidRun Tryz.prog (theWorld os args) 8 (Rows.constraintValidRow.laid.map (·.1))).map (fun x => laidRowsB Tryz.prog (theWorld os args) x.2) = some true := by kernel_rfl
theorem laidWorld_met (os : Os) (args : Array Value) : laidMetH Tryz.prog Rows.constraintValidRow.laid (theWorld os args) :=
  laidMet_of_run3 8 (laidRun_same os args) (laidRun_nodup os args) (laidRun_rows os args)
def ValidLaw : Prop := ∀ xs : List (Dt E), All2 (fun t (a : Dt E) => (∃ ti, tysT.find t = some ti ∧ a.1 = ti.ty) ∧ Good E a.1 a.2) Tryz.f3.params.toList xs → ∃ k, run M k 3 (xs.map fun d => Arg.val d.1 d.2) = some ⟨.bool, true⟩
theorem valid_lifted (hM : MOk Tryz.prog M) (law : ValidLaw) (os : Os) (started : os.Started) (H : Type) (enc : TypeId × Value → H) :
    ReturnsInHanded {} Tryz.checked os 3 .any (fun w args => (Rows.constraintValidSpec.pre enc Tryz.prog Tryz.f3 [] false w args ∧ laidMetH Tryz.prog Rows.constraintValidRow.laid w) ∧ sizedMet enc Tryz.prog Tryz.f3 (OpenSpec.ofChange Rows.constraintValidSpec) false w args)
      (Rows.constraintValidSpec.post enc Tryz.prog Tryz.f3 false true false false) := by
  refine returnsInHanded_of_change_and (C := Tryz.checked) (X := fun w _ => laidMetH Tryz.prog Rows.constraintValidRow.laid w) (fun _ _ _ hh h => h.of_heap hh) own started (by kernel_rfl) g3
    (ChangeSpec.witness_at (enc := enc) (C := Tryz.checked) (os := os) (X := fun w _ => laidMetH Tryz.prog Rows.constraintValidRow.laid w) false (laidWorld os) #[.agg #[.slice none 0 0, .slice none 0 0], .agg #[.string ⟨#[]⟩, .int .i64 0, .slice none 0 0, .slice none 0 0, .slice none 0 0]] 8 rfl (by kernel_rfl) (by kernel_rfl) (by kernel_rfl) (by kernel_rfl) (by kernel_rfl) (laidWorld_met os _)) ?_
  intro W base args ds gs before hval hW _ hwt _ _
  refine law_row envOk hM tysKind g3 (by kernel_rfl) (c := Tryz.f3.body.get!) (by kernel_rfl) (sg := ⟨[.val tTypes, .val tConstraint], [(false, [(.bool, false)])]⟩) (by kernel_rfl) (by kernel_rfl) (tb := 4) (by kernel_rfl) (by kernel_rfl) (kids_rows laidOut rowed) slicesFull prm3 lt3 rfl (fun ds h => ?_) law hval hW hwt
  have h : ds.length = 2 := h
  match ds, h with
  | [d1, d2], _ => rfl
theorem valid_row (hM : MOk Tryz.prog M) (law : ValidLaw) : Rows.ConstraintValidSaid :=
  OpenClaim.holds_of_wide 3 Tryz.f3 rfl rfl rfl rfl rfl rfl rfl ⟨rfl, rfl, rfl, rfl, rfl⟩ rfl rfl rfl rfl rfl (by kernel_rfl) g3 (by kernel_rfl)
    (of_decide_eq_true (by kernel_rfl)) (by unfold Func.isWrapper; rw [if_neg (of_decide_eq_false (by kernel_rfl))]; exact ⟨rfl, rfl⟩)
    (fun os started H enc _ => valid_lifted hM law os started H enc)
theorem valid_card (hM : MOk Tryz.prog M) (law : ValidLaw) : Rows.ConstraintValidCardSaid :=
  Claim7.holds_tied_plain_at .later [] [.data, .data, .data] true (true, "baa8d5185af8a178d82791a52542edcefa15406f3937962c022888180e16afd8") false
    (valid_row hM law) (fun _ h => by cases h) (by kernel_rfl) (fun _ h => by cases h) constraintValid_row_tie rfl ⟨rfl, rfl⟩ (by kernel_rfl) rfl
    (fun f fn hf hfn => by
      obtain rfl : f = 3 := Option.some.inj ((show Tryz.prog.funcNamed "scarfjoint/scarfjointlaw42.ConstraintValid" = some 3 by kernel_rfl).symm.trans hf) |>.symm
      obtain rfl : fn = Tryz.f3 := (Option.some.inj (g3.symm.trans hfn)).symm
      refine ⟨by kernel_rfl, fun j t ht => ?_⟩
      have hall : (Tryz.f3.params.toList.all fun t => Tryz.prog.wantsStandIn t == false) = true := by kernel_rfl
      have hm : t ∈ Tryz.f3.params.toList := List.mem_of_getElem? (by rw [Array.getElem?_toList]; exact ht)
      have := List.all_eq_true.1 hall t hm
      rw [beq_iff_eq] at this
      exact this)
    (by kernel_rfl)
end Go.Proofs.AM
