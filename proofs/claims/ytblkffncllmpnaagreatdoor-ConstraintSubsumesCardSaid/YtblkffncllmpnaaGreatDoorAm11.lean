/- Helpers of this claim: an abstract machine over the model, proved sound; what it computes. Part 11. -/
import Derived.Test.YtblkffncllmpnaaGreatDoorAm9
import Derived.Test.YtblkffncllmpnaaGreatDoorCards
import Derived.Test.YtblkffncllmpnaaGreatDoorTie
import Derived.Deep.DeepLaidRun
import Derived.SevenTiedAt
namespace Go.Proofs.AM
open Go Go.RowKit Go.ChangeShapes Go.WideShapes
open Go.Proofs.YtblkffncllmpnaaGreatDoor
set_option maxRecDepth 100000
theorem prm4 : Tryz.f4.params.toList.all (argTy Tryz.prog tysT) = true := by kernel_rfl
theorem lt4 : (Tryz.f4.params.toList.all fun t => decide (t < Tryz.prog.types.size)) = true := by kernel_rfl
def cellsOfLaidS : DataW Unit → Array Value
  | .agg l => (l.map fun d => match d with | .lit (.int k n) => Value.int k n | _ => Value.bool false).toArray
  | _ => #[]
noncomputable def laidWorldS (os : Os) : World :=
  let w0 := World.holding Tryz.prog os ⟨#[], #[], []⟩
  { w0 with heap := Rows.constraintSubsumesRow.laid.foldl (fun h x => match Tryz.prog.globalNamed x.1 with
      | some g => h.modify g fun o => match o with
        | .cells _ t frozen => .cells (cellsOfLaidS x.2) t frozen
        | o => o
      | none => h) w0.heap }
noncomputable abbrev theWorldS (os : Os) (args : Array Value) : World := ((laidWorldS os).forCall (fun _ _ => 0) ⟨#[], args, []⟩).memory
theorem laidRunS_same (os : Os) (args : Array Value) : (DataW.laidRun Tryz.prog (theWorldS os args) 8 (Rows.constraintSubsumesRow.laid.map (·.1))).map (·.1) = some Rows.constraintSubsumesRow.laid := by kernel_rfl
theorem laidRunS_nodup (os : Os) (args : Array Value) : (DataW.laidRun Tryz.prog (theWorldS os args) 8 (Rows.constraintSubsumesRow.laid.map (·.1))).map (fun x => nodupB (x.2.map MemPlace.codeOf)) = some true := by kernel_rfl
theorem laidRunS_rows (os : Os) (args : Array Value) : (DataW.laidRun Tryz.prog (theWorldS os args) 8 (Rows.constraintSubsumesRow.laid.map (·.1))).map (fun x => laidRowsB Tryz.prog (theWorldS os args) x.2) = some true := by kernel_rfl
theorem laidWorldS_met (os : Os) (args : Array Value) : laidMetH Tryz.prog Rows.constraintSubsumesRow.laid (theWorldS os args) :=
  laidMet_of_run3 8 (laidRunS_same os args) (laidRunS_nodup os args) (laidRunS_rows os args)
def SubLaw : Prop := ∀ xs : List (Dt E), All2 (fun t (a : Dt E) => (∃ ti, tysT.find t = some ti ∧ a.1 = ti.ty) ∧ Good E a.1 a.2) Tryz.f4.params.toList xs → ∃ k, run M k 4 (xs.map fun d => Arg.val d.1 d.2) = some ⟨.bool, true⟩
theorem sub_lifted (hM : MOk Tryz.prog M) (law : SubLaw) (os : Os) (started : os.Started) (H : Type) (enc : TypeId × Value → H) :
    ReturnsInHanded {} Tryz.checked os 4 .any (fun w args => (Rows.constraintSubsumesSpec.pre enc Tryz.prog Tryz.f4 [] false w args ∧ laidMetH Tryz.prog Rows.constraintSubsumesRow.laid w) ∧ sizedMet enc Tryz.prog Tryz.f4 (OpenSpec.ofChange Rows.constraintSubsumesSpec) false w args)
      (Rows.constraintSubsumesSpec.post enc Tryz.prog Tryz.f4 false true false false) := by
  refine returnsInHanded_of_change_and (C := Tryz.checked) (X := fun w _ => laidMetH Tryz.prog Rows.constraintSubsumesRow.laid w) (fun _ _ _ hh h => h.of_heap hh) own started (by kernel_rfl) g4
    (ChangeSpec.witness_at (enc := enc) (C := Tryz.checked) (os := os) (X := fun w _ => laidMetH Tryz.prog Rows.constraintSubsumesRow.laid w) false (laidWorldS os) #[.agg #[.string ⟨#[]⟩, .int .i64 0, .slice none 0 0, .slice none 0 0, .slice none 0 0], .agg #[.string ⟨#[]⟩, .int .i64 0, .slice none 0 0, .slice none 0 0, .slice none 0 0]] 8 rfl (by kernel_rfl) (by kernel_rfl) (by kernel_rfl) (by kernel_rfl) (by kernel_rfl) (laidWorldS_met os _)) ?_
  intro W base args ds gs before hval hW _ hwt _ _
  refine law_row envOk hM tysKind g4 (by kernel_rfl) (c := Tryz.f4.body.get!) (by kernel_rfl) (sg := ⟨[.val tConstraint, .val tConstraint], [(false, [(.bool, false)])]⟩) (by kernel_rfl) (by kernel_rfl) (tb := 4) (by kernel_rfl) (by kernel_rfl) (kids_rows laidOut rowed) slicesFull prm4 lt4 rfl (fun ds h => ?_) law hval hW hwt
  have h : ds.length = 2 := h
  match ds, h with
  | [d1, d2], _ => rfl
theorem sub_row (hM : MOk Tryz.prog M) (law : SubLaw) : Rows.ConstraintSubsumesSaid :=
  OpenClaim.holds_of_wide 4 Tryz.f4 rfl rfl rfl rfl rfl rfl rfl ⟨rfl, rfl, rfl, rfl, rfl⟩ rfl rfl rfl rfl rfl (by kernel_rfl) g4 (by kernel_rfl)
    (of_decide_eq_true (by kernel_rfl)) (by unfold Func.isWrapper; rw [if_neg (of_decide_eq_false (by kernel_rfl))]; exact ⟨rfl, rfl⟩)
    (fun os started H enc _ => sub_lifted hM law os started H enc)
theorem sub_card (hM : MOk Tryz.prog M) (law : SubLaw) : Rows.ConstraintSubsumesCardSaid :=
  Claim7.holds_tied_plain_at .later [] [.data, .data, .data] true (true, "baa8d5185af8a178d82791a52542edcefa15406f3937962c022888180e16afd8") false
    (sub_row hM law) (fun _ h => by cases h) (by kernel_rfl) (fun _ h => by cases h) constraintSubsumes_row_tie rfl ⟨rfl, rfl⟩ (by kernel_rfl) rfl
    (fun f fn hf hfn => by
      obtain rfl : f = 4 := Option.some.inj ((show Tryz.prog.funcNamed "scarfjoint/scarfjointlaw42.ConstraintSubsumes" = some 4 by kernel_rfl).symm.trans hf) |>.symm
      obtain rfl : fn = Tryz.f4 := (Option.some.inj (g4.symm.trans hfn)).symm
      refine ⟨by kernel_rfl, fun j t ht => ?_⟩
      have hall : (Tryz.f4.params.toList.all fun t => Tryz.prog.wantsStandIn t == false) = true := by kernel_rfl
      have hm : t ∈ Tryz.f4.params.toList := List.mem_of_getElem? (by rw [Array.getElem?_toList]; exact ht)
      have := List.all_eq_true.1 hall t hm
      rw [beq_iff_eq] at this
      exact this)
    (by kernel_rfl)
end Go.Proofs.AM
