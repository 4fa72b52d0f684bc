/-
  DERIVED. GIVEN WITH THE SEED: THE CARDS: each row of YtblkffncllmpnaaGreatDoorRows.lean that lists a variable, with what it lists TIED to the program's text (the seventh form; the later family's looks); each row that meets fmt, with fmt's text TOLD by the authors' own Lean function (tested against real Go, not proved from fmt's source: count such statements apart). THE CARD IS WHAT COUNTS. Prove the row's statement (the work); the ties are given (YtblkffncllmpnaaGreatDoorTie.lean); close each card by the builder's one call (the guide's Derived/Test/ToyasCard.lean, 'card_holds'). Laid BY PROGRAM, IN A SANDBOX (cutbox-door.mjs). By AI agents, Wed Nov 11 2026. No macro, syntax, notation, axiom, sorry.
-/
import Derived.Test.YtblkffncllmpnaaGreatDoorRows
import GoSem.ClaimSeven
namespace Go.Proofs.YtblkffncllmpnaaGreatDoor
namespace Rows

/-- THE TIED CARD OF 'scarfjointlaw42.ConstraintValid'. -/
def constraintValidCard : Claim7 := { stood := { row := constraintValidRow, standIns := [], harness := (true, "baa8d5185af8a178d82791a52542edcefa15406f3937962c022888180e16afd8"), looks := false }, kinds := [], alts := [], laidByText := true, laidKinds := [.data, .data, .data], laidTests := true, laidLooks := .later }
def ConstraintValidCardSaid : Prop := Claim7.holds Tryz.pinned (.plain (OpenSpec.ofChange constraintValidSpec)) constraintValidCard

/-- THE TIED CARD OF 'scarfjointlaw42.ConstraintSubsumes'. -/
def constraintSubsumesCard : Claim7 := { stood := { row := constraintSubsumesRow, standIns := [], harness := (true, "baa8d5185af8a178d82791a52542edcefa15406f3937962c022888180e16afd8"), looks := false }, kinds := [], alts := [], laidByText := true, laidKinds := [.data, .data, .data], laidTests := true, laidLooks := .later }
def ConstraintSubsumesCardSaid : Prop := Claim7.holds Tryz.pinned (.plain (OpenSpec.ofChange constraintSubsumesSpec)) constraintSubsumesCard

/-- THE TIED CARD OF 'scarfjointlaw42.ConstraintFormat'. -/
def constraintFormatCard : Claim7 := { stood := { row := constraintFormatRow, standIns := [], harness := (true, "baa8d5185af8a178d82791a52542edcefa15406f3937962c022888180e16afd8"), looks := false }, kinds := [], alts := [], laidByText := true, laidKinds := [.data, .data, .data], laidTests := true, laidLooks := .later }
def ConstraintFormatCardSaid : Prop := Claim7.holds Tryz.pinned (.plain (OpenSpec.ofChange constraintFormatSpec)) constraintFormatCard

/-- THE TIED CARD OF 'scarfjointlaw42.ConstraintExcesses'. -/
def constraintExcessesCard : Claim7 := { stood := { row := constraintExcessesRow, standIns := [], harness := (true, "baa8d5185af8a178d82791a52542edcefa15406f3937962c022888180e16afd8"), looks := false }, kinds := [], alts := [], laidByText := true, laidKinds := [.data, .data, .data], laidTests := true, laidLooks := .later }
def ConstraintExcessesCardSaid : Prop := Claim7.holds Tryz.pinned (.plain (OpenSpec.ofChange constraintExcessesSpec)) constraintExcessesCard

/-- THE SECOND FORM's CARD OF 'scarfjointlaw42.ConstraintValid'. -/
def constraintValidUptoCard : Claim7 := { stood := { row := constraintValidUptoRow, standIns := [], harness := (true, "baa8d5185af8a178d82791a52542edcefa15406f3937962c022888180e16afd8"), looks := false }, kinds := [], alts := [], laidByText := true, laidKinds := [.data, .data, .data], laidTests := true, laidLooks := .later }
def ConstraintValidUptoCardSaid : Prop := Claim7.holds Tryz.pinned (.plain (OpenSpec.upto constraintValidSpec)) constraintValidUptoCard

/-- THE SECOND FORM's CARD OF 'scarfjointlaw42.ConstraintSubsumes'. -/
def constraintSubsumesUptoCard : Claim7 := { stood := { row := constraintSubsumesUptoRow, standIns := [], harness := (true, "baa8d5185af8a178d82791a52542edcefa15406f3937962c022888180e16afd8"), looks := false }, kinds := [], alts := [], laidByText := true, laidKinds := [.data, .data, .data], laidTests := true, laidLooks := .later }
def ConstraintSubsumesUptoCardSaid : Prop := Claim7.holds Tryz.pinned (.plain (OpenSpec.upto constraintSubsumesSpec)) constraintSubsumesUptoCard

/-- THE SECOND FORM's CARD OF 'scarfjointlaw42.ConstraintFormat'. -/
def constraintFormatUptoCard : Claim7 := { stood := { row := constraintFormatUptoRow, standIns := [], harness := (true, "baa8d5185af8a178d82791a52542edcefa15406f3937962c022888180e16afd8"), looks := false }, kinds := [], alts := [], laidByText := true, laidKinds := [.data, .data, .data], laidTests := true, laidLooks := .later }
def ConstraintFormatUptoCardSaid : Prop := Claim7.holds Tryz.pinned (.plain (OpenSpec.upto constraintFormatSpec)) constraintFormatUptoCard

/-- THE SECOND FORM's CARD OF 'scarfjointlaw42.ConstraintExcesses'. -/
def constraintExcessesUptoCard : Claim7 := { stood := { row := constraintExcessesUptoRow, standIns := [], harness := (true, "baa8d5185af8a178d82791a52542edcefa15406f3937962c022888180e16afd8"), looks := false }, kinds := [], alts := [], laidByText := true, laidKinds := [.data, .data, .data], laidTests := true, laidLooks := .later }
def ConstraintExcessesUptoCardSaid : Prop := Claim7.holds Tryz.pinned (.plain (OpenSpec.upto constraintExcessesSpec)) constraintExcessesUptoCard
end Rows
end Go.Proofs.YtblkffncllmpnaaGreatDoor
