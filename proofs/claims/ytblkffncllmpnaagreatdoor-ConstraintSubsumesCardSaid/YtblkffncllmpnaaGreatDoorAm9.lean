/- Helpers of this claim: an abstract machine over the model, proved sound; what it computes. Part 9. -/
import Derived.Test.YtblkffncllmpnaaGreatDoorAm5
import Derived.Test.YtblkffncllmpnaaGreatDoorAm4
import Derived.Test.YtblkffncllmpnaaGreatDoorAm3
import Derived.Test.YtblkffncllmpnaaGreatDoorRows
import Derived.JoinedOf
import Derived.LaidLaws
namespace Go.Proofs.AM
open Go Go.RowKit Go.ChangeShapes Go.WideShapes
open Go.Proofs.YtblkffncllmpnaaGreatDoor
set_option maxRecDepth 100000
theorem tysKind : Tr.all (tyKind E Tryz.prog tysT) tysT = true := by kernel_rfl
theorem laidOut : laidOutB Tryz.prog = true := by kernel_rfl
theorem rowed : mapsRowed Tryz.prog = true := by kernel_rfl
theorem slicesFull : ((List.range Tryz.prog.types.size).all fun t => match Tryz.prog.underlying t with | some (.slice e) => decide (0 < Tryz.prog.cellsOf e) | _ => true) = true := by kernel_rfl
theorem own : ownKnob Tryz.prog.godebug = none := by kernel_rfl
theorem prm3 : Tryz.f3.params.toList.all (argTy Tryz.prog tysT) = true := by kernel_rfl
theorem lt3 : (Tryz.f3.params.toList.all fun t => decide (t < Tryz.prog.types.size)) = true := by kernel_rfl
end Go.Proofs.AM
