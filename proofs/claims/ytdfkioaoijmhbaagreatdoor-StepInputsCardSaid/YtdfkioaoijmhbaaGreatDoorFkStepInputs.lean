/- Closed facts of the program and of the row of StepInputs. -/
import Derived.Test.YtdfkioaoijmhbaaGreatDoorRows
import Derived.Test.YtdfkioaoijmhbaaGreatDoorCards
import Derived.Test.YtdfkioaoijmhbaaGreatDoorTie
import Derived.WalkKit
import Derived.ProofKit
import Derived.OpenShut
import Derived.SizedLaws
import Derived.SevenTiedAt
import Derived.Stop.Joined
import Derived.KernelRfl
namespace Go.Proofs.YtdfkioaoijmhbaaGreatDoor.stepInputs
open Go.ChangeShapes Go.WideShapes Go.ChangeAt Go.RowKit
theorem j13 : (Rows.stepInputsRow.named == Tryz.prog.varsNamed 4) = true := by kernel_rfl
theorem j23 : (Rows.stepInputsRow.plainKeys == Tryz.prog.plainKeys) = true := by kernel_rfl
theorem j25 : Tryz.prog.stopsHeard = true := by kernel_rfl
theorem j26 : Tryz.prog.mayEnter = true := by kernel_rfl
theorem j27 : (Rows.stepInputsRow.lifted == Tryz.prog.liftsFinal) = true := by kernel_rfl
theorem j28 : (Tryz.prog.make == some Rows.stepInputsRow.make) = true := by kernel_rfl
theorem card_w : Rows.stepInputsRow.wfByText (OpenSpec.ofChange Rows.stepInputsSpec) = true := by kernel_rfl
theorem card_m : Tryz.prog.mainIs = some ((true, "75903c0a64576ae13c8e63148e2e2b5d7fb22af3bd602d106719dedeb55be897").1, (true, "75903c0a64576ae13c8e63148e2e2b5d7fb22af3bd602d106719dedeb55be897").2.toList) := by kernel_rfl
theorem card_l : true = Tryz.prog.looks [] := by kernel_rfl
theorem card_s : ([21, 5, 4].all fun u => !Tryz.prog.wantsStandIn u) = true := by kernel_rfl
theorem card_n : Tryz.prog.funcNamed "boomerang/boomeranglaw19.StepInputs" = some 4 := by kernel_rfl
end Go.Proofs.YtdfkioaoijmhbaaGreatDoor.stepInputs
