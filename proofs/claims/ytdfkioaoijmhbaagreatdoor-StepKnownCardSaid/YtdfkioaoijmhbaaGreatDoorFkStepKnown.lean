/- Closed facts of the program and of the row of StepKnown. -/
import Derived.Test.YtdfkioaoijmhbaaGreatDoorRows
import Derived.Test.YtdfkioaoijmhbaaGreatDoorCards
import Derived.Test.YtdfkioaoijmhbaaGreatDoorTie
import Derived.WalkKit
import Derived.ProofKit
import Derived.OpenShut
import Derived.SizedLaws
import Derived.SevenTiedAt
import Derived.Stop.Joined
import Derived.KernelRfl
namespace Go.Proofs.YtdfkioaoijmhbaaGreatDoor.stepKnown
open Go.ChangeShapes Go.WideShapes Go.ChangeAt Go.RowKit
theorem j13 : (Rows.stepKnownRow.named == Tryz.prog.varsNamed 3) = true := by kernel_rfl
theorem j23 : (Rows.stepKnownRow.plainKeys == Tryz.prog.plainKeys) = true := by kernel_rfl
theorem j25 : Tryz.prog.stopsHeard = true := by kernel_rfl
theorem j26 : Tryz.prog.mayEnter = true := by kernel_rfl
theorem j27 : (Rows.stepKnownRow.lifted == Tryz.prog.liftsFinal) = true := by kernel_rfl
theorem j28 : (Tryz.prog.make == some Rows.stepKnownRow.make) = true := by kernel_rfl
theorem card_w : Rows.stepKnownRow.wfByText (OpenSpec.ofChange Rows.stepKnownSpec) = true := by kernel_rfl
theorem card_m : Tryz.prog.mainIs = some ((true, "75903c0a64576ae13c8e63148e2e2b5d7fb22af3bd602d106719dedeb55be897").1, (true, "75903c0a64576ae13c8e63148e2e2b5d7fb22af3bd602d106719dedeb55be897").2.toList) := by kernel_rfl
theorem card_l : true = Tryz.prog.looks [] := by kernel_rfl
theorem card_s : ([5].all fun u => !Tryz.prog.wantsStandIn u) = true := by kernel_rfl
theorem card_n : Tryz.prog.funcNamed "boomerang/boomeranglaw19.StepKnown" = some 3 := by kernel_rfl
end Go.Proofs.YtdfkioaoijmhbaaGreatDoor.stepKnown
