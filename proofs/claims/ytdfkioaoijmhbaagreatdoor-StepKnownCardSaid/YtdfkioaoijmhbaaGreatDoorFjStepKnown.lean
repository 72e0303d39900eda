/- Closed facts of the program and of the row of StepKnown. -/
import Derived.Test.YtdfkioaoijmhbaaGreatDoorRows
import Derived.Test.YtdfkioaoijmhbaaGreatDoorCards
import Derived.Test.YtdfkioaoijmhbaaGreatDoorTie
import Derived.WalkKit
import Derived.ProofKit
import Derived.OpenShut
import Derived.SizedLaws
import Derived.SevenTiedAt
import Derived.Stop.Joined
import Derived.KernelRfl
namespace Go.Proofs.YtdfkioaoijmhbaaGreatDoor.stepKnown
open Go.ChangeShapes Go.WideShapes Go.ChangeAt Go.RowKit
theorem j2 : laidOutB Tryz.prog = true := by kernel_rfl
theorem j3 : mapsRowed Tryz.prog = true := by kernel_rfl
theorem j7 : (Tryz.prog.stops == []) = true := by kernel_rfl
theorem j9 : (Tryz.prog.stopKnobs == []) = true := by kernel_rfl
theorem j10 : (Rows.stepKnownRow.inPlace == Tryz.prog.inPlace 3) = true := by kernel_rfl
theorem j11 : (Rows.stepKnownRow.unfollowed == Tryz.prog.unfollowed 3) = true := by kernel_rfl
theorem j12 : (Rows.stepKnownRow.recurses == Tryz.prog.recurses 3) = true := by kernel_rfl
end Go.Proofs.YtdfkioaoijmhbaaGreatDoor.stepKnown
