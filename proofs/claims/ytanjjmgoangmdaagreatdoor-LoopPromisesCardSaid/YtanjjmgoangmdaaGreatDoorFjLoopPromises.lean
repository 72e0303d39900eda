/- Closed facts of the program and of the row of LoopPromises. -/
import Derived.Test.YtanjjmgoangmdaaGreatDoorRows
import Derived.Test.YtanjjmgoangmdaaGreatDoorCards
import Derived.Test.YtanjjmgoangmdaaGreatDoorTie
import Derived.WalkKit
import Derived.ProofKit
import Derived.OpenShut
import Derived.SizedLaws
import Derived.SevenTiedAt
import Derived.Stop.Joined
import Derived.KernelRfl
namespace Go.Proofs.YtanjjmgoangmdaaGreatDoor.loopPromises
open Go.ChangeShapes Go.WideShapes Go.ChangeAt Go.RowKit
theorem j2 : laidOutB Tryz.prog = true := by kernel_rfl
theorem j3 : mapsRowed Tryz.prog = true := by kernel_rfl
theorem j7 : (Tryz.prog.stops == []) = true := by kernel_rfl
theorem j9 : (Tryz.prog.stopKnobs == []) = true := by kernel_rfl
theorem j10 : (Rows.loopPromisesRow.inPlace == Tryz.prog.inPlace 3) = true := by kernel_rfl
theorem j11 : (Rows.loopPromisesRow.unfollowed == Tryz.prog.unfollowed 3) = true := by kernel_rfl
theorem j12 : (Rows.loopPromisesRow.recurses == Tryz.prog.recurses 3) = true := by kernel_rfl
end Go.Proofs.YtanjjmgoangmdaaGreatDoor.loopPromises
