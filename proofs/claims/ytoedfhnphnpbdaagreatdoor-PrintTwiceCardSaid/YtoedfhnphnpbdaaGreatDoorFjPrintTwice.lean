/- Closed facts of the program and of the row of PrintTwice. -/
import Derived.Test.YtoedfhnphnpbdaaGreatDoorRows
import Derived.Test.YtoedfhnphnpbdaaGreatDoorCards
import Derived.Test.YtoedfhnphnpbdaaGreatDoorTie
import Derived.WalkKit
import Derived.ProofKit
import Derived.OpenShut
import Derived.SizedLaws
import Derived.SevenTiedAt
import Derived.Stop.Joined
import Derived.KernelRfl
namespace Go.Proofs.YtoedfhnphnpbdaaGreatDoor.printTwice
open Go.ChangeShapes Go.WideShapes Go.ChangeAt Go.RowKit
theorem j2 : laidOutB Tryz.prog = true := by kernel_rfl
theorem j3 : mapsRowed Tryz.prog = true := by kernel_rfl
theorem j7 : (Tryz.prog.stops == []) = true := by kernel_rfl
theorem j9 : (Tryz.prog.stopKnobs == []) = true := by kernel_rfl
theorem j10 : (Rows.printTwiceRow.inPlace == Tryz.prog.inPlace 4) = true := by kernel_rfl
theorem j11 : (Rows.printTwiceRow.unfollowed == Tryz.prog.unfollowed 4) = true := by kernel_rfl
theorem j12 : (Rows.printTwiceRow.recurses == Tryz.prog.recurses 4) = true := by kernel_rfl
end Go.Proofs.YtoedfhnphnpbdaaGreatDoor.printTwice
