/- Closed facts of the program and of the row of PrintTwice. -/
import Derived.Test.YtoedfhnphnpbdaaGreatDoorRows
import Derived.Test.YtoedfhnphnpbdaaGreatDoorCards
import Derived.Test.YtoedfhnphnpbdaaGreatDoorTie
import Derived.WalkKit
import Derived.ProofKit
import Derived.OpenShut
import Derived.SizedLaws
import Derived.SevenTiedAt
import Derived.Stop.Joined
import Derived.KernelRfl
namespace Go.Proofs.YtoedfhnphnpbdaaGreatDoor.printTwice
open Go.ChangeShapes Go.WideShapes Go.ChangeAt Go.RowKit
theorem j13 : (Rows.printTwiceRow.named == Tryz.prog.varsNamed 4) = true := by kernel_rfl
theorem j23 : (Rows.printTwiceRow.plainKeys == Tryz.prog.plainKeys) = true := by kernel_rfl
theorem j25 : Tryz.prog.stopsHeard = true := by kernel_rfl
theorem j26 : Tryz.prog.mayEnter = true := by kernel_rfl
theorem j27 : (Rows.printTwiceRow.lifted == Tryz.prog.liftsFinal) = true := by kernel_rfl
theorem j28 : (Tryz.prog.make == some Rows.printTwiceRow.make) = true := by kernel_rfl
theorem card_w : Rows.printTwiceRow.wfByText (OpenSpec.ofChange Rows.printTwiceSpec) = true := by kernel_rfl
theorem card_m : Tryz.prog.mainIs = some ((true, "6c1c4ed2e63d374dcb3a2a32792e4210f47cc9fe6ef93ed95d91eb0b521a316f").1, (true, "6c1c4ed2e63d374dcb3a2a32792e4210f47cc9fe6ef93ed95d91eb0b521a316f").2.toList) := by kernel_rfl
theorem card_l : true = Tryz.prog.looks [] := by kernel_rfl
theorem card_s : ([5, 30].all fun u => !Tryz.prog.wantsStandIn u) = true := by kernel_rfl
theorem card_n : Tryz.prog.funcNamed "boomerang/boomeranglaw9.PrintTwice" = some 4 := by kernel_rfl
end Go.Proofs.YtoedfhnphnpbdaaGreatDoor.printTwice
