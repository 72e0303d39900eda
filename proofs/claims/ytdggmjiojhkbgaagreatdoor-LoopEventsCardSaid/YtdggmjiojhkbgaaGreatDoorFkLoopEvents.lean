/- Closed facts of the program and of the row of LoopEvents. -/
import Derived.Test.YtdggmjiojhkbgaaGreatDoorRows
import Derived.Test.YtdggmjiojhkbgaaGreatDoorCards
import Derived.Test.YtdggmjiojhkbgaaGreatDoorTie
import Derived.WalkKit
import Derived.ProofKit
import Derived.OpenShut
import Derived.SizedLaws
import Derived.SevenTiedAt
import Derived.Stop.Joined
import Derived.KernelRfl
namespace Go.Proofs.YtdggmjiojhkbgaaGreatDoor.loopEvents
open Go.ChangeShapes Go.WideShapes Go.ChangeAt Go.RowKit
theorem j13 : (Rows.loopEventsRow.named == Tryz.prog.varsNamed 3) = true := by kernel_rfl
theorem j23 : (Rows.loopEventsRow.plainKeys == Tryz.prog.plainKeys) = true := by kernel_rfl
theorem j25 : Tryz.prog.stopsHeard = true := by kernel_rfl
theorem j26 : Tryz.prog.mayEnter = true := by kernel_rfl
theorem j27 : (Rows.loopEventsRow.lifted == Tryz.prog.liftsFinal) = true := by kernel_rfl
theorem j28 : (Tryz.prog.make == some Rows.loopEventsRow.make) = true := by kernel_rfl
theorem card_w : Rows.loopEventsRow.wfByText (OpenSpec.ofChange Rows.loopEventsSpec) = true := by kernel_rfl
theorem card_m : Tryz.prog.mainIs = some ((true, "a0763c1d2d853fe0fb030c75f2a5f90797104992a5daf62df01d4b95979fdf45").1, (true, "a0763c1d2d853fe0fb030c75f2a5f90797104992a5daf62df01d4b95979fdf45").2.toList) := by kernel_rfl
theorem card_l : true = Tryz.prog.looks [] := by kernel_rfl
theorem card_s : ([5, 5].all fun u => !Tryz.prog.wantsStandIn u) = true := by kernel_rfl
theorem card_n : Tryz.prog.funcNamed "boomerang/boomeranglaw20.LoopEvents" = some 3 := by kernel_rfl
end Go.Proofs.YtdggmjiojhkbgaaGreatDoor.loopEvents
