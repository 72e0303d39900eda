/- Closed facts of the program and of the row of LoopPromises. -/
import Derived.Test.YtanjjmgoangmdaaGreatDoorRows
import Derived.Test.YtanjjmgoangmdaaGreatDoorCards
import Derived.Test.YtanjjmgoangmdaaGreatDoorTie
import Derived.WalkKit
import Derived.ProofKit
import Derived.OpenShut
import Derived.SizedLaws
import Derived.SevenTiedAt
import Derived.Stop.Joined
import Derived.KernelRfl
namespace Go.Proofs.YtanjjmgoangmdaaGreatDoor.loopPromises
open Go.ChangeShapes Go.WideShapes Go.ChangeAt Go.RowKit
theorem j13 : (Rows.loopPromisesRow.named == Tryz.prog.varsNamed 3) = true := by kernel_rfl
theorem j23 : (Rows.loopPromisesRow.plainKeys == Tryz.prog.plainKeys) = true := by kernel_rfl
theorem j25 : Tryz.prog.stopsHeard = true := by kernel_rfl
theorem j26 : Tryz.prog.mayEnter = true := by kernel_rfl
theorem j27 : (Rows.loopPromisesRow.lifted == Tryz.prog.liftsFinal) = true := by kernel_rfl
theorem j28 : (Tryz.prog.make == some Rows.loopPromisesRow.make) = true := by kernel_rfl
theorem card_w : Rows.loopPromisesRow.wfByText (OpenSpec.ofChange Rows.loopPromisesSpec) = true := by kernel_rfl
theorem card_m : Tryz.prog.mainIs = some ((true, "bd4b921bb951b8af390aec37d03cb42c3edb4e775ac681dc04882b6dd9cfb0c1").1, (true, "bd4b921bb951b8af390aec37d03cb42c3edb4e775ac681dc04882b6dd9cfb0c1").2.toList) := by kernel_rfl
theorem card_l : true = Tryz.prog.looks [] := by kernel_rfl
theorem card_s : ([5, 4, 4].all fun u => !Tryz.prog.wantsStandIn u) = true := by kernel_rfl
theorem card_n : Tryz.prog.funcNamed "boomerang/boomeranglaw20.LoopPromises" = some 3 := by kernel_rfl
end Go.Proofs.YtanjjmgoangmdaaGreatDoor.loopPromises
