/- Closed facts of the program and of the row of LoopKnown. -/
import Derived.Test.YthkbcgbmeajfbaaGreatDoorRows
import Derived.Test.YthkbcgbmeajfbaaGreatDoorCards
import Derived.Test.YthkbcgbmeajfbaaGreatDoorTie
import Derived.WalkKit
import Derived.ProofKit
import Derived.OpenShut
import Derived.SizedLaws
import Derived.SevenTiedAt
import Derived.Stop.Joined
import Derived.KernelRfl
namespace Go.Proofs.YthkbcgbmeajfbaaGreatDoor.loopKnown
open Go.ChangeShapes Go.WideShapes Go.ChangeAt Go.RowKit
theorem j13 : (Rows.loopKnownRow.named == Tryz.prog.varsNamed 3) = true := by kernel_rfl
theorem j23 : (Rows.loopKnownRow.plainKeys == Tryz.prog.plainKeys) = true := by kernel_rfl
theorem j25 : Tryz.prog.stopsHeard = true := by kernel_rfl
theorem j26 : Tryz.prog.mayEnter = true := by kernel_rfl
theorem j27 : (Rows.loopKnownRow.lifted == Tryz.prog.liftsFinal) = true := by kernel_rfl
theorem j28 : (Tryz.prog.make == some Rows.loopKnownRow.make) = true := by kernel_rfl
theorem card_w : Rows.loopKnownRow.wfByText (OpenSpec.ofChange Rows.loopKnownSpec) = true := by kernel_rfl
theorem card_m : Tryz.prog.mainIs = some ((true, "9db8a851a85c6af4d437589a683bd98720a3f3cf5216faedb905621f777ebcae").1, (true, "9db8a851a85c6af4d437589a683bd98720a3f3cf5216faedb905621f777ebcae").2.toList) := by kernel_rfl
theorem card_l : true = Tryz.prog.looks [] := by kernel_rfl
theorem card_s : ([5].all fun u => !Tryz.prog.wantsStandIn u) = true := by kernel_rfl
theorem card_n : Tryz.prog.funcNamed "boomerang/boomeranglaw20.LoopKnown" = some 3 := by kernel_rfl
end Go.Proofs.YthkbcgbmeajfbaaGreatDoor.loopKnown
