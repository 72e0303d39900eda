/- Closed facts of the program and of the row of NativeRefuses. -/
import Derived.Test.YtkjoknbaihgedaaGreatDoorRows
import Derived.Test.YtkjoknbaihgedaaGreatDoorCards
import Derived.Test.YtkjoknbaihgedaaGreatDoorTie
import Derived.WalkKit
import Derived.ProofKit
import Derived.OpenShut
import Derived.SizedLaws
import Derived.SevenTiedAt
import Derived.Stop.Joined
import Derived.KernelRfl
namespace Go.Proofs.YtkjoknbaihgedaaGreatDoor.nativeRefuses
open Go.ChangeShapes Go.WideShapes Go.ChangeAt Go.RowKit
theorem j13 : (Rows.nativeRefusesRow.named == Tryz.prog.varsNamed 3) = true := by kernel_rfl
theorem j23 : (Rows.nativeRefusesRow.plainKeys == Tryz.prog.plainKeys) = true := by kernel_rfl
theorem j25 : Tryz.prog.stopsHeard = true := by kernel_rfl
theorem j26 : Tryz.prog.mayEnter = true := by kernel_rfl
theorem j27 : (Rows.nativeRefusesRow.lifted == Tryz.prog.liftsFinal) = true := by kernel_rfl
theorem j28 : (Tryz.prog.make == some Rows.nativeRefusesRow.make) = true := by kernel_rfl
theorem card_w : Rows.nativeRefusesRow.wfByText (OpenSpec.ofChange Rows.nativeRefusesSpec) = true := by kernel_rfl
theorem card_m : Tryz.prog.mainIs = some ((true, "8633000d0e7ad0e747abbad0866e4723ee3c385ef1d90ef0645fe96071be5b4e").1, (true, "8633000d0e7ad0e747abbad0866e4723ee3c385ef1d90ef0645fe96071be5b4e").2.toList) := by kernel_rfl
theorem card_l : true = Tryz.prog.looks [] := by kernel_rfl
theorem card_s : ([5, 5].all fun u => !Tryz.prog.wantsStandIn u) = true := by kernel_rfl
theorem card_n : Tryz.prog.funcNamed "boomerang/boomeranglaw17.NativeRefuses" = some 3 := by kernel_rfl
end Go.Proofs.YtkjoknbaihgedaaGreatDoor.nativeRefuses
