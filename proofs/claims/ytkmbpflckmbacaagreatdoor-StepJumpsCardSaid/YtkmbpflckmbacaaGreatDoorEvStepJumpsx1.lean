/- The law StepJumps, case by case, as the second evaluator tells (part 1). -/
import Derived.Test.YtkmbpflckmbacaaGreatDoorRows
import Derived.Test.YtkmbpflckmbacaaGreatDoorSyBase
import Derived.Test.YtkmbpflckmbacaaGreatDoorFvM
import Derived.Test.YtkmbpflckmbacaaGreatDoorSyC
import Derived.KernelRfl
namespace Go.Proofs.YtkmbpflckmbacaaGreatDoor.stepJumps
set_option maxRecDepth 100000
/-- Some cases at once: what is reckoned once serves all of them. -/
theorem g1_0 : Go.Ev.saysTrue (Go.Ev.fev Go.Proofs.Sy.lib Go.Proofs.SyC.tab (Go.Ev.compF Tryz.prog) 400 150 3 [.bool false, .bool false, .bool true] Go.Ev.H.empty) = true := by kernel_rfl
theorem c_false_false_true : Go.Ev.saysTrue (Go.Ev.ev Go.Proofs.Sy.lib (Go.Ev.compF Tryz.prog) 400 150 3 [.bool false, .bool false, .bool true] Go.Ev.H.empty) = true := Go.Ev.fcalls_true Go.Proofs.SyC.tab_ok (g1_0)
/-- Some cases at once: what is reckoned once serves all of them. -/
theorem g1_1 : Go.Ev.saysTrue (Go.Ev.fev Go.Proofs.Sy.lib Go.Proofs.SyC.tab (Go.Ev.compF Tryz.prog) 400 150 3 [.bool false, .bool true, .bool true] Go.Ev.H.empty) = true := by kernel_rfl
theorem c_false_true_true : Go.Ev.saysTrue (Go.Ev.ev Go.Proofs.Sy.lib (Go.Ev.compF Tryz.prog) 400 150 3 [.bool false, .bool true, .bool true] Go.Ev.H.empty) = true := Go.Ev.fcalls_true Go.Proofs.SyC.tab_ok (g1_1)
/-- Some cases at once: what is reckoned once serves all of them. -/
theorem g1_2 : Go.Ev.saysTrue (Go.Ev.fev Go.Proofs.Sy.lib Go.Proofs.SyC.tab (Go.Ev.compF Tryz.prog) 400 150 3 [.bool true, .bool false, .bool true] Go.Ev.H.empty) = true := by kernel_rfl
theorem c_true_false_true : Go.Ev.saysTrue (Go.Ev.ev Go.Proofs.Sy.lib (Go.Ev.compF Tryz.prog) 400 150 3 [.bool true, .bool false, .bool true] Go.Ev.H.empty) = true := Go.Ev.fcalls_true Go.Proofs.SyC.tab_ok (g1_2)
/-- Some cases at once: what is reckoned once serves all of them. -/
theorem g1_3 : Go.Ev.saysTrue (Go.Ev.fev Go.Proofs.Sy.lib Go.Proofs.SyC.tab (Go.Ev.compF Tryz.prog) 400 150 3 [.bool true, .bool true, .bool true] Go.Ev.H.empty) = true := by kernel_rfl
theorem c_true_true_true : Go.Ev.saysTrue (Go.Ev.ev Go.Proofs.Sy.lib (Go.Ev.compF Tryz.prog) 400 150 3 [.bool true, .bool true, .bool true] Go.Ev.H.empty) = true := Go.Ev.fcalls_true Go.Proofs.SyC.tab_ok (g1_3)
end Go.Proofs.YtkmbpflckmbacaaGreatDoor.stepJumps
