/- The law StepTries, case by case, as the second evaluator tells (part 6). -/
import Derived.Test.YtkmbpflckmbacaaGreatDoorRows
import Derived.Test.YtkmbpflckmbacaaGreatDoorSyBase
import Derived.Test.YtkmbpflckmbacaaGreatDoorFvM
import Derived.Test.YtkmbpflckmbacaaGreatDoorSyS
import Derived.KernelRfl
namespace Go.Proofs.YtkmbpflckmbacaaGreatDoor.stepTries
set_option maxRecDepth 100000
/-- Some cases at once: what is reckoned once serves all of them. -/
theorem g6_0 : Go.Ev.saysTrue (Go.Ev.sev Go.Proofs.Sy.lib (Go.Ev.lookB Go.Proofs.SyS.tree) (Go.Ev.compF Tryz.prog) 800 150 5 [.res .u8 12 3, .res .u8 4 0] Go.Ev.H.empty) = true := by kernel_rfl
theorem c_3_0 : Go.Ev.saysTrue (Go.Ev.ev Go.Proofs.Sy.lib (Go.Ev.compF Tryz.prog) 800 150 5 [.res .u8 12 3, .res .u8 4 0] Go.Ev.H.empty) = true := Go.Ev.scalls_true Go.Proofs.SyS.tree_ok Go.Proofs.SyS.apart (g6_0)
/-- Some cases at once: what is reckoned once serves all of them. -/
theorem g6_1 : Go.Ev.saysTrue (Go.Ev.sev Go.Proofs.Sy.lib (Go.Ev.lookB Go.Proofs.SyS.tree) (Go.Ev.compF Tryz.prog) 800 150 5 [.res .u8 12 5, .res .u8 6 3] Go.Ev.H.empty) = true := by kernel_rfl
theorem c_5_3 : Go.Ev.saysTrue (Go.Ev.ev Go.Proofs.Sy.lib (Go.Ev.compF Tryz.prog) 800 150 5 [.res .u8 12 5, .res .u8 6 3] Go.Ev.H.empty) = true := Go.Ev.scalls_true Go.Proofs.SyS.tree_ok Go.Proofs.SyS.apart (g6_1)
/-- Some cases at once: what is reckoned once serves all of them. -/
theorem g6_2 : Go.Ev.saysTrue (Go.Ev.sev Go.Proofs.Sy.lib (Go.Ev.lookB Go.Proofs.SyS.tree) (Go.Ev.compF Tryz.prog) 800 150 5 [.res .u8 12 7, .res .u8 8 2] Go.Ev.H.empty) = true := by kernel_rfl
theorem c_7_2 : Go.Ev.saysTrue (Go.Ev.ev Go.Proofs.Sy.lib (Go.Ev.compF Tryz.prog) 800 150 5 [.res .u8 12 7, .res .u8 8 2] Go.Ev.H.empty) = true := Go.Ev.scalls_true Go.Proofs.SyS.tree_ok Go.Proofs.SyS.apart (g6_2)
/-- Some cases at once: what is reckoned once serves all of them. -/
theorem g6_3 : Go.Ev.saysTrue (Go.Ev.sev Go.Proofs.Sy.lib (Go.Ev.lookB Go.Proofs.SyS.tree) (Go.Ev.compF Tryz.prog) 800 150 5 [.res .u8 12 8, .res .u8 9 6] Go.Ev.H.empty) = true := by kernel_rfl
theorem c_8_6 : Go.Ev.saysTrue (Go.Ev.ev Go.Proofs.Sy.lib (Go.Ev.compF Tryz.prog) 800 150 5 [.res .u8 12 8, .res .u8 9 6] Go.Ev.H.empty) = true := Go.Ev.scalls_true Go.Proofs.SyS.tree_ok Go.Proofs.SyS.apart (g6_3)
/-- Some cases at once: what is reckoned once serves all of them. -/
theorem g6_4 : Go.Ev.saysTrue (Go.Ev.sev Go.Proofs.Sy.lib (Go.Ev.lookB Go.Proofs.SyS.tree) (Go.Ev.compF Tryz.prog) 800 150 5 [.res .u8 12 9, .res .u8 10 9] Go.Ev.H.empty) = true := by kernel_rfl
theorem c_9_9 : Go.Ev.saysTrue (Go.Ev.ev Go.Proofs.Sy.lib (Go.Ev.compF Tryz.prog) 800 150 5 [.res .u8 12 9, .res .u8 10 9] Go.Ev.H.empty) = true := Go.Ev.scalls_true Go.Proofs.SyS.tree_ok Go.Proofs.SyS.apart (g6_4)
/-- Some cases at once: what is reckoned once serves all of them. -/
theorem g6_5 : Go.Ev.saysTrue (Go.Ev.sev Go.Proofs.Sy.lib (Go.Ev.lookB Go.Proofs.SyS.tree) (Go.Ev.compF Tryz.prog) 800 150 5 [.res .u8 12 11, .res .u8 12 0] Go.Ev.H.empty) = true := by kernel_rfl
theorem c_11_0 : Go.Ev.saysTrue (Go.Ev.ev Go.Proofs.Sy.lib (Go.Ev.compF Tryz.prog) 800 150 5 [.res .u8 12 11, .res .u8 12 0] Go.Ev.H.empty) = true := Go.Ev.scalls_true Go.Proofs.SyS.tree_ok Go.Proofs.SyS.apart (g6_5)
end Go.Proofs.YtkmbpflckmbacaaGreatDoor.stepTries
