/- The law StepTries, case by case, as the second evaluator tells (part 5). -/
import Derived.Test.YtkmbpflckmbacaaGreatDoorRows
import Derived.Test.YtkmbpflckmbacaaGreatDoorSyBase
import Derived.Test.YtkmbpflckmbacaaGreatDoorFvM
import Derived.Test.YtkmbpflckmbacaaGreatDoorSyS
import Derived.KernelRfl
namespace Go.Proofs.YtkmbpflckmbacaaGreatDoor.stepTries
set_option maxRecDepth 100000
/-- Some cases at once: what is reckoned once serves all of them. -/
theorem g5_0 : Go.Ev.saysTrue (Go.Ev.sev Go.Proofs.Sy.lib (Go.Ev.lookB Go.Proofs.SyS.tree) (Go.Ev.compF Tryz.prog) 800 150 5 [.res .u8 12 2, .res .u8 3 2] Go.Ev.H.empty) = true := by kernel_rfl
theorem c_2_2 : Go.Ev.saysTrue (Go.Ev.ev Go.Proofs.Sy.lib (Go.Ev.compF Tryz.prog) 800 150 5 [.res .u8 12 2, .res .u8 3 2] Go.Ev.H.empty) = true := Go.Ev.scalls_true Go.Proofs.SyS.tree_ok Go.Proofs.SyS.apart (g5_0)
/-- Some cases at once: what is reckoned once serves all of them. -/
theorem g5_1 : Go.Ev.saysTrue (Go.Ev.sev Go.Proofs.Sy.lib (Go.Ev.lookB Go.Proofs.SyS.tree) (Go.Ev.compF Tryz.prog) 800 150 5 [.res .u8 12 5, .res .u8 6 2] Go.Ev.H.empty) = true := by kernel_rfl
theorem c_5_2 : Go.Ev.saysTrue (Go.Ev.ev Go.Proofs.Sy.lib (Go.Ev.compF Tryz.prog) 800 150 5 [.res .u8 12 5, .res .u8 6 2] Go.Ev.H.empty) = true := Go.Ev.scalls_true Go.Proofs.SyS.tree_ok Go.Proofs.SyS.apart (g5_1)
/-- Some cases at once: what is reckoned once serves all of them. -/
theorem g5_2 : Go.Ev.saysTrue (Go.Ev.sev Go.Proofs.Sy.lib (Go.Ev.lookB Go.Proofs.SyS.tree) (Go.Ev.compF Tryz.prog) 800 150 5 [.res .u8 12 7, .res .u8 8 1] Go.Ev.H.empty) = true := by kernel_rfl
theorem c_7_1 : Go.Ev.saysTrue (Go.Ev.ev Go.Proofs.Sy.lib (Go.Ev.compF Tryz.prog) 800 150 5 [.res .u8 12 7, .res .u8 8 1] Go.Ev.H.empty) = true := Go.Ev.scalls_true Go.Proofs.SyS.tree_ok Go.Proofs.SyS.apart (g5_2)
/-- Some cases at once: what is reckoned once serves all of them. -/
theorem g5_3 : Go.Ev.saysTrue (Go.Ev.sev Go.Proofs.Sy.lib (Go.Ev.lookB Go.Proofs.SyS.tree) (Go.Ev.compF Tryz.prog) 800 150 5 [.res .u8 12 8, .res .u8 9 5] Go.Ev.H.empty) = true := by kernel_rfl
theorem c_8_5 : Go.Ev.saysTrue (Go.Ev.ev Go.Proofs.Sy.lib (Go.Ev.compF Tryz.prog) 800 150 5 [.res .u8 12 8, .res .u8 9 5] Go.Ev.H.empty) = true := Go.Ev.scalls_true Go.Proofs.SyS.tree_ok Go.Proofs.SyS.apart (g5_3)
/-- Some cases at once: what is reckoned once serves all of them. -/
theorem g5_4 : Go.Ev.saysTrue (Go.Ev.sev Go.Proofs.Sy.lib (Go.Ev.lookB Go.Proofs.SyS.tree) (Go.Ev.compF Tryz.prog) 800 150 5 [.res .u8 12 9, .res .u8 10 8] Go.Ev.H.empty) = true := by kernel_rfl
theorem c_9_8 : Go.Ev.saysTrue (Go.Ev.ev Go.Proofs.Sy.lib (Go.Ev.compF Tryz.prog) 800 150 5 [.res .u8 12 9, .res .u8 10 8] Go.Ev.H.empty) = true := Go.Ev.scalls_true Go.Proofs.SyS.tree_ok Go.Proofs.SyS.apart (g5_4)
/-- Some cases at once: what is reckoned once serves all of them. -/
theorem g5_5 : Go.Ev.saysTrue (Go.Ev.sev Go.Proofs.Sy.lib (Go.Ev.lookB Go.Proofs.SyS.tree) (Go.Ev.compF Tryz.prog) 800 150 5 [.res .u8 12 10, .res .u8 11 10] Go.Ev.H.empty) = true := by kernel_rfl
theorem c_10_10 : Go.Ev.saysTrue (Go.Ev.ev Go.Proofs.Sy.lib (Go.Ev.compF Tryz.prog) 800 150 5 [.res .u8 12 10, .res .u8 11 10] Go.Ev.H.empty) = true := Go.Ev.scalls_true Go.Proofs.SyS.tree_ok Go.Proofs.SyS.apart (g5_5)
/-- Some cases at once: what is reckoned once serves all of them. -/
theorem g5_6 : Go.Ev.saysTrue (Go.Ev.sev Go.Proofs.Sy.lib (Go.Ev.lookB Go.Proofs.SyS.tree) (Go.Ev.compF Tryz.prog) 800 150 5 [.res .u8 12 11, .res .u8 12 11] Go.Ev.H.empty) = true := by kernel_rfl
theorem c_11_11 : Go.Ev.saysTrue (Go.Ev.ev Go.Proofs.Sy.lib (Go.Ev.compF Tryz.prog) 800 150 5 [.res .u8 12 11, .res .u8 12 11] Go.Ev.H.empty) = true := Go.Ev.scalls_true Go.Proofs.SyS.tree_ok Go.Proofs.SyS.apart (g5_6)
end Go.Proofs.YtkmbpflckmbacaaGreatDoor.stepTries
