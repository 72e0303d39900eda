/- The law StepTries, case by case, as the second evaluator tells (part 3). -/
import Derived.Test.YtkmbpflckmbacaaGreatDoorRows
import Derived.Test.YtkmbpflckmbacaaGreatDoorSyBase
import Derived.Test.YtkmbpflckmbacaaGreatDoorFvM
import Derived.Test.YtkmbpflckmbacaaGreatDoorSyS
import Derived.KernelRfl
namespace Go.Proofs.YtkmbpflckmbacaaGreatDoor.stepTries
set_option maxRecDepth 100000
/-- Some cases at once: what is reckoned once serves all of them. -/
theorem g3_0 : Go.Ev.saysTrue (Go.Ev.sev Go.Proofs.Sy.lib (Go.Ev.lookB Go.Proofs.SyS.tree) (Go.Ev.compF Tryz.prog) 800 150 5 [.res .u8 12 2, .res .u8 3 0] Go.Ev.H.empty) = true := by kernel_rfl
theorem c_2_0 : Go.Ev.saysTrue (Go.Ev.ev Go.Proofs.Sy.lib (Go.Ev.compF Tryz.prog) 800 150 5 [.res .u8 12 2, .res .u8 3 0] Go.Ev.H.empty) = true := Go.Ev.scalls_true Go.Proofs.SyS.tree_ok Go.Proofs.SyS.apart (g3_0)
/-- Some cases at once: what is reckoned once serves all of them. -/
theorem g3_1 : Go.Ev.saysTrue (Go.Ev.sev Go.Proofs.Sy.lib (Go.Ev.lookB Go.Proofs.SyS.tree) (Go.Ev.compF Tryz.prog) 800 150 5 [.res .u8 12 5, .res .u8 6 0] Go.Ev.H.empty) = true := by kernel_rfl
theorem c_5_0 : Go.Ev.saysTrue (Go.Ev.ev Go.Proofs.Sy.lib (Go.Ev.compF Tryz.prog) 800 150 5 [.res .u8 12 5, .res .u8 6 0] Go.Ev.H.empty) = true := Go.Ev.scalls_true Go.Proofs.SyS.tree_ok Go.Proofs.SyS.apart (g3_1)
/-- Some cases at once: what is reckoned once serves all of them. -/
theorem g3_2 : Go.Ev.saysTrue (Go.Ev.sev Go.Proofs.Sy.lib (Go.Ev.lookB Go.Proofs.SyS.tree) (Go.Ev.compF Tryz.prog) 800 150 5 [.res .u8 12 6, .res .u8 7 6] Go.Ev.H.empty) = true := by kernel_rfl
theorem c_6_6 : Go.Ev.saysTrue (Go.Ev.ev Go.Proofs.Sy.lib (Go.Ev.compF Tryz.prog) 800 150 5 [.res .u8 12 6, .res .u8 7 6] Go.Ev.H.empty) = true := Go.Ev.scalls_true Go.Proofs.SyS.tree_ok Go.Proofs.SyS.apart (g3_2)
/-- Some cases at once: what is reckoned once serves all of them. -/
theorem g3_3 : Go.Ev.saysTrue (Go.Ev.sev Go.Proofs.Sy.lib (Go.Ev.lookB Go.Proofs.SyS.tree) (Go.Ev.compF Tryz.prog) 800 150 5 [.res .u8 12 8, .res .u8 9 3] Go.Ev.H.empty) = true := by kernel_rfl
theorem c_8_3 : Go.Ev.saysTrue (Go.Ev.ev Go.Proofs.Sy.lib (Go.Ev.compF Tryz.prog) 800 150 5 [.res .u8 12 8, .res .u8 9 3] Go.Ev.H.empty) = true := Go.Ev.scalls_true Go.Proofs.SyS.tree_ok Go.Proofs.SyS.apart (g3_3)
/-- Some cases at once: what is reckoned once serves all of them. -/
theorem g3_4 : Go.Ev.saysTrue (Go.Ev.sev Go.Proofs.Sy.lib (Go.Ev.lookB Go.Proofs.SyS.tree) (Go.Ev.compF Tryz.prog) 800 150 5 [.res .u8 12 9, .res .u8 10 6] Go.Ev.H.empty) = true := by kernel_rfl
theorem c_9_6 : Go.Ev.saysTrue (Go.Ev.ev Go.Proofs.Sy.lib (Go.Ev.compF Tryz.prog) 800 150 5 [.res .u8 12 9, .res .u8 10 6] Go.Ev.H.empty) = true := Go.Ev.scalls_true Go.Proofs.SyS.tree_ok Go.Proofs.SyS.apart (g3_4)
/-- Some cases at once: what is reckoned once serves all of them. -/
theorem g3_5 : Go.Ev.saysTrue (Go.Ev.sev Go.Proofs.Sy.lib (Go.Ev.lookB Go.Proofs.SyS.tree) (Go.Ev.compF Tryz.prog) 800 150 5 [.res .u8 12 10, .res .u8 11 8] Go.Ev.H.empty) = true := by kernel_rfl
theorem c_10_8 : Go.Ev.saysTrue (Go.Ev.ev Go.Proofs.Sy.lib (Go.Ev.compF Tryz.prog) 800 150 5 [.res .u8 12 10, .res .u8 11 8] Go.Ev.H.empty) = true := Go.Ev.scalls_true Go.Proofs.SyS.tree_ok Go.Proofs.SyS.apart (g3_5)
/-- Some cases at once: what is reckoned once serves all of them. -/
theorem g3_6 : Go.Ev.saysTrue (Go.Ev.sev Go.Proofs.Sy.lib (Go.Ev.lookB Go.Proofs.SyS.tree) (Go.Ev.compF Tryz.prog) 800 150 5 [.res .u8 12 11, .res .u8 12 9] Go.Ev.H.empty) = true := by kernel_rfl
theorem c_11_9 : Go.Ev.saysTrue (Go.Ev.ev Go.Proofs.Sy.lib (Go.Ev.compF Tryz.prog) 800 150 5 [.res .u8 12 11, .res .u8 12 9] Go.Ev.H.empty) = true := Go.Ev.scalls_true Go.Proofs.SyS.tree_ok Go.Proofs.SyS.apart (g3_6)
end Go.Proofs.YtkmbpflckmbacaaGreatDoor.stepTries
