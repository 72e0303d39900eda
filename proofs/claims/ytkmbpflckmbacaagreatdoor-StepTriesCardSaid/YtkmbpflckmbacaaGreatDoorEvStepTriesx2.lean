/- The law StepTries, case by case, as the second evaluator tells (part 2). -/
import Derived.Test.YtkmbpflckmbacaaGreatDoorRows
import Derived.Test.YtkmbpflckmbacaaGreatDoorSyBase
import Derived.Test.YtkmbpflckmbacaaGreatDoorFvM
import Derived.Test.YtkmbpflckmbacaaGreatDoorSyS
import Derived.KernelRfl
namespace Go.Proofs.YtkmbpflckmbacaaGreatDoor.stepTries
set_option maxRecDepth 100000
/-- Some cases at once: what is reckoned once serves all of them. -/
theorem g2_0 : Go.Ev.saysTrue (Go.Ev.sev Go.Proofs.Sy.lib (Go.Ev.lookB Go.Proofs.SyS.tree) (Go.Ev.compF Tryz.prog) 800 150 5 [.res .u8 12 1, .res .u8 2 1] Go.Ev.H.empty) = true := by kernel_rfl
theorem c_1_1 : Go.Ev.saysTrue (Go.Ev.ev Go.Proofs.Sy.lib (Go.Ev.compF Tryz.prog) 800 150 5 [.res .u8 12 1, .res .u8 2 1] Go.Ev.H.empty) = true := Go.Ev.scalls_true Go.Proofs.SyS.tree_ok Go.Proofs.SyS.apart (g2_0)
/-- Some cases at once: what is reckoned once serves all of them. -/
theorem g2_1 : Go.Ev.saysTrue (Go.Ev.sev Go.Proofs.Sy.lib (Go.Ev.lookB Go.Proofs.SyS.tree) (Go.Ev.compF Tryz.prog) 800 150 5 [.res .u8 12 4, .res .u8 5 4] Go.Ev.H.empty) = true := by kernel_rfl
theorem c_4_4 : Go.Ev.saysTrue (Go.Ev.ev Go.Proofs.Sy.lib (Go.Ev.compF Tryz.prog) 800 150 5 [.res .u8 12 4, .res .u8 5 4] Go.Ev.H.empty) = true := Go.Ev.scalls_true Go.Proofs.SyS.tree_ok Go.Proofs.SyS.apart (g2_1)
/-- Some cases at once: what is reckoned once serves all of them. -/
theorem g2_2 : Go.Ev.saysTrue (Go.Ev.sev Go.Proofs.Sy.lib (Go.Ev.lookB Go.Proofs.SyS.tree) (Go.Ev.compF Tryz.prog) 800 150 5 [.res .u8 12 6, .res .u8 7 5] Go.Ev.H.empty) = true := by kernel_rfl
theorem c_6_5 : Go.Ev.saysTrue (Go.Ev.ev Go.Proofs.Sy.lib (Go.Ev.compF Tryz.prog) 800 150 5 [.res .u8 12 6, .res .u8 7 5] Go.Ev.H.empty) = true := Go.Ev.scalls_true Go.Proofs.SyS.tree_ok Go.Proofs.SyS.apart (g2_2)
/-- Some cases at once: what is reckoned once serves all of them. -/
theorem g2_3 : Go.Ev.saysTrue (Go.Ev.sev Go.Proofs.Sy.lib (Go.Ev.lookB Go.Proofs.SyS.tree) (Go.Ev.compF Tryz.prog) 800 150 5 [.res .u8 12 8, .res .u8 9 2] Go.Ev.H.empty) = true := by kernel_rfl
theorem c_8_2 : Go.Ev.saysTrue (Go.Ev.ev Go.Proofs.Sy.lib (Go.Ev.compF Tryz.prog) 800 150 5 [.res .u8 12 8, .res .u8 9 2] Go.Ev.H.empty) = true := Go.Ev.scalls_true Go.Proofs.SyS.tree_ok Go.Proofs.SyS.apart (g2_3)
/-- Some cases at once: what is reckoned once serves all of them. -/
theorem g2_4 : Go.Ev.saysTrue (Go.Ev.sev Go.Proofs.Sy.lib (Go.Ev.lookB Go.Proofs.SyS.tree) (Go.Ev.compF Tryz.prog) 800 150 5 [.res .u8 12 9, .res .u8 10 5] Go.Ev.H.empty) = true := by kernel_rfl
theorem c_9_5 : Go.Ev.saysTrue (Go.Ev.ev Go.Proofs.Sy.lib (Go.Ev.compF Tryz.prog) 800 150 5 [.res .u8 12 9, .res .u8 10 5] Go.Ev.H.empty) = true := Go.Ev.scalls_true Go.Proofs.SyS.tree_ok Go.Proofs.SyS.apart (g2_4)
/-- Some cases at once: what is reckoned once serves all of them. -/
theorem g2_5 : Go.Ev.saysTrue (Go.Ev.sev Go.Proofs.Sy.lib (Go.Ev.lookB Go.Proofs.SyS.tree) (Go.Ev.compF Tryz.prog) 800 150 5 [.res .u8 12 10, .res .u8 11 7] Go.Ev.H.empty) = true := by kernel_rfl
theorem c_10_7 : Go.Ev.saysTrue (Go.Ev.ev Go.Proofs.Sy.lib (Go.Ev.compF Tryz.prog) 800 150 5 [.res .u8 12 10, .res .u8 11 7] Go.Ev.H.empty) = true := Go.Ev.scalls_true Go.Proofs.SyS.tree_ok Go.Proofs.SyS.apart (g2_5)
/-- Some cases at once: what is reckoned once serves all of them. -/
theorem g2_6 : Go.Ev.saysTrue (Go.Ev.sev Go.Proofs.Sy.lib (Go.Ev.lookB Go.Proofs.SyS.tree) (Go.Ev.compF Tryz.prog) 800 150 5 [.res .u8 12 11, .res .u8 12 8] Go.Ev.H.empty) = true := by kernel_rfl
theorem c_11_8 : Go.Ev.saysTrue (Go.Ev.ev Go.Proofs.Sy.lib (Go.Ev.compF Tryz.prog) 800 150 5 [.res .u8 12 11, .res .u8 12 8] Go.Ev.H.empty) = true := Go.Ev.scalls_true Go.Proofs.SyS.tree_ok Go.Proofs.SyS.apart (g2_6)
end Go.Proofs.YtkmbpflckmbacaaGreatDoor.stepTries
