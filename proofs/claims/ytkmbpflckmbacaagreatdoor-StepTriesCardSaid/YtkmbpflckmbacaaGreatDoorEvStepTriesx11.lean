/- The law StepTries, case by case, as the second evaluator tells (part 11). -/
import Derived.Test.YtkmbpflckmbacaaGreatDoorRows
import Derived.Test.YtkmbpflckmbacaaGreatDoorSyBase
import Derived.Test.YtkmbpflckmbacaaGreatDoorFvM
import Derived.Test.YtkmbpflckmbacaaGreatDoorSyS
import Derived.KernelRfl
namespace Go.Proofs.YtkmbpflckmbacaaGreatDoor.stepTries
set_option maxRecDepth 100000
/-- Some cases at once: what is reckoned once serves all of them. -/
theorem g11_0 : Go.Ev.saysTrue (Go.Ev.sev Go.Proofs.Sy.lib (Go.Ev.lookB Go.Proofs.SyS.tree) (Go.Ev.compF Tryz.prog) 800 150 5 [.res .u8 12 4, .res .u8 5 1] Go.Ev.H.empty) = true := by kernel_rfl
theorem c_4_1 : Go.Ev.saysTrue (Go.Ev.ev Go.Proofs.Sy.lib (Go.Ev.compF Tryz.prog) 800 150 5 [.res .u8 12 4, .res .u8 5 1] Go.Ev.H.empty) = true := Go.Ev.scalls_true Go.Proofs.SyS.tree_ok Go.Proofs.SyS.apart (g11_0)
/-- Some cases at once: what is reckoned once serves all of them. -/
theorem g11_1 : Go.Ev.saysTrue (Go.Ev.sev Go.Proofs.Sy.lib (Go.Ev.lookB Go.Proofs.SyS.tree) (Go.Ev.compF Tryz.prog) 800 150 5 [.res .u8 12 6, .res .u8 7 2] Go.Ev.H.empty) = true := by kernel_rfl
theorem c_6_2 : Go.Ev.saysTrue (Go.Ev.ev Go.Proofs.Sy.lib (Go.Ev.compF Tryz.prog) 800 150 5 [.res .u8 12 6, .res .u8 7 2] Go.Ev.H.empty) = true := Go.Ev.scalls_true Go.Proofs.SyS.tree_ok Go.Proofs.SyS.apart (g11_1)
/-- Some cases at once: what is reckoned once serves all of them. -/
theorem g11_2 : Go.Ev.saysTrue (Go.Ev.sev Go.Proofs.Sy.lib (Go.Ev.lookB Go.Proofs.SyS.tree) (Go.Ev.compF Tryz.prog) 800 150 5 [.res .u8 12 7, .res .u8 8 7] Go.Ev.H.empty) = true := by kernel_rfl
theorem c_7_7 : Go.Ev.saysTrue (Go.Ev.ev Go.Proofs.Sy.lib (Go.Ev.compF Tryz.prog) 800 150 5 [.res .u8 12 7, .res .u8 8 7] Go.Ev.H.empty) = true := Go.Ev.scalls_true Go.Proofs.SyS.tree_ok Go.Proofs.SyS.apart (g11_2)
/-- Some cases at once: what is reckoned once serves all of them. -/
theorem g11_3 : Go.Ev.saysTrue (Go.Ev.sev Go.Proofs.Sy.lib (Go.Ev.lookB Go.Proofs.SyS.tree) (Go.Ev.compF Tryz.prog) 800 150 5 [.res .u8 12 9, .res .u8 10 2] Go.Ev.H.empty) = true := by kernel_rfl
theorem c_9_2 : Go.Ev.saysTrue (Go.Ev.ev Go.Proofs.Sy.lib (Go.Ev.compF Tryz.prog) 800 150 5 [.res .u8 12 9, .res .u8 10 2] Go.Ev.H.empty) = true := Go.Ev.scalls_true Go.Proofs.SyS.tree_ok Go.Proofs.SyS.apart (g11_3)
/-- Some cases at once: what is reckoned once serves all of them. -/
theorem g11_4 : Go.Ev.saysTrue (Go.Ev.sev Go.Proofs.Sy.lib (Go.Ev.lookB Go.Proofs.SyS.tree) (Go.Ev.compF Tryz.prog) 800 150 5 [.res .u8 12 10, .res .u8 11 4] Go.Ev.H.empty) = true := by kernel_rfl
theorem c_10_4 : Go.Ev.saysTrue (Go.Ev.ev Go.Proofs.Sy.lib (Go.Ev.compF Tryz.prog) 800 150 5 [.res .u8 12 10, .res .u8 11 4] Go.Ev.H.empty) = true := Go.Ev.scalls_true Go.Proofs.SyS.tree_ok Go.Proofs.SyS.apart (g11_4)
/-- Some cases at once: what is reckoned once serves all of them. -/
theorem g11_5 : Go.Ev.saysTrue (Go.Ev.sev Go.Proofs.Sy.lib (Go.Ev.lookB Go.Proofs.SyS.tree) (Go.Ev.compF Tryz.prog) 800 150 5 [.res .u8 12 11, .res .u8 12 5] Go.Ev.H.empty) = true := by kernel_rfl
theorem c_11_5 : Go.Ev.saysTrue (Go.Ev.ev Go.Proofs.Sy.lib (Go.Ev.compF Tryz.prog) 800 150 5 [.res .u8 12 11, .res .u8 12 5] Go.Ev.H.empty) = true := Go.Ev.scalls_true Go.Proofs.SyS.tree_ok Go.Proofs.SyS.apart (g11_5)
end Go.Proofs.YtkmbpflckmbacaaGreatDoor.stepTries
