/- The law StepScopes, case by case, as the second evaluator tells (part 2). -/
import Derived.Test.YtkmbpflckmbacaaGreatDoorRows
import Derived.Test.YtkmbpflckmbacaaGreatDoorSyBase
import Derived.Test.YtkmbpflckmbacaaGreatDoorFvM
import Derived.Test.YtkmbpflckmbacaaGreatDoorSyP
import Derived.KernelRfl
namespace Go.Proofs.YtkmbpflckmbacaaGreatDoor.stepScopes
set_option maxRecDepth 100000
noncomputable def E2 (r0 : Nat) : Bool := Go.Ev.saysTrue (Go.Ev.sev Go.Proofs.Sy.lib (Go.Ev.lookB Go.Proofs.SyP.tree) (Go.Ev.compF Tryz.prog) 1000 150 4 [.res .u8 9 r0] Go.Ev.H.empty)
abbrev T2 (r0 : Nat) : Prop := Go.Ev.saysTrue (Go.Ev.ev Go.Proofs.Sy.lib (Go.Ev.compF Tryz.prog) 1000 150 4 [.res .u8 9 r0] Go.Ev.H.empty) = true
theorem L2 {r0 : Nat} (h : E2 r0 = true) : T2 r0 := Go.Ev.scalls_true Go.Proofs.SyP.tree_ok Go.Proofs.SyP.apart h
theorem c_2 : T2 2 := L2 (by kernel_rfl)
theorem c_5 : T2 5 := L2 (by kernel_rfl)
theorem c_8 : T2 8 := L2 (by kernel_rfl)
end Go.Proofs.YtkmbpflckmbacaaGreatDoor.stepScopes
