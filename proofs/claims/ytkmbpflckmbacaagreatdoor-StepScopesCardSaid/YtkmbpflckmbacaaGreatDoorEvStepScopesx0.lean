/- The law StepScopes, case by case, as the second evaluator tells (part 0). -/
import Derived.Test.YtkmbpflckmbacaaGreatDoorRows
import Derived.Test.YtkmbpflckmbacaaGreatDoorSyBase
import Derived.Test.YtkmbpflckmbacaaGreatDoorFvM
import Derived.Test.YtkmbpflckmbacaaGreatDoorSyP
import Derived.KernelRfl
namespace Go.Proofs.YtkmbpflckmbacaaGreatDoor.stepScopes
set_option maxRecDepth 100000
noncomputable def E0 (r0 : Nat) : Bool := Go.Ev.saysTrue (Go.Ev.sev Go.Proofs.Sy.lib (Go.Ev.lookB Go.Proofs.SyP.tree) (Go.Ev.compF Tryz.prog) 1000 150 4 [.res .u8 9 r0] Go.Ev.H.empty)
abbrev T0 (r0 : Nat) : Prop := Go.Ev.saysTrue (Go.Ev.ev Go.Proofs.Sy.lib (Go.Ev.compF Tryz.prog) 1000 150 4 [.res .u8 9 r0] Go.Ev.H.empty) = true
theorem L0 {r0 : Nat} (h : E0 r0 = true) : T0 r0 := Go.Ev.scalls_true Go.Proofs.SyP.tree_ok Go.Proofs.SyP.apart h
theorem c_0 : T0 0 := L0 (by kernel_rfl)
theorem c_3 : T0 3 := L0 (by kernel_rfl)
theorem c_6 : T0 6 := L0 (by kernel_rfl)
end Go.Proofs.YtkmbpflckmbacaaGreatDoor.stepScopes
