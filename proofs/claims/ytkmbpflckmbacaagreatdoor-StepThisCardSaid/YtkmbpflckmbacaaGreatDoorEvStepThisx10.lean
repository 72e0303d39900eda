/- The law StepThis, case by case, as the second evaluator tells (part 10). -/
import Derived.Test.YtkmbpflckmbacaaGreatDoorRows
import Derived.Test.YtkmbpflckmbacaaGreatDoorSyBase
import Derived.Test.YtkmbpflckmbacaaGreatDoorFvM
import Derived.Test.YtkmbpflckmbacaaGreatDoorSyT
import Derived.KernelRfl
namespace Go.Proofs.YtkmbpflckmbacaaGreatDoor.stepThis
set_option maxRecDepth 100000
noncomputable def E10 (r0 : Nat) : Bool := Go.Ev.saysTrue (Go.Ev.sev Go.Proofs.Sy.lib (Go.Ev.lookB Go.Proofs.SyT.tree) (Go.Ev.compF Tryz.prog) 1000 150 6 [.int .u8 (.ofNat r0)] Go.Ev.H.empty)
abbrev T10 (r0 : Nat) : Prop := Go.Ev.saysTrue (Go.Ev.ev Go.Proofs.Sy.lib (Go.Ev.compF Tryz.prog) 1000 150 6 [.int .u8 (.ofNat r0)] Go.Ev.H.empty) = true
theorem L10 {r0 : Nat} (h : E10 r0 = true) : T10 r0 := Go.Ev.scalls_true Go.Proofs.SyT.tree_ok Go.Proofs.SyT.apart h
theorem c_10 : T10 10 := L10 (by kernel_rfl)
theorem c_26 : T10 26 := L10 (by kernel_rfl)
theorem c_42 : T10 42 := L10 (by kernel_rfl)
theorem c_58 : T10 58 := L10 (by kernel_rfl)
theorem c_74 : T10 74 := L10 (by kernel_rfl)
theorem c_90 : T10 90 := L10 (by kernel_rfl)
theorem c_106 : T10 106 := L10 (by kernel_rfl)
theorem c_122 : T10 122 := L10 (by kernel_rfl)
theorem c_138 : T10 138 := L10 (by kernel_rfl)
theorem c_154 : T10 154 := L10 (by kernel_rfl)
theorem c_170 : T10 170 := L10 (by kernel_rfl)
theorem c_186 : T10 186 := L10 (by kernel_rfl)
theorem c_202 : T10 202 := L10 (by kernel_rfl)
theorem c_218 : T10 218 := L10 (by kernel_rfl)
theorem c_234 : T10 234 := L10 (by kernel_rfl)
theorem c_250 : T10 250 := L10 (by kernel_rfl)
end Go.Proofs.YtkmbpflckmbacaaGreatDoor.stepThis
