/- The law StepThis, case by case, as the second evaluator tells (part 6). -/
import Derived.Test.YtkmbpflckmbacaaGreatDoorRows
import Derived.Test.YtkmbpflckmbacaaGreatDoorSyBase
import Derived.Test.YtkmbpflckmbacaaGreatDoorFvM
import Derived.Test.YtkmbpflckmbacaaGreatDoorSyT
import Derived.KernelRfl
namespace Go.Proofs.YtkmbpflckmbacaaGreatDoor.stepThis
set_option maxRecDepth 100000
noncomputable def E6 (r0 : Nat) : Bool := Go.Ev.saysTrue (Go.Ev.sev Go.Proofs.Sy.lib (Go.Ev.lookB Go.Proofs.SyT.tree) (Go.Ev.compF Tryz.prog) 1000 150 6 [.int .u8 (.ofNat r0)] Go.Ev.H.empty)
abbrev T6 (r0 : Nat) : Prop := Go.Ev.saysTrue (Go.Ev.ev Go.Proofs.Sy.lib (Go.Ev.compF Tryz.prog) 1000 150 6 [.int .u8 (.ofNat r0)] Go.Ev.H.empty) = true
theorem L6 {r0 : Nat} (h : E6 r0 = true) : T6 r0 := Go.Ev.scalls_true Go.Proofs.SyT.tree_ok Go.Proofs.SyT.apart h
theorem c_6 : T6 6 := L6 (by kernel_rfl)
theorem c_22 : T6 22 := L6 (by kernel_rfl)
theorem c_38 : T6 38 := L6 (by kernel_rfl)
theorem c_54 : T6 54 := L6 (by kernel_rfl)
theorem c_70 : T6 70 := L6 (by kernel_rfl)
theorem c_86 : T6 86 := L6 (by kernel_rfl)
theorem c_102 : T6 102 := L6 (by kernel_rfl)
theorem c_118 : T6 118 := L6 (by kernel_rfl)
theorem c_134 : T6 134 := L6 (by kernel_rfl)
theorem c_150 : T6 150 := L6 (by kernel_rfl)
theorem c_166 : T6 166 := L6 (by kernel_rfl)
theorem c_182 : T6 182 := L6 (by kernel_rfl)
theorem c_198 : T6 198 := L6 (by kernel_rfl)
theorem c_214 : T6 214 := L6 (by kernel_rfl)
theorem c_230 : T6 230 := L6 (by kernel_rfl)
theorem c_246 : T6 246 := L6 (by kernel_rfl)
end Go.Proofs.YtkmbpflckmbacaaGreatDoor.stepThis
