/- The law StepThis, case by case, as the second evaluator tells (part 11). -/
import Derived.Test.YtkmbpflckmbacaaGreatDoorRows
import Derived.Test.YtkmbpflckmbacaaGreatDoorSyBase
import Derived.Test.YtkmbpflckmbacaaGreatDoorFvM
import Derived.Test.YtkmbpflckmbacaaGreatDoorSyT
import Derived.KernelRfl
namespace Go.Proofs.YtkmbpflckmbacaaGreatDoor.stepThis
set_option maxRecDepth 100000
noncomputable def E11 (r0 : Nat) : Bool := Go.Ev.saysTrue (Go.Ev.sev Go.Proofs.Sy.lib (Go.Ev.lookB Go.Proofs.SyT.tree) (Go.Ev.compF Tryz.prog) 1000 150 6 [.int .u8 (.ofNat r0)] Go.Ev.H.empty)
abbrev T11 (r0 : Nat) : Prop := Go.Ev.saysTrue (Go.Ev.ev Go.Proofs.Sy.lib (Go.Ev.compF Tryz.prog) 1000 150 6 [.int .u8 (.ofNat r0)] Go.Ev.H.empty) = true
theorem L11 {r0 : Nat} (h : E11 r0 = true) : T11 r0 := Go.Ev.scalls_true Go.Proofs.SyT.tree_ok Go.Proofs.SyT.apart h
theorem c_11 : T11 11 := L11 (by kernel_rfl)
theorem c_27 : T11 27 := L11 (by kernel_rfl)
theorem c_43 : T11 43 := L11 (by kernel_rfl)
theorem c_59 : T11 59 := L11 (by kernel_rfl)
theorem c_75 : T11 75 := L11 (by kernel_rfl)
theorem c_91 : T11 91 := L11 (by kernel_rfl)
theorem c_107 : T11 107 := L11 (by kernel_rfl)
theorem c_123 : T11 123 := L11 (by kernel_rfl)
theorem c_139 : T11 139 := L11 (by kernel_rfl)
theorem c_155 : T11 155 := L11 (by kernel_rfl)
theorem c_171 : T11 171 := L11 (by kernel_rfl)
theorem c_187 : T11 187 := L11 (by kernel_rfl)
theorem c_203 : T11 203 := L11 (by kernel_rfl)
theorem c_219 : T11 219 := L11 (by kernel_rfl)
theorem c_235 : T11 235 := L11 (by kernel_rfl)
theorem c_251 : T11 251 := L11 (by kernel_rfl)
end Go.Proofs.YtkmbpflckmbacaaGreatDoor.stepThis
