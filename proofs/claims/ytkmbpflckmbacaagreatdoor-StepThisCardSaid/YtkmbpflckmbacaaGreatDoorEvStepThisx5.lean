/- The law StepThis, case by case, as the second evaluator tells (part 5). -/
import Derived.Test.YtkmbpflckmbacaaGreatDoorRows
import Derived.Test.YtkmbpflckmbacaaGreatDoorSyBase
import Derived.Test.YtkmbpflckmbacaaGreatDoorFvM
import Derived.Test.YtkmbpflckmbacaaGreatDoorSyT
import Derived.KernelRfl
namespace Go.Proofs.YtkmbpflckmbacaaGreatDoor.stepThis
set_option maxRecDepth 100000
noncomputable def E5 (r0 : Nat) : Bool := Go.Ev.saysTrue (Go.Ev.sev Go.Proofs.Sy.lib (Go.Ev.lookB Go.Proofs.SyT.tree) (Go.Ev.compF Tryz.prog) 1000 150 6 [.int .u8 (.ofNat r0)] Go.Ev.H.empty)
abbrev T5 (r0 : Nat) : Prop := Go.Ev.saysTrue (Go.Ev.ev Go.Proofs.Sy.lib (Go.Ev.compF Tryz.prog) 1000 150 6 [.int .u8 (.ofNat r0)] Go.Ev.H.empty) = true
theorem L5 {r0 : Nat} (h : E5 r0 = true) : T5 r0 := Go.Ev.scalls_true Go.Proofs.SyT.tree_ok Go.Proofs.SyT.apart h
theorem c_5 : T5 5 := L5 (by kernel_rfl)
theorem c_21 : T5 21 := L5 (by kernel_rfl)
theorem c_37 : T5 37 := L5 (by kernel_rfl)
theorem c_53 : T5 53 := L5 (by kernel_rfl)
theorem c_69 : T5 69 := L5 (by kernel_rfl)
theorem c_85 : T5 85 := L5 (by kernel_rfl)
theorem c_101 : T5 101 := L5 (by kernel_rfl)
theorem c_117 : T5 117 := L5 (by kernel_rfl)
theorem c_133 : T5 133 := L5 (by kernel_rfl)
theorem c_149 : T5 149 := L5 (by kernel_rfl)
theorem c_165 : T5 165 := L5 (by kernel_rfl)
theorem c_181 : T5 181 := L5 (by kernel_rfl)
theorem c_197 : T5 197 := L5 (by kernel_rfl)
theorem c_213 : T5 213 := L5 (by kernel_rfl)
theorem c_229 : T5 229 := L5 (by kernel_rfl)
theorem c_245 : T5 245 := L5 (by kernel_rfl)
end Go.Proofs.YtkmbpflckmbacaaGreatDoor.stepThis
