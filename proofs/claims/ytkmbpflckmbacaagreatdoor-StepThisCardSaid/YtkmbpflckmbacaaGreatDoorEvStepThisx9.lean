/- The law StepThis, case by case, as the second evaluator tells (part 9). -/
import Derived.Test.YtkmbpflckmbacaaGreatDoorRows
import Derived.Test.YtkmbpflckmbacaaGreatDoorSyBase
import Derived.Test.YtkmbpflckmbacaaGreatDoorFvM
import Derived.Test.YtkmbpflckmbacaaGreatDoorSyT
import Derived.KernelRfl
namespace Go.Proofs.YtkmbpflckmbacaaGreatDoor.stepThis
set_option maxRecDepth 100000
noncomputable def E9 (r0 : Nat) : Bool := Go.Ev.saysTrue (Go.Ev.sev Go.Proofs.Sy.lib (Go.Ev.lookB Go.Proofs.SyT.tree) (Go.Ev.compF Tryz.prog) 1000 150 6 [.int .u8 (.ofNat r0)] Go.Ev.H.empty)
abbrev T9 (r0 : Nat) : Prop := Go.Ev.saysTrue (Go.Ev.ev Go.Proofs.Sy.lib (Go.Ev.compF Tryz.prog) 1000 150 6 [.int .u8 (.ofNat r0)] Go.Ev.H.empty) = true
theorem L9 {r0 : Nat} (h : E9 r0 = true) : T9 r0 := Go.Ev.scalls_true Go.Proofs.SyT.tree_ok Go.Proofs.SyT.apart h
theorem c_9 : T9 9 := L9 (by kernel_rfl)
theorem c_25 : T9 25 := L9 (by kernel_rfl)
theorem c_41 : T9 41 := L9 (by kernel_rfl)
theorem c_57 : T9 57 := L9 (by kernel_rfl)
theorem c_73 : T9 73 := L9 (by kernel_rfl)
theorem c_89 : T9 89 := L9 (by kernel_rfl)
theorem c_105 : T9 105 := L9 (by kernel_rfl)
theorem c_121 : T9 121 := L9 (by kernel_rfl)
theorem c_137 : T9 137 := L9 (by kernel_rfl)
theorem c_153 : T9 153 := L9 (by kernel_rfl)
theorem c_169 : T9 169 := L9 (by kernel_rfl)
theorem c_185 : T9 185 := L9 (by kernel_rfl)
theorem c_201 : T9 201 := L9 (by kernel_rfl)
theorem c_217 : T9 217 := L9 (by kernel_rfl)
theorem c_233 : T9 233 := L9 (by kernel_rfl)
theorem c_249 : T9 249 := L9 (by kernel_rfl)
end Go.Proofs.YtkmbpflckmbacaaGreatDoor.stepThis
