/- The law StepThis, case by case, as the second evaluator tells (part 13). -/
import Derived.Test.YtkmbpflckmbacaaGreatDoorRows
import Derived.Test.YtkmbpflckmbacaaGreatDoorSyBase
import Derived.Test.YtkmbpflckmbacaaGreatDoorFvM
import Derived.Test.YtkmbpflckmbacaaGreatDoorSyT
import Derived.KernelRfl
namespace Go.Proofs.YtkmbpflckmbacaaGreatDoor.stepThis
set_option maxRecDepth 100000
noncomputable def E13 (r0 : Nat) : Bool := Go.Ev.saysTrue (Go.Ev.sev Go.Proofs.Sy.lib (Go.Ev.lookB Go.Proofs.SyT.tree) (Go.Ev.compF Tryz.prog) 1000 150 6 [.int .u8 (.ofNat r0)] Go.Ev.H.empty)
abbrev T13 (r0 : Nat) : Prop := Go.Ev.saysTrue (Go.Ev.ev Go.Proofs.Sy.lib (Go.Ev.compF Tryz.prog) 1000 150 6 [.int .u8 (.ofNat r0)] Go.Ev.H.empty) = true
theorem L13 {r0 : Nat} (h : E13 r0 = true) : T13 r0 := Go.Ev.scalls_true Go.Proofs.SyT.tree_ok Go.Proofs.SyT.apart h
theorem c_13 : T13 13 := L13 (by kernel_rfl)
theorem c_29 : T13 29 := L13 (by kernel_rfl)
theorem c_45 : T13 45 := L13 (by kernel_rfl)
theorem c_61 : T13 61 := L13 (by kernel_rfl)
theorem c_77 : T13 77 := L13 (by kernel_rfl)
theorem c_93 : T13 93 := L13 (by kernel_rfl)
theorem c_109 : T13 109 := L13 (by kernel_rfl)
theorem c_125 : T13 125 := L13 (by kernel_rfl)
theorem c_141 : T13 141 := L13 (by kernel_rfl)
theorem c_157 : T13 157 := L13 (by kernel_rfl)
theorem c_173 : T13 173 := L13 (by kernel_rfl)
theorem c_189 : T13 189 := L13 (by kernel_rfl)
theorem c_205 : T13 205 := L13 (by kernel_rfl)
theorem c_221 : T13 221 := L13 (by kernel_rfl)
theorem c_237 : T13 237 := L13 (by kernel_rfl)
theorem c_253 : T13 253 := L13 (by kernel_rfl)
end Go.Proofs.YtkmbpflckmbacaaGreatDoor.stepThis
