/- The law StepThis, case by case, as the second evaluator tells (part 12). -/
import Derived.Test.YtkmbpflckmbacaaGreatDoorRows
import Derived.Test.YtkmbpflckmbacaaGreatDoorSyBase
import Derived.Test.YtkmbpflckmbacaaGreatDoorFvM
import Derived.Test.YtkmbpflckmbacaaGreatDoorSyT
import Derived.KernelRfl
namespace Go.Proofs.YtkmbpflckmbacaaGreatDoor.stepThis
set_option maxRecDepth 100000
noncomputable def E12 (r0 : Nat) : Bool := Go.Ev.saysTrue (Go.Ev.sev Go.Proofs.Sy.lib (Go.Ev.lookB Go.Proofs.SyT.tree) (Go.Ev.compF Tryz.prog) 1000 150 6 [.int .u8 (.ofNat r0)] Go.Ev.H.empty)
abbrev T12 (r0 : Nat) : Prop := Go.Ev.saysTrue (Go.Ev.ev Go.Proofs.Sy.lib (Go.Ev.compF Tryz.prog) 1000 150 6 [.int .u8 (.ofNat r0)] Go.Ev.H.empty) = true
theorem L12 {r0 : Nat} (h : E12 r0 = true) : T12 r0 := Go.Ev.scalls_true Go.Proofs.SyT.tree_ok Go.Proofs.SyT.apart h
theorem c_12 : T12 12 := L12 (by kernel_rfl)
theorem c_28 : T12 28 := L12 (by kernel_rfl)
theorem c_44 : T12 44 := L12 (by kernel_rfl)
theorem c_60 : T12 60 := L12 (by kernel_rfl)
theorem c_76 : T12 76 := L12 (by kernel_rfl)
theorem c_92 : T12 92 := L12 (by kernel_rfl)
theorem c_108 : T12 108 := L12 (by kernel_rfl)
theorem c_124 : T12 124 := L12 (by kernel_rfl)
theorem c_140 : T12 140 := L12 (by kernel_rfl)
theorem c_156 : T12 156 := L12 (by kernel_rfl)
theorem c_172 : T12 172 := L12 (by kernel_rfl)
theorem c_188 : T12 188 := L12 (by kernel_rfl)
theorem c_204 : T12 204 := L12 (by kernel_rfl)
theorem c_220 : T12 220 := L12 (by kernel_rfl)
theorem c_236 : T12 236 := L12 (by kernel_rfl)
theorem c_252 : T12 252 := L12 (by kernel_rfl)
end Go.Proofs.YtkmbpflckmbacaaGreatDoor.stepThis
