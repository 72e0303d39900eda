/- The law StepThis, case by case, as the second evaluator tells (part 7). -/
import Derived.Test.YtkmbpflckmbacaaGreatDoorRows
import Derived.Test.YtkmbpflckmbacaaGreatDoorSyBase
import Derived.Test.YtkmbpflckmbacaaGreatDoorFvM
import Derived.Test.YtkmbpflckmbacaaGreatDoorSyT
import Derived.KernelRfl
namespace Go.Proofs.YtkmbpflckmbacaaGreatDoor.stepThis
set_option maxRecDepth 100000
noncomputable def E7 (r0 : Nat) : Bool := Go.Ev.saysTrue (Go.Ev.sev Go.Proofs.Sy.lib (Go.Ev.lookB Go.Proofs.SyT.tree) (Go.Ev.compF Tryz.prog) 1000 150 6 [.int .u8 (.ofNat r0)] Go.Ev.H.empty)
abbrev T7 (r0 : Nat) : Prop := Go.Ev.saysTrue (Go.Ev.ev Go.Proofs.Sy.lib (Go.Ev.compF Tryz.prog) 1000 150 6 [.int .u8 (.ofNat r0)] Go.Ev.H.empty) = true
theorem L7 {r0 : Nat} (h : E7 r0 = true) : T7 r0 := Go.Ev.scalls_true Go.Proofs.SyT.tree_ok Go.Proofs.SyT.apart h
theorem c_7 : T7 7 := L7 (by kernel_rfl)
theorem c_23 : T7 23 := L7 (by kernel_rfl)
theorem c_39 : T7 39 := L7 (by kernel_rfl)
theorem c_55 : T7 55 := L7 (by kernel_rfl)
theorem c_71 : T7 71 := L7 (by kernel_rfl)
theorem c_87 : T7 87 := L7 (by kernel_rfl)
theorem c_103 : T7 103 := L7 (by kernel_rfl)
theorem c_119 : T7 119 := L7 (by kernel_rfl)
theorem c_135 : T7 135 := L7 (by kernel_rfl)
theorem c_151 : T7 151 := L7 (by kernel_rfl)
theorem c_167 : T7 167 := L7 (by kernel_rfl)
theorem c_183 : T7 183 := L7 (by kernel_rfl)
theorem c_199 : T7 199 := L7 (by kernel_rfl)
theorem c_215 : T7 215 := L7 (by kernel_rfl)
theorem c_231 : T7 231 := L7 (by kernel_rfl)
theorem c_247 : T7 247 := L7 (by kernel_rfl)
end Go.Proofs.YtkmbpflckmbacaaGreatDoor.stepThis
