/- The law StepThis, case by case, as the second evaluator tells (part 3). -/
import Derived.Test.YtkmbpflckmbacaaGreatDoorRows
import Derived.Test.YtkmbpflckmbacaaGreatDoorSyBase
import Derived.Test.YtkmbpflckmbacaaGreatDoorFvM
import Derived.Test.YtkmbpflckmbacaaGreatDoorSyT
import Derived.KernelRfl
namespace Go.Proofs.YtkmbpflckmbacaaGreatDoor.stepThis
set_option maxRecDepth 100000
noncomputable def E3 (r0 : Nat) : Bool := Go.Ev.saysTrue (Go.Ev.sev Go.Proofs.Sy.lib (Go.Ev.lookB Go.Proofs.SyT.tree) (Go.Ev.compF Tryz.prog) 1000 150 6 [.int .u8 (.ofNat r0)] Go.Ev.H.empty)
abbrev T3 (r0 : Nat) : Prop := Go.Ev.saysTrue (Go.Ev.ev Go.Proofs.Sy.lib (Go.Ev.compF Tryz.prog) 1000 150 6 [.int .u8 (.ofNat r0)] Go.Ev.H.empty) = true
theorem L3 {r0 : Nat} (h : E3 r0 = true) : T3 r0 := Go.Ev.scalls_true Go.Proofs.SyT.tree_ok Go.Proofs.SyT.apart h
theorem c_3 : T3 3 := L3 (by kernel_rfl)
theorem c_19 : T3 19 := L3 (by kernel_rfl)
theorem c_35 : T3 35 := L3 (by kernel_rfl)
theorem c_51 : T3 51 := L3 (by kernel_rfl)
theorem c_67 : T3 67 := L3 (by kernel_rfl)
theorem c_83 : T3 83 := L3 (by kernel_rfl)
theorem c_99 : T3 99 := L3 (by kernel_rfl)
theorem c_115 : T3 115 := L3 (by kernel_rfl)
theorem c_131 : T3 131 := L3 (by kernel_rfl)
theorem c_147 : T3 147 := L3 (by kernel_rfl)
theorem c_163 : T3 163 := L3 (by kernel_rfl)
theorem c_179 : T3 179 := L3 (by kernel_rfl)
theorem c_195 : T3 195 := L3 (by kernel_rfl)
theorem c_211 : T3 211 := L3 (by kernel_rfl)
theorem c_227 : T3 227 := L3 (by kernel_rfl)
theorem c_243 : T3 243 := L3 (by kernel_rfl)
end Go.Proofs.YtkmbpflckmbacaaGreatDoor.stepThis
