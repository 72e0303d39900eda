/- The law StepThis, case by case, as the second evaluator tells (part 1). -/
import Derived.Test.YtkmbpflckmbacaaGreatDoorRows
import Derived.Test.YtkmbpflckmbacaaGreatDoorSyBase
import Derived.Test.YtkmbpflckmbacaaGreatDoorFvM
import Derived.Test.YtkmbpflckmbacaaGreatDoorSyT
import Derived.KernelRfl
namespace Go.Proofs.YtkmbpflckmbacaaGreatDoor.stepThis
set_option maxRecDepth 100000
noncomputable def E1 (r0 : Nat) : Bool := Go.Ev.saysTrue (Go.Ev.sev Go.Proofs.Sy.lib (Go.Ev.lookB Go.Proofs.SyT.tree) (Go.Ev.compF Tryz.prog) 1000 150 6 [.int .u8 (.ofNat r0)] Go.Ev.H.empty)
abbrev T1 (r0 : Nat) : Prop := Go.Ev.saysTrue (Go.Ev.ev Go.Proofs.Sy.lib (Go.Ev.compF Tryz.prog) 1000 150 6 [.int .u8 (.ofNat r0)] Go.Ev.H.empty) = true
theorem L1 {r0 : Nat} (h : E1 r0 = true) : T1 r0 := Go.Ev.scalls_true Go.Proofs.SyT.tree_ok Go.Proofs.SyT.apart h
theorem c_1 : T1 1 := L1 (by kernel_rfl)
theorem c_17 : T1 17 := L1 (by kernel_rfl)
theorem c_33 : T1 33 := L1 (by kernel_rfl)
theorem c_49 : T1 49 := L1 (by kernel_rfl)
theorem c_65 : T1 65 := L1 (by kernel_rfl)
theorem c_81 : T1 81 := L1 (by kernel_rfl)
theorem c_97 : T1 97 := L1 (by kernel_rfl)
theorem c_113 : T1 113 := L1 (by kernel_rfl)
theorem c_129 : T1 129 := L1 (by kernel_rfl)
theorem c_145 : T1 145 := L1 (by kernel_rfl)
theorem c_161 : T1 161 := L1 (by kernel_rfl)
theorem c_177 : T1 177 := L1 (by kernel_rfl)
theorem c_193 : T1 193 := L1 (by kernel_rfl)
theorem c_209 : T1 209 := L1 (by kernel_rfl)
theorem c_225 : T1 225 := L1 (by kernel_rfl)
theorem c_241 : T1 241 := L1 (by kernel_rfl)
end Go.Proofs.YtkmbpflckmbacaaGreatDoor.stepThis
