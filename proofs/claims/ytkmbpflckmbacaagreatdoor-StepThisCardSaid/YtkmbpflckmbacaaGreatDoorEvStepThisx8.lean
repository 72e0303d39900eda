/- The law StepThis, case by case, as the second evaluator tells (part 8). -/
import Derived.Test.YtkmbpflckmbacaaGreatDoorRows
import Derived.Test.YtkmbpflckmbacaaGreatDoorSyBase
import Derived.Test.YtkmbpflckmbacaaGreatDoorFvM
import Derived.Test.YtkmbpflckmbacaaGreatDoorSyT
import Derived.KernelRfl
namespace Go.Proofs.YtkmbpflckmbacaaGreatDoor.stepThis
set_option maxRecDepth 100000
noncomputable def E8 (r0 : Nat) : Bool := Go.Ev.saysTrue (Go.Ev.sev Go.Proofs.Sy.lib (Go.Ev.lookB Go.Proofs.SyT.tree) (Go.Ev.compF Tryz.prog) 1000 150 6 [.int .u8 (.ofNat r0)] Go.Ev.H.empty)
abbrev T8 (r0 : Nat) : Prop := Go.Ev.saysTrue (Go.Ev.ev Go.Proofs.Sy.lib (Go.Ev.compF Tryz.prog) 1000 150 6 [.int .u8 (.ofNat r0)] Go.Ev.H.empty) = true
theorem L8 {r0 : Nat} (h : E8 r0 = true) : T8 r0 := Go.Ev.scalls_true Go.Proofs.SyT.tree_ok Go.Proofs.SyT.apart h
theorem c_8 : T8 8 := L8 (by kernel_rfl)
theorem c_24 : T8 24 := L8 (by kernel_rfl)
theorem c_40 : T8 40 := L8 (by kernel_rfl)
theorem c_56 : T8 56 := L8 (by kernel_rfl)
theorem c_72 : T8 72 := L8 (by kernel_rfl)
theorem c_88 : T8 88 := L8 (by kernel_rfl)
theorem c_104 : T8 104 := L8 (by kernel_rfl)
theorem c_120 : T8 120 := L8 (by kernel_rfl)
theorem c_136 : T8 136 := L8 (by kernel_rfl)
theorem c_152 : T8 152 := L8 (by kernel_rfl)
theorem c_168 : T8 168 := L8 (by kernel_rfl)
theorem c_184 : T8 184 := L8 (by kernel_rfl)
theorem c_200 : T8 200 := L8 (by kernel_rfl)
theorem c_216 : T8 216 := L8 (by kernel_rfl)
theorem c_232 : T8 232 := L8 (by kernel_rfl)
theorem c_248 : T8 248 := L8 (by kernel_rfl)
end Go.Proofs.YtkmbpflckmbacaaGreatDoor.stepThis
