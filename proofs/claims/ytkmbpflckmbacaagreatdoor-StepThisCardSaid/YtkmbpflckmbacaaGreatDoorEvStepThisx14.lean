/- The law StepThis, case by case, as the second evaluator tells (part 14). -/
import Derived.Test.YtkmbpflckmbacaaGreatDoorRows
import Derived.Test.YtkmbpflckmbacaaGreatDoorSyBase
import Derived.Test.YtkmbpflckmbacaaGreatDoorFvM
import Derived.Test.YtkmbpflckmbacaaGreatDoorSyT
import Derived.KernelRfl
namespace Go.Proofs.YtkmbpflckmbacaaGreatDoor.stepThis
set_option maxRecDepth 100000
noncomputable def E14 (r0 : Nat) : Bool := Go.Ev.saysTrue (Go.Ev.sev Go.Proofs.Sy.lib (Go.Ev.lookB Go.Proofs.SyT.tree) (Go.Ev.compF Tryz.prog) 1000 150 6 [.int .u8 (.ofNat r0)] Go.Ev.H.empty)
abbrev T14 (r0 : Nat) : Prop := Go.Ev.saysTrue (Go.Ev.ev Go.Proofs.Sy.lib (Go.Ev.compF Tryz.prog) 1000 150 6 [.int .u8 (.ofNat r0)] Go.Ev.H.empty) = true
theorem L14 {r0 : Nat} (h : E14 r0 = true) : T14 r0 := Go.Ev.scalls_true Go.Proofs.SyT.tree_ok Go.Proofs.SyT.apart h
theorem c_14 : T14 14 := L14 (by kernel_rfl)
theorem c_30 : T14 30 := L14 (by kernel_rfl)
theorem c_46 : T14 46 := L14 (by kernel_rfl)
theorem c_62 : T14 62 := L14 (by kernel_rfl)
theorem c_78 : T14 78 := L14 (by kernel_rfl)
theorem c_94 : T14 94 := L14 (by kernel_rfl)
theorem c_110 : T14 110 := L14 (by kernel_rfl)
theorem c_126 : T14 126 := L14 (by kernel_rfl)
theorem c_142 : T14 142 := L14 (by kernel_rfl)
theorem c_158 : T14 158 := L14 (by kernel_rfl)
theorem c_174 : T14 174 := L14 (by kernel_rfl)
theorem c_190 : T14 190 := L14 (by kernel_rfl)
theorem c_206 : T14 206 := L14 (by kernel_rfl)
theorem c_222 : T14 222 := L14 (by kernel_rfl)
theorem c_238 : T14 238 := L14 (by kernel_rfl)
theorem c_254 : T14 254 := L14 (by kernel_rfl)
end Go.Proofs.YtkmbpflckmbacaaGreatDoor.stepThis
