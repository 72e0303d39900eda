/- The law StepThis, case by case, as the second evaluator tells (part 0). -/
import Derived.Test.YtkmbpflckmbacaaGreatDoorRows
import Derived.Test.YtkmbpflckmbacaaGreatDoorSyBase
import Derived.Test.YtkmbpflckmbacaaGreatDoorFvM
import Derived.Test.YtkmbpflckmbacaaGreatDoorSyT
import Derived.KernelRfl
namespace Go.Proofs.YtkmbpflckmbacaaGreatDoor.stepThis
set_option maxRecDepth 100000
noncomputable def E0 (r0 : Nat) : Bool := Go.Ev.saysTrue (Go.Ev.sev Go.Proofs.Sy.lib (Go.Ev.lookB Go.Proofs.SyT.tree) (Go.Ev.compF Tryz.prog) 1000 150 6 [.int .u8 (.ofNat r0)] Go.Ev.H.empty)
abbrev T0 (r0 : Nat) : Prop := Go.Ev.saysTrue (Go.Ev.ev Go.Proofs.Sy.lib (Go.Ev.compF Tryz.prog) 1000 150 6 [.int .u8 (.ofNat r0)] Go.Ev.H.empty) = true
theorem L0 {r0 : Nat} (h : E0 r0 = true) : T0 r0 := Go.Ev.scalls_true Go.Proofs.SyT.tree_ok Go.Proofs.SyT.apart h
theorem c_0 : T0 0 := L0 (by kernel_rfl)
theorem c_16 : T0 16 := L0 (by kernel_rfl)
theorem c_32 : T0 32 := L0 (by kernel_rfl)
theorem c_48 : T0 48 := L0 (by kernel_rfl)
theorem c_64 : T0 64 := L0 (by kernel_rfl)
theorem c_80 : T0 80 := L0 (by kernel_rfl)
theorem c_96 : T0 96 := L0 (by kernel_rfl)
theorem c_112 : T0 112 := L0 (by kernel_rfl)
theorem c_128 : T0 128 := L0 (by kernel_rfl)
theorem c_144 : T0 144 := L0 (by kernel_rfl)
theorem c_160 : T0 160 := L0 (by kernel_rfl)
theorem c_176 : T0 176 := L0 (by kernel_rfl)
theorem c_192 : T0 192 := L0 (by kernel_rfl)
theorem c_208 : T0 208 := L0 (by kernel_rfl)
theorem c_224 : T0 224 := L0 (by kernel_rfl)
theorem c_240 : T0 240 := L0 (by kernel_rfl)
end Go.Proofs.YtkmbpflckmbacaaGreatDoor.stepThis
