/- The law StepThis, case by case, as the second evaluator tells (part 4). -/
import Derived.Test.YtkmbpflckmbacaaGreatDoorRows
import Derived.Test.YtkmbpflckmbacaaGreatDoorSyBase
import Derived.Test.YtkmbpflckmbacaaGreatDoorFvM
import Derived.Test.YtkmbpflckmbacaaGreatDoorSyT
import Derived.KernelRfl
namespace Go.Proofs.YtkmbpflckmbacaaGreatDoor.stepThis
set_option maxRecDepth 100000
noncomputable def E4 (r0 : Nat) : Bool := Go.Ev.saysTrue (Go.Ev.sev Go.Proofs.Sy.lib (Go.Ev.lookB Go.Proofs.SyT.tree) (Go.Ev.compF Tryz.prog) 1000 150 6 [.int .u8 (.ofNat r0)] Go.Ev.H.empty)
abbrev T4 (r0 : Nat) : Prop := Go.Ev.saysTrue (Go.Ev.ev Go.Proofs.Sy.lib (Go.Ev.compF Tryz.prog) 1000 150 6 [.int .u8 (.ofNat r0)] Go.Ev.H.empty) = true
theorem L4 {r0 : Nat} (h : E4 r0 = true) : T4 r0 := Go.Ev.scalls_true Go.Proofs.SyT.tree_ok Go.Proofs.SyT.apart h
theorem c_4 : T4 4 := L4 (by kernel_rfl)
theorem c_20 : T4 20 := L4 (by kernel_rfl)
theorem c_36 : T4 36 := L4 (by kernel_rfl)
theorem c_52 : T4 52 := L4 (by kernel_rfl)
theorem c_68 : T4 68 := L4 (by kernel_rfl)
theorem c_84 : T4 84 := L4 (by kernel_rfl)
theorem c_100 : T4 100 := L4 (by kernel_rfl)
theorem c_116 : T4 116 := L4 (by kernel_rfl)
theorem c_132 : T4 132 := L4 (by kernel_rfl)
theorem c_148 : T4 148 := L4 (by kernel_rfl)
theorem c_164 : T4 164 := L4 (by kernel_rfl)
theorem c_180 : T4 180 := L4 (by kernel_rfl)
theorem c_196 : T4 196 := L4 (by kernel_rfl)
theorem c_212 : T4 212 := L4 (by kernel_rfl)
theorem c_228 : T4 228 := L4 (by kernel_rfl)
theorem c_244 : T4 244 := L4 (by kernel_rfl)
end Go.Proofs.YtkmbpflckmbacaaGreatDoor.stepThis
