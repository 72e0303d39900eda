/- The law StepThis, case by case, as the second evaluator tells (part 2). -/
import Derived.Test.YtkmbpflckmbacaaGreatDoorRows
import Derived.Test.YtkmbpflckmbacaaGreatDoorSyBase
import Derived.Test.YtkmbpflckmbacaaGreatDoorFvM
import Derived.Test.YtkmbpflckmbacaaGreatDoorSyT
import Derived.KernelRfl
namespace Go.Proofs.YtkmbpflckmbacaaGreatDoor.stepThis
set_option maxRecDepth 100000
noncomputable def E2 (r0 : Nat) : Bool := Go.Ev.saysTrue (Go.Ev.sev Go.Proofs.Sy.lib (Go.Ev.lookB Go.Proofs.SyT.tree) (Go.Ev.compF Tryz.prog) 1000 150 6 [.int .u8 (.ofNat r0)] Go.Ev.H.empty)
abbrev T2 (r0 : Nat) : Prop := Go.Ev.saysTrue (Go.Ev.ev Go.Proofs.Sy.lib (Go.Ev.compF Tryz.prog) 1000 150 6 [.int .u8 (.ofNat r0)] Go.Ev.H.empty) = true
theorem L2 {r0 : Nat} (h : E2 r0 = true) : T2 r0 := Go.Ev.scalls_true Go.Proofs.SyT.tree_ok Go.Proofs.SyT.apart h
theorem c_2 : T2 2 := L2 (by kernel_rfl)
theorem c_18 : T2 18 := L2 (by kernel_rfl)
theorem c_34 : T2 34 := L2 (by kernel_rfl)
theorem c_50 : T2 50 := L2 (by kernel_rfl)
theorem c_66 : T2 66 := L2 (by kernel_rfl)
theorem c_82 : T2 82 := L2 (by kernel_rfl)
theorem c_98 : T2 98 := L2 (by kernel_rfl)
theorem c_114 : T2 114 := L2 (by kernel_rfl)
theorem c_130 : T2 130 := L2 (by kernel_rfl)
theorem c_146 : T2 146 := L2 (by kernel_rfl)
theorem c_162 : T2 162 := L2 (by kernel_rfl)
theorem c_178 : T2 178 := L2 (by kernel_rfl)
theorem c_194 : T2 194 := L2 (by kernel_rfl)
theorem c_210 : T2 210 := L2 (by kernel_rfl)
theorem c_226 : T2 226 := L2 (by kernel_rfl)
theorem c_242 : T2 242 := L2 (by kernel_rfl)
end Go.Proofs.YtkmbpflckmbacaaGreatDoor.stepThis
