/- The law StepThis, case by case, as the second evaluator tells (part 15). -/
import Derived.Test.YtkmbpflckmbacaaGreatDoorRows
import Derived.Test.YtkmbpflckmbacaaGreatDoorSyBase
import Derived.Test.YtkmbpflckmbacaaGreatDoorFvM
import Derived.Test.YtkmbpflckmbacaaGreatDoorSyT
import Derived.KernelRfl
namespace Go.Proofs.YtkmbpflckmbacaaGreatDoor.stepThis
set_option maxRecDepth 100000
noncomputable def E15 (r0 : Nat) : Bool := Go.Ev.saysTrue (Go.Ev.sev Go.Proofs.Sy.lib (Go.Ev.lookB Go.Proofs.SyT.tree) (Go.Ev.compF Tryz.prog) 1000 150 6 [.int .u8 (.ofNat r0)] Go.Ev.H.empty)
abbrev T15 (r0 : Nat) : Prop := Go.Ev.saysTrue (Go.Ev.ev Go.Proofs.Sy.lib (Go.Ev.compF Tryz.prog) 1000 150 6 [.int .u8 (.ofNat r0)] Go.Ev.H.empty) = true
theorem L15 {r0 : Nat} (h : E15 r0 = true) : T15 r0 := Go.Ev.scalls_true Go.Proofs.SyT.tree_ok Go.Proofs.SyT.apart h
theorem c_15 : T15 15 := L15 (by kernel_rfl)
theorem c_31 : T15 31 := L15 (by kernel_rfl)
theorem c_47 : T15 47 := L15 (by kernel_rfl)
theorem c_63 : T15 63 := L15 (by kernel_rfl)
theorem c_79 : T15 79 := L15 (by kernel_rfl)
theorem c_95 : T15 95 := L15 (by kernel_rfl)
theorem c_111 : T15 111 := L15 (by kernel_rfl)
theorem c_127 : T15 127 := L15 (by kernel_rfl)
theorem c_143 : T15 143 := L15 (by kernel_rfl)
theorem c_159 : T15 159 := L15 (by kernel_rfl)
theorem c_175 : T15 175 := L15 (by kernel_rfl)
theorem c_191 : T15 191 := L15 (by kernel_rfl)
theorem c_207 : T15 207 := L15 (by kernel_rfl)
theorem c_223 : T15 223 := L15 (by kernel_rfl)
theorem c_239 : T15 239 := L15 (by kernel_rfl)
theorem c_255 : T15 255 := L15 (by kernel_rfl)
end Go.Proofs.YtkmbpflckmbacaaGreatDoor.stepThis
