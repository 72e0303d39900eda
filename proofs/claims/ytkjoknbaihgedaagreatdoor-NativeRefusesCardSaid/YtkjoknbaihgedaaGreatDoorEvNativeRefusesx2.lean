/- The law NativeRefuses, case by case, as the second evaluator tells (part 2). -/
import Derived.Test.YtkjoknbaihgedaaGreatDoorRows
import Derived.Test.YtkjoknbaihgedaaGreatDoorNaBase
import Derived.Test.YtkjoknbaihgedaaGreatDoorFvM
import Derived.Test.YtkjoknbaihgedaaGreatDoorNaS
import Derived.KernelRfl
namespace Go.Proofs.YtkjoknbaihgedaaGreatDoor.nativeRefuses
set_option maxRecDepth 100000
noncomputable def E2 (r0 : Nat) (r1 : Nat) : Bool := Go.Ev.saysTrue (Go.Ev.sev Go.Proofs.Na.lib (Go.Ev.lookB Go.Proofs.NaS.tree) (Go.Ev.compF Tryz.prog) 400 150 3 [.res .u8 10 r0, .res .u8 4 r1] Go.Ev.H.empty)
abbrev T2 (r0 : Nat) (r1 : Nat) : Prop := Go.Ev.saysTrue (Go.Ev.ev Go.Proofs.Na.lib (Go.Ev.compF Tryz.prog) 400 150 3 [.res .u8 10 r0, .res .u8 4 r1] Go.Ev.H.empty) = true
theorem L2 {r0 : Nat} {r1 : Nat} (h : E2 r0 r1 = true) : T2 r0 r1 := Go.Ev.scalls_true Go.Proofs.NaS.tree_ok Go.Proofs.NaS.apart h
theorem c_0_2 : T2 0 2 := L2 (by kernel_rfl)
theorem c_1_1 : T2 1 1 := L2 (by kernel_rfl)
theorem c_2_0 : T2 2 0 := L2 (by kernel_rfl)
theorem c_2_3 : T2 2 3 := L2 (by kernel_rfl)
theorem c_3_2 : T2 3 2 := L2 (by kernel_rfl)
theorem c_4_1 : T2 4 1 := L2 (by kernel_rfl)
theorem c_5_0 : T2 5 0 := L2 (by kernel_rfl)
theorem c_5_3 : T2 5 3 := L2 (by kernel_rfl)
theorem c_6_2 : T2 6 2 := L2 (by kernel_rfl)
theorem c_7_1 : T2 7 1 := L2 (by kernel_rfl)
theorem c_8_0 : T2 8 0 := L2 (by kernel_rfl)
theorem c_8_3 : T2 8 3 := L2 (by kernel_rfl)
theorem c_9_2 : T2 9 2 := L2 (by kernel_rfl)
end Go.Proofs.YtkjoknbaihgedaaGreatDoor.nativeRefuses
