/- The law NativeRefuses, case by case, as the second evaluator tells (part 0). -/
import Derived.Test.YtkjoknbaihgedaaGreatDoorRows
import Derived.Test.YtkjoknbaihgedaaGreatDoorNaBase
import Derived.Test.YtkjoknbaihgedaaGreatDoorFvM
import Derived.Test.YtkjoknbaihgedaaGreatDoorNaS
import Derived.KernelRfl
namespace Go.Proofs.YtkjoknbaihgedaaGreatDoor.nativeRefuses
set_option maxRecDepth 100000
noncomputable def E0 (r0 : Nat) (r1 : Nat) : Bool := Go.Ev.saysTrue (Go.Ev.sev Go.Proofs.Na.lib (Go.Ev.lookB Go.Proofs.NaS.tree) (Go.Ev.compF Tryz.prog) 400 150 3 [.res .u8 10 r0, .res .u8 4 r1] Go.Ev.H.empty)
abbrev T0 (r0 : Nat) (r1 : Nat) : Prop := Go.Ev.saysTrue (Go.Ev.ev Go.Proofs.Na.lib (Go.Ev.compF Tryz.prog) 400 150 3 [.res .u8 10 r0, .res .u8 4 r1] Go.Ev.H.empty) = true
theorem L0 {r0 : Nat} {r1 : Nat} (h : E0 r0 r1 = true) : T0 r0 r1 := Go.Ev.scalls_true Go.Proofs.NaS.tree_ok Go.Proofs.NaS.apart h
theorem c_0_0 : T0 0 0 := L0 (by kernel_rfl)
theorem c_0_3 : T0 0 3 := L0 (by kernel_rfl)
theorem c_1_2 : T0 1 2 := L0 (by kernel_rfl)
theorem c_2_1 : T0 2 1 := L0 (by kernel_rfl)
theorem c_3_0 : T0 3 0 := L0 (by kernel_rfl)
theorem c_3_3 : T0 3 3 := L0 (by kernel_rfl)
theorem c_4_2 : T0 4 2 := L0 (by kernel_rfl)
theorem c_5_1 : T0 5 1 := L0 (by kernel_rfl)
theorem c_6_0 : T0 6 0 := L0 (by kernel_rfl)
theorem c_6_3 : T0 6 3 := L0 (by kernel_rfl)
theorem c_7_2 : T0 7 2 := L0 (by kernel_rfl)
theorem c_8_1 : T0 8 1 := L0 (by kernel_rfl)
theorem c_9_0 : T0 9 0 := L0 (by kernel_rfl)
theorem c_9_3 : T0 9 3 := L0 (by kernel_rfl)
end Go.Proofs.YtkjoknbaihgedaaGreatDoor.nativeRefuses
