/- The law NativeRefuses, case by case, as the second evaluator tells (part 1). -/
import Derived.Test.YtkjoknbaihgedaaGreatDoorRows
import Derived.Test.YtkjoknbaihgedaaGreatDoorNaBase
import Derived.Test.YtkjoknbaihgedaaGreatDoorFvM
import Derived.Test.YtkjoknbaihgedaaGreatDoorNaS
import Derived.KernelRfl
namespace Go.Proofs.YtkjoknbaihgedaaGreatDoor.nativeRefuses
set_option maxRecDepth 100000
noncomputable def E1 (r0 : Nat) (r1 : Nat) : Bool := Go.Ev.saysTrue (Go.Ev.sev Go.Proofs.Na.lib (Go.Ev.lookB Go.Proofs.NaS.tree) (Go.Ev.compF Tryz.prog) 400 150 3 [.res .u8 10 r0, .res .u8 4 r1] Go.Ev.H.empty)
abbrev T1 (r0 : Nat) (r1 : Nat) : Prop := Go.Ev.saysTrue (Go.Ev.ev Go.Proofs.Na.lib (Go.Ev.compF Tryz.prog) 400 150 3 [.res .u8 10 r0, .res .u8 4 r1] Go.Ev.H.empty) = true
theorem L1 {r0 : Nat} {r1 : Nat} (h : E1 r0 r1 = true) : T1 r0 r1 := Go.Ev.scalls_true Go.Proofs.NaS.tree_ok Go.Proofs.NaS.apart h
theorem c_0_1 : T1 0 1 := L1 (by kernel_rfl)
theorem c_1_0 : T1 1 0 := L1 (by kernel_rfl)
theorem c_1_3 : T1 1 3 := L1 (by kernel_rfl)
theorem c_2_2 : T1 2 2 := L1 (by kernel_rfl)
theorem c_3_1 : T1 3 1 := L1 (by kernel_rfl)
theorem c_4_0 : T1 4 0 := L1 (by kernel_rfl)
theorem c_4_3 : T1 4 3 := L1 (by kernel_rfl)
theorem c_5_2 : T1 5 2 := L1 (by kernel_rfl)
theorem c_6_1 : T1 6 1 := L1 (by kernel_rfl)
theorem c_7_0 : T1 7 0 := L1 (by kernel_rfl)
theorem c_7_3 : T1 7 3 := L1 (by kernel_rfl)
theorem c_8_2 : T1 8 2 := L1 (by kernel_rfl)
theorem c_9_1 : T1 9 1 := L1 (by kernel_rfl)
end Go.Proofs.YtkjoknbaihgedaaGreatDoor.nativeRefuses
