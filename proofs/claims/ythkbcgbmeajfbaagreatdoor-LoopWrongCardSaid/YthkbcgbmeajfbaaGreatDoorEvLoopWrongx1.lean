/- The law LoopWrong, case by case, as the second evaluator tells (part 1). -/
import Derived.Test.YthkbcgbmeajfbaaGreatDoorRows
import Derived.Test.YthkbcgbmeajfbaaGreatDoorLoBase
import Derived.Test.YthkbcgbmeajfbaaGreatDoorFvM
import Derived.Test.YthkbcgbmeajfbaaGreatDoorLoW
import Derived.KernelRfl
namespace Go.Proofs.YthkbcgbmeajfbaaGreatDoor.loopWrong
set_option maxRecDepth 100000
noncomputable def E1 (r0 : Nat) : Bool := Go.Ev.saysTrue (Go.Ev.sev Go.Proofs.Lo.lib (Go.Ev.lookB Go.Proofs.LoW.tree) (Go.Ev.compF Tryz.prog) 3000 150 4 [.res .u8 6 r0] Go.Ev.H.empty)
abbrev T1 (r0 : Nat) : Prop := Go.Ev.saysTrue (Go.Ev.ev Go.Proofs.Lo.lib (Go.Ev.compF Tryz.prog) 3000 150 4 [.res .u8 6 r0] Go.Ev.H.empty) = true
theorem L1 {r0 : Nat} (h : E1 r0 = true) : T1 r0 := Go.Ev.scalls_true Go.Proofs.LoW.tree_ok Go.Proofs.LoW.apart h
theorem c_1 : T1 1 := L1 (by kernel_rfl)
theorem c_5 : T1 5 := L1 (by kernel_rfl)
end Go.Proofs.YthkbcgbmeajfbaaGreatDoor.loopWrong
