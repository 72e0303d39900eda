/- The law LoopKnown, case by case, as the second evaluator tells (part 0). -/
import Derived.Test.YthkbcgbmeajfbaaGreatDoorRows
import Derived.Test.YthkbcgbmeajfbaaGreatDoorLoBas2
import Derived.Test.YthkbcgbmeajfbaaGreatDoorFvM
import Derived.Test.YthkbcgbmeajfbaaGreatDoorLoK
import Derived.KernelRfl
namespace Go.Proofs.YthkbcgbmeajfbaaGreatDoor.loopKnown
set_option maxRecDepth 100000
noncomputable def E0 (r0 : Nat) : Bool := Go.Ev.saysTrue (Go.Ev.sev Go.Proofs.Lo2.lib (Go.Ev.lookB Go.Proofs.LoK.tree) (Go.Ev.compF Tryz.prog) 3000 150 3 [.res .u8 7 r0] Go.Ev.H.empty)
abbrev T0 (r0 : Nat) : Prop := Go.Ev.saysTrue (Go.Ev.ev Go.Proofs.Lo2.lib (Go.Ev.compF Tryz.prog) 3000 150 3 [.res .u8 7 r0] Go.Ev.H.empty) = true
theorem L0 {r0 : Nat} (h : E0 r0 = true) : T0 r0 := Go.Ev.scalls_true Go.Proofs.LoK.tree_ok Go.Proofs.LoK.apart h
theorem c_0 : T0 0 := L0 (by kernel_rfl)
end Go.Proofs.YthkbcgbmeajfbaaGreatDoor.loopKnown
