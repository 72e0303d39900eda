/- The law LoopKnown, case by case, as the second evaluator tells (part 2). -/
import Derived.Test.YthkbcgbmeajfbaaGreatDoorRows
import Derived.Test.YthkbcgbmeajfbaaGreatDoorLoBas2
import Derived.Test.YthkbcgbmeajfbaaGreatDoorFvM
import Derived.Test.YthkbcgbmeajfbaaGreatDoorLoK
import Derived.KernelRfl
namespace Go.Proofs.YthkbcgbmeajfbaaGreatDoor.loopKnown
set_option maxRecDepth 100000
noncomputable def E2 (r0 : Nat) : Bool := Go.Ev.saysTrue (Go.Ev.sev Go.Proofs.Lo2.lib (Go.Ev.lookB Go.Proofs.LoK.tree) (Go.Ev.compF Tryz.prog) 3000 150 3 [.res .u8 7 r0] Go.Ev.H.empty)
abbrev T2 (r0 : Nat) : Prop := Go.Ev.saysTrue (Go.Ev.ev Go.Proofs.Lo2.lib (Go.Ev.compF Tryz.prog) 3000 150 3 [.res .u8 7 r0] Go.Ev.H.empty) = true
theorem L2 {r0 : Nat} (h : E2 r0 = true) : T2 r0 := Go.Ev.scalls_true Go.Proofs.LoK.tree_ok Go.Proofs.LoK.apart h
theorem c_2 : T2 2 := L2 (by kernel_rfl)
end Go.Proofs.YthkbcgbmeajfbaaGreatDoor.loopKnown
