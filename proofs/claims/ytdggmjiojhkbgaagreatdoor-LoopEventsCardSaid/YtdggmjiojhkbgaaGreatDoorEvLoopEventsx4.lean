/- The law LoopEvents, case by case, as the second evaluator tells (part 4). -/
import Derived.Test.YtdggmjiojhkbgaaGreatDoorLeBase
import Derived.Test.YtdggmjiojhkbgaaGreatDoorFvM
import Derived.Test.YtdggmjiojhkbgaaGreatDoorLeS
import Derived.KernelRfl
namespace Go.Proofs.YtdggmjiojhkbgaaGreatDoor.loopEvents
set_option maxRecDepth 100000
noncomputable def E4 (r0 : Nat) (r1 : Nat) : Bool := Go.Ev.saysTrue (Go.Ev.sev Go.Proofs.Le.lib (Go.Ev.lookB Go.Proofs.LeS.tree) (Go.Ev.compF Tryz.prog) 3000 150 3 [.res .u8 4 r0, .res .u8 4 r1] Go.Ev.H.empty)
abbrev T4 (r0 : Nat) (r1 : Nat) : Prop := Go.Ev.saysTrue (Go.Ev.ev Go.Proofs.Le.lib (Go.Ev.compF Tryz.prog) 3000 150 3 [.res .u8 4 r0, .res .u8 4 r1] Go.Ev.H.empty) = true
theorem L4 {r0 : Nat} {r1 : Nat} (h : E4 r0 r1 = true) : T4 r0 r1 := Go.Ev.scalls_true Go.Proofs.LeS.tree_ok Go.Proofs.LeS.apart h
theorem c_1_0 : T4 1 0 := L4 (by kernel_rfl)
end Go.Proofs.YtdggmjiojhkbgaaGreatDoor.loopEvents
