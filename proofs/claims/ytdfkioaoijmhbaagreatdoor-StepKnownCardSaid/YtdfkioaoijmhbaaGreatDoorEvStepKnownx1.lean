/- The law StepKnown, case by case, as the second evaluator tells (part 1). -/
import Derived.Test.YtdfkioaoijmhbaaGreatDoorSkNext
import Derived.Test.YtdfkioaoijmhbaaGreatDoorFvM
import Derived.Test.YtdfkioaoijmhbaaGreatDoorSKn
import Derived.KernelRfl
namespace Go.Proofs.YtdfkioaoijmhbaaGreatDoor.stepKnown
set_option maxRecDepth 100000
/-- Some cases at once: what is reckoned once serves all of them. -/
theorem g1_0 : Go.Ev.both (Go.Ev.saysTrue (Go.Ev.sev Go.Proofs.Sn.lib (Go.Ev.lookB Go.Proofs.SKn.tree) (Go.Ev.compF Tryz.prog) 3000 150 3 [.res .u8 12 3] Go.Ev.H.empty)) (Go.Ev.both (Go.Ev.saysTrue (Go.Ev.sev Go.Proofs.Sn.lib (Go.Ev.lookB Go.Proofs.SKn.tree) (Go.Ev.compF Tryz.prog) 3000 150 3 [.res .u8 12 4] Go.Ev.H.empty)) (Go.Ev.saysTrue (Go.Ev.sev Go.Proofs.Sn.lib (Go.Ev.lookB Go.Proofs.SKn.tree) (Go.Ev.compF Tryz.prog) 3000 150 3 [.res .u8 12 5] Go.Ev.H.empty))) = true := by kernel_rfl
theorem c_3 : Go.Ev.saysTrue (Go.Ev.ev Go.Proofs.Sn.lib (Go.Ev.compF Tryz.prog) 3000 150 3 [.res .u8 12 3] Go.Ev.H.empty) = true := Go.Ev.scalls_true Go.Proofs.SKn.tree_ok Go.Proofs.SKn.apart (Go.Ev.both_l (g1_0))
theorem c_4 : Go.Ev.saysTrue (Go.Ev.ev Go.Proofs.Sn.lib (Go.Ev.compF Tryz.prog) 3000 150 3 [.res .u8 12 4] Go.Ev.H.empty) = true := Go.Ev.scalls_true Go.Proofs.SKn.tree_ok Go.Proofs.SKn.apart (Go.Ev.both_l (Go.Ev.both_r (g1_0)))
theorem c_5 : Go.Ev.saysTrue (Go.Ev.ev Go.Proofs.Sn.lib (Go.Ev.compF Tryz.prog) 3000 150 3 [.res .u8 12 5] Go.Ev.H.empty) = true := Go.Ev.scalls_true Go.Proofs.SKn.tree_ok Go.Proofs.SKn.apart (Go.Ev.both_r (Go.Ev.both_r (g1_0)))
end Go.Proofs.YtdfkioaoijmhbaaGreatDoor.stepKnown
