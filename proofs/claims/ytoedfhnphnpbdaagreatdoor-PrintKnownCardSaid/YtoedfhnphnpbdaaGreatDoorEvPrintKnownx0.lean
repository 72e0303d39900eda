/- The law PrintKnown, case by case, as the second evaluator tells (part 0). -/
import Derived.Test.YtoedfhnphnpbdaaGreatDoorPrBas2
import Derived.Test.YtoedfhnphnpbdaaGreatDoorFvM
import Derived.Test.YtoedfhnphnpbdaaGreatDoorPrS
import Derived.KernelRfl
namespace Go.Proofs.YtoedfhnphnpbdaaGreatDoor.printKnown
set_option maxRecDepth 100000
/-- Some cases at once: what is reckoned once serves all of them. -/
theorem g0_0 : Go.Ev.both (Go.Ev.saysTrue (Go.Ev.sev Go.Proofs.Pq.lib (Go.Ev.lookB Go.Proofs.PrS.tree) (Go.Ev.compF Tryz.prog) 3000 150 3 [.res .u8 16 0] Go.Ev.H.empty)) (Go.Ev.both (Go.Ev.saysTrue (Go.Ev.sev Go.Proofs.Pq.lib (Go.Ev.lookB Go.Proofs.PrS.tree) (Go.Ev.compF Tryz.prog) 3000 150 3 [.res .u8 16 1] Go.Ev.H.empty)) (Go.Ev.both (Go.Ev.saysTrue (Go.Ev.sev Go.Proofs.Pq.lib (Go.Ev.lookB Go.Proofs.PrS.tree) (Go.Ev.compF Tryz.prog) 3000 150 3 [.res .u8 16 2] Go.Ev.H.empty)) (Go.Ev.saysTrue (Go.Ev.sev Go.Proofs.Pq.lib (Go.Ev.lookB Go.Proofs.PrS.tree) (Go.Ev.compF Tryz.prog) 3000 150 3 [.res .u8 16 3] Go.Ev.H.empty)))) = true := by kernel_rfl
theorem c_0 : Go.Ev.saysTrue (Go.Ev.ev Go.Proofs.Pq.lib (Go.Ev.compF Tryz.prog) 3000 150 3 [.res .u8 16 0] Go.Ev.H.empty) = true := Go.Ev.scalls_true Go.Proofs.PrS.tree_ok Go.Proofs.PrS.apart (Go.Ev.both_l (g0_0))
theorem c_1 : Go.Ev.saysTrue (Go.Ev.ev Go.Proofs.Pq.lib (Go.Ev.compF Tryz.prog) 3000 150 3 [.res .u8 16 1] Go.Ev.H.empty) = true := Go.Ev.scalls_true Go.Proofs.PrS.tree_ok Go.Proofs.PrS.apart (Go.Ev.both_l (Go.Ev.both_r (g0_0)))
theorem c_2 : Go.Ev.saysTrue (Go.Ev.ev Go.Proofs.Pq.lib (Go.Ev.compF Tryz.prog) 3000 150 3 [.res .u8 16 2] Go.Ev.H.empty) = true := Go.Ev.scalls_true Go.Proofs.PrS.tree_ok Go.Proofs.PrS.apart (Go.Ev.both_l (Go.Ev.both_r (Go.Ev.both_r (g0_0))))
theorem c_3 : Go.Ev.saysTrue (Go.Ev.ev Go.Proofs.Pq.lib (Go.Ev.compF Tryz.prog) 3000 150 3 [.res .u8 16 3] Go.Ev.H.empty) = true := Go.Ev.scalls_true Go.Proofs.PrS.tree_ok Go.Proofs.PrS.apart (Go.Ev.both_r (Go.Ev.both_r (Go.Ev.both_r (g0_0))))
end Go.Proofs.YtoedfhnphnpbdaaGreatDoor.printKnown
