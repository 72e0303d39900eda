/- The law PrintKnown, case by case, as the second evaluator tells (part 2). -/
import Derived.Test.YtoedfhnphnpbdaaGreatDoorPrBas2
import Derived.Test.YtoedfhnphnpbdaaGreatDoorFvM
import Derived.Test.YtoedfhnphnpbdaaGreatDoorPrS
import Derived.KernelRfl
namespace Go.Proofs.YtoedfhnphnpbdaaGreatDoor.printKnown
set_option maxRecDepth 100000
/-- Some cases at once: what is reckoned once serves all of them. -/
theorem g2_0 : Go.Ev.both (Go.Ev.saysTrue (Go.Ev.sev Go.Proofs.Pq.lib (Go.Ev.lookB Go.Proofs.PrS.tree) (Go.Ev.compF Tryz.prog) 3000 150 3 [.res .u8 16 8] Go.Ev.H.empty)) (Go.Ev.both (Go.Ev.saysTrue (Go.Ev.sev Go.Proofs.Pq.lib (Go.Ev.lookB Go.Proofs.PrS.tree) (Go.Ev.compF Tryz.prog) 3000 150 3 [.res .u8 16 9] Go.Ev.H.empty)) (Go.Ev.both (Go.Ev.saysTrue (Go.Ev.sev Go.Proofs.Pq.lib (Go.Ev.lookB Go.Proofs.PrS.tree) (Go.Ev.compF Tryz.prog) 3000 150 3 [.res .u8 16 10] Go.Ev.H.empty)) (Go.Ev.saysTrue (Go.Ev.sev Go.Proofs.Pq.lib (Go.Ev.lookB Go.Proofs.PrS.tree) (Go.Ev.compF Tryz.prog) 3000 150 3 [.res .u8 16 11] Go.Ev.H.empty)))) = true := by kernel_rfl
theorem c_8 : Go.Ev.saysTrue (Go.Ev.ev Go.Proofs.Pq.lib (Go.Ev.compF Tryz.prog) 3000 150 3 [.res .u8 16 8] Go.Ev.H.empty) = true := Go.Ev.scalls_true Go.Proofs.PrS.tree_ok Go.Proofs.PrS.apart (Go.Ev.both_l (g2_0))
theorem c_9 : Go.Ev.saysTrue (Go.Ev.ev Go.Proofs.Pq.lib (Go.Ev.compF Tryz.prog) 3000 150 3 [.res .u8 16 9] Go.Ev.H.empty) = true := Go.Ev.scalls_true Go.Proofs.PrS.tree_ok Go.Proofs.PrS.apart (Go.Ev.both_l (Go.Ev.both_r (g2_0)))
theorem c_10 : Go.Ev.saysTrue (Go.Ev.ev Go.Proofs.Pq.lib (Go.Ev.compF Tryz.prog) 3000 150 3 [.res .u8 16 10] Go.Ev.H.empty) = true := Go.Ev.scalls_true Go.Proofs.PrS.tree_ok Go.Proofs.PrS.apart (Go.Ev.both_l (Go.Ev.both_r (Go.Ev.both_r (g2_0))))
theorem c_11 : Go.Ev.saysTrue (Go.Ev.ev Go.Proofs.Pq.lib (Go.Ev.compF Tryz.prog) 3000 150 3 [.res .u8 16 11] Go.Ev.H.empty) = true := Go.Ev.scalls_true Go.Proofs.PrS.tree_ok Go.Proofs.PrS.apart (Go.Ev.both_r (Go.Ev.both_r (Go.Ev.both_r (g2_0))))
end Go.Proofs.YtoedfhnphnpbdaaGreatDoor.printKnown
