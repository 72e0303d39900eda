/- The law LoopPromises, case by case, as the second evaluator tells (part 10). -/
import Derived.Test.YtanjjmgoangmdaaGreatDoorLeBase
import Derived.Test.YtanjjmgoangmdaaGreatDoorFvM
import Derived.Test.YtanjjmgoangmdaaGreatDoorLpS
import Derived.KernelRfl
namespace Go.Proofs.YtanjjmgoangmdaaGreatDoor.loopPromises
set_option maxRecDepth 100000
/-- Some cases at once: what is reckoned once serves all of them. -/
theorem g10_0 : Go.Ev.both (Go.Ev.saysTrue (Go.Ev.sev Go.Proofs.Le.lib (Go.Ev.lookB Go.Proofs.LpS.tree) (Go.Ev.compF Tryz.prog) 3000 150 3 [.sym .u8 (.ofNat 48) (.ofNat 97) (.var 0 (.ofNat 48) (.ofNat 97)), .bool true, .bool false] Go.Ev.H.empty)) (Go.Ev.both (Go.Ev.saysTrue (Go.Ev.sev Go.Proofs.Le.lib (Go.Ev.lookB Go.Proofs.LpS.tree) (Go.Ev.compF Tryz.prog) 3000 150 3 [.sym .u8 (.ofNat 48) (.ofNat 97) (.var 0 (.ofNat 48) (.ofNat 97)), .bool true, .bool true] Go.Ev.H.empty)) (Go.Ev.saysTrue (Go.Ev.sev Go.Proofs.Le.lib (Go.Ev.lookB Go.Proofs.LpS.tree) (Go.Ev.compF Tryz.prog) 3000 150 3 [.int .u8 (.ofNat 98), .bool false, .bool false] Go.Ev.H.empty))) = true := by kernel_rfl
theorem c_7_true_false : Go.Ev.saysTrue (Go.Ev.ev Go.Proofs.Le.lib (Go.Ev.compF Tryz.prog) 3000 150 3 [.sym .u8 (.ofNat 48) (.ofNat 97) (.var 0 (.ofNat 48) (.ofNat 97)), .bool true, .bool false] Go.Ev.H.empty) = true := Go.Ev.scalls_true Go.Proofs.LpS.tree_ok Go.Proofs.LpS.apart (Go.Ev.both_l (g10_0))
theorem c_7_true_true : Go.Ev.saysTrue (Go.Ev.ev Go.Proofs.Le.lib (Go.Ev.compF Tryz.prog) 3000 150 3 [.sym .u8 (.ofNat 48) (.ofNat 97) (.var 0 (.ofNat 48) (.ofNat 97)), .bool true, .bool true] Go.Ev.H.empty) = true := Go.Ev.scalls_true Go.Proofs.LpS.tree_ok Go.Proofs.LpS.apart (Go.Ev.both_l (Go.Ev.both_r (g10_0)))
theorem c_8_false_false : Go.Ev.saysTrue (Go.Ev.ev Go.Proofs.Le.lib (Go.Ev.compF Tryz.prog) 3000 150 3 [.int .u8 (.ofNat 98), .bool false, .bool false] Go.Ev.H.empty) = true := Go.Ev.scalls_true Go.Proofs.LpS.tree_ok Go.Proofs.LpS.apart (Go.Ev.both_r (Go.Ev.both_r (g10_0)))
end Go.Proofs.YtanjjmgoangmdaaGreatDoor.loopPromises
