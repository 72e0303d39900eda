/- The law ParseLevels, case by case, as the evaluator tells (part 5). -/
import Derived.Test.YtgccmndndgbmkaaDoorRows
import Derived.Test.YtgccmndndgbmkaaDoorPxBase
import Derived.KernelRfl
namespace Go.Proofs.YtgccmndndgbmkaaDoor.parseLevels
set_option maxRecDepth 100000
/-- Some cases at once: what is reckoned once serves all of them. -/
theorem g5 : Go.Ev.both (Go.Ev.saysTrue (Go.Ev.ev Go.Proofs.Px.lib (Go.Ev.compF Tryd.prog) 200 60 6 [.res .u8 16 10] Go.Ev.H.empty)) (Go.Ev.saysTrue (Go.Ev.ev Go.Proofs.Px.lib (Go.Ev.compF Tryd.prog) 200 60 6 [.res .u8 16 11] Go.Ev.H.empty)) = true := by kernel_rfl
theorem c_10 : Go.Ev.saysTrue (Go.Ev.ev Go.Proofs.Px.lib (Go.Ev.compF Tryd.prog) 200 60 6 [.res .u8 16 10] Go.Ev.H.empty) = true := Go.Ev.both_l (g5)
theorem c_11 : Go.Ev.saysTrue (Go.Ev.ev Go.Proofs.Px.lib (Go.Ev.compF Tryd.prog) 200 60 6 [.res .u8 16 11] Go.Ev.H.empty) = true := Go.Ev.both_r (g5)
end Go.Proofs.YtgccmndndgbmkaaDoor.parseLevels
