/- The law ParseLevels, case by case, as the evaluator tells (part 0). -/
import Derived.Test.YtgccmndndgbmkaaDoorRows
import Derived.Test.YtgccmndndgbmkaaDoorPxBase
import Derived.KernelRfl
namespace Go.Proofs.YtgccmndndgbmkaaDoor.parseLevels
set_option maxRecDepth 100000
/-- Some cases at once: what is reckoned once serves all of them. -/
theorem g0 : Go.Ev.both (Go.Ev.saysTrue (Go.Ev.ev Go.Proofs.Px.lib (Go.Ev.compF Tryd.prog) 200 60 6 [.res .u8 16 0] Go.Ev.H.empty)) (Go.Ev.saysTrue (Go.Ev.ev Go.Proofs.Px.lib (Go.Ev.compF Tryd.prog) 200 60 6 [.res .u8 16 1] Go.Ev.H.empty)) = true := by kernel_rfl
theorem c_0 : Go.Ev.saysTrue (Go.Ev.ev Go.Proofs.Px.lib (Go.Ev.compF Tryd.prog) 200 60 6 [.res .u8 16 0] Go.Ev.H.empty) = true := Go.Ev.both_l (g0)
theorem c_1 : Go.Ev.saysTrue (Go.Ev.ev Go.Proofs.Px.lib (Go.Ev.compF Tryd.prog) 200 60 6 [.res .u8 16 1] Go.Ev.H.empty) = true := Go.Ev.both_r (g0)
end Go.Proofs.YtgccmndndgbmkaaDoor.parseLevels
