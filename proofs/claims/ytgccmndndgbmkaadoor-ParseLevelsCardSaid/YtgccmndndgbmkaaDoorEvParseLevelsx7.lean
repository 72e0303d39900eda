/- The law ParseLevels, case by case, as the evaluator tells (part 7). -/
import Derived.Test.YtgccmndndgbmkaaDoorRows
import Derived.Test.YtgccmndndgbmkaaDoorPxBase
import Derived.KernelRfl
namespace Go.Proofs.YtgccmndndgbmkaaDoor.parseLevels
set_option maxRecDepth 100000
/-- Some cases at once: what is reckoned once serves all of them. -/
theorem g7 : Go.Ev.both (Go.Ev.saysTrue (Go.Ev.ev Go.Proofs.Px.lib (Go.Ev.compF Tryd.prog) 200 60 6 [.res .u8 16 14] Go.Ev.H.empty)) (Go.Ev.saysTrue (Go.Ev.ev Go.Proofs.Px.lib (Go.Ev.compF Tryd.prog) 200 60 6 [.res .u8 16 15] Go.Ev.H.empty)) = true := by kernel_rfl
theorem c_14 : Go.Ev.saysTrue (Go.Ev.ev Go.Proofs.Px.lib (Go.Ev.compF Tryd.prog) 200 60 6 [.res .u8 16 14] Go.Ev.H.empty) = true := Go.Ev.both_l (g7)
theorem c_15 : Go.Ev.saysTrue (Go.Ev.ev Go.Proofs.Px.lib (Go.Ev.compF Tryd.prog) 200 60 6 [.res .u8 16 15] Go.Ev.H.empty) = true := Go.Ev.both_r (g7)
end Go.Proofs.YtgccmndndgbmkaaDoor.parseLevels
