/- The law ParseLevels, case by case, as the evaluator tells (part 3). -/
import Derived.Test.YtgccmndndgbmkaaDoorRows
import Derived.Test.YtgccmndndgbmkaaDoorPxBase
import Derived.KernelRfl
namespace Go.Proofs.YtgccmndndgbmkaaDoor.parseLevels
set_option maxRecDepth 100000
/-- Some cases at once: what is reckoned once serves all of them. -/
theorem g3 : Go.Ev.both (Go.Ev.saysTrue (Go.Ev.ev Go.Proofs.Px.lib (Go.Ev.compF Tryd.prog) 200 60 6 [.res .u8 16 6] Go.Ev.H.empty)) (Go.Ev.saysTrue (Go.Ev.ev Go.Proofs.Px.lib (Go.Ev.compF Tryd.prog) 200 60 6 [.res .u8 16 7] Go.Ev.H.empty)) = true := by kernel_rfl
theorem c_6 : Go.Ev.saysTrue (Go.Ev.ev Go.Proofs.Px.lib (Go.Ev.compF Tryd.prog) 200 60 6 [.res .u8 16 6] Go.Ev.H.empty) = true := Go.Ev.both_l (g3)
theorem c_7 : Go.Ev.saysTrue (Go.Ev.ev Go.Proofs.Px.lib (Go.Ev.compF Tryd.prog) 200 60 6 [.res .u8 16 7] Go.Ev.H.empty) = true := Go.Ev.both_r (g3)
end Go.Proofs.YtgccmndndgbmkaaDoor.parseLevels
