/- The law PropsFull, case by case, as the second evaluator tells (part 0). -/
import Derived.Test.YtophpelggceknaaDoorRows
import Derived.Test.YtophpelggceknaaDoorPyBase
import Derived.Test.YtophpelggceknaaDoorFvM
import Derived.Test.YtophpelggceknaaDoorPyC
import Derived.KernelRfl
namespace Go.Proofs.YtophpelggceknaaDoor.propsFull
set_option maxRecDepth 100000
/-- Some cases at once: what is reckoned once serves all of them. -/
theorem g0_0 : Go.Ev.saysTrue (Go.Ev.fev Go.Proofs.Py.lib Go.Proofs.PyC.tab (Go.Ev.compF Tryd.prog) 5000 60 5 [.res .u8 4 0] Go.Ev.H.empty) = true := by kernel_rfl
theorem c_0 : Go.Ev.saysTrue (Go.Ev.ev Go.Proofs.Py.lib (Go.Ev.compF Tryd.prog) 5000 60 5 [.res .u8 4 0] Go.Ev.H.empty) = true := Go.Ev.fcalls_true Go.Proofs.PyC.tab_ok (g0_0)
/-- Some cases at once: what is reckoned once serves all of them. -/
theorem g0_1 : Go.Ev.saysTrue (Go.Ev.fev Go.Proofs.Py.lib Go.Proofs.PyC.tab (Go.Ev.compF Tryd.prog) 5000 60 5 [.res .u8 4 2] Go.Ev.H.empty) = true := by kernel_rfl
theorem c_2 : Go.Ev.saysTrue (Go.Ev.ev Go.Proofs.Py.lib (Go.Ev.compF Tryd.prog) 5000 60 5 [.res .u8 4 2] Go.Ev.H.empty) = true := Go.Ev.fcalls_true Go.Proofs.PyC.tab_ok (g0_1)
end Go.Proofs.YtophpelggceknaaDoor.propsFull
