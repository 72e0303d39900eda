/- The law PropsFull, case by case, as the second evaluator tells (part 1). -/
import Derived.Test.YtophpelggceknaaDoorRows
import Derived.Test.YtophpelggceknaaDoorPyBase
import Derived.Test.YtophpelggceknaaDoorFvM
import Derived.Test.YtophpelggceknaaDoorPyC
import Derived.KernelRfl
namespace Go.Proofs.YtophpelggceknaaDoor.propsFull
set_option maxRecDepth 100000
/-- Some cases at once: what is reckoned once serves all of them. -/
theorem g1_0 : Go.Ev.saysTrue (Go.Ev.fev Go.Proofs.Py.lib Go.Proofs.PyC.tab (Go.Ev.compF Tryd.prog) 5000 60 5 [.res .u8 4 1] Go.Ev.H.empty) = true := by kernel_rfl
theorem c_1 : Go.Ev.saysTrue (Go.Ev.ev Go.Proofs.Py.lib (Go.Ev.compF Tryd.prog) 5000 60 5 [.res .u8 4 1] Go.Ev.H.empty) = true := Go.Ev.fcalls_true Go.Proofs.PyC.tab_ok (g1_0)
/-- Some cases at once: what is reckoned once serves all of them. -/
theorem g1_1 : Go.Ev.saysTrue (Go.Ev.fev Go.Proofs.Py.lib Go.Proofs.PyC.tab (Go.Ev.compF Tryd.prog) 5000 60 5 [.res .u8 4 3] Go.Ev.H.empty) = true := by kernel_rfl
theorem c_3 : Go.Ev.saysTrue (Go.Ev.ev Go.Proofs.Py.lib (Go.Ev.compF Tryd.prog) 5000 60 5 [.res .u8 4 3] Go.Ev.H.empty) = true := Go.Ev.fcalls_true Go.Proofs.PyC.tab_ok (g1_1)
end Go.Proofs.YtophpelggceknaaDoor.propsFull
