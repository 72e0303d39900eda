/- The law PropsKinds, case by case, as the evaluator tells (part 0). -/
import Derived.Test.YtophpelggceknaaDoorRows
import Derived.Test.YtophpelggceknaaDoorEvTop
import Derived.KernelRfl
namespace Go.Proofs.YtophpelggceknaaDoor.propsKinds
set_option maxRecDepth 100000
theorem c_0_0 : Go.Ev.saysTrue (Go.Ev.ev (Go.Ev.compF Tryd.prog) 1000 50 4 [.res .u8 9 0, .res .u8 11 0] Go.Ev.H.empty) = true := by kernel_rfl
theorem c_0_1 : Go.Ev.saysTrue (Go.Ev.ev (Go.Ev.compF Tryd.prog) 1000 50 4 [.res .u8 9 0, .res .u8 11 1] Go.Ev.H.empty) = true := by kernel_rfl
theorem c_0_2 : Go.Ev.saysTrue (Go.Ev.ev (Go.Ev.compF Tryd.prog) 1000 50 4 [.res .u8 9 0, .res .u8 11 2] Go.Ev.H.empty) = true := by kernel_rfl
theorem c_0_3 : Go.Ev.saysTrue (Go.Ev.ev (Go.Ev.compF Tryd.prog) 1000 50 4 [.res .u8 9 0, .res .u8 11 3] Go.Ev.H.empty) = true := by kernel_rfl
theorem c_0_4 : Go.Ev.saysTrue (Go.Ev.ev (Go.Ev.compF Tryd.prog) 1000 50 4 [.res .u8 9 0, .res .u8 11 4] Go.Ev.H.empty) = true := by kernel_rfl
theorem c_0_5 : Go.Ev.saysTrue (Go.Ev.ev (Go.Ev.compF Tryd.prog) 1000 50 4 [.res .u8 9 0, .res .u8 11 5] Go.Ev.H.empty) = true := by kernel_rfl
theorem c_0_6 : Go.Ev.saysTrue (Go.Ev.ev (Go.Ev.compF Tryd.prog) 1000 50 4 [.res .u8 9 0, .res .u8 11 6] Go.Ev.H.empty) = true := by kernel_rfl
theorem c_0_7 : Go.Ev.saysTrue (Go.Ev.ev (Go.Ev.compF Tryd.prog) 1000 50 4 [.res .u8 9 0, .res .u8 11 7] Go.Ev.H.empty) = true := by kernel_rfl
theorem c_0_8 : Go.Ev.saysTrue (Go.Ev.ev (Go.Ev.compF Tryd.prog) 1000 50 4 [.res .u8 9 0, .res .u8 11 8] Go.Ev.H.empty) = true := by kernel_rfl
theorem c_0_9 : Go.Ev.saysTrue (Go.Ev.ev (Go.Ev.compF Tryd.prog) 1000 50 4 [.res .u8 9 0, .res .u8 11 9] Go.Ev.H.empty) = true := by kernel_rfl
theorem c_0_10 : Go.Ev.saysTrue (Go.Ev.ev (Go.Ev.compF Tryd.prog) 1000 50 4 [.res .u8 9 0, .res .u8 11 10] Go.Ev.H.empty) = true := by kernel_rfl
theorem c_1_0 : Go.Ev.saysTrue (Go.Ev.ev (Go.Ev.compF Tryd.prog) 1000 50 4 [.res .u8 9 1, .res .u8 11 0] Go.Ev.H.empty) = true := by kernel_rfl
theorem c_1_1 : Go.Ev.saysTrue (Go.Ev.ev (Go.Ev.compF Tryd.prog) 1000 50 4 [.res .u8 9 1, .res .u8 11 1] Go.Ev.H.empty) = true := by kernel_rfl
theorem c_1_2 : Go.Ev.saysTrue (Go.Ev.ev (Go.Ev.compF Tryd.prog) 1000 50 4 [.res .u8 9 1, .res .u8 11 2] Go.Ev.H.empty) = true := by kernel_rfl
theorem c_1_3 : Go.Ev.saysTrue (Go.Ev.ev (Go.Ev.compF Tryd.prog) 1000 50 4 [.res .u8 9 1, .res .u8 11 3] Go.Ev.H.empty) = true := by kernel_rfl
theorem c_1_4 : Go.Ev.saysTrue (Go.Ev.ev (Go.Ev.compF Tryd.prog) 1000 50 4 [.res .u8 9 1, .res .u8 11 4] Go.Ev.H.empty) = true := by kernel_rfl
theorem c_1_5 : Go.Ev.saysTrue (Go.Ev.ev (Go.Ev.compF Tryd.prog) 1000 50 4 [.res .u8 9 1, .res .u8 11 5] Go.Ev.H.empty) = true := by kernel_rfl
end Go.Proofs.YtophpelggceknaaDoor.propsKinds
