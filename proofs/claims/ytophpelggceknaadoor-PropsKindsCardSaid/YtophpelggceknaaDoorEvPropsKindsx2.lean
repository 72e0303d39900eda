/- The law PropsKinds, case by case, as the evaluator tells (part 2). -/
import Derived.Test.YtophpelggceknaaDoorRows
import Derived.Test.YtophpelggceknaaDoorEvTop
import Derived.KernelRfl
namespace Go.Proofs.YtophpelggceknaaDoor.propsKinds
set_option maxRecDepth 100000
theorem c_3_1 : Go.Ev.saysTrue (Go.Ev.ev (Go.Ev.compF Tryd.prog) 1000 50 4 [.res .u8 9 3, .res .u8 11 1] Go.Ev.H.empty) = true := by kernel_rfl
theorem c_3_2 : Go.Ev.saysTrue (Go.Ev.ev (Go.Ev.compF Tryd.prog) 1000 50 4 [.res .u8 9 3, .res .u8 11 2] Go.Ev.H.empty) = true := by kernel_rfl
theorem c_3_3 : Go.Ev.saysTrue (Go.Ev.ev (Go.Ev.compF Tryd.prog) 1000 50 4 [.res .u8 9 3, .res .u8 11 3] Go.Ev.H.empty) = true := by kernel_rfl
theorem c_3_4 : Go.Ev.saysTrue (Go.Ev.ev (Go.Ev.compF Tryd.prog) 1000 50 4 [.res .u8 9 3, .res .u8 11 4] Go.Ev.H.empty) = true := by kernel_rfl
theorem c_3_5 : Go.Ev.saysTrue (Go.Ev.ev (Go.Ev.compF Tryd.prog) 1000 50 4 [.res .u8 9 3, .res .u8 11 5] Go.Ev.H.empty) = true := by kernel_rfl
theorem c_3_6 : Go.Ev.saysTrue (Go.Ev.ev (Go.Ev.compF Tryd.prog) 1000 50 4 [.res .u8 9 3, .res .u8 11 6] Go.Ev.H.empty) = true := by kernel_rfl
theorem c_3_7 : Go.Ev.saysTrue (Go.Ev.ev (Go.Ev.compF Tryd.prog) 1000 50 4 [.res .u8 9 3, .res .u8 11 7] Go.Ev.H.empty) = true := by kernel_rfl
theorem c_3_8 : Go.Ev.saysTrue (Go.Ev.ev (Go.Ev.compF Tryd.prog) 1000 50 4 [.res .u8 9 3, .res .u8 11 8] Go.Ev.H.empty) = true := by kernel_rfl
theorem c_3_9 : Go.Ev.saysTrue (Go.Ev.ev (Go.Ev.compF Tryd.prog) 1000 50 4 [.res .u8 9 3, .res .u8 11 9] Go.Ev.H.empty) = true := by kernel_rfl
theorem c_3_10 : Go.Ev.saysTrue (Go.Ev.ev (Go.Ev.compF Tryd.prog) 1000 50 4 [.res .u8 9 3, .res .u8 11 10] Go.Ev.H.empty) = true := by kernel_rfl
theorem c_4_0 : Go.Ev.saysTrue (Go.Ev.ev (Go.Ev.compF Tryd.prog) 1000 50 4 [.res .u8 9 4, .res .u8 11 0] Go.Ev.H.empty) = true := by kernel_rfl
theorem c_4_1 : Go.Ev.saysTrue (Go.Ev.ev (Go.Ev.compF Tryd.prog) 1000 50 4 [.res .u8 9 4, .res .u8 11 1] Go.Ev.H.empty) = true := by kernel_rfl
theorem c_4_2 : Go.Ev.saysTrue (Go.Ev.ev (Go.Ev.compF Tryd.prog) 1000 50 4 [.res .u8 9 4, .res .u8 11 2] Go.Ev.H.empty) = true := by kernel_rfl
theorem c_4_3 : Go.Ev.saysTrue (Go.Ev.ev (Go.Ev.compF Tryd.prog) 1000 50 4 [.res .u8 9 4, .res .u8 11 3] Go.Ev.H.empty) = true := by kernel_rfl
theorem c_4_4 : Go.Ev.saysTrue (Go.Ev.ev (Go.Ev.compF Tryd.prog) 1000 50 4 [.res .u8 9 4, .res .u8 11 4] Go.Ev.H.empty) = true := by kernel_rfl
theorem c_4_5 : Go.Ev.saysTrue (Go.Ev.ev (Go.Ev.compF Tryd.prog) 1000 50 4 [.res .u8 9 4, .res .u8 11 5] Go.Ev.H.empty) = true := by kernel_rfl
theorem c_4_6 : Go.Ev.saysTrue (Go.Ev.ev (Go.Ev.compF Tryd.prog) 1000 50 4 [.res .u8 9 4, .res .u8 11 6] Go.Ev.H.empty) = true := by kernel_rfl
end Go.Proofs.YtophpelggceknaaDoor.propsKinds
