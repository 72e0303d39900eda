/- The law StepInputs, case by case, as the second evaluator tells (part 2). -/
import Derived.Test.YtdfkioaoijmhbaaGreatDoorStBase
import Derived.Test.YtdfkioaoijmhbaaGreatDoorFvM
import Derived.Test.YtdfkioaoijmhbaaGreatDoorSIn
import Derived.KernelRfl
namespace Go.Proofs.YtdfkioaoijmhbaaGreatDoor.stepInputs
set_option maxRecDepth 100000
/-- Some cases at once: what is reckoned once serves all of them. -/
theorem g2_0 : Go.Ev.both (Go.Ev.saysTrue (Go.Ev.sev Go.Proofs.St.lib (Go.Ev.lookB Go.Proofs.SIn.tree) (Go.Ev.compF Tryz.prog) 3000 150 4 [.sym .i32 (.negSucc 2147483647) (.ofNat 2147483647) (.var 0 (.negSucc 2147483647) (.ofNat 2147483647)), .res .u8 4 2, .bool false] Go.Ev.H.empty)) (Go.Ev.saysTrue (Go.Ev.sev Go.Proofs.St.lib (Go.Ev.lookB Go.Proofs.SIn.tree) (Go.Ev.compF Tryz.prog) 3000 150 4 [.sym .i32 (.negSucc 2147483647) (.ofNat 2147483647) (.var 0 (.negSucc 2147483647) (.ofNat 2147483647)), .res .u8 4 2, .bool true] Go.Ev.H.empty)) = true := by kernel_rfl
theorem c_0_2_false : Go.Ev.saysTrue (Go.Ev.ev Go.Proofs.St.lib (Go.Ev.compF Tryz.prog) 3000 150 4 [.sym .i32 (.negSucc 2147483647) (.ofNat 2147483647) (.var 0 (.negSucc 2147483647) (.ofNat 2147483647)), .res .u8 4 2, .bool false] Go.Ev.H.empty) = true := Go.Ev.scalls_true Go.Proofs.SIn.tree_ok Go.Proofs.SIn.apart (Go.Ev.both_l (g2_0))
theorem c_0_2_true : Go.Ev.saysTrue (Go.Ev.ev Go.Proofs.St.lib (Go.Ev.compF Tryz.prog) 3000 150 4 [.sym .i32 (.negSucc 2147483647) (.ofNat 2147483647) (.var 0 (.negSucc 2147483647) (.ofNat 2147483647)), .res .u8 4 2, .bool true] Go.Ev.H.empty) = true := Go.Ev.scalls_true Go.Proofs.SIn.tree_ok Go.Proofs.SIn.apart (Go.Ev.both_r (g2_0))
end Go.Proofs.YtdfkioaoijmhbaaGreatDoor.stepInputs
