/- Texts that are no programs, as the evaluator tells (part 1). -/
import Derived.Test.YtgccmndndgbmkaaDoorEvFrame
import Derived.Test.YtgccmndndgbmkaaDoorPxBase
import Derived.KernelRfl
namespace Go.Proofs.Px
open Go.Ev
set_option maxRecDepth 100000
theorem bad5 : saysV (ev lib (compF Tryd.prog) 200 60 8 [.str ⟨#[97, 41]⟩] H.empty) (.tup [.nils, .int .i64 (.ofNat 1), .bool false]) = true := by kernel_rfl
theorem bad6 : saysV (ev lib (compF Tryd.prog) 200 60 8 [.str ⟨#[108, 101, 116, 32, 49, 32, 61, 32, 50]⟩] H.empty) (.tup [.nils, .int .i64 (.ofNat 4), .bool false]) = true := by kernel_rfl
theorem bad7 : saysV (ev lib (compF Tryd.prog) 200 60 8 [.str ⟨#[105, 102, 32, 40, 97, 41, 32, 108, 101, 116, 32, 98, 32, 61, 32, 49]⟩] H.empty) (.tup [.nils, .int .i64 (.ofNat 7), .bool false]) = true := by kernel_rfl
theorem bad8 : saysV (ev lib (compF Tryd.prog) 200 60 8 [.str ⟨#[119, 104, 105, 108, 101, 32, 40, 97, 41, 32, 102, 117, 110, 99, 116, 105, 111, 110, 32, 102, 40, 41, 32, 123, 125]⟩] H.empty) (.tup [.nils, .int .i64 (.ofNat 10), .bool false]) = true := by kernel_rfl
theorem bad9 : saysV (ev lib (compF Tryd.prog) 200 60 8 [.str ⟨#[49, 32, 61, 32, 50]⟩] H.empty) (.tup [.nils, .int .i64 (.ofNat 2), .bool false]) = true := by kernel_rfl
end Go.Proofs.Px
