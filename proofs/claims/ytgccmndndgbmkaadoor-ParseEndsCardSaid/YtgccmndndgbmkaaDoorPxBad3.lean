/- Texts that are no programs, as the evaluator tells (part 3). -/
import Derived.Test.YtgccmndndgbmkaaDoorEvFrame
import Derived.Test.YtgccmndndgbmkaaDoorPxBase
import Derived.KernelRfl
namespace Go.Proofs.Px
open Go.Ev
set_option maxRecDepth 100000
theorem bad15 : saysV (ev lib (compF Tryd.prog) 200 60 8 [.str ⟨#[120, 32, 61, 32, 123, 97, 32, 49, 125]⟩] H.empty) (.tup [.nils, .int .i64 (.ofNat 7), .bool false]) = true := by kernel_rfl
theorem bad16 : saysV (ev lib (compF Tryd.prog) 200 60 8 [.str ⟨#[116, 114, 121, 32, 123, 125, 32, 99, 97, 116, 99, 104, 32, 123, 125]⟩] H.empty) (.tup [.nils, .int .i64 (.ofNat 13), .bool false]) = true := by kernel_rfl
theorem bad17 : saysV (ev lib (compF Tryd.prog) 200 60 8 [.str ⟨#[99, 111, 110, 115, 116, 32, 99, 59]⟩] H.empty) (.tup [.nils, .int .i64 (.ofNat 7), .bool false]) = true := by kernel_rfl
theorem bad18 : saysV (ev lib (compF Tryd.prog) 200 60 8 [.str ⟨#[97, 32, 63, 32, 98]⟩] H.empty) (.tup [.nils, .int .i64 (.ofNat 5), .bool false]) = true := by kernel_rfl
theorem bad19 : saysV (ev lib (compF Tryd.prog) 200 60 8 [.str ⟨#[91, 49, 44, 44, 50, 93]⟩] H.empty) (.tup [.nils, .int .i64 (.ofNat 3), .bool false]) = true := by kernel_rfl
end Go.Proofs.Px
