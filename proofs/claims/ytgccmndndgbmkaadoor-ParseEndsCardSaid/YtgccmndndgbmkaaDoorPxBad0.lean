/- Texts that are no programs, as the evaluator tells (part 0). -/
import Derived.Test.YtgccmndndgbmkaaDoorEvFrame
import Derived.Test.YtgccmndndgbmkaaDoorPxBase
import Derived.KernelRfl
namespace Go.Proofs.Px
open Go.Ev
set_option maxRecDepth 100000
theorem bad0 : saysV (ev lib (compF Tryd.prog) 200 60 8 [.str ⟨#[97, 32, 98]⟩] H.empty) (.tup [.nils, .int .i64 (.ofNat 2), .bool false]) = true := by kernel_rfl
theorem bad1 : saysV (ev lib (compF Tryd.prog) 200 60 8 [.str ⟨#[108, 101, 116, 32, 120]⟩] H.empty) (.tup [.nils, .int .i64 (.ofNat 5), .bool false]) = true := by kernel_rfl
theorem bad2 : saysV (ev lib (compF Tryd.prog) 200 60 8 [.str ⟨#[116, 104, 114, 111, 119, 10, 97]⟩] H.empty) (.tup [.nils, .int .i64 (.ofNat 6), .bool false]) = true := by kernel_rfl
theorem bad3 : saysV (ev lib (compF Tryd.prog) 200 60 8 [.str ⟨#[97, 32, 43]⟩] H.empty) (.tup [.nils, .int .i64 (.ofNat 3), .bool false]) = true := by kernel_rfl
theorem bad4 : saysV (ev lib (compF Tryd.prog) 200 60 8 [.str ⟨#[40, 97]⟩] H.empty) (.tup [.nils, .int .i64 (.ofNat 2), .bool false]) = true := by kernel_rfl
end Go.Proofs.Px
