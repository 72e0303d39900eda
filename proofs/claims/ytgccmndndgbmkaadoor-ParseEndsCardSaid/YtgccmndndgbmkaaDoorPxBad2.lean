/- Texts that are no programs, as the evaluator tells (part 2). -/
import Derived.Test.YtgccmndndgbmkaaDoorEvFrame
import Derived.Test.YtgccmndndgbmkaaDoorPxBase
import Derived.KernelRfl
namespace Go.Proofs.Px
open Go.Ev
set_option maxRecDepth 100000
theorem bad10 : saysV (ev lib (compF Tryd.prog) 200 60 8 [.str ⟨#[97, 32, 61, 32, 98, 32, 61, 32]⟩] H.empty) (.tup [.nils, .int .i64 (.ofNat 8), .bool false]) = true := by kernel_rfl
theorem bad11 : saysV (ev lib (compF Tryd.prog) 200 60 8 [.str ⟨#[102, 40, 97, 44, 41]⟩] H.empty) (.tup [.nils, .int .i64 (.ofNat 4), .bool false]) = true := by kernel_rfl
theorem bad12 : saysV (ev lib (compF Tryd.prog) 200 60 8 [.str ⟨#[123, 97, 58, 32, 49, 125]⟩] H.empty) (.tup [.nils, .int .i64 (.ofNat 2), .bool false]) = true := by kernel_rfl
theorem bad13 : saysV (ev lib (compF Tryd.prog) 200 60 8 [.str ⟨#[59]⟩] H.empty) (.tup [.nils, .int .i64 (.ofNat 0), .bool false]) = true := by kernel_rfl
theorem bad14 : saysV (ev lib (compF Tryd.prog) 200 60 8 [.str ⟨#[121, 105, 101, 108, 100]⟩] H.empty) (.tup [.nils, .int .i64 (.ofNat 5), .bool false]) = true := by kernel_rfl
end Go.Proofs.Px
