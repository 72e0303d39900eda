/- The functions that are turned, by number. -/
import Derived.Test.YtoedfhnphnpbdaaGreatDoorPrA0
import Derived.Test.YtoedfhnphnpbdaaGreatDoorPrBase
set_option maxRecDepth 100000
namespace Go.Proofs.PrA
open Go Go.Ev
noncomputable def tree : BT := (.fork 160 (.one 75 ⟨sh75 3000⟩) (.one 160 ⟨sh160 3000⟩))
theorem tree_ok : AllT (compF Go.Proofs.Tryz.prog) 3000 tree := ⟨(turned_of fam1_ok (sh75_ok 3000)), (turned_of fam2_ok (sh160_ok 3000))⟩
theorem apart : apartB Go.Proofs.Pr.lib tree = true := by kernel_rfl
end Go.Proofs.PrA
