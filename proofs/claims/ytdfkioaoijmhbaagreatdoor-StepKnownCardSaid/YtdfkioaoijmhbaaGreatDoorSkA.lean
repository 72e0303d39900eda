/- The functions that are turned, by number. -/
import Derived.Test.YtdfkioaoijmhbaaGreatDoorSkA0
import Derived.Test.YtdfkioaoijmhbaaGreatDoorSkBase
set_option maxRecDepth 100000
namespace Go.Proofs.SkA
open Go Go.Ev
noncomputable def tree : BT := (.fork 406 (.one 343 ⟨sh343 3000⟩) (.one 406 ⟨sh406 3000⟩))
theorem tree_ok : AllT (compF Go.Proofs.Tryz.prog) 3000 tree := ⟨(turned_of fam1_ok (sh343_ok 3000)), (turned_of fam2_ok (sh406_ok 3000))⟩
theorem apart : apartB Go.Proofs.St.lib tree = true := by kernel_rfl
end Go.Proofs.SkA
