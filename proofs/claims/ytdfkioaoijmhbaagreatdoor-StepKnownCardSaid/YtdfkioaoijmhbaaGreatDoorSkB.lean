/- Functions that are turned, for a first layer. -/
import Derived.Test.YtdfkioaoijmhbaaGreatDoorSKn0
import Derived.Test.YtdfkioaoijmhbaaGreatDoorSKn1
import Derived.Test.YtdfkioaoijmhbaaGreatDoorSKn2
import Derived.Test.YtdfkioaoijmhbaaGreatDoorSkBas2
set_option maxRecDepth 100000
namespace Go.Proofs.SkB
open Go Go.Ev Go.Proofs.SKn
noncomputable def tree : BT := (.fork 164 (.fork 119 (.fork 60 (.fork 55 (.one 26 ⟨sh26 3000⟩) (.one 55 ⟨sh55 3000⟩)) (.fork 75 (.one 60 ⟨sh60 3000⟩) (.fork 77 (.one 75 ⟨sh75 3000⟩) (.one 77 ⟨sh77 3000⟩)))) (.fork 159 (.fork 139 (.one 119 ⟨sh119 3000⟩) (.one 139 ⟨sh139 3000⟩)) (.fork 160 (.one 159 ⟨sh159 3000⟩) (.fork 162 (.one 160 ⟨sh160 3000⟩) (.one 162 ⟨sh162 3000⟩))))) (.fork 210 (.fork 183 (.fork 176 (.one 164 ⟨sh164 3000⟩) (.one 176 ⟨sh176 3000⟩)) (.fork 197 (.one 183 ⟨sh183 3000⟩) (.fork 198 (.one 197 ⟨sh197 3000⟩) (.one 198 ⟨sh198 3000⟩)))) (.fork 243 (.fork 211 (.one 210 ⟨sh210 3000⟩) (.fork 212 (.one 211 ⟨sh211 3000⟩) (.one 212 ⟨sh212 3000⟩))) (.fork 256 (.one 243 ⟨sh243 3000⟩) (.fork 257 (.one 256 ⟨sh256 3000⟩) (.one 257 ⟨sh257 3000⟩))))))
theorem tree_ok : AllT (compF Go.Proofs.Tryz.prog) 3000 tree := ⟨⟨⟨⟨(turned_of fam2_ok (sh26_ok 3000)), (turned_of fam2_ok (sh55_ok 3000))⟩, ⟨(turned_of fam2_ok (sh60_ok 3000)), ⟨(turned_of fam2_ok (sh75_ok 3000)), (turned_of fam1_ok (sh77_ok 3000))⟩⟩⟩, ⟨⟨(turned_of fam2_ok (sh119_ok 3000)), (turned_of fam1_ok (sh139_ok 3000))⟩, ⟨(turned_of fam1_ok (sh159_ok 3000)), ⟨(turned_of fam2_ok (sh160_ok 3000)), (turned_of fam1_ok (sh162_ok 3000))⟩⟩⟩⟩, ⟨⟨⟨(turned_of fam1_ok (sh164_ok 3000)), (turned_of fam2_ok (sh176_ok 3000))⟩, ⟨(turned_of fam1_ok (sh183_ok 3000)), ⟨(turned_of fam1_ok (sh197_ok 3000)), (turned_of fam2_ok (sh198_ok 3000))⟩⟩⟩, ⟨⟨(turned_of fam2_ok (sh210_ok 3000)), ⟨(turned_of fam1_ok (sh211_ok 3000)), (turned_of fam2_ok (sh212_ok 3000))⟩⟩, ⟨(turned_of fam1_ok (sh243_ok 3000)), ⟨(turned_of fam1_ok (sh256_ok 3000)), (turned_of fam1_ok (sh257_ok 3000))⟩⟩⟩⟩⟩
theorem apart : apartB Go.Proofs.Pq.lib tree = true := by kernel_rfl
end Go.Proofs.SkB
