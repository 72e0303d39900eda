import Derived.Test.YtfijbgpegfnlbaaDoorVaRefA
import Derived.Test.YtfijbgpegfnlbaaDoorVaRefB
import Derived.Test.YtfijbgpegfnlbaaDoorVaRefC
set_option linter.unusedSimpArgs false
set_option linter.unusedVariables false
namespace Go.Proofs.Va
open Go.Ev
variable {call : Calls'} {h : H}
theorem t29 (k n : Int) (s : ByteArray) (k' n' : Int) (s' : ByteArray) (h18 : ∀ h, call 18 [.agg [.int .i64 k, .int .i64 n, .str s]] h = .ret (.str (textP k n s)) h) (h18' : ∀ h, call 18 [.agg [.int .i64 k', .int .i64 n', .str s']] h = .ret (.str (textP k' n' s')) h)
    (h31 : ∀ b h, call 31 [.bool b] h = .ret (.agg [.int .i64 2, .int .i64 (b01 b), .str emp]) h) (h41 : ∀ n h, call 41 [.int .i64 n] h = .ret (flat (numRes n)) h)
    (h42 : ∀ g lt eq h, call 42 [.str g, .bool lt, .bool eq] h = .ret (.agg [.int .i64 2, .int .i64 (b01 (cmpB g lt eq)), .str emp]) h) (h43 : ∀ s h, call 43 [.str s] h = .ret (.agg [.int .i64 4, .int .i64 0, .str s]) h)
    (w3 : k = 3 ∧ k' = 3 → wrapF .i64 (n + n') = n + n' ∧ wrapF .i64 (n - n') = n - n' ∧ wrapF .i64 (n * n') = n * n' ∧ wrapF .i64 (n.tdiv n') = n.tdiv n')
    (ca : binStr .add (textP k n s) (textP k' n' s') = some (.str (cat (textP k n s) (textP k' n' s')))) (g : ByteArray) :
    Tells (evFun F call 100 29 [.str g, V k n s, V k' n' s'] h) h (flat (binV g k n s k' n' s')) := by
  rcases signs11 g with rfl | rfl | rfl | rfl | rfl | rfl | rfl | rfl | rfl | rfl | rfl | ⟨g1, g2, g3, g4, g5, g6, g7, g8, g9, g10, g11⟩
  · exact t29_gEq k n s k' n' s' h18 h18' h31 h41 h42 h43 w3 ca
  · exact t29_gNe k n s k' n' s' h18 h18' h31 h41 h42 h43 w3 ca
  · exact t29_gLt k n s k' n' s' h18 h18' h31 h41 h42 h43 w3 ca
  · exact t29_gLe k n s k' n' s' h18 h18' h31 h41 h42 h43 w3 ca
  · exact t29_gGt k n s k' n' s' h18 h18' h31 h41 h42 h43 w3 ca
  · exact t29_gGe k n s k' n' s' h18 h18' h31 h41 h42 h43 w3 ca
  · exact t29_gAdd k n s k' n' s' h18 h18' h31 h41 h42 h43 w3 ca
  · exact t29_gSub k n s k' n' s' h18 h18' h31 h41 h42 h43 w3 ca
  · exact t29_gMul k n s k' n' s' h18 h18' h31 h41 h42 h43 w3 ca
  · exact t29_gDiv k n s k' n' s' h18 h18' h31 h41 h42 h43 w3 ca
  · exact t29_gRem k n s k' n' s' h18 h18' h31 h41 h42 h43 w3 ca
  · exact t29_none k n s k' n' s' h18 h18' h31 h41 h42 h43 w3 ca g g1 g2 g3 g4 g5 g6 g7 g8 g9 g10 g11
end Go.Proofs.Va
