/- What the reference makes of signs and values. -/
import Derived.Test.YtfijbgpegfnlbaaDoorVaAr
set_option linter.unusedSimpArgs false
set_option linter.unusedVariables false
namespace Go.Proofs.Va
open Go.Ev
variable {call : Calls'} {h : H}
/-- A value and an error in one. -/
def flat : AV → AV
  | .tup [.agg l, e] => .agg (l ++ [e])
  | v => v
theorem unV_two (g : ByteArray) (k n : Int) (s : ByteArray) : ∃ a b c e, unV g k n s = .tup [.agg [.int .i64 a, .int .i64 b, .str c], .int .i64 e] := by
  unfold unV; repeat' split
  all_goals first | exact numRes_two _ | exact ⟨_, _, _, _, rfl⟩
theorem binV_two (g : ByteArray) (k n : Int) (s : ByteArray) (k' n' : Int) (s' : ByteArray) : ∃ a b c e, binV g k n s k' n' s' = .tup [.agg [.int .i64 a, .int .i64 b, .str c], .int .i64 e] := by
  unfold binV; repeat' split
  all_goals first | exact ordV_two _ _ _ _ _ _ _ | exact recV_two _ _ _ | exact joinV_two _ _ | exact ⟨_, _, _, _, rfl⟩
theorem t28 (h16 : ∀ k n s h, call 16 [.agg [.int .i64 k, .int .i64 n, .str s]] h = .ret (.bool (truthP k n s)) h) (h31 : ∀ b h, call 31 [.bool b] h = .ret (V 2 (b01 b) emp) h) (h41 : ∀ n h, call 41 [.int .i64 n] h = .ret (flat (numRes n)) h)
    (g : ByteArray) (k n : Int) (s : ByteArray) (hn : k = 3 → wrapF .i64 (-n) = -n) : Tells (evFun F call 100 28 [.str g, V k n s] h) h (flat (unV g k n s)) := by
  unfold unV
  rcases signs2 g with rfl | rfl | ⟨g1, g2⟩
  · simp [Tells, evFun, F_28, c28, V, h16, h31, flat]
  · by_cases k3 : k = 3
    · obtain ⟨a, b, c, d, hz⟩ := numRes_two (-n)
      have hn := hn k3
      simp [Tells, evFun, F_28, c28, V, h41, k3, hn, hz, flat]
    · simp [Tells, evFun, F_28, c28, V, h41, k3, emp, flat]
  · simp [Tells, evFun, F_28, c28, V, g1, g2, emp, flat]
theorem tri (k : Int) : k = 3 ∨ k = 4 ∨ (¬ k = 3 ∧ ¬ k = 4 ∧ ¬ 3 = k ∧ ¬ 4 = k) := by omega
theorem w3_of {P : Prop} {k k' : Int} (w : k = 3 ∧ k' = 3 → P) (a : k = 3) (b : k' = 3) : P := w ⟨a, b⟩
end Go.Proofs.Va
