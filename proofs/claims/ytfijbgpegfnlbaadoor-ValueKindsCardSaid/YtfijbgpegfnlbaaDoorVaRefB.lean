import Derived.Test.YtfijbgpegfnlbaaDoorVaRef
set_option linter.unusedSimpArgs false
set_option linter.unusedVariables false
namespace Go.Proofs.Va
open Go.Ev
variable {call : Calls'} {h : H}
set_option maxHeartbeats 4000000 in
theorem t29_gAdd (k n : Int) (s : ByteArray) (k' n' : Int) (s' : ByteArray) (h18 : ∀ h, call 18 [.agg [.int .i64 k, .int .i64 n, .str s]] h = .ret (.str (textP k n s)) h) (h18' : ∀ h, call 18 [.agg [.int .i64 k', .int .i64 n', .str s']] h = .ret (.str (textP k' n' s')) h)
    (h31 : ∀ b h, call 31 [.bool b] h = .ret (.agg [.int .i64 2, .int .i64 (b01 b), .str emp]) h) (h41 : ∀ n h, call 41 [.int .i64 n] h = .ret (flat (numRes n)) h)
    (h42 : ∀ g lt eq h, call 42 [.str g, .bool lt, .bool eq] h = .ret (.agg [.int .i64 2, .int .i64 (b01 (cmpB g lt eq)), .str emp]) h) (h43 : ∀ s h, call 43 [.str s] h = .ret (.agg [.int .i64 4, .int .i64 0, .str s]) h)
    (w3 : k = 3 ∧ k' = 3 → wrapF .i64 (n + n') = n + n' ∧ wrapF .i64 (n - n') = n - n' ∧ wrapF .i64 (n * n') = n * n' ∧ wrapF .i64 (n.tdiv n') = n.tdiv n')
    (ca : binStr .add (textP k n s) (textP k' n' s') = some (.str (cat (textP k n s) (textP k' n' s')))) :
    Tells (evFun F call 100 29 [.str gAdd, V k n s, V k' n' s'] h) h (flat (binV gAdd k n s k' n' s')) := by
  unfold binV ordS recS recV joinV
  obtain ⟨a, b, c, d, hz⟩ := numRes_two (n + n')
  have hl : sLen (cat (textP k n s) (textP k' n' s')) = (cat (textP k n s) (textP k' n' s')).size := by unfold sLen; simp
  have hs : ((4096 : Int) < ((cat (textP k n s) (textP k' n' s')).size : Int) ∧ ¬ (cat (textP k n s) (textP k' n' s')).size ≤ 4096) ∨ (¬ (4096 : Int) < ((cat (textP k n s) (textP k' n' s')).size : Int) ∧ (cat (textP k n s) (textP k' n' s')).size ≤ 4096) := by omega
  rcases tri k with rfl | rfl | k3 <;> rcases tri k' with rfl | rfl | k3'
  · simp [Tells, evFun, F_29, c29, V, flat, h41, hz, (w3 ⟨rfl, rfl⟩).1, (w3 ⟨rfl, rfl⟩).2.1, (w3 ⟨rfl, rfl⟩).2.2.1]
  · rcases hs with ⟨hi, hm⟩ | ⟨hi, hm⟩
    · simp [Tells, evFun, F_29, c29, V, flat, h43, h18, h18', ca, hl, hi, hm, emp]
    · simp [Tells, evFun, F_29, c29, V, flat, h43, h18, h18', ca, hl, hi, hm, emp]
  · simp [Tells, evFun, F_29, c29, V, flat, emp, k3']
  · rcases hs with ⟨hi, hm⟩ | ⟨hi, hm⟩
    · simp [Tells, evFun, F_29, c29, V, flat, h43, h18, h18', ca, hl, hi, hm, emp]
    · simp [Tells, evFun, F_29, c29, V, flat, h43, h18, h18', ca, hl, hi, hm, emp]
  · rcases hs with ⟨hi, hm⟩ | ⟨hi, hm⟩
    · simp [Tells, evFun, F_29, c29, V, flat, h43, h18, h18', ca, hl, hi, hm, emp]
    · simp [Tells, evFun, F_29, c29, V, flat, h43, h18, h18', ca, hl, hi, hm, emp]
  · rcases hs with ⟨hi, hm⟩ | ⟨hi, hm⟩
    · simp [Tells, evFun, F_29, c29, V, flat, h43, h18, h18', ca, hl, hi, hm, emp, k3']
    · simp [Tells, evFun, F_29, c29, V, flat, h43, h18, h18', ca, hl, hi, hm, emp, k3']
  · simp [Tells, evFun, F_29, c29, V, flat, emp, k3]
  · rcases hs with ⟨hi, hm⟩ | ⟨hi, hm⟩
    · simp [Tells, evFun, F_29, c29, V, flat, h43, h18, h18', ca, hl, hi, hm, emp, k3]
    · simp [Tells, evFun, F_29, c29, V, flat, h43, h18, h18', ca, hl, hi, hm, emp, k3]
  · simp [Tells, evFun, F_29, c29, V, flat, emp, k3, k3']
end Go.Proofs.Va
