import Derived.Test.YtfijbgpegfnlbaaDoorVaRef
set_option linter.unusedSimpArgs false
set_option linter.unusedVariables false
namespace Go.Proofs.Va
open Go.Ev
variable {call : Calls'} {h : H}
set_option maxHeartbeats 4000000 in
theorem t29_gEq (k n : Int) (s : ByteArray) (k' n' : Int) (s' : ByteArray) (h18 : ∀ h, call 18 [.agg [.int .i64 k, .int .i64 n, .str s]] h = .ret (.str (textP k n s)) h) (h18' : ∀ h, call 18 [.agg [.int .i64 k', .int .i64 n', .str s']] h = .ret (.str (textP k' n' s')) h)
    (h31 : ∀ b h, call 31 [.bool b] h = .ret (.agg [.int .i64 2, .int .i64 (b01 b), .str emp]) h) (h41 : ∀ n h, call 41 [.int .i64 n] h = .ret (flat (numRes n)) h)
    (h42 : ∀ g lt eq h, call 42 [.str g, .bool lt, .bool eq] h = .ret (.agg [.int .i64 2, .int .i64 (b01 (cmpB g lt eq)), .str emp]) h) (h43 : ∀ s h, call 43 [.str s] h = .ret (.agg [.int .i64 4, .int .i64 0, .str s]) h)
    (w3 : k = 3 ∧ k' = 3 → wrapF .i64 (n + n') = n + n' ∧ wrapF .i64 (n - n') = n - n' ∧ wrapF .i64 (n * n') = n * n' ∧ wrapF .i64 (n.tdiv n') = n.tdiv n')
    (ca : binStr .add (textP k n s) (textP k' n' s') = some (.str (cat (textP k n s) (textP k' n' s')))) :
    Tells (evFun F call 100 29 [.str gEq, V k n s, V k' n' s'] h) h (flat (binV gEq k n s k' n' s')) := by
  unfold binV sameP
  rcases tri k with rfl | rfl | k3 <;> rcases tri k' with rfl | rfl | k3'
  · by_cases nn : n = n' <;> cases ss : sEq s s' <;> simp [Tells, evFun, F_29, c29, V, flat, h31, nn, ss]
  · simp [Tells, evFun, F_29, c29, V, flat, h31]
  · simp [Tells, evFun, F_29, c29, V, flat, h31, k3']
  · simp [Tells, evFun, F_29, c29, V, flat, h31]
  · by_cases nn : n = n' <;> cases ss : sEq s s' <;> simp [Tells, evFun, F_29, c29, V, flat, h31, nn, ss]
  · simp [Tells, evFun, F_29, c29, V, flat, h31, k3']
  · simp [Tells, evFun, F_29, c29, V, flat, h31, k3]
  · simp [Tells, evFun, F_29, c29, V, flat, h31, k3]
  · by_cases kk : k = k' <;> by_cases nn : n = n' <;> cases ss : sEq s s' <;> simp [Tells, evFun, F_29, c29, V, flat, h31, kk, nn, ss, k3, k3']
set_option maxHeartbeats 4000000 in
theorem t29_gNe (k n : Int) (s : ByteArray) (k' n' : Int) (s' : ByteArray) (h18 : ∀ h, call 18 [.agg [.int .i64 k, .int .i64 n, .str s]] h = .ret (.str (textP k n s)) h) (h18' : ∀ h, call 18 [.agg [.int .i64 k', .int .i64 n', .str s']] h = .ret (.str (textP k' n' s')) h)
    (h31 : ∀ b h, call 31 [.bool b] h = .ret (.agg [.int .i64 2, .int .i64 (b01 b), .str emp]) h) (h41 : ∀ n h, call 41 [.int .i64 n] h = .ret (flat (numRes n)) h)
    (h42 : ∀ g lt eq h, call 42 [.str g, .bool lt, .bool eq] h = .ret (.agg [.int .i64 2, .int .i64 (b01 (cmpB g lt eq)), .str emp]) h) (h43 : ∀ s h, call 43 [.str s] h = .ret (.agg [.int .i64 4, .int .i64 0, .str s]) h)
    (w3 : k = 3 ∧ k' = 3 → wrapF .i64 (n + n') = n + n' ∧ wrapF .i64 (n - n') = n - n' ∧ wrapF .i64 (n * n') = n * n' ∧ wrapF .i64 (n.tdiv n') = n.tdiv n')
    (ca : binStr .add (textP k n s) (textP k' n' s') = some (.str (cat (textP k n s) (textP k' n' s')))) :
    Tells (evFun F call 100 29 [.str gNe, V k n s, V k' n' s'] h) h (flat (binV gNe k n s k' n' s')) := by
  unfold binV sameP
  rcases tri k with rfl | rfl | k3 <;> rcases tri k' with rfl | rfl | k3'
  · by_cases nn : n = n' <;> cases ss : sEq s s' <;> simp [Tells, evFun, F_29, c29, V, flat, h31, nn, ss]
  · simp [Tells, evFun, F_29, c29, V, flat, h31]
  · simp [Tells, evFun, F_29, c29, V, flat, h31, k3']
  · simp [Tells, evFun, F_29, c29, V, flat, h31]
  · by_cases nn : n = n' <;> cases ss : sEq s s' <;> simp [Tells, evFun, F_29, c29, V, flat, h31, nn, ss]
  · simp [Tells, evFun, F_29, c29, V, flat, h31, k3']
  · simp [Tells, evFun, F_29, c29, V, flat, h31, k3]
  · simp [Tells, evFun, F_29, c29, V, flat, h31, k3]
  · by_cases kk : k = k' <;> by_cases nn : n = n' <;> cases ss : sEq s s' <;> simp [Tells, evFun, F_29, c29, V, flat, h31, kk, nn, ss, k3, k3']
set_option maxHeartbeats 4000000 in
theorem t29_gLt (k n : Int) (s : ByteArray) (k' n' : Int) (s' : ByteArray) (h18 : ∀ h, call 18 [.agg [.int .i64 k, .int .i64 n, .str s]] h = .ret (.str (textP k n s)) h) (h18' : ∀ h, call 18 [.agg [.int .i64 k', .int .i64 n', .str s']] h = .ret (.str (textP k' n' s')) h)
    (h31 : ∀ b h, call 31 [.bool b] h = .ret (.agg [.int .i64 2, .int .i64 (b01 b), .str emp]) h) (h41 : ∀ n h, call 41 [.int .i64 n] h = .ret (flat (numRes n)) h)
    (h42 : ∀ g lt eq h, call 42 [.str g, .bool lt, .bool eq] h = .ret (.agg [.int .i64 2, .int .i64 (b01 (cmpB g lt eq)), .str emp]) h) (h43 : ∀ s h, call 43 [.str s] h = .ret (.agg [.int .i64 4, .int .i64 0, .str s]) h)
    (w3 : k = 3 ∧ k' = 3 → wrapF .i64 (n + n') = n + n' ∧ wrapF .i64 (n - n') = n - n' ∧ wrapF .i64 (n * n') = n * n' ∧ wrapF .i64 (n.tdiv n') = n.tdiv n')
    (ca : binStr .add (textP k n s) (textP k' n' s') = some (.str (cat (textP k n s) (textP k' n' s')))) :
    Tells (evFun F call 100 29 [.str gLt, V k n s, V k' n' s'] h) h (flat (binV gLt k n s k' n' s')) := by
  unfold binV ordS ordV
  rcases tri k with rfl | rfl | k3 <;> rcases tri k' with rfl | rfl | k3'
  · simp [Tells, evFun, F_29, c29, V, flat, h42, emp]
  · simp [Tells, evFun, F_29, c29, V, flat, h42, emp]
  · simp [Tells, evFun, F_29, c29, V, flat, h42, emp, k3']
  · simp [Tells, evFun, F_29, c29, V, flat, h42, emp]
  · simp [Tells, evFun, F_29, c29, V, flat, h42, emp]
  · simp [Tells, evFun, F_29, c29, V, flat, h42, emp, k3']
  · simp [Tells, evFun, F_29, c29, V, flat, h42, emp, k3]
  · simp [Tells, evFun, F_29, c29, V, flat, h42, emp, k3]
  · simp [Tells, evFun, F_29, c29, V, flat, h42, emp, k3, k3']
set_option maxHeartbeats 4000000 in
theorem t29_gLe (k n : Int) (s : ByteArray) (k' n' : Int) (s' : ByteArray) (h18 : ∀ h, call 18 [.agg [.int .i64 k, .int .i64 n, .str s]] h = .ret (.str (textP k n s)) h) (h18' : ∀ h, call 18 [.agg [.int .i64 k', .int .i64 n', .str s']] h = .ret (.str (textP k' n' s')) h)
    (h31 : ∀ b h, call 31 [.bool b] h = .ret (.agg [.int .i64 2, .int .i64 (b01 b), .str emp]) h) (h41 : ∀ n h, call 41 [.int .i64 n] h = .ret (flat (numRes n)) h)
    (h42 : ∀ g lt eq h, call 42 [.str g, .bool lt, .bool eq] h = .ret (.agg [.int .i64 2, .int .i64 (b01 (cmpB g lt eq)), .str emp]) h) (h43 : ∀ s h, call 43 [.str s] h = .ret (.agg [.int .i64 4, .int .i64 0, .str s]) h)
    (w3 : k = 3 ∧ k' = 3 → wrapF .i64 (n + n') = n + n' ∧ wrapF .i64 (n - n') = n - n' ∧ wrapF .i64 (n * n') = n * n' ∧ wrapF .i64 (n.tdiv n') = n.tdiv n')
    (ca : binStr .add (textP k n s) (textP k' n' s') = some (.str (cat (textP k n s) (textP k' n' s')))) :
    Tells (evFun F call 100 29 [.str gLe, V k n s, V k' n' s'] h) h (flat (binV gLe k n s k' n' s')) := by
  unfold binV ordS ordV
  rcases tri k with rfl | rfl | k3 <;> rcases tri k' with rfl | rfl | k3'
  · simp [Tells, evFun, F_29, c29, V, flat, h42, emp]
  · simp [Tells, evFun, F_29, c29, V, flat, h42, emp]
  · simp [Tells, evFun, F_29, c29, V, flat, h42, emp, k3']
  · simp [Tells, evFun, F_29, c29, V, flat, h42, emp]
  · simp [Tells, evFun, F_29, c29, V, flat, h42, emp]
  · simp [Tells, evFun, F_29, c29, V, flat, h42, emp, k3']
  · simp [Tells, evFun, F_29, c29, V, flat, h42, emp, k3]
  · simp [Tells, evFun, F_29, c29, V, flat, h42, emp, k3]
  · simp [Tells, evFun, F_29, c29, V, flat, h42, emp, k3, k3']
set_option maxHeartbeats 4000000 in
theorem t29_gGt (k n : Int) (s : ByteArray) (k' n' : Int) (s' : ByteArray) (h18 : ∀ h, call 18 [.agg [.int .i64 k, .int .i64 n, .str s]] h = .ret (.str (textP k n s)) h) (h18' : ∀ h, call 18 [.agg [.int .i64 k', .int .i64 n', .str s']] h = .ret (.str (textP k' n' s')) h)
    (h31 : ∀ b h, call 31 [.bool b] h = .ret (.agg [.int .i64 2, .int .i64 (b01 b), .str emp]) h) (h41 : ∀ n h, call 41 [.int .i64 n] h = .ret (flat (numRes n)) h)
    (h42 : ∀ g lt eq h, call 42 [.str g, .bool lt, .bool eq] h = .ret (.agg [.int .i64 2, .int .i64 (b01 (cmpB g lt eq)), .str emp]) h) (h43 : ∀ s h, call 43 [.str s] h = .ret (.agg [.int .i64 4, .int .i64 0, .str s]) h)
    (w3 : k = 3 ∧ k' = 3 → wrapF .i64 (n + n') = n + n' ∧ wrapF .i64 (n - n') = n - n' ∧ wrapF .i64 (n * n') = n * n' ∧ wrapF .i64 (n.tdiv n') = n.tdiv n')
    (ca : binStr .add (textP k n s) (textP k' n' s') = some (.str (cat (textP k n s) (textP k' n' s')))) :
    Tells (evFun F call 100 29 [.str gGt, V k n s, V k' n' s'] h) h (flat (binV gGt k n s k' n' s')) := by
  unfold binV ordS ordV
  rcases tri k with rfl | rfl | k3 <;> rcases tri k' with rfl | rfl | k3'
  · simp [Tells, evFun, F_29, c29, V, flat, h42, emp]
  · simp [Tells, evFun, F_29, c29, V, flat, h42, emp]
  · simp [Tells, evFun, F_29, c29, V, flat, h42, emp, k3']
  · simp [Tells, evFun, F_29, c29, V, flat, h42, emp]
  · simp [Tells, evFun, F_29, c29, V, flat, h42, emp]
  · simp [Tells, evFun, F_29, c29, V, flat, h42, emp, k3']
  · simp [Tells, evFun, F_29, c29, V, flat, h42, emp, k3]
  · simp [Tells, evFun, F_29, c29, V, flat, h42, emp, k3]
  · simp [Tells, evFun, F_29, c29, V, flat, h42, emp, k3, k3']
set_option maxHeartbeats 4000000 in
theorem t29_gGe (k n : Int) (s : ByteArray) (k' n' : Int) (s' : ByteArray) (h18 : ∀ h, call 18 [.agg [.int .i64 k, .int .i64 n, .str s]] h = .ret (.str (textP k n s)) h) (h18' : ∀ h, call 18 [.agg [.int .i64 k', .int .i64 n', .str s']] h = .ret (.str (textP k' n' s')) h)
    (h31 : ∀ b h, call 31 [.bool b] h = .ret (.agg [.int .i64 2, .int .i64 (b01 b), .str emp]) h) (h41 : ∀ n h, call 41 [.int .i64 n] h = .ret (flat (numRes n)) h)
    (h42 : ∀ g lt eq h, call 42 [.str g, .bool lt, .bool eq] h = .ret (.agg [.int .i64 2, .int .i64 (b01 (cmpB g lt eq)), .str emp]) h) (h43 : ∀ s h, call 43 [.str s] h = .ret (.agg [.int .i64 4, .int .i64 0, .str s]) h)
    (w3 : k = 3 ∧ k' = 3 → wrapF .i64 (n + n') = n + n' ∧ wrapF .i64 (n - n') = n - n' ∧ wrapF .i64 (n * n') = n * n' ∧ wrapF .i64 (n.tdiv n') = n.tdiv n')
    (ca : binStr .add (textP k n s) (textP k' n' s') = some (.str (cat (textP k n s) (textP k' n' s')))) :
    Tells (evFun F call 100 29 [.str gGe, V k n s, V k' n' s'] h) h (flat (binV gGe k n s k' n' s')) := by
  unfold binV ordS ordV
  rcases tri k with rfl | rfl | k3 <;> rcases tri k' with rfl | rfl | k3'
  · simp [Tells, evFun, F_29, c29, V, flat, h42, emp]
  · simp [Tells, evFun, F_29, c29, V, flat, h42, emp]
  · simp [Tells, evFun, F_29, c29, V, flat, h42, emp, k3']
  · simp [Tells, evFun, F_29, c29, V, flat, h42, emp]
  · simp [Tells, evFun, F_29, c29, V, flat, h42, emp]
  · simp [Tells, evFun, F_29, c29, V, flat, h42, emp, k3']
  · simp [Tells, evFun, F_29, c29, V, flat, h42, emp, k3]
  · simp [Tells, evFun, F_29, c29, V, flat, h42, emp, k3]
  · simp [Tells, evFun, F_29, c29, V, flat, h42, emp, k3, k3']
end Go.Proofs.Va
