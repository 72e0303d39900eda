import Derived.Test.YtfijbgpegfnlbaaDoorVaRef
set_option linter.unusedSimpArgs false
set_option linter.unusedVariables false
namespace Go.Proofs.Va
open Go.Ev
variable {call : Calls'} {h : H}
set_option maxHeartbeats 4000000 in
theorem t29_gSub (k n : Int) (s : ByteArray) (k' n' : Int) (s' : ByteArray) (h18 : ∀ h, call 18 [.agg [.int .i64 k, .int .i64 n, .str s]] h = .ret (.str (textP k n s)) h) (h18' : ∀ h, call 18 [.agg [.int .i64 k', .int .i64 n', .str s']] h = .ret (.str (textP k' n' s')) h)
    (h31 : ∀ b h, call 31 [.bool b] h = .ret (.agg [.int .i64 2, .int .i64 (b01 b), .str emp]) h) (h41 : ∀ n h, call 41 [.int .i64 n] h = .ret (flat (numRes n)) h)
    (h42 : ∀ g lt eq h, call 42 [.str g, .bool lt, .bool eq] h = .ret (.agg [.int .i64 2, .int .i64 (b01 (cmpB g lt eq)), .str emp]) h) (h43 : ∀ s h, call 43 [.str s] h = .ret (.agg [.int .i64 4, .int .i64 0, .str s]) h)
    (w3 : k = 3 ∧ k' = 3 → wrapF .i64 (n + n') = n + n' ∧ wrapF .i64 (n - n') = n - n' ∧ wrapF .i64 (n * n') = n * n' ∧ wrapF .i64 (n.tdiv n') = n.tdiv n')
    (ca : binStr .add (textP k n s) (textP k' n' s') = some (.str (cat (textP k n s) (textP k' n' s')))) :
    Tells (evFun F call 100 29 [.str gSub, V k n s, V k' n' s'] h) h (flat (binV gSub k n s k' n' s')) := by
  unfold binV ordS recS recV joinV
  obtain ⟨a, b, c, d, hz⟩ := numRes_two (n - n')
  rcases tri k with rfl | rfl | k3 <;> rcases tri k' with rfl | rfl | k3'
  · simp [Tells, evFun, F_29, c29, V, flat, h41, hz, (w3 ⟨rfl, rfl⟩).1, (w3 ⟨rfl, rfl⟩).2.1, (w3 ⟨rfl, rfl⟩).2.2.1]
  · simp [Tells, evFun, F_29, c29, V, flat, emp]
  · simp [Tells, evFun, F_29, c29, V, flat, emp, k3']
  · simp [Tells, evFun, F_29, c29, V, flat, emp]
  · simp [Tells, evFun, F_29, c29, V, flat, emp]
  · simp [Tells, evFun, F_29, c29, V, flat, emp, k3']
  · simp [Tells, evFun, F_29, c29, V, flat, emp, k3]
  · simp [Tells, evFun, F_29, c29, V, flat, emp, k3]
  · simp [Tells, evFun, F_29, c29, V, flat, emp, k3, k3']
set_option maxHeartbeats 4000000 in
theorem t29_gMul (k n : Int) (s : ByteArray) (k' n' : Int) (s' : ByteArray) (h18 : ∀ h, call 18 [.agg [.int .i64 k, .int .i64 n, .str s]] h = .ret (.str (textP k n s)) h) (h18' : ∀ h, call 18 [.agg [.int .i64 k', .int .i64 n', .str s']] h = .ret (.str (textP k' n' s')) h)
    (h31 : ∀ b h, call 31 [.bool b] h = .ret (.agg [.int .i64 2, .int .i64 (b01 b), .str emp]) h) (h41 : ∀ n h, call 41 [.int .i64 n] h = .ret (flat (numRes n)) h)
    (h42 : ∀ g lt eq h, call 42 [.str g, .bool lt, .bool eq] h = .ret (.agg [.int .i64 2, .int .i64 (b01 (cmpB g lt eq)), .str emp]) h) (h43 : ∀ s h, call 43 [.str s] h = .ret (.agg [.int .i64 4, .int .i64 0, .str s]) h)
    (w3 : k = 3 ∧ k' = 3 → wrapF .i64 (n + n') = n + n' ∧ wrapF .i64 (n - n') = n - n' ∧ wrapF .i64 (n * n') = n * n' ∧ wrapF .i64 (n.tdiv n') = n.tdiv n')
    (ca : binStr .add (textP k n s) (textP k' n' s') = some (.str (cat (textP k n s) (textP k' n' s')))) :
    Tells (evFun F call 100 29 [.str gMul, V k n s, V k' n' s'] h) h (flat (binV gMul k n s k' n' s')) := by
  unfold binV ordS recS recV joinV
  obtain ⟨a, b, c, d, hz⟩ := numRes_two (n * n')
  rcases tri k with rfl | rfl | k3 <;> rcases tri k' with rfl | rfl | k3'
  · simp [Tells, evFun, F_29, c29, V, flat, h41, hz, (w3 ⟨rfl, rfl⟩).1, (w3 ⟨rfl, rfl⟩).2.1, (w3 ⟨rfl, rfl⟩).2.2.1]
  · simp [Tells, evFun, F_29, c29, V, flat, emp]
  · simp [Tells, evFun, F_29, c29, V, flat, emp, k3']
  · simp [Tells, evFun, F_29, c29, V, flat, emp]
  · simp [Tells, evFun, F_29, c29, V, flat, emp]
  · simp [Tells, evFun, F_29, c29, V, flat, emp, k3']
  · simp [Tells, evFun, F_29, c29, V, flat, emp, k3]
  · simp [Tells, evFun, F_29, c29, V, flat, emp, k3]
  · simp [Tells, evFun, F_29, c29, V, flat, emp, k3, k3']
set_option maxHeartbeats 4000000 in
theorem t29_gDiv (k n : Int) (s : ByteArray) (k' n' : Int) (s' : ByteArray) (h18 : ∀ h, call 18 [.agg [.int .i64 k, .int .i64 n, .str s]] h = .ret (.str (textP k n s)) h) (h18' : ∀ h, call 18 [.agg [.int .i64 k', .int .i64 n', .str s']] h = .ret (.str (textP k' n' s')) h)
    (h31 : ∀ b h, call 31 [.bool b] h = .ret (.agg [.int .i64 2, .int .i64 (b01 b), .str emp]) h) (h41 : ∀ n h, call 41 [.int .i64 n] h = .ret (flat (numRes n)) h)
    (h42 : ∀ g lt eq h, call 42 [.str g, .bool lt, .bool eq] h = .ret (.agg [.int .i64 2, .int .i64 (b01 (cmpB g lt eq)), .str emp]) h) (h43 : ∀ s h, call 43 [.str s] h = .ret (.agg [.int .i64 4, .int .i64 0, .str s]) h)
    (w3 : k = 3 ∧ k' = 3 → wrapF .i64 (n + n') = n + n' ∧ wrapF .i64 (n - n') = n - n' ∧ wrapF .i64 (n * n') = n * n' ∧ wrapF .i64 (n.tdiv n') = n.tdiv n')
    (ca : binStr .add (textP k n s) (textP k' n' s') = some (.str (cat (textP k n s) (textP k' n' s')))) :
    Tells (evFun F call 100 29 [.str gDiv, V k n s, V k' n' s'] h) h (flat (binV gDiv k n s k' n' s')) := by
  unfold binV ordS recS recV joinV
  obtain ⟨a, b, c, d, hz⟩ := numRes_two (n.tdiv n')
  rcases tri k with rfl | rfl | k3 <;> rcases tri k' with rfl | rfl | k3'
  · by_cases n0 : n' = 0 <;> simp [Tells, evFun, F_29, c29, V, flat, h41, hz, (w3 ⟨rfl, rfl⟩).2.2.2, n0, emp]
  · simp [Tells, evFun, F_29, c29, V, flat, emp]
  · simp [Tells, evFun, F_29, c29, V, flat, emp, k3']
  · simp [Tells, evFun, F_29, c29, V, flat, emp]
  · simp [Tells, evFun, F_29, c29, V, flat, emp]
  · simp [Tells, evFun, F_29, c29, V, flat, emp, k3']
  · simp [Tells, evFun, F_29, c29, V, flat, emp, k3]
  · simp [Tells, evFun, F_29, c29, V, flat, emp, k3]
  · simp [Tells, evFun, F_29, c29, V, flat, emp, k3, k3']
set_option maxHeartbeats 4000000 in
theorem t29_gRem (k n : Int) (s : ByteArray) (k' n' : Int) (s' : ByteArray) (h18 : ∀ h, call 18 [.agg [.int .i64 k, .int .i64 n, .str s]] h = .ret (.str (textP k n s)) h) (h18' : ∀ h, call 18 [.agg [.int .i64 k', .int .i64 n', .str s']] h = .ret (.str (textP k' n' s')) h)
    (h31 : ∀ b h, call 31 [.bool b] h = .ret (.agg [.int .i64 2, .int .i64 (b01 b), .str emp]) h) (h41 : ∀ n h, call 41 [.int .i64 n] h = .ret (flat (numRes n)) h)
    (h42 : ∀ g lt eq h, call 42 [.str g, .bool lt, .bool eq] h = .ret (.agg [.int .i64 2, .int .i64 (b01 (cmpB g lt eq)), .str emp]) h) (h43 : ∀ s h, call 43 [.str s] h = .ret (.agg [.int .i64 4, .int .i64 0, .str s]) h)
    (w3 : k = 3 ∧ k' = 3 → wrapF .i64 (n + n') = n + n' ∧ wrapF .i64 (n - n') = n - n' ∧ wrapF .i64 (n * n') = n * n' ∧ wrapF .i64 (n.tdiv n') = n.tdiv n')
    (ca : binStr .add (textP k n s) (textP k' n' s') = some (.str (cat (textP k n s) (textP k' n' s')))) :
    Tells (evFun F call 100 29 [.str gRem, V k n s, V k' n' s'] h) h (flat (binV gRem k n s k' n' s')) := by
  unfold binV ordS recS recV joinV
  obtain ⟨a, b, c, d, hz⟩ := numRes_two (n.tmod n')
  rcases tri k with rfl | rfl | k3 <;> rcases tri k' with rfl | rfl | k3'
  · by_cases n0 : n' = 0 <;> simp [Tells, evFun, F_29, c29, V, flat, h41, hz, (w3 ⟨rfl, rfl⟩).2.2.2, n0, emp]
  · simp [Tells, evFun, F_29, c29, V, flat, emp]
  · simp [Tells, evFun, F_29, c29, V, flat, emp, k3']
  · simp [Tells, evFun, F_29, c29, V, flat, emp]
  · simp [Tells, evFun, F_29, c29, V, flat, emp]
  · simp [Tells, evFun, F_29, c29, V, flat, emp, k3']
  · simp [Tells, evFun, F_29, c29, V, flat, emp, k3]
  · simp [Tells, evFun, F_29, c29, V, flat, emp, k3]
  · simp [Tells, evFun, F_29, c29, V, flat, emp, k3, k3']
theorem t29_none (k n : Int) (s : ByteArray) (k' n' : Int) (s' : ByteArray) (h18 : ∀ h, call 18 [.agg [.int .i64 k, .int .i64 n, .str s]] h = .ret (.str (textP k n s)) h) (h18' : ∀ h, call 18 [.agg [.int .i64 k', .int .i64 n', .str s']] h = .ret (.str (textP k' n' s')) h)
    (h31 : ∀ b h, call 31 [.bool b] h = .ret (.agg [.int .i64 2, .int .i64 (b01 b), .str emp]) h) (h41 : ∀ n h, call 41 [.int .i64 n] h = .ret (flat (numRes n)) h)
    (h42 : ∀ g lt eq h, call 42 [.str g, .bool lt, .bool eq] h = .ret (.agg [.int .i64 2, .int .i64 (b01 (cmpB g lt eq)), .str emp]) h) (h43 : ∀ s h, call 43 [.str s] h = .ret (.agg [.int .i64 4, .int .i64 0, .str s]) h)
    (w3 : k = 3 ∧ k' = 3 → wrapF .i64 (n + n') = n + n' ∧ wrapF .i64 (n - n') = n - n' ∧ wrapF .i64 (n * n') = n * n' ∧ wrapF .i64 (n.tdiv n') = n.tdiv n')
    (ca : binStr .add (textP k n s) (textP k' n' s') = some (.str (cat (textP k n s) (textP k' n' s')))) (g : ByteArray) (g1 : sEq g gEq = false) (g2 : sEq g gNe = false) (g3 : sEq g gLt = false) (g4 : sEq g gLe = false) (g5 : sEq g gGt = false) (g6 : sEq g gGe = false) (g7 : sEq g gAdd = false) (g8 : sEq g gSub = false) (g9 : sEq g gMul = false) (g10 : sEq g gDiv = false) (g11 : sEq g gRem = false) :
    Tells (evFun F call 100 29 [.str g, V k n s, V k' n' s'] h) h (flat (binV g k n s k' n' s')) := by
  unfold binV ordS recS
  rcases tri k with rfl | rfl | k3 <;> rcases tri k' with rfl | rfl | k3'
  · simp [Tells, evFun, F_29, c29, V, flat, g1, g2, g3, g4, g5, g6, g7, g8, g9, g10, g11, emp]
  · simp [Tells, evFun, F_29, c29, V, flat, g1, g2, g3, g4, g5, g6, g7, g8, g9, g10, g11, emp]
  · simp [Tells, evFun, F_29, c29, V, flat, g1, g2, g3, g4, g5, g6, g7, g8, g9, g10, g11, emp, k3']
  · simp [Tells, evFun, F_29, c29, V, flat, g1, g2, g3, g4, g5, g6, g7, g8, g9, g10, g11, emp]
  · simp [Tells, evFun, F_29, c29, V, flat, g1, g2, g3, g4, g5, g6, g7, g8, g9, g10, g11, emp]
  · simp [Tells, evFun, F_29, c29, V, flat, g1, g2, g3, g4, g5, g6, g7, g8, g9, g10, g11, emp, k3']
  · simp [Tells, evFun, F_29, c29, V, flat, g1, g2, g3, g4, g5, g6, g7, g8, g9, g10, g11, emp, k3]
  · simp [Tells, evFun, F_29, c29, V, flat, g1, g2, g3, g4, g5, g6, g7, g8, g9, g10, g11, emp, k3]
  · simp [Tells, evFun, F_29, c29, V, flat, g1, g2, g3, g4, g5, g6, g7, g8, g9, g10, g11, emp, k3, k3']
end Go.Proofs.Va
