import Derived.Test.YtfijbgpegfnlbaaDoorVaAr
set_option linter.unusedSimpArgs false
set_option linter.unusedVariables false
open Go.Ev
namespace Go.Proofs.Va
variable {call : Calls'} {h : H}
theorem t25_gEq (h21 : ∀ k n s k' n' s' h, call 21 [.agg [.int .i64 k, .int .i64 n, .str s], .agg [.int .i64 k', .int .i64 n', .str s']] h = .ret (.bool (sameP k n s k' n' s')) h) (h36 : ∀ b h, call 36 [.bool b] h = .ret (V 2 (b01 b) emp) h)
    (h37 : ∀ g k n s k' n' s' h, call 37 [.str g, .agg [.int .i64 k, .int .i64 n, .str s], .agg [.int .i64 k', .int .i64 n', .str s']] h = .ret (ordV g k n s k' n' s') h) (k n : Int) (s : ByteArray) (k' n' : Int) (s' : ByteArray)
    (h38 : ∀ g h, k = 3 ∧ k' = 3 → call 38 [.str g, .int .i64 n, .int .i64 n'] h = .ret (recV g n n') h) (h39 : ∀ h, call 39 [.agg [.int .i64 k, .int .i64 n, .str s], .agg [.int .i64 k', .int .i64 n', .str s']] h = .ret (joinV (textP k n s) (textP k' n' s')) h) :
    Tells (evFun F call 100 25 [.str gEq, V k n s, V k' n' s'] h) h (binV gEq k n s k' n' s') := by
  unfold binV ordS recS
  simp [Tells, evFun, F_25, c25, V, h21, h36]
theorem t25_gNe (h21 : ∀ k n s k' n' s' h, call 21 [.agg [.int .i64 k, .int .i64 n, .str s], .agg [.int .i64 k', .int .i64 n', .str s']] h = .ret (.bool (sameP k n s k' n' s')) h) (h36 : ∀ b h, call 36 [.bool b] h = .ret (V 2 (b01 b) emp) h)
    (h37 : ∀ g k n s k' n' s' h, call 37 [.str g, .agg [.int .i64 k, .int .i64 n, .str s], .agg [.int .i64 k', .int .i64 n', .str s']] h = .ret (ordV g k n s k' n' s') h) (k n : Int) (s : ByteArray) (k' n' : Int) (s' : ByteArray)
    (h38 : ∀ g h, k = 3 ∧ k' = 3 → call 38 [.str g, .int .i64 n, .int .i64 n'] h = .ret (recV g n n') h) (h39 : ∀ h, call 39 [.agg [.int .i64 k, .int .i64 n, .str s], .agg [.int .i64 k', .int .i64 n', .str s']] h = .ret (joinV (textP k n s) (textP k' n' s')) h) :
    Tells (evFun F call 100 25 [.str gNe, V k n s, V k' n' s'] h) h (binV gNe k n s k' n' s') := by
  unfold binV ordS recS
  simp [Tells, evFun, F_25, c25, V, h21, h36]
theorem t25_gLt (h21 : ∀ k n s k' n' s' h, call 21 [.agg [.int .i64 k, .int .i64 n, .str s], .agg [.int .i64 k', .int .i64 n', .str s']] h = .ret (.bool (sameP k n s k' n' s')) h) (h36 : ∀ b h, call 36 [.bool b] h = .ret (V 2 (b01 b) emp) h)
    (h37 : ∀ g k n s k' n' s' h, call 37 [.str g, .agg [.int .i64 k, .int .i64 n, .str s], .agg [.int .i64 k', .int .i64 n', .str s']] h = .ret (ordV g k n s k' n' s') h) (k n : Int) (s : ByteArray) (k' n' : Int) (s' : ByteArray)
    (h38 : ∀ g h, k = 3 ∧ k' = 3 → call 38 [.str g, .int .i64 n, .int .i64 n'] h = .ret (recV g n n') h) (h39 : ∀ h, call 39 [.agg [.int .i64 k, .int .i64 n, .str s], .agg [.int .i64 k', .int .i64 n', .str s']] h = .ret (joinV (textP k n s) (textP k' n' s')) h) :
    Tells (evFun F call 100 25 [.str gLt, V k n s, V k' n' s'] h) h (binV gLt k n s k' n' s') := by
  unfold binV ordS recS
  obtain ⟨a, b, c, d, hz⟩ := ordV_two gLt k n s k' n' s'
  simp [Tells, evFun, F_25, c25, V, h37, hz]
theorem t25_gLe (h21 : ∀ k n s k' n' s' h, call 21 [.agg [.int .i64 k, .int .i64 n, .str s], .agg [.int .i64 k', .int .i64 n', .str s']] h = .ret (.bool (sameP k n s k' n' s')) h) (h36 : ∀ b h, call 36 [.bool b] h = .ret (V 2 (b01 b) emp) h)
    (h37 : ∀ g k n s k' n' s' h, call 37 [.str g, .agg [.int .i64 k, .int .i64 n, .str s], .agg [.int .i64 k', .int .i64 n', .str s']] h = .ret (ordV g k n s k' n' s') h) (k n : Int) (s : ByteArray) (k' n' : Int) (s' : ByteArray)
    (h38 : ∀ g h, k = 3 ∧ k' = 3 → call 38 [.str g, .int .i64 n, .int .i64 n'] h = .ret (recV g n n') h) (h39 : ∀ h, call 39 [.agg [.int .i64 k, .int .i64 n, .str s], .agg [.int .i64 k', .int .i64 n', .str s']] h = .ret (joinV (textP k n s) (textP k' n' s')) h) :
    Tells (evFun F call 100 25 [.str gLe, V k n s, V k' n' s'] h) h (binV gLe k n s k' n' s') := by
  unfold binV ordS recS
  obtain ⟨a, b, c, d, hz⟩ := ordV_two gLe k n s k' n' s'
  simp [Tells, evFun, F_25, c25, V, h37, hz]
theorem t25_gGt (h21 : ∀ k n s k' n' s' h, call 21 [.agg [.int .i64 k, .int .i64 n, .str s], .agg [.int .i64 k', .int .i64 n', .str s']] h = .ret (.bool (sameP k n s k' n' s')) h) (h36 : ∀ b h, call 36 [.bool b] h = .ret (V 2 (b01 b) emp) h)
    (h37 : ∀ g k n s k' n' s' h, call 37 [.str g, .agg [.int .i64 k, .int .i64 n, .str s], .agg [.int .i64 k', .int .i64 n', .str s']] h = .ret (ordV g k n s k' n' s') h) (k n : Int) (s : ByteArray) (k' n' : Int) (s' : ByteArray)
    (h38 : ∀ g h, k = 3 ∧ k' = 3 → call 38 [.str g, .int .i64 n, .int .i64 n'] h = .ret (recV g n n') h) (h39 : ∀ h, call 39 [.agg [.int .i64 k, .int .i64 n, .str s], .agg [.int .i64 k', .int .i64 n', .str s']] h = .ret (joinV (textP k n s) (textP k' n' s')) h) :
    Tells (evFun F call 100 25 [.str gGt, V k n s, V k' n' s'] h) h (binV gGt k n s k' n' s') := by
  unfold binV ordS recS
  obtain ⟨a, b, c, d, hz⟩ := ordV_two gGt k n s k' n' s'
  simp [Tells, evFun, F_25, c25, V, h37, hz]
theorem t25_gGe (h21 : ∀ k n s k' n' s' h, call 21 [.agg [.int .i64 k, .int .i64 n, .str s], .agg [.int .i64 k', .int .i64 n', .str s']] h = .ret (.bool (sameP k n s k' n' s')) h) (h36 : ∀ b h, call 36 [.bool b] h = .ret (V 2 (b01 b) emp) h)
    (h37 : ∀ g k n s k' n' s' h, call 37 [.str g, .agg [.int .i64 k, .int .i64 n, .str s], .agg [.int .i64 k', .int .i64 n', .str s']] h = .ret (ordV g k n s k' n' s') h) (k n : Int) (s : ByteArray) (k' n' : Int) (s' : ByteArray)
    (h38 : ∀ g h, k = 3 ∧ k' = 3 → call 38 [.str g, .int .i64 n, .int .i64 n'] h = .ret (recV g n n') h) (h39 : ∀ h, call 39 [.agg [.int .i64 k, .int .i64 n, .str s], .agg [.int .i64 k', .int .i64 n', .str s']] h = .ret (joinV (textP k n s) (textP k' n' s')) h) :
    Tells (evFun F call 100 25 [.str gGe, V k n s, V k' n' s'] h) h (binV gGe k n s k' n' s') := by
  unfold binV ordS recS
  obtain ⟨a, b, c, d, hz⟩ := ordV_two gGe k n s k' n' s'
  simp [Tells, evFun, F_25, c25, V, h37, hz]
theorem t25_gAdd (h21 : ∀ k n s k' n' s' h, call 21 [.agg [.int .i64 k, .int .i64 n, .str s], .agg [.int .i64 k', .int .i64 n', .str s']] h = .ret (.bool (sameP k n s k' n' s')) h) (h36 : ∀ b h, call 36 [.bool b] h = .ret (V 2 (b01 b) emp) h)
    (h37 : ∀ g k n s k' n' s' h, call 37 [.str g, .agg [.int .i64 k, .int .i64 n, .str s], .agg [.int .i64 k', .int .i64 n', .str s']] h = .ret (ordV g k n s k' n' s') h) (k n : Int) (s : ByteArray) (k' n' : Int) (s' : ByteArray)
    (h38 : ∀ g h, k = 3 ∧ k' = 3 → call 38 [.str g, .int .i64 n, .int .i64 n'] h = .ret (recV g n n') h) (h39 : ∀ h, call 39 [.agg [.int .i64 k, .int .i64 n, .str s], .agg [.int .i64 k', .int .i64 n', .str s']] h = .ret (joinV (textP k n s) (textP k' n' s')) h) :
    Tells (evFun F call 100 25 [.str gAdd, V k n s, V k' n' s'] h) h (binV gAdd k n s k' n' s') := by
  unfold binV ordS recS
  obtain ⟨j1, j2, j3, j4, hj⟩ := joinV_two (textP k n s) (textP k' n' s')
  obtain ⟨a, b, c, d, hz⟩ := recV_two gAdd n n'
  by_cases k3 : k = 3 <;> by_cases k3' : k' = 3 <;> by_cases k4 : k = 4 <;> by_cases k4' : k' = 4 <;> first
    | omega
    | (have h38 := fun h => h38 gAdd h ⟨k3, k3'⟩
       simp [Tells, evFun, F_25, c25, V, h38, hz, k3, k3']; done)
    | (try subst k4
       try subst k4'
       try subst k3
       try subst k3'
       simp [Tells, evFun, F_25, c25, V, h39, hj, *, emp]; done)
theorem t25_gSub (h21 : ∀ k n s k' n' s' h, call 21 [.agg [.int .i64 k, .int .i64 n, .str s], .agg [.int .i64 k', .int .i64 n', .str s']] h = .ret (.bool (sameP k n s k' n' s')) h) (h36 : ∀ b h, call 36 [.bool b] h = .ret (V 2 (b01 b) emp) h)
    (h37 : ∀ g k n s k' n' s' h, call 37 [.str g, .agg [.int .i64 k, .int .i64 n, .str s], .agg [.int .i64 k', .int .i64 n', .str s']] h = .ret (ordV g k n s k' n' s') h) (k n : Int) (s : ByteArray) (k' n' : Int) (s' : ByteArray)
    (h38 : ∀ g h, k = 3 ∧ k' = 3 → call 38 [.str g, .int .i64 n, .int .i64 n'] h = .ret (recV g n n') h) (h39 : ∀ h, call 39 [.agg [.int .i64 k, .int .i64 n, .str s], .agg [.int .i64 k', .int .i64 n', .str s']] h = .ret (joinV (textP k n s) (textP k' n' s')) h) :
    Tells (evFun F call 100 25 [.str gSub, V k n s, V k' n' s'] h) h (binV gSub k n s k' n' s') := by
  unfold binV ordS recS
  obtain ⟨j1, j2, j3, j4, hj⟩ := joinV_two (textP k n s) (textP k' n' s')
  obtain ⟨a, b, c, d, hz⟩ := recV_two gSub n n'
  by_cases k3 : k = 3 <;> by_cases k3' : k' = 3 <;> by_cases k4 : k = 4 <;> by_cases k4' : k' = 4 <;> first
    | omega
    | (have h38 := fun h => h38 gSub h ⟨k3, k3'⟩
       simp [Tells, evFun, F_25, c25, V, h38, hz, k3, k3']; done)
    | (try subst k4
       try subst k4'
       try subst k3
       try subst k3'
       simp [Tells, evFun, F_25, c25, V, h39, hj, *, emp]; done)
theorem t25_gMul (h21 : ∀ k n s k' n' s' h, call 21 [.agg [.int .i64 k, .int .i64 n, .str s], .agg [.int .i64 k', .int .i64 n', .str s']] h = .ret (.bool (sameP k n s k' n' s')) h) (h36 : ∀ b h, call 36 [.bool b] h = .ret (V 2 (b01 b) emp) h)
    (h37 : ∀ g k n s k' n' s' h, call 37 [.str g, .agg [.int .i64 k, .int .i64 n, .str s], .agg [.int .i64 k', .int .i64 n', .str s']] h = .ret (ordV g k n s k' n' s') h) (k n : Int) (s : ByteArray) (k' n' : Int) (s' : ByteArray)
    (h38 : ∀ g h, k = 3 ∧ k' = 3 → call 38 [.str g, .int .i64 n, .int .i64 n'] h = .ret (recV g n n') h) (h39 : ∀ h, call 39 [.agg [.int .i64 k, .int .i64 n, .str s], .agg [.int .i64 k', .int .i64 n', .str s']] h = .ret (joinV (textP k n s) (textP k' n' s')) h) :
    Tells (evFun F call 100 25 [.str gMul, V k n s, V k' n' s'] h) h (binV gMul k n s k' n' s') := by
  unfold binV ordS recS
  obtain ⟨j1, j2, j3, j4, hj⟩ := joinV_two (textP k n s) (textP k' n' s')
  obtain ⟨a, b, c, d, hz⟩ := recV_two gMul n n'
  by_cases k3 : k = 3 <;> by_cases k3' : k' = 3 <;> by_cases k4 : k = 4 <;> by_cases k4' : k' = 4 <;> first
    | omega
    | (have h38 := fun h => h38 gMul h ⟨k3, k3'⟩
       simp [Tells, evFun, F_25, c25, V, h38, hz, k3, k3']; done)
    | (try subst k4
       try subst k4'
       try subst k3
       try subst k3'
       simp [Tells, evFun, F_25, c25, V, h39, hj, *, emp]; done)
theorem t25_gDiv (h21 : ∀ k n s k' n' s' h, call 21 [.agg [.int .i64 k, .int .i64 n, .str s], .agg [.int .i64 k', .int .i64 n', .str s']] h = .ret (.bool (sameP k n s k' n' s')) h) (h36 : ∀ b h, call 36 [.bool b] h = .ret (V 2 (b01 b) emp) h)
    (h37 : ∀ g k n s k' n' s' h, call 37 [.str g, .agg [.int .i64 k, .int .i64 n, .str s], .agg [.int .i64 k', .int .i64 n', .str s']] h = .ret (ordV g k n s k' n' s') h) (k n : Int) (s : ByteArray) (k' n' : Int) (s' : ByteArray)
    (h38 : ∀ g h, k = 3 ∧ k' = 3 → call 38 [.str g, .int .i64 n, .int .i64 n'] h = .ret (recV g n n') h) (h39 : ∀ h, call 39 [.agg [.int .i64 k, .int .i64 n, .str s], .agg [.int .i64 k', .int .i64 n', .str s']] h = .ret (joinV (textP k n s) (textP k' n' s')) h) :
    Tells (evFun F call 100 25 [.str gDiv, V k n s, V k' n' s'] h) h (binV gDiv k n s k' n' s') := by
  unfold binV ordS recS
  obtain ⟨j1, j2, j3, j4, hj⟩ := joinV_two (textP k n s) (textP k' n' s')
  obtain ⟨a, b, c, d, hz⟩ := recV_two gDiv n n'
  by_cases k3 : k = 3 <;> by_cases k3' : k' = 3 <;> by_cases k4 : k = 4 <;> by_cases k4' : k' = 4 <;> first
    | omega
    | (have h38 := fun h => h38 gDiv h ⟨k3, k3'⟩
       simp [Tells, evFun, F_25, c25, V, h38, hz, k3, k3']; done)
    | (try subst k4
       try subst k4'
       try subst k3
       try subst k3'
       simp [Tells, evFun, F_25, c25, V, h39, hj, *, emp]; done)
theorem t25_gRem (h21 : ∀ k n s k' n' s' h, call 21 [.agg [.int .i64 k, .int .i64 n, .str s], .agg [.int .i64 k', .int .i64 n', .str s']] h = .ret (.bool (sameP k n s k' n' s')) h) (h36 : ∀ b h, call 36 [.bool b] h = .ret (V 2 (b01 b) emp) h)
    (h37 : ∀ g k n s k' n' s' h, call 37 [.str g, .agg [.int .i64 k, .int .i64 n, .str s], .agg [.int .i64 k', .int .i64 n', .str s']] h = .ret (ordV g k n s k' n' s') h) (k n : Int) (s : ByteArray) (k' n' : Int) (s' : ByteArray)
    (h38 : ∀ g h, k = 3 ∧ k' = 3 → call 38 [.str g, .int .i64 n, .int .i64 n'] h = .ret (recV g n n') h) (h39 : ∀ h, call 39 [.agg [.int .i64 k, .int .i64 n, .str s], .agg [.int .i64 k', .int .i64 n', .str s']] h = .ret (joinV (textP k n s) (textP k' n' s')) h) :
    Tells (evFun F call 100 25 [.str gRem, V k n s, V k' n' s'] h) h (binV gRem k n s k' n' s') := by
  unfold binV ordS recS
  obtain ⟨j1, j2, j3, j4, hj⟩ := joinV_two (textP k n s) (textP k' n' s')
  obtain ⟨a, b, c, d, hz⟩ := recV_two gRem n n'
  by_cases k3 : k = 3 <;> by_cases k3' : k' = 3 <;> by_cases k4 : k = 4 <;> by_cases k4' : k' = 4 <;> first
    | omega
    | (have h38 := fun h => h38 gRem h ⟨k3, k3'⟩
       simp [Tells, evFun, F_25, c25, V, h38, hz, k3, k3']; done)
    | (try subst k4
       try subst k4'
       try subst k3
       try subst k3'
       simp [Tells, evFun, F_25, c25, V, h39, hj, *, emp]; done)
theorem t25 (h21 : ∀ k n s k' n' s' h, call 21 [.agg [.int .i64 k, .int .i64 n, .str s], .agg [.int .i64 k', .int .i64 n', .str s']] h = .ret (.bool (sameP k n s k' n' s')) h) (h36 : ∀ b h, call 36 [.bool b] h = .ret (V 2 (b01 b) emp) h)
    (h37 : ∀ g k n s k' n' s' h, call 37 [.str g, .agg [.int .i64 k, .int .i64 n, .str s], .agg [.int .i64 k', .int .i64 n', .str s']] h = .ret (ordV g k n s k' n' s') h) (k n : Int) (s : ByteArray) (k' n' : Int) (s' : ByteArray)
    (h38 : ∀ g h, k = 3 ∧ k' = 3 → call 38 [.str g, .int .i64 n, .int .i64 n'] h = .ret (recV g n n') h) (h39 : ∀ h, call 39 [.agg [.int .i64 k, .int .i64 n, .str s], .agg [.int .i64 k', .int .i64 n', .str s']] h = .ret (joinV (textP k n s) (textP k' n' s')) h) (g : ByteArray) :
    Tells (evFun F call 100 25 [.str g, V k n s, V k' n' s'] h) h (binV g k n s k' n' s') := by
  rcases signs11 g with rfl | rfl | rfl | rfl | rfl | rfl | rfl | rfl | rfl | rfl | rfl | ⟨g1, g2, g3, g4, g5, g6, g7, g8, g9, g10, g11⟩
  · exact t25_gEq h21 h36 h37 k n s k' n' s' h38 h39
  · exact t25_gNe h21 h36 h37 k n s k' n' s' h38 h39
  · exact t25_gLt h21 h36 h37 k n s k' n' s' h38 h39
  · exact t25_gLe h21 h36 h37 k n s k' n' s' h38 h39
  · exact t25_gGt h21 h36 h37 k n s k' n' s' h38 h39
  · exact t25_gGe h21 h36 h37 k n s k' n' s' h38 h39
  · exact t25_gAdd h21 h36 h37 k n s k' n' s' h38 h39
  · exact t25_gSub h21 h36 h37 k n s k' n' s' h38 h39
  · exact t25_gMul h21 h36 h37 k n s k' n' s' h38 h39
  · exact t25_gDiv h21 h36 h37 k n s k' n' s' h38 h39
  · exact t25_gRem h21 h36 h37 k n s k' n' s' h38 h39
  · unfold binV ordS recS
    simp [Tells, evFun, F_25, c25, V, g1, g2, g3, g4, g5, g6, g7, g8, g9, g10, g11, emp]
end Go.Proofs.Va
