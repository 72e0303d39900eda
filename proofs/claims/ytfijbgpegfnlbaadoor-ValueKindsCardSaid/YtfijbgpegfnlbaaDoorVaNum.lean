/- Numbers of values: sums, products, quotients. -/
import Derived.Test.YtfijbgpegfnlbaaDoorVaTop
import Derived.Test.YtfijbgpegfnlbaaDoorEvHeap
set_option linter.unusedSimpArgs false
set_option linter.unusedVariables false
namespace Go.Proofs.Va
open Go.Ev
theorem num_may {n : Int} (hn : numIn n = true) : mayP 3 n emp = true := by
  simp [numIn] at hn
  simp [mayP, inP, noS, emp]; omega
theorem num_wrap {n : Int} (hn : numIn n = true) : wrapF .i64 n = n := by
  simp [numIn] at hn
  exact wrap64 (by omega) (by omega)
/-- A number, if it may be; else that it may not. -/
theorem res_two (z : Int) : ∃ k n e, numRes z = two k n emp e ∧ ((numIn z = true ∧ (-2147483648 ≤ z ∧ z ≤ 2147483647) ∧ k = 3 ∧ n = z ∧ e = 0) ∨ (numIn z = false ∧ (z < -2147483648 ∨ 2147483647 < z) ∧ k = 0 ∧ n = 0 ∧ e = 7)) := by
  unfold numRes
  cases h : numIn z
  · exact ⟨0, 0, 7, rfl, .inr ⟨rfl, by simp [numIn] at h; omega, rfl, rfl, rfl⟩⟩
  · exact ⟨3, z, 0, rfl, .inl ⟨rfl, by simp [numIn] at h; omega, rfl, rfl, rfl⟩⟩
/-- A quotient, and a rest: both are told but where the divisor is 0, or the quotient is none. -/
theorem div_two {a b : Int} (ha : numIn a = true) (hb : numIn b = true) : ∃ k n e k' n' e', (if b = 0 then two 0 0 emp 7 else numRes (a.tdiv b)) = two k n emp e ∧ (if b = 0 then two 0 0 emp 7 else numRes (a.tmod b)) = two k' n' emp e' ∧
    ((b = 0 ∧ e = 7 ∧ e' = 7) ∨ (b ≠ 0 ∧ a = -2147483648 ∧ b = -1 ∧ e = 7 ∧ e' = 0) ∨ (b ≠ 0 ∧ (a ≠ -2147483648 ∨ (a = -2147483648 ∧ b ≠ -1)) ∧ e = 0 ∧ e' = 0 ∧ wrapF .i64 (n * b) = n * b ∧ n * b + n' = a ∧ wrapF .i64 (n' * n') = n' * n' ∧ wrapF .i64 (b * b) = b * b ∧ n' * n' < b * b ∧ wrapF .i64 a = a ∧ (n' = 0 ∨ (n' ≠ 0 ∧ decide (n' < 0) = decide (a < 0))))) := by
  simp [numIn] at ha hb
  by_cases b0 : b = 0
  · exact ⟨0, 0, 7, 0, 0, 7, by simp [b0], by simp [b0], .inl ⟨b0, rfl, rfl⟩⟩
  have h2 : (a.tdiv b).natAbs ≤ a.natAbs := by rw [Int.natAbs_tdiv]; exact Nat.div_le_self _ _
  have h3 : (a.tmod b).natAbs < b.natAbs := by rw [Int.natAbs_tmod]; exact Nat.mod_lt _ (by omega)
  have hr : numIn (a.tmod b) = true := by simp [numIn]; omega
  have hs := Int.tmod_add_mul_tdiv a b
  by_cases ab : a = -2147483648 ∧ b = -1
  · obtain ⟨rfl, rfl⟩ := ab
    exact ⟨0, 0, 7, 3, 0, 0, rfl, rfl, .inr (.inl ⟨b0, rfl, rfl, rfl, rfl⟩)⟩
  have hq : numIn (a.tdiv b) = true := by
    simp [numIn]
    by_cases hb1 : b.natAbs = 1
    · have : b = 1 ∨ b = -1 := by omega
      rcases this with rfl | rfl
      · simp; omega
      · simp; omega
    · have h4 : (a.tdiv b).natAbs ≤ a.natAbs / 2 := by
        rw [Int.natAbs_tdiv]; exact Nat.div_le_div_left (by omega) (by decide)
      omega
  have e1 : a.tdiv b * b + a.tmod b = a := by rw [Int.mul_comm]; omega
  have h5 : (a.tmod b * a.tmod b).natAbs < (b * b).natAbs := by rw [Int.natAbs_mul, Int.natAbs_mul]; exact Nat.mul_lt_mul'' h3 h3
  have h6 : (b * b).natAbs ≤ 2147483648 * 2147483648 := by rw [Int.natAbs_mul]; exact Nat.mul_le_mul (by omega) (by omega)
  have h7 : 0 ≤ a.tmod b * a.tmod b := by
    rcases Int.le_total 0 (a.tmod b) with h | h
    · exact Int.mul_nonneg h h
    · exact Int.mul_nonneg_of_nonpos_of_nonpos h h
  have h8 : 0 ≤ b * b := by
    rcases Int.le_total 0 b with h | h
    · exact Int.mul_nonneg h h
    · exact Int.mul_nonneg_of_nonpos_of_nonpos h h
  have h9 : a.tmod b = 0 ∨ a.tmod b ≠ 0 ∧ decide (a.tmod b < 0) = decide (a < 0) := by
    rcases Int.lt_or_le a 0 with h | h
    · have : a.tmod b ≤ 0 := by
        have := Int.tmod_nonneg (a := -a) b (by omega)
        rw [Int.neg_tmod] at this; omega
      by_cases hz : a.tmod b = 0
      · exact .inl hz
      · exact .inr ⟨hz, by simp [h]; omega⟩
    · have := Int.tmod_nonneg (a := a) b h
      by_cases hz : a.tmod b = 0
      · exact .inl hz
      · exact .inr ⟨hz, by simp; omega⟩
  refine ⟨3, a.tdiv b, 0, 3, a.tmod b, 0, ?_, ?_, .inr (.inr ⟨b0, by omega, rfl, rfl, ?_, e1, ?_, ?_, ?_, ?_, h9⟩)⟩
  · simp [b0, numRes, hq]
  · simp [b0, numRes, hr]
  · exact wrap64 (by omega) (by omega)
  · exact wrap64 (by omega) (by omega)
  · exact wrap64 (by omega) (by omega)
  · omega
  · exact wrap64 (by omega) (by omega)
theorem num_i32 {n : Int} (h : (Lit.int .i32 n).wf = true) : numIn n = true := by
  simp [Lit.wf, IntKind.min, IntKind.max, IntKind.bits, IntKind.signed] at h
  simp [numIn]; omega
theorem nat_u8 {n : Int} (h : (Lit.int .u8 n).wf = true) : ∃ m : Nat, n = m ∧ m ≤ 255 := by
  simp [Lit.wf, IntKind.min, IntKind.max, IntKind.bits, IntKind.signed] at h
  obtain ⟨m, rfl⟩ := Int.eq_ofNat_of_zero_le h.1
  exact ⟨m, rfl, by omega⟩
theorem nat_u16 {n : Int} (h : (Lit.int .u16 n).wf = true) : ∃ m : Nat, n = m ∧ m ≤ 65535 := by
  simp [Lit.wf, IntKind.min, IntKind.max, IntKind.bits, IntKind.signed] at h
  obtain ⟨m, rfl⟩ := Int.eq_ofNat_of_zero_le h.1
  exact ⟨m, rfl, by omega⟩
end Go.Proofs.Va
