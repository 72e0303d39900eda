/- Decimals: the reference's digits are strconv.Itoa's. -/
import Derived.Test.YtfijbgpegfnlbaaDoorVaVal
set_option linter.unusedSimpArgs false
set_option linter.unusedVariables false
namespace Go.Proofs.Va
open Go.Ev
def byteS (z : Nat) : ByteArray := ⟨#[UInt8.ofNat z]⟩
def cat (x y : ByteArray) : ByteArray := ⟨(x.data.toList ++ y.data.toList).toArray⟩
theorem itoa_low {n : Int} (h0 : 0 ≤ n) (h1 : n < 10) : itoaS n = byteS (48 + n.toNat) := by
  unfold itoaS byteS Lib.itoa
  rw [if_neg (by omega), Lib.decDigits_one (by omega)]
theorem itoa_high {n : Int} (h1 : 10 ≤ n) : itoaS n = cat (itoaS (n.tdiv 10)) (byteS (48 + (n.tmod 10).toNat)) := by
  obtain ⟨m, rfl⟩ := Int.eq_ofNat_of_zero_le (by omega : 0 ≤ n)
  have hd : (m : Int).tdiv 10 = ((m / 10 : Nat) : Int) := rfl
  have hm : (m : Int).tmod 10 = ((m % 10 : Nat) : Int) := rfl
  unfold itoaS byteS cat Lib.itoa
  rw [hd, hm, if_neg (by omega), if_neg (by omega)]
  simp only [Int.toNat_natCast]
  rw [Lib.decDigits, dif_neg (by omega)]
theorem itoa_neg1 {n : Int} (h0 : n < 0) (h1 : -10 < n) : itoaS n = cat ⟨#[45]⟩ (byteS (48 - n).toNat) := by
  unfold itoaS byteS cat Lib.itoa
  rw [if_pos h0, Lib.decDigits_one (by omega)]
  have : 48 + n.natAbs = (48 - n).toNat := by omega
  rw [this]; rfl
theorem itoa_neg2 {n : Int} (h1 : n ≤ -10) : itoaS n = cat (itoaS (n.tdiv 10)) (byteS (48 - n.tmod 10).toNat) := by
  obtain ⟨m, rfl⟩ : ∃ m : Nat, n = -(m : Int) := ⟨n.natAbs, by omega⟩
  have hd : (-(m : Int)).tdiv 10 = -((m / 10 : Nat) : Int) := by rw [Int.neg_tdiv]; rfl
  have hm : (-(m : Int)).tmod 10 = -((m % 10 : Nat) : Int) := by rw [Int.neg_tmod]; rfl
  unfold itoaS byteS cat Lib.itoa
  rw [hd, hm, if_pos (by omega), if_pos (by omega)]
  have e1 : (-(m : Int)).natAbs = m := by omega
  have e2 : (-((m / 10 : Nat) : Int)).natAbs = m / 10 := by omega
  have e3 : (48 - -((m % 10 : Nat) : Int)).toNat = 48 + m % 10 := by omega
  rw [e1, e2, e3, Lib.decDigits, dif_neg (by omega)]
  simp
theorem nDigits_le (u : Nat) : Lib.nDigits u ≤ u + 1 := by
  induction u using Nat.strongRecOn with
  | _ u ih =>
    by_cases h : u < 10
    · rw [Lib.nDigits_small h]; omega
    · rw [Lib.nDigits_big h]; have := ih (u / 10) (by omega); omega
theorem itoa_size {n : Int} (h : -9223372036854775808 ≤ n) (h' : n ≤ 9223372036854775807) : (itoaS n).data.toList.length ≤ 9223372036854775810 := by
  unfold itoaS Lib.itoa
  have h1 := nDigits_le n.natAbs
  have h2 := nDigits_le n.toNat
  split
  · simp [Lib.decDigits_length]; omega
  · simp [Lib.decDigits_length]; omega
theorem itoa_len (m : Int) : (itoaS m).data.toList.length ≤ m.natAbs + 2 := by
  unfold itoaS Lib.itoa
  have h3 := nDigits_le m.natAbs
  have h4 := nDigits_le m.toNat
  split
  · simp [Lib.decDigits_length]; omega
  · simp [Lib.decDigits_length]; omega
theorem abs10 (n : Int) : (n.tdiv 10).natAbs = n.natAbs / 10 := by rw [Int.natAbs_tdiv]; rfl
theorem itoa_size10 {n : Int} (h : -9223372036854775808 ≤ n) (h' : n ≤ 9223372036854775807) : (itoaS (n.tdiv 10)).data.toList.length + 1 ≤ 9223372036854775807 := by
  have := itoa_len (n.tdiv 10)
  have := abs10 n
  omega
theorem cat_add {x y : ByteArray} (h : x.data.toList.length + y.data.toList.length ≤ 9223372036854775807) : binStr .add x y = some (.str (cat x y)) := by
  unfold binStr cat
  simp only
  rw [Nat.ble_eq_true_of_le h]
theorem div10 (n : Int) : n = 10 * n.tdiv 10 + n.tmod 10 := (Int.mul_tdiv_add_tmod n 10).symm
theorem mod10 (n : Int) : (0 ≤ n → 0 ≤ n.tmod 10 ∧ n.tmod 10 < 10) ∧ (n ≤ 0 → -10 < n.tmod 10 ∧ n.tmod 10 ≤ 0) := by
  constructor
  · intro h
    exact ⟨Int.tmod_nonneg 10 h, Int.tmod_lt_of_pos n (by omega)⟩
  · intro h
    obtain ⟨m, rfl⟩ : ∃ m : Nat, n = -(m : Int) := ⟨n.natAbs, by omega⟩
    have hm : (-(m : Int)).tmod 10 = -((m % 10 : Nat) : Int) := by rw [Int.neg_tmod]; rfl
    omega
variable (call : Calls') (h : H)
noncomputable def oneB (z : Nat) : Blk := ⟨1, 1, rowsOf 1 1 0 [.int .u8 (.ofNat z)] .nil, false, false, false⟩
theorem t22 (n : Int) (hn : -9223372036854775808 ≤ n) (hn' : n ≤ 9223372036854775807) (hc : ∀ h, (10 ≤ n ∨ n ≤ -10) → call 22 [.int .i64 (n.tdiv 10)] h = .ret (.str (itoaS (n.tdiv 10))) h) :
    ∃ b, evFun F call 100 22 [.int .i64 n] h = .ret (.str (itoaS n)) (h.new b) := by
  have hs := itoa_size10 hn hn'
  have hd := div10 n
  have hm := mod10 n
  by_cases n0 : n < 0
  · by_cases n1 : -10 < n
    · refine ⟨oneB (48 - n).toNat, ?_⟩
      obtain ⟨z, hz⟩ := Int.eq_ofNat_of_zero_le (by omega : 0 ≤ 48 - n)
      have w1 : wrapF .i64 (48 - n) = z := by rw [wrap64 (by omega) (by omega)]; exact hz
      have w2 : wrapF .u8 (z : Int) = z := wrap8 (by omega) (by omega)
      have ca : binStr .add ⟨#[45]⟩ ⟨#[UInt8.ofNat z]⟩ = some (.str (cat ⟨#[45]⟩ (byteS z))) := cat_add (by simp)
      have hz' : (48 - n).toNat = z := by omega
      rw [itoa_neg1 n0 n1, hz']
      simp [evFun, F_22, c22, n0, n1, w1, w2, oneB, ca]
    · refine ⟨oneB (48 - n.tmod 10).toNat, ?_⟩
      have hm := hm.2 (by omega)
      obtain ⟨z, hz⟩ := Int.eq_ofNat_of_zero_le (by omega : 0 ≤ 48 - n.tmod 10)
      have w0 : wrapF .i64 (n.tdiv 10) = n.tdiv 10 := wrap64 (by have := abs10 n; omega) (by have := abs10 n; omega)
      have w1 : wrapF .i64 (48 - n.tmod 10) = z := by rw [wrap64 (by omega) (by omega)]; exact hz
      have w2 : wrapF .u8 (z : Int) = z := wrap8 (by omega) (by omega)
      have ca : binStr .add (itoaS (n.tdiv 10)) ⟨#[UInt8.ofNat z]⟩ = some (.str (cat (itoaS (n.tdiv 10)) (byteS z))) := cat_add (by simpa using hs)
      have hz' : (48 - n.tmod 10).toNat = z := by omega
      have hc := fun h => hc h (.inr (by omega))
      rw [itoa_neg2 (by omega), hz']
      simp [evFun, F_22, c22, n0, n1, w0, w1, w2, oneB, ca, hc]
  · by_cases n1 : n < 10
    · refine ⟨oneB (48 + n.toNat), ?_⟩
      obtain ⟨z, hz⟩ := Int.eq_ofNat_of_zero_le (by omega : 0 ≤ 48 + n)
      have w1 : wrapF .i64 (48 + n) = z := by rw [wrap64 (by omega) (by omega)]; exact hz
      have w2 : wrapF .u8 (z : Int) = z := wrap8 (by omega) (by omega)
      have hz' : 48 + n.toNat = z := by omega
      rw [itoa_low (by omega) n1, hz']
      simp [evFun, F_22, c22, n0, n1, w1, w2, oneB, byteS]
    · refine ⟨oneB (48 + (n.tmod 10).toNat), ?_⟩
      have hm := hm.1 (by omega)
      obtain ⟨z, hz⟩ := Int.eq_ofNat_of_zero_le (by omega : 0 ≤ 48 + n.tmod 10)
      have w0 : wrapF .i64 (n.tdiv 10) = n.tdiv 10 := wrap64 (by have := abs10 n; omega) (by have := abs10 n; omega)
      have w1 : wrapF .i64 (48 + n.tmod 10) = z := by rw [wrap64 (by omega) (by omega)]; exact hz
      have w2 : wrapF .u8 (z : Int) = z := wrap8 (by omega) (by omega)
      have ca : binStr .add (itoaS (n.tdiv 10)) ⟨#[UInt8.ofNat z]⟩ = some (.str (cat (itoaS (n.tdiv 10)) (byteS z))) := cat_add (by simpa using hs)
      have hz' : 48 + (n.tmod 10).toNat = z := by omega
      have hc := fun h => hc h (.inl (by omega))
      rw [itoa_high (by omega), hz']
      simp [evFun, F_22, c22, n0, n1, w0, w1, w2, oneB, ca, hc]
end Go.Proofs.Va
