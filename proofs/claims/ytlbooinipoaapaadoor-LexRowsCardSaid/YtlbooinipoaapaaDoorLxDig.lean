/- Decimals, in the seat of words. -/
import Derived.Test.YtlbooinipoaapaaDoorLxTop
import Derived.Lib.ItoaNum
set_option linter.unusedSimpArgs false
set_option linter.unusedVariables false
namespace Go.Proofs.Lx
open Go.Ev
def itoaS (n : Int) : ByteArray := ⟨(Go.Lib.itoa n).toArray⟩
noncomputable def c13_5 : EC := (.seq (.steps [(.op Option.none (.pure 1 (vMove (.sl []))) (Option.some [.c, .a])), (.op Option.none (.pure 11 (vBin .no .sub (.k (.int .i64 (.ofNat 48))) (.sl [.c, .a]))) (Option.some [.d, .a])), (.op Option.none (.pure 13 (vConvInt .u8 (.sl [.d, .a]))) (Option.some [.a, .b])), (.op Option.none (.new 7 (nSlice 1 1 [(.int .u8 (.ofNat 0))] [(0, (1, (.sl [.a, .b])))])) (Option.some [.b, .b])), (.op Option.none (.look 13 (lBytes (.sl [.b, .b]))) (Option.some [.c, .b])), (.op Option.none (.pure 11 (vBin .no .add (.k (.str ⟨#[45]⟩)) (.sl [.c, .b]))) (Option.some [.d, .b])), (.op Option.none (.pure 2 (vMove (.sl [.d, .b]))) (Option.some [.b]))]) .ret)
noncomputable def c13_4 : EC := (.cond (.sl [.b, .a]) c13_5 .skip)
noncomputable def c13_6 : EC := (.seq (.drawn [(.op Option.none (.pure 1 (vMove (.sl []))) (Option.some [.a, .c])), (.op Option.none (.pure 11 (vBin .no .quo (.sl [.a, .c]) (.k (.int .i64 (.ofNat 10))))) (Option.some [.b, .c])), (.op Option.none (.pure 1 (vMove (.sl []))) (Option.some [.d, .c])), (.op Option.none (.pure 11 (vBin .no .rem (.sl [.d, .c]) (.k (.int .i64 (.ofNat 10))))) (Option.some [.a, .d])), (.op Option.none (.pure 11 (vBin .no .sub (.k (.int .i64 (.ofNat 48))) (.sl [.a, .d]))) (Option.some [.b, .d])), (.op Option.none (.pure 13 (vConvInt .u8 (.sl [.b, .d]))) (Option.some [.c, .d])), (.op Option.none (.new 7 (nSlice 1 1 [(.int .u8 (.ofNat 0))] [(0, (1, (.sl [.c, .d])))])) (Option.some [.d, .d])), (.op Option.none (.look 13 (lBytes (.sl [.d, .d]))) (Option.some [.a, .a, .a])), (.chk Option.none (.pure 1 (vMove (.sl []))) (Option.some [.a, .c])), (.chk Option.none (.pure 11 (vBin .no .quo (.sl [.a, .c]) (.k (.int .i64 (.ofNat 10))))) (Option.some [.b, .c])), (.chk Option.none (.pure 1 (vMove (.sl []))) (Option.some [.d, .c])), (.chk Option.none (.pure 11 (vBin .no .rem (.sl [.d, .c]) (.k (.int .i64 (.ofNat 10))))) (Option.some [.a, .d])), (.chk Option.none (.pure 11 (vBin .no .sub (.k (.int .i64 (.ofNat 48))) (.sl [.a, .d]))) (Option.some [.b, .d])), (.chk Option.none (.pure 13 (vConvInt .u8 (.sl [.b, .d]))) (Option.some [.c, .d])), (.chk Option.none (.new 7 (nSlice 1 1 [(.int .u8 (.ofNat 0))] [(0, (1, (.sl [.c, .d])))])) (Option.some [.d, .d])), (.chk Option.none (.look 13 (lBytes (.sl [.d, .d]))) (Option.some [.a, .a, .a])), (.op Option.none (.eff (hCall (.k (.fn 13 [] [])) [(.sl [.b, .c])])) (Option.some [.c, .c])), (.op Option.none (.pure 11 (vBin .no .add (.sl [.c, .c]) (.sl [.a, .a, .a]))) (Option.some [.b, .a, .a])), (.chk Option.none (.pure 1 (vMove (.sl []))) (Option.some [.a, .c])), (.chk Option.none (.pure 1 (vMove (.sl []))) (Option.some [.d, .c])), (.chk Option.none (.pure 11 (vBin .no .rem (.sl [.d, .c]) (.k (.int .i64 (.ofNat 10))))) (Option.some [.a, .d])), (.chk Option.none (.pure 11 (vBin .no .sub (.k (.int .i64 (.ofNat 48))) (.sl [.a, .d]))) (Option.some [.b, .d])), (.chk Option.none (.pure 13 (vConvInt .u8 (.sl [.b, .d]))) (Option.some [.c, .d])), (.chk Option.none (.new 7 (nSlice 1 1 [(.int .u8 (.ofNat 0))] [(0, (1, (.sl [.c, .d])))])) (Option.some [.d, .d])), (.chk Option.none (.look 13 (lBytes (.sl [.d, .d]))) (Option.some [.a, .a, .a])), (.chk Option.none (.pure 11 (vBin .no .add (.sl [.c, .c]) (.sl [.a, .a, .a]))) (Option.some [.b, .a, .a])), (.op Option.none (.pure 2 (vMove (.sl [.b, .a, .a]))) (Option.some [.b]))] [[.a, .c], [.b, .c], [.c, .c], [.d, .c], [.a, .d], [.b, .d], [.c, .d], [.d, .d], [.a, .a, .a], [.b, .a, .a], [.b]]) .ret)
noncomputable def c13_3 : EC := (.seq (.seq (.steps [(.op Option.none (.pure 1 (vMove (.sl []))) (Option.some [.a, .a])), (.op Option.none (.pure 11 (vBin .no .gtr (.sl [.a, .a]) (.k (.int .i64 (.negSucc 9))))) (Option.some [.b, .a]))]) c13_4) c13_6)
noncomputable def c13_2 : EC := (.cond (.sl [.d]) c13_3 .skip)
noncomputable def c13_9 : EC := (.seq (.steps [(.op Option.none (.pure 1 (vMove (.sl []))) (Option.some [.a, .b, .a])), (.op Option.none (.pure 11 (vBin .no .add (.k (.int .i64 (.ofNat 48))) (.sl [.a, .b, .a]))) (Option.some [.b, .b, .a])), (.op Option.none (.pure 13 (vConvInt .u8 (.sl [.b, .b, .a]))) (Option.some [.c, .b, .a])), (.op Option.none (.new 7 (nSlice 1 1 [(.int .u8 (.ofNat 0))] [(0, (1, (.sl [.c, .b, .a])))])) (Option.some [.d, .b, .a])), (.op Option.none (.look 13 (lBytes (.sl [.d, .b, .a]))) (Option.some [.a, .c, .a])), (.op Option.none (.pure 2 (vMove (.sl [.a, .c, .a]))) (Option.some [.b]))]) .ret)
noncomputable def c13_8 : EC := (.cond (.sl [.d, .a, .a]) c13_9 .skip)
noncomputable def c13_10 : EC := (.seq (.drawn [(.op Option.none (.pure 1 (vMove (.sl []))) (Option.some [.b, .c, .a])), (.op Option.none (.pure 11 (vBin .no .quo (.sl [.b, .c, .a]) (.k (.int .i64 (.ofNat 10))))) (Option.some [.c, .c, .a])), (.op Option.none (.pure 1 (vMove (.sl []))) (Option.some [.a, .d, .a])), (.op Option.none (.pure 11 (vBin .no .rem (.sl [.a, .d, .a]) (.k (.int .i64 (.ofNat 10))))) (Option.some [.b, .d, .a])), (.op Option.none (.pure 11 (vBin .no .add (.k (.int .i64 (.ofNat 48))) (.sl [.b, .d, .a]))) (Option.some [.c, .d, .a])), (.op Option.none (.pure 13 (vConvInt .u8 (.sl [.c, .d, .a]))) (Option.some [.d, .d, .a])), (.op Option.none (.new 7 (nSlice 1 1 [(.int .u8 (.ofNat 0))] [(0, (1, (.sl [.d, .d, .a])))])) (Option.some [.a, .a, .b])), (.op Option.none (.look 13 (lBytes (.sl [.a, .a, .b]))) (Option.some [.b, .a, .b])), (.chk Option.none (.pure 1 (vMove (.sl []))) (Option.some [.b, .c, .a])), (.chk Option.none (.pure 11 (vBin .no .quo (.sl [.b, .c, .a]) (.k (.int .i64 (.ofNat 10))))) (Option.some [.c, .c, .a])), (.chk Option.none (.pure 1 (vMove (.sl []))) (Option.some [.a, .d, .a])), (.chk Option.none (.pure 11 (vBin .no .rem (.sl [.a, .d, .a]) (.k (.int .i64 (.ofNat 10))))) (Option.some [.b, .d, .a])), (.chk Option.none (.pure 11 (vBin .no .add (.k (.int .i64 (.ofNat 48))) (.sl [.b, .d, .a]))) (Option.some [.c, .d, .a])), (.chk Option.none (.pure 13 (vConvInt .u8 (.sl [.c, .d, .a]))) (Option.some [.d, .d, .a])), (.chk Option.none (.new 7 (nSlice 1 1 [(.int .u8 (.ofNat 0))] [(0, (1, (.sl [.d, .d, .a])))])) (Option.some [.a, .a, .b])), (.chk Option.none (.look 13 (lBytes (.sl [.a, .a, .b]))) (Option.some [.b, .a, .b])), (.op Option.none (.eff (hCall (.k (.fn 13 [] [])) [(.sl [.c, .c, .a])])) (Option.some [.d, .c, .a])), (.op Option.none (.pure 11 (vBin .no .add (.sl [.d, .c, .a]) (.sl [.b, .a, .b]))) (Option.some [.c, .a, .b])), (.chk Option.none (.pure 1 (vMove (.sl []))) (Option.some [.b, .c, .a])), (.chk Option.none (.pure 1 (vMove (.sl []))) (Option.some [.a, .d, .a])), (.chk Option.none (.pure 11 (vBin .no .rem (.sl [.a, .d, .a]) (.k (.int .i64 (.ofNat 10))))) (Option.some [.b, .d, .a])), (.chk Option.none (.pure 11 (vBin .no .add (.k (.int .i64 (.ofNat 48))) (.sl [.b, .d, .a]))) (Option.some [.c, .d, .a])), (.chk Option.none (.pure 13 (vConvInt .u8 (.sl [.c, .d, .a]))) (Option.some [.d, .d, .a])), (.chk Option.none (.new 7 (nSlice 1 1 [(.int .u8 (.ofNat 0))] [(0, (1, (.sl [.d, .d, .a])))])) (Option.some [.a, .a, .b])), (.chk Option.none (.look 13 (lBytes (.sl [.a, .a, .b]))) (Option.some [.b, .a, .b])), (.chk Option.none (.pure 11 (vBin .no .add (.sl [.d, .c, .a]) (.sl [.b, .a, .b]))) (Option.some [.c, .a, .b])), (.op Option.none (.pure 2 (vMove (.sl [.c, .a, .b]))) (Option.some [.b]))] [[.b, .c, .a], [.c, .c, .a], [.d, .c, .a], [.a, .d, .a], [.b, .d, .a], [.c, .d, .a], [.d, .d, .a], [.a, .a, .b], [.b, .a, .b], [.c, .a, .b], [.b]]) .ret)
noncomputable def c13_7 : EC := (.seq (.seq (.steps [(.op Option.none (.pure 1 (vMove (.sl []))) (Option.some [.c, .a, .a])), (.op Option.none (.pure 11 (vBin .no .lss (.sl [.c, .a, .a]) (.k (.int .i64 (.ofNat 10))))) (Option.some [.d, .a, .a]))]) c13_8) c13_10)
noncomputable def c13_1 : EC := (.seq (.seq (.steps [(.op Option.none (.pure 1 (vMove (.sl []))) (Option.some [.c])), (.op Option.none (.pure 11 (vBin .no .lss (.sl [.c]) (.k (.int .i64 (.ofNat 0))))) (Option.some [.d]))]) c13_2) c13_7)
noncomputable def c13 : EF := ⟨(.seq (.steps [(.op Option.none (.pure 2 (vMove (.k (.str ⟨#[]⟩)))) (Option.some [.b]))]) c13_1), [(.slot (.sl [.b]))], Bool.false⟩
theorem c13_ok : compF Tryd.prog 13 = some c13 := by kernel_rfl
noncomputable def LF13 : FuncId → Option EF := lookF [(13, c13)]
theorem FF13 : LF13 13 = some c13 := rfl
def byteS (z : Nat) : ByteArray := ⟨#[UInt8.ofNat z]⟩
def cat (x y : ByteArray) : ByteArray := ⟨(x.data.toList ++ y.data.toList).toArray⟩
theorem itoa_low {n : Int} (h0 : 0 ≤ n) (h1 : n < 10) : itoaS n = byteS (48 + n.toNat) := by
  unfold itoaS byteS Lib.itoa
  rw [if_neg (by omega), Lib.decDigits_one (by omega)]
theorem itoa_high {n : Int} (h1 : 10 ≤ n) : itoaS n = cat (itoaS (n.tdiv 10)) (byteS (48 + (n.tmod 10).toNat)) := by
  obtain ⟨m, rfl⟩ := Int.eq_ofNat_of_zero_le (by omega : 0 ≤ n)
  have hd : (m : Int).tdiv 10 = ((m / 10 : Nat) : Int) := rfl
  have hm : (m : Int).tmod 10 = ((m % 10 : Nat) : Int) := rfl
  unfold itoaS byteS cat Lib.itoa
  rw [hd, hm, if_neg (by omega), if_neg (by omega)]
  simp only [Int.toNat_natCast]
  rw [Lib.decDigits, dif_neg (by omega)]
theorem itoa_neg1 {n : Int} (h0 : n < 0) (h1 : -10 < n) : itoaS n = cat ⟨#[45]⟩ (byteS (48 - n).toNat) := by
  unfold itoaS byteS cat Lib.itoa
  rw [if_pos h0, Lib.decDigits_one (by omega)]
  have : 48 + n.natAbs = (48 - n).toNat := by omega
  rw [this]; rfl
theorem itoa_neg2 {n : Int} (h1 : n ≤ -10) : itoaS n = cat (itoaS (n.tdiv 10)) (byteS (48 - n.tmod 10).toNat) := by
  obtain ⟨m, rfl⟩ : ∃ m : Nat, n = -(m : Int) := ⟨n.natAbs, by omega⟩
  have hd : (-(m : Int)).tdiv 10 = -((m / 10 : Nat) : Int) := by rw [Int.neg_tdiv]; rfl
  have hm : (-(m : Int)).tmod 10 = -((m % 10 : Nat) : Int) := by rw [Int.neg_tmod]; rfl
  unfold itoaS byteS cat Lib.itoa
  rw [hd, hm, if_pos (by omega), if_pos (by omega)]
  have e1 : (-(m : Int)).natAbs = m := by omega
  have e2 : (-((m / 10 : Nat) : Int)).natAbs = m / 10 := by omega
  have e3 : (48 - -((m % 10 : Nat) : Int)).toNat = 48 + m % 10 := by omega
  rw [e1, e2, e3, Lib.decDigits, dif_neg (by omega)]
  simp
theorem nDigits_le (u : Nat) : Lib.nDigits u ≤ u + 1 := by
  induction u using Nat.strongRecOn with
  | _ u ih =>
    by_cases h : u < 10
    · rw [Lib.nDigits_small h]; omega
    · rw [Lib.nDigits_big h]; have := ih (u / 10) (by omega); omega
theorem itoa_size {n : Int} (h : -9223372036854775808 ≤ n) (h' : n ≤ 9223372036854775807) : (itoaS n).data.toList.length ≤ 9223372036854775810 := by
  unfold itoaS Lib.itoa
  have h1 := nDigits_le n.natAbs
  have h2 := nDigits_le n.toNat
  split
  · simp [Lib.decDigits_length]; omega
  · simp [Lib.decDigits_length]; omega
theorem itoa_len (m : Int) : (itoaS m).data.toList.length ≤ m.natAbs + 2 := by
  unfold itoaS Lib.itoa
  have h3 := nDigits_le m.natAbs
  have h4 := nDigits_le m.toNat
  split
  · simp [Lib.decDigits_length]; omega
  · simp [Lib.decDigits_length]; omega
theorem abs10 (n : Int) : (n.tdiv 10).natAbs = n.natAbs / 10 := by rw [Int.natAbs_tdiv]; rfl
theorem itoa_size10 {n : Int} (h : -9223372036854775808 ≤ n) (h' : n ≤ 9223372036854775807) : (itoaS (n.tdiv 10)).data.toList.length + 1 ≤ 9223372036854775807 := by
  have := itoa_len (n.tdiv 10)
  have := abs10 n
  omega
theorem cat_add {x y : ByteArray} (h : x.data.toList.length + y.data.toList.length ≤ 9223372036854775807) : binStr .add x y = some (.str (cat x y)) := by
  unfold binStr cat
  simp only
  rw [Nat.ble_eq_true_of_le h]
theorem div10 (n : Int) : n = 10 * n.tdiv 10 + n.tmod 10 := (Int.mul_tdiv_add_tmod n 10).symm
theorem mod10 (n : Int) : (0 ≤ n → 0 ≤ n.tmod 10 ∧ n.tmod 10 < 10) ∧ (n ≤ 0 → -10 < n.tmod 10 ∧ n.tmod 10 ≤ 0) := by
  constructor
  · intro h
    exact ⟨Int.tmod_nonneg 10 h, Int.tmod_lt_of_pos n (by omega)⟩
  · intro h
    obtain ⟨m, rfl⟩ : ∃ m : Nat, n = -(m : Int) := ⟨n.natAbs, by omega⟩
    have hm : (-(m : Int)).tmod 10 = -((m % 10 : Nat) : Int) := by rw [Int.neg_tmod]; rfl
    omega
variable (call : Calls') (h : H)
noncomputable def oneB (z : Nat) : Blk := ⟨1, 1, rowsOf 1 1 0 [.int .u8 (.ofNat z)] .nil, false, false, false⟩
theorem t22 (n : Int) (hn : -9223372036854775808 ≤ n) (hn' : n ≤ 9223372036854775807) (hc : ∀ h, (10 ≤ n ∨ n ≤ -10) → call 13 [.int .i64 (n.tdiv 10)] h = .ret (.str (itoaS (n.tdiv 10))) h) :
    ∃ b, evFun LF13 call 100 13 [.int .i64 n] h = .ret (.str (itoaS n)) (h.new b) := by
  have hs := itoa_size10 hn hn'
  have hd := div10 n
  have hm := mod10 n
  by_cases n0 : n < 0
  · by_cases n1 : -10 < n
    · refine ⟨oneB (48 - n).toNat, ?_⟩
      obtain ⟨z, hz⟩ := Int.eq_ofNat_of_zero_le (by omega : 0 ≤ 48 - n)
      have w1 : wrapF .i64 (48 - n) = z := by rw [wrap64 (by omega) (by omega)]; exact hz
      have w2 : wrapF .u8 (z : Int) = z := wrap8 (by omega) (by omega)
      have ca : binStr .add ⟨#[45]⟩ ⟨#[UInt8.ofNat z]⟩ = some (.str (cat ⟨#[45]⟩ (byteS z))) := cat_add (by simp)
      have hz' : (48 - n).toNat = z := by omega
      rw [itoa_neg1 n0 n1, hz']
      simp [-y_getC, -y_Hnew, evFun, FF13, c13, c13_1, c13_2, c13_3, c13_4, c13_5, c13_6, c13_7, c13_8, c13_9, c13_10,  n0, n1, w1, w2, oneB, ca]
    · refine ⟨oneB (48 - n.tmod 10).toNat, ?_⟩
      have hm := hm.2 (by omega)
      obtain ⟨z, hz⟩ := Int.eq_ofNat_of_zero_le (by omega : 0 ≤ 48 - n.tmod 10)
      have w0 : wrapF .i64 (n.tdiv 10) = n.tdiv 10 := wrap64 (by have := abs10 n; omega) (by have := abs10 n; omega)
      have w1 : wrapF .i64 (48 - n.tmod 10) = z := by rw [wrap64 (by omega) (by omega)]; exact hz
      have w2 : wrapF .u8 (z : Int) = z := wrap8 (by omega) (by omega)
      have ca : binStr .add (itoaS (n.tdiv 10)) ⟨#[UInt8.ofNat z]⟩ = some (.str (cat (itoaS (n.tdiv 10)) (byteS z))) := cat_add (by simpa using hs)
      have hz' : (48 - n.tmod 10).toNat = z := by omega
      have hc := fun h => hc h (.inr (by omega))
      rw [itoa_neg2 (by omega), hz']
      simp [-y_getC, -y_Hnew, evFun, FF13, c13, c13_1, c13_2, c13_3, c13_4, c13_5, c13_6, c13_7, c13_8, c13_9, c13_10,  n0, n1, w0, w1, w2, oneB, ca, hc]
  · by_cases n1 : n < 10
    · refine ⟨oneB (48 + n.toNat), ?_⟩
      obtain ⟨z, hz⟩ := Int.eq_ofNat_of_zero_le (by omega : 0 ≤ 48 + n)
      have w1 : wrapF .i64 (48 + n) = z := by rw [wrap64 (by omega) (by omega)]; exact hz
      have w2 : wrapF .u8 (z : Int) = z := wrap8 (by omega) (by omega)
      have hz' : 48 + n.toNat = z := by omega
      rw [itoa_low (by omega) n1, hz']
      simp [-y_getC, -y_Hnew, evFun, FF13, c13, c13_1, c13_2, c13_3, c13_4, c13_5, c13_6, c13_7, c13_8, c13_9, c13_10,  n0, n1, w1, w2, oneB, byteS]
    · refine ⟨oneB (48 + (n.tmod 10).toNat), ?_⟩
      have hm := hm.1 (by omega)
      obtain ⟨z, hz⟩ := Int.eq_ofNat_of_zero_le (by omega : 0 ≤ 48 + n.tmod 10)
      have w0 : wrapF .i64 (n.tdiv 10) = n.tdiv 10 := wrap64 (by have := abs10 n; omega) (by have := abs10 n; omega)
      have w1 : wrapF .i64 (48 + n.tmod 10) = z := by rw [wrap64 (by omega) (by omega)]; exact hz
      have w2 : wrapF .u8 (z : Int) = z := wrap8 (by omega) (by omega)
      have ca : binStr .add (itoaS (n.tdiv 10)) ⟨#[UInt8.ofNat z]⟩ = some (.str (cat (itoaS (n.tdiv 10)) (byteS z))) := cat_add (by simpa using hs)
      have hz' : 48 + (n.tmod 10).toNat = z := by omega
      have hc := fun h => hc h (.inl (by omega))
      rw [itoa_high (by omega), hz']
      simp [-y_getC, -y_Hnew, evFun, FF13, c13, c13_1, c13_2, c13_3, c13_4, c13_5, c13_6, c13_7, c13_8, c13_9, c13_10,  n0, n1, w0, w1, w2, oneB, ca, hc]

def in64 (n : Int) : Prop := -9223372036854775808 ≤ n ∧ n ≤ 9223372036854775807
instance (n : Int) : Decidable (in64 n) := by unfold in64; infer_instance
noncomputable def S13 : List AV → H → CR := fun xs h => match xs with
  | [.int .i64 n] => if in64 n then .ret (.str (itoaS n)) h else .bad 0
  | _ => .bad 0
def μ13 : List AV → Nat := fun xs => match xs with
  | [.int .i64 n] => n.natAbs
  | _ => 0
noncomputable def k13 : Calls' := upd k11 13 S13
theorem ok13 : CallsOk Γ Tryd.prog k13 := ok11.addRec mixed (F := LF13) (one_ok c13_ok) μ13 fun xs h r e hb => by
  unfold S13 at e
  split at e
  · rename_i n
    split at e
    · rename_i hi
      subst e
      refine ⟨100, ?_⟩
      obtain ⟨b, hb'⟩ := t22 (upd k11 13 (below μ13 (μ13 [.int .i64 n]) S13)) h n hi.1 hi.2 (fun h' hn => by
        have hlt : (n.tdiv 10).natAbs < n.natAbs := by
          rw [Int.natAbs_tdiv]; exact Nat.div_lt_self (by omega) (by decide)
        have h64 : in64 (n.tdiv 10) := by unfold in64 at *; omega
        rw [upd_hit]
        unfold below
        rw [show Nat.blt (μ13 [.int .i64 (n.tdiv 10)]) (μ13 [.int .i64 n]) = true by rw [natBlt]; exact decide_eq_true hlt]
        show (if in64 (n.tdiv 10) then CR.ret (.str (itoaS (n.tdiv 10))) h' else .bad 0) = _
        rw [if_pos h64])
      exact comes_eq hb' rfl (y_ok2 _ _)
    · subst e; exact absurd rfl (hb 0)
  · subst e; exact absurd rfl (hb 0)
theorem hk13_13 {n : Int} {h : H} (hi : in64 n) : k13 13 [.int .i64 n] h = .ret (.str (itoaS n)) h := if_pos hi
end Go.Proofs.Lx
