/- Values: what the program's functions and the reference's tell of them. -/
import Derived.Test.YtfijbgpegfnlbaaDoorVaCode
import Derived.Lib.ItoaNum
set_option linter.unusedSimpArgs false
set_option linter.unusedVariables false
namespace Go.Proofs.Va
open Go.Ev
abbrev V (k n : Int) (s : ByteArray) : AV := .agg [.int .i64 k, .int .i64 n, .str s]
noncomputable def tab : List (FuncId × EF) := [(12, c12), (13, c13), (14, c14), (15, c15), (16, c16), (17, c17), (18, c18), (19, c19), (20, c20), (21, c21), (22, c22), (23, c23), (24, c24), (25, c25), (26, c26), (27, c27), (28, c28), (29, c29), (30, c30), (31, c31), (32, c32), (33, c33), (35, c35), (36, c36), (37, c37), (38, c38), (39, c39), (40, c40), (41, c41), (42, c42), (43, c43), (44, c44), (46, c46), (47, c47), (48, c48)]
noncomputable def F : FuncId → Option EF := lookF tab
theorem F_12 : F 12 = some c12 := rfl
theorem F_14 : F 14 = some c14 := rfl
theorem F_15 : F 15 = some c15 := rfl
theorem F_32 : F 32 = some c32 := rfl
variable (call : Calls') (h : H)
theorem F_33 : F 33 = some c33 := rfl
theorem F_44 : F 44 = some c44 := rfl
theorem F_16 : F 16 = some c16 := rfl
theorem F_19 : F 19 = some c19 := rfl
theorem F_20 : F 20 = some c20 := rfl
theorem F_21 : F 21 = some c21 := rfl
theorem F_35 : F 35 = some c35 := rfl
def inP (n a b : Int) : Bool := decide (a ≤ n) && decide (n ≤ b)
def sLen (s : ByteArray) : Nat := s.data.toList.length
def noS (s : ByteArray) : Bool := sEq s ⟨#[]⟩
def mayP (k n : Int) (s : ByteArray) : Bool :=
  if k = 0 ∨ k = 1 ∨ k = 7 then decide (n = 0) && noS s
  else if k = 2 then inP n 0 1 && noS s
  else if k = 3 then inP n (-2147483648) 2147483647 && noS s
  else if k = 5 then inP n 1 4096 && noS s
  else if k = 6 then inP n 0 4096 && !noS s
  else if k = 4 then decide (n = 0) && decide (sLen s ≤ 4096)
  else false
def truthP (k n : Int) (s : ByteArray) : Bool :=
  if k = 0 ∨ k = 1 ∨ k = 7 then false
  else if k = 2 ∨ k = 3 then decide (n ≠ 0)
  else if k = 4 then !noS s
  else true
theorem t32 (n a b : Int) : evFun F call 100 32 [.int .i64 n, .int .i64 a, .int .i64 b] h = .ret (.bool (inP n a b)) h := by
  simp [evFun, F_32, c32, inP]
  by_cases h1 : n < a <;> by_cases h2 : b < n <;> simp [h1, h2] <;> omega
theorem cases9 (k : Int) : k = 0 ∨ k = 1 ∨ k = 7 ∨ k = 2 ∨ k = 3 ∨ k = 5 ∨ k = 6 ∨ k = 4 ∨ (k ≠ 0 ∧ k ≠ 1 ∧ k ≠ 7 ∧ k ≠ 2 ∧ k ≠ 3 ∧ k ≠ 5 ∧ k ≠ 6 ∧ k ≠ 4) := by omega
theorem t12 (hc : ∀ n a b h, call 32 [.int .i64 n, .int .i64 a, .int .i64 b] h = .ret (.bool (inP n a b)) h) (k n : Int) (s : ByteArray) : evFun F call 100 12 [V k n s] h = .ret (.bool (mayP k n s)) ⟨h.next, h.t, h.gen + 1⟩ := by
  unfold mayP
  rcases cases9 k with rfl | rfl | rfl | rfl | rfl | rfl | rfl | rfl | ⟨k0, k1, k7, k2, k3, k5, k6, k4⟩
  · by_cases n0 : n = 0 <;> simp [evFun, F_12, c12, V, n0, noS]
  · by_cases n0 : n = 0 <;> simp [evFun, F_12, c12, V, n0, noS]
  · by_cases n0 : n = 0 <;> simp [evFun, F_12, c12, V, n0, noS]
  · cases n0 : inP n 0 1 <;> simp [evFun, F_12, c12, V, n0, noS, hc]
  · cases n0 : inP n (-2147483648) 2147483647 <;> simp [evFun, F_12, c12, V, n0, noS, hc]
  · cases n0 : inP n 1 4096 <;> simp [evFun, F_12, c12, V, n0, noS, hc]
  · cases n0 : inP n 0 4096 <;> simp [evFun, F_12, c12, V, n0, noS, hc]
  · by_cases n0 : n = 0 <;> by_cases l0 : s.size ≤ 4096 <;> simp [evFun, F_12, c12, V, n0, sLen, l0] <;> omega
  · simp [evFun, F_12, c12, V, k0, k1, k7, k2, k3, k5, k6, k4]
theorem t14 (k n : Int) (s : ByteArray) : evFun F call 100 14 [V k n s] h = .ret (.bool (mayP k n s)) ⟨h.next, h.t, h.gen + 1⟩ := by
  unfold mayP
  rcases cases9 k with rfl | rfl | rfl | rfl | rfl | rfl | rfl | rfl | ⟨k0, k1, k7, k2, k3, k5, k6, k4⟩
  · by_cases n0 : n = 0 <;> simp [evFun, F_14, c14, V, n0, noS]
  · by_cases n0 : n = 0 <;> simp [evFun, F_14, c14, V, n0, noS]
  · by_cases n0 : n = 0 <;> simp [evFun, F_14, c14, V, n0, noS]
  · by_cases n0 : n = 0 <;> by_cases n1 : n = 1 <;> simp [evFun, F_14, c14, V, n0, n1, noS, inP] <;> omega
  · by_cases n0 : n < -2147483648 <;> by_cases n1 : 2147483647 < n <;> simp [evFun, F_14, c14, V, n0, n1, noS, inP] <;> omega
  · by_cases n0 : n < 1 <;> by_cases n1 : 4096 < n <;> simp [evFun, F_14, c14, V, n0, n1, noS, inP] <;> omega
  · by_cases n0 : n < 0 <;> by_cases n1 : 4096 < n <;> simp [evFun, F_14, c14, V, n0, n1, noS, inP] <;> omega
  · by_cases n0 : n = 0 <;> by_cases l0 : s.size ≤ 4096 <;> simp [evFun, F_14, c14, V, n0, sLen, l0] <;> omega
  · simp [evFun, F_14, c14, V, k0, k1, k7, k2, k3, k5, k6, k4]
theorem t15 (k n : Int) (s : ByteArray) : evFun F call 100 15 [V k n s] h = .ret (.bool (truthP k n s)) ⟨h.next, h.t, h.gen + 1⟩ := by
  unfold truthP
  rcases cases9 k with rfl | rfl | rfl | rfl | rfl | rfl | rfl | rfl | ⟨k0, k1, k7, k2, k3, k5, k6, k4⟩
  all_goals first
    | simp [evFun, F_15, c15, V, noS]; done
    | simp [evFun, F_15, c15, V, k0, k1, k7, k2, k3, k5, k6, k4]
theorem t16 (k n : Int) (s : ByteArray) : evFun F call 100 16 [V k n s] h = .ret (.bool (truthP k n s)) ⟨h.next, h.t, h.gen + 1⟩ := by
  unfold truthP
  rcases cases9 k with rfl | rfl | rfl | rfl | rfl | rfl | rfl | rfl | ⟨k0, k1, k7, k2, k3, k5, k6, k4⟩
  all_goals first
    | simp [evFun, F_16, c16, V, noS]; done
    | simp [evFun, F_16, c16, V, k0, k1, k7, k2, k3, k5, k6, k4]
def boolS (b : Bool) : ByteArray := if b then ⟨#[116, 114, 117, 101]⟩ else ⟨#[102, 97, 108, 115, 101]⟩
theorem t44 (b : Bool) : evFun F call 100 44 [.bool b] h = .ret (.str (boolS b)) h := by
  cases b <;> simp [evFun, F_44, c44, boolS]
theorem t33 (hc : ∀ b h, call 44 [.bool b] h = .ret (.str (boolS b)) h) (b : Bool) : evFun F call 100 33 [.bool b] h = .ret (.str (boolS b)) h := by
  simp [evFun, F_33, c33, hc]
theorem t21 (k n : Int) (s : ByteArray) (k' n' : Int) (s' : ByteArray) : evFun F call 100 21 [V k n s, V k' n' s'] h = .ret (.bool (decide (k = k') && decide (n = n') && sEq s s')) ⟨h.next, h.t, h.gen + 2⟩ := by
  by_cases k0 : k = k' <;> by_cases n0 : n = n' <;> cases s0 : sEq s s' <;> simp [evFun, F_21, c21, V, k0, n0, s0]
theorem F_17 : F 17 = some c17 := rfl
theorem F_18 : F 18 = some c18 := rfl
theorem F_22 : F 22 = some c22 := rfl
/-- Of a table of texts in a block: what stands at a place. -/
theorem t35 (p : Path) (b : Blk) (n : Nat) (k : Int) (x : ByteArray) (hb : getC p h.t = some b) (hk : b.k = 1) (hx : 0 ≤ k → k < n → get (pathOf k.toNat) b.rows = some [.str x]) (hx' : ¬ (0 ≤ k ∧ k < n) → x = ⟨#[]⟩) :
    evFun F call 100 35 [.sl p 1 0 n, .int .i64 k] h = .ret (.str x) h := by
  by_cases k0 : k < 0
  · have := hx' (by omega)
    simp [evFun, F_35, c35, k0, this]
  · by_cases k1 : k < n
    · obtain ⟨m, rfl⟩ := Int.eq_ofNat_of_zero_le (Int.not_lt.1 k0)
      have hm : m < n := by omega
      have h2 := hx (by omega) (by omega)
      simp at h2
      simp [evFun, F_35, c35, k0, hm, hb, hk, h2, Nat.mod_one]
    · have := hx' (by omega)
      simp [evFun, F_35, c35, k0, k1, this]
noncomputable def S35 : List AV → H → CR := fun xs h => match xs with
  | [.sl p 1 0 n, .int .i64 k] => match getC p h.t with
    | some b => if b.k = 1 then (if 0 ≤ k ∧ k < n then (match get (pathOf k.toNat) b.rows with | some [.str x] => .ret (.str x) h | _ => .bad 0) else .ret (.str ⟨#[]⟩) h) else .bad 0
    | none => .bad 0
  | _ => .bad 0
def itoaS (n : Int) : ByteArray := ⟨(Go.Lib.itoa n).toArray⟩
def undefS : ByteArray := ⟨#[117, 110, 100, 101, 102, 105, 110, 101, 100]⟩
def nullS : ByteArray := ⟨#[110, 117, 108, 108]⟩
def objS : ByteArray := ⟨#[91, 111, 98, 106, 101, 99, 116, 93]⟩
def funS : ByteArray := ⟨#[91, 102, 117, 110, 99, 116, 105, 111, 110, 93]⟩
def emp : ByteArray := ⟨#[]⟩
noncomputable def tblk : Blk := ⟨1, 8, rowsOf 1 8 0 [.str undefS, .str nullS, .str emp, .str emp, .str emp, .str objS, .str funS, .str undefS] .nil, false, false, false⟩
def textP (k n : Int) (s : ByteArray) : ByteArray :=
  if k = 0 ∨ k = 7 then undefS else if k = 1 then nullS else if k = 2 then boolS (decide (n ≠ 0)) else if k = 3 then itoaS n else if k = 4 then s else if k = 5 then objS else if k = 6 then funS else emp
theorem t17 (k n : Int) (s : ByteArray) (h33 : ∀ b h, call 33 [.bool b] h = .ret (.str (boolS b)) h) (h34 : k = 3 → ∀ h, call 34 [.int .i64 n] h = .ret (.str (itoaS n)) h) (h35 : ∀ xs h, call 35 xs h = S35 xs h) :
    evFun F call 100 17 [V k n s] h = .ret (.str (textP k n s)) (if k = 2 ∨ k = 3 ∨ k = 4 then ⟨h.next, h.t, h.gen + 1⟩ else H.new ⟨h.next, h.t, h.gen + 1⟩ tblk) := by
  unfold textP
  rcases cases9 k with rfl | rfl | rfl | rfl | rfl | rfl | rfl | rfl | ⟨k0, k1, k7, k2, k3, k5, k6, k4⟩
  all_goals first
    | simp [evFun, F_17, c17, V, h33, h35, S35, tblk, undefS, nullS, objS, funS, emp, boolS]; done
    | (have h34 := h34 rfl; simp [evFun, F_17, c17, V, h34, emp]; done)
    | skip
  rcases (by omega : k < 0 ∨ 8 ≤ k) with hk | hk
  · have hk' : ¬ (0 ≤ k) := by omega
    simp [evFun, F_17, c17, V, h35, S35, tblk, k0, k1, k7, k2, k3, k5, k6, k4, hk', undefS, nullS, objS, funS, emp]
  · have hk' : ¬ (k < 8) := by omega
    simp [evFun, F_17, c17, V, h35, S35, tblk, k0, k1, k7, k2, k3, k5, k6, k4, hk', undefS, nullS, objS, funS, emp]
def numS : ByteArray := ⟨#[110, 117, 109, 98, 101, 114]⟩
def strS : ByteArray := ⟨#[115, 116, 114, 105, 110, 103]⟩
def oS : ByteArray := ⟨#[111, 98, 106, 101, 99, 116]⟩
def fS : ByteArray := ⟨#[102, 117, 110, 99, 116, 105, 111, 110]⟩
def bS : ByteArray := ⟨#[98, 111, 111, 108, 101, 97, 110]⟩
noncomputable def tyblk : Blk := ⟨1, 8, rowsOf 1 8 0 [.str undefS, .str oS, .str bS, .str numS, .str strS, .str oS, .str fS, .str undefS] .nil, false, false, false⟩
/-- A kind's name (of those that may be). -/
def typeP (k c : Int) : ByteArray :=
  if k = 0 ∨ k = 7 then undefS else if k = 1 then oS else if k = 2 then bS else if k = 3 then numS else if k = 4 then strS else if k = 5 then (if c = 3 then fS else oS) else fS
theorem t19 (h35 : ∀ xs h, call 35 xs h = S35 xs h) (k n : Int) (s : ByteArray) (c : Int) (hk : 0 ≤ k) (hk' : k ≤ 7) :
    evFun F call 100 19 [V k n s, .int .i64 c] h = .ret (.str (typeP k c)) (if k = 5 ∧ c = 3 then ⟨h.next, h.t, h.gen + 1⟩ else H.new ⟨h.next, h.t, h.gen + 1⟩ tyblk) := by
  unfold typeP
  rcases cases9 k with rfl | rfl | rfl | rfl | rfl | rfl | rfl | rfl | ⟨k0, k1, k7, k2, k3, k5, k6, k4⟩
  all_goals first
    | simp [evFun, F_19, c19, V, h35, S35, tyblk, undefS, oS, fS, bS, numS, strS]; done
    | by_cases c3 : c = 3 <;> simp [evFun, F_19, c19, V, h35, S35, tyblk, undefS, oS, fS, bS, numS, strS, c3]; done
    | omega
theorem t20 (k n : Int) (s : ByteArray) (c : Int) (hk : 0 ≤ k) (hk' : k ≤ 7) : evFun F call 100 20 [V k n s, .int .i64 c] h = .ret (.str (typeP k c)) ⟨h.next, h.t, h.gen + 1⟩ := by
  unfold typeP
  rcases cases9 k with rfl | rfl | rfl | rfl | rfl | rfl | rfl | rfl | ⟨k0, k1, k7, k2, k3, k5, k6, k4⟩
  all_goals first
    | simp [evFun, F_20, c20, V, undefS, oS, fS, bS, numS, strS]; done
    | by_cases c3 : c = 3 <;> simp [evFun, F_20, c20, V, undefS, oS, fS, bS, numS, strS, c3]; done
    | omega
theorem t18 (k n : Int) (s : ByteArray) (h22 : k = 3 → ∀ h, call 22 [.int .i64 n] h = .ret (.str (itoaS n)) h) (hk : 0 ≤ k) (hk' : k ≤ 7) (hb : k = 2 → n = 0 ∨ n = 1) : evFun F call 100 18 [V k n s] h = .ret (.str (textP k n s)) ⟨h.next, h.t, h.gen + 1⟩ := by
  unfold textP
  rcases cases9 k with rfl | rfl | rfl | rfl | rfl | rfl | rfl | rfl | ⟨k0, k1, k7, k2, k3, k5, k6, k4⟩
  all_goals first
    | simp [evFun, F_18, c18, V, undefS, nullS, objS, funS, emp]; done
    | (have h22 := h22 rfl; simp [evFun, F_18, c18, V, h22, emp]; done)
    | (rcases hb rfl with rfl | rfl <;> simp [evFun, F_18, c18, V, boolS]; done)
    | omega
end Go.Proofs.Va
