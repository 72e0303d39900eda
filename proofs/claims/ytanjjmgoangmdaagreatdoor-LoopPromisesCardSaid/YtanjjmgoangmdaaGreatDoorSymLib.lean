/- Texts that are not known in full: decimals, rows of texts, what is put between. -/
import Derived.Test.YtanjjmgoangmdaaGreatDoorEvMc
import Derived.Lib.ItoaNum
import Derived.Lib.Join
set_option linter.unusedVariables false
set_option linter.unusedSectionVars false
namespace Go.Ev
open Go Go.RowKit
variable [Unk]
/-- Decimal digits, so many, of a number from lo to hi. -/
def digSym : Nat → Int → Int → SE → List SB
  | 0, _, _, _ => []
  | 1, lo, hi, e => match ieq lo hi with | true => [.b (UInt8.ofNat (48 + lo.toNat))] | false => [.s (48 + lo.toNat) (48 + hi.toNat) (mkAdd (.lit 48) e)]
  | m + 2, lo, hi, e => digSym (m + 1) (lo.tdiv 10) (hi.tdiv 10) (mkQuo e (.lit 10)) ++ [.s 48 57 (mkAdd (.lit 48) (.rem e (.lit 10)))]
def lowD : Nat → Nat
  | 0 => 0
  | 1 => 0
  | m + 2 => 10 ^ (m + 1)
/-- How many digits all numbers from lo to hi have. -/
def digN : Nat → Nat → Int → Int → Option Nat
  | 0, _, _, _ => none
  | f + 1, m, lo, hi => match ilt lo (.ofNat (lowD m)), ilt hi (.ofNat (10 ^ m)) with
    | false, true => some m
    | _, _ => digN f (m + 1) lo hi
def itoaSym (lo hi : Int) (e : SE) : Option (List SB) := match digN 18 1 lo hi with
  | some m => some (digSym m lo hi e)
  | none => none
theorem digN_spec : ∀ {f m lo hi n}, 1 ≤ m → m + f ≤ 19 → digN f m lo hi = some n → (lowD n : Int) ≤ lo ∧ hi < (10 ^ n : Nat) ∧ 1 ≤ n ∧ n ≤ 18
  | 0, _, _, _, _, _, _, h => by cases h
  | f + 1, m, lo, hi, n, h1, h2, h => by
    unfold digN at h
    split at h
    · rename_i g1 g2
      cases h
      exact ⟨ilt_ge g1, ilt_lt g2, h1, by omega⟩
    · exact digN_spec (by omega) (by omega) h
theorem digSym_spec : ∀ (m : Nat) (lo hi : Int) (e : SE), 1 ≤ m → lo ≤ e.val → e.val ≤ hi → (lowD m : Int) ≤ e.val → e.val < (10 ^ m : Nat) → 0 ≤ lo → hi < (10 ^ m : Nat) → e.ok →
    (digSym m lo hi e).map SB.byte = Lib.decDigits e.val.toNat ∧ ∀ p ∈ digSym m lo hi e, p.ok
  | 0, _, _, _, h, _, _, _, _, _, _, _ => by omega
  | 1, lo, hi, e, _, h1, h2, _, h3, h4, h5, ho => by
    have h3 : e.val < 10 := by simpa using h3
    have h5 : hi < 10 := by simpa using h5
    have hok : SB.ok (.s (48 + lo.toNat) (48 + hi.toNat) (mkAdd (.lit 48) e)) := by
      refine ⟨?_, ?_, by omega, mkAdd_ok (a := .lit 48) trivial ho⟩
      · rw [mkAdd_val]; simp only [SE.val]; omega
      · rw [mkAdd_val]; simp only [SE.val]; omega
    cases hlh : ieq lo hi with
    | true =>
      have hlh' := ieq_eq hlh
      refine ⟨?_, fun p hp => by simp only [digSym, hlh, List.mem_singleton] at hp; subst hp; exact trivial⟩
      rw [Lib.decDigits_one (by omega)]
      simp only [digSym, hlh, List.map_cons, List.map_nil, SB.byte]
      congr 3
      omega
    | false =>
      refine ⟨?_, fun p hp => by simp only [digSym, hlh, List.mem_singleton] at hp; subst hp; exact hok⟩
      rw [Lib.decDigits_one (by omega)]
      simp only [digSym, hlh, List.map_cons, List.map_nil, SB.byte, mkAdd_val, SE.val]
      congr 2
      omega
  | m + 2, lo, hi, e, _, h1, h2, hl, h3, h4, h5, ho => by
    have hl : ((10 ^ (m + 1) : Nat) : Int) ≤ e.val := hl
    have hp : 10 ≤ 10 ^ (m + 1) := by
      have := Nat.pow_le_pow_right (n := 10) (by omega) (show 1 ≤ m + 1 by omega)
      simpa using this
    have hpw : (10 : Nat) ^ (m + 2) = 10 ^ (m + 1) * 10 := Nat.pow_succ ..
    obtain ⟨u, hu⟩ := Int.eq_ofNat_of_zero_le (show 0 ≤ e.val by omega)
    obtain ⟨a, ha⟩ := Int.eq_ofNat_of_zero_le h4
    obtain ⟨b, hb⟩ := Int.eq_ofNat_of_zero_le (show 0 ≤ hi by omega)
    have hq : (mkQuo e (.lit 10)).val = ((u / 10 : Nat) : Int) := by rw [mkQuo_val, hu]; rfl
    have hr : SE.val (.rem e (.lit 10)) = ((u % 10 : Nat) : Int) := by simp only [SE.val]; rw [hu]; rfl
    have hqa : lo.tdiv 10 = ((a / 10 : Nat) : Int) := by rw [ha]; rfl
    have hqb : hi.tdiv 10 = ((b / 10 : Nat) : Int) := by rw [hb]; rfl
    have hlow : (lowD (m + 1) : Int) ≤ ((u / 10 : Nat) : Int) := by
      cases m with
      | zero => show ((0 : Nat) : Int) ≤ _; exact Int.ofNat_le.2 (Nat.zero_le _)
      | succ k =>
        have e1 : lowD (k + 1 + 1) = 10 ^ (k + 1) := rfl
        have e2 : (10 : Nat) ^ (k + 1 + 1) = 10 ^ (k + 1) * 10 := Nat.pow_succ ..
        rw [e1]
        omega
    obtain ⟨ih1, ih2⟩ := digSym_spec (m + 1) (lo.tdiv 10) (hi.tdiv 10) (mkQuo e (.lit 10)) (by omega) (by rw [hq, hqa]; omega) (by rw [hq, hqb]; omega) (by rw [hq]; exact hlow) (by rw [hq]; omega) (by rw [hqa]; omega) (by rw [hqb]; omega) (mkQuo_ok ho trivial)
    have hok : SB.ok (.s 48 57 (mkAdd (.lit 48) (.rem e (.lit 10)))) := by
      have hv : (mkAdd (.lit 48) (.rem e (.lit 10))).val = 48 + ((u % 10 : Nat) : Int) := by rw [mkAdd_val, hr]; rfl
      refine ⟨?_, ?_, by omega, mkAdd_ok (a := .lit 48) trivial ⟨ho, trivial⟩⟩
      · rw [hv]; omega
      · rw [hv]; omega
    refine ⟨?_, fun p hp => ?_⟩
    · simp only [digSym, List.map_append, ih1, List.map_cons, List.map_nil]
      rw [hu, hq]
      simp only [Int.toNat_natCast]
      conv => rhs; rw [Lib.decDigits]
      rw [dif_neg (by omega)]
      congr 1
      simp only [SB.byte, mkAdd_val, SE.val]
      have hm : e.val.tmod 10 = ((u % 10 : Nat) : Int) := by rw [hu]; rfl
      congr 2
      omega
    · simp only [digSym, List.mem_append, List.mem_singleton] at hp
      rcases hp with h | rfl
      · exact ih2 p h
      · exact hok
theorem itoaSym_spec {lo hi : Int} {e : SE} {l : List SB} (h : itoaSym lo hi e = some l) (h1 : lo ≤ e.val) (h2 : e.val ≤ hi) (ho : e.ok) : l.map SB.byte = Lib.itoa e.val ∧ (∀ p ∈ l, p.ok) ∧ -9223372036854775808 ≤ e.val ∧ e.val ≤ 9223372036854775807 := by
  unfold itoaSym at h
  split at h
  · rename_i m hm
    cases h
    obtain ⟨g1, g2, g3, g4⟩ := digN_spec (by omega) (by omega) hm
    have hpos : (0 : Int) ≤ lowD m := Int.natCast_nonneg _
    have hp : (10 : Nat) ^ m ≤ 10 ^ 18 := Nat.pow_le_pow_right (by omega) g4
    obtain ⟨q1, q2⟩ := digSym_spec m lo hi e g3 h1 h2 (by omega) (by omega) (by omega) g2 ho
    refine ⟨?_, q2, by omega, by omega⟩
    rw [q1]
    unfold Lib.itoa
    rw [if_neg (by omega)]
  · cases h
/-- A text, by its bytes. -/
def toSB : AV → Option (List SB)
  | .str s => some (bsOf s)
  | .ss l => some l
  | _ => none
def bytesOf (l : List SB) : ByteArray := ⟨(l.map SB.byte).toArray⟩
theorem toSB_R {s : Path → Option Ref} {a : AV} {l : List SB} {x : Value} (h : toSB a = some l) (hx : VR s a x) : x = .string (bytesOf l) ∧ ∀ p ∈ l, p.ok := by
  unfold toSB at h
  split at h
  · rename_i t
    cases h
    have hx : x = .string t := hx
    refine ⟨?_, bsOf_ok t⟩
    rw [hx, bytesOf, bsOf_bytes]
  · cases h; exact ⟨hx.1, hx.2⟩
  · cases h
/-- The texts of rows. -/
noncomputable def sbsIn (rows : Tr (List AV)) : Nat → Nat → Option (List (List SB))
  | 0, _ => some []
  | n + 1, i => match get (pathOf i) rows with
    | some [a] => match toSB a, sbsIn rows n (i + 1) with | some s, some l => some (s :: l) | _, _ => none
    | _ => none
theorem sbsIn_at {rows : Tr (List AV)} : ∀ {n i : Nat} {L : List (List SB)}, sbsIn rows n i = some L → L.length = n ∧ ∀ (j : Nat) (hj : j < L.length), ∃ a, get (pathOf (i + j)) rows = some [a] ∧ toSB a = some L[j]
  | 0, i, L, h => by
    cases h
    exact ⟨rfl, fun j hj => absurd hj (Nat.not_lt_zero _)⟩
  | n + 1, i, L, h => by
    unfold sbsIn at h
    split at h
    · rename_i a hs
      split at h
      · rename_i s l ha hl
        cases h
        obtain ⟨h1, h2⟩ := sbsIn_at hl
        refine ⟨by simp [h1], fun j hj => ?_⟩
        cases j with
        | zero => exact ⟨a, hs, ha⟩
        | succ j =>
          obtain ⟨b, q1, q2⟩ := h2 j (by simpa using hj)
          exact ⟨b, by rw [show i + (j + 1) = i + 1 + j by omega, q1], by simpa using q2⟩
      · cases h
    · cases h
theorem map_intercalate' {α β : Type} (f : α → β) (sep : List α) : ∀ (L : List (List α)), (sep.intercalate L).map f = (sep.map f).intercalate (L.map (List.map f))
  | [] => rfl
  | [x] => by simp [List.intercalate, List.intersperse]
  | x :: y :: l => by
    have ih := map_intercalate' f sep (y :: l)
    simp only [List.intercalate, List.intersperse, List.flatten_cons, List.map_append, List.map_cons] at ih ⊢
    rw [ih]
theorem mem_intercalate' {α : Type} {sep : List α} {p : α} : ∀ {L : List (List α)}, p ∈ sep.intercalate L → p ∈ sep ∨ ∃ x ∈ L, p ∈ x
  | [], h => by simp [List.intercalate, List.intersperse] at h
  | [x], h => by simp [List.intercalate, List.intersperse] at h; exact .inr ⟨x, by simp, h⟩
  | x :: y :: l, h => by
    simp only [List.intercalate, List.intersperse, List.flatten_cons, List.mem_append] at h
    rcases h with h | h | h
    · exact .inr ⟨x, by simp, h⟩
    · exact .inl h
    · rcases mem_intercalate' (L := y :: l) h with h | ⟨z, hz, hp⟩
      · exact .inl h
      · exact .inr ⟨z, by simp [hz], hp⟩
end Go.Ev
