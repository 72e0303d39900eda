/- Blanks ahead, plainly; a token by what is left behind them. -/
import Derived.Test.YtlbooinipoaapaaDoorLxL8
set_option linter.unusedVariables false
namespace Go.Proofs.Lx
open Go.Ev
theorem preB_take {l p : List UInt8} (h : preB l p = true) : p.length ≤ l.length ∧ l.take p.length = p := by
  unfold preB at h
  simp only [Bool.and_eq_true, decide_eq_true_eq] at h
  refine ⟨h.1, ?_⟩
  have := h.2
  rw [bytesEq_iff] at this
  simpa using this
theorem line_pos {c : UInt8} {r : List UInt8} (h : preB (c :: r) [47, 47] = true) : 0 < ((c :: r).takeWhile lineB).length := by
  have h2 := (preB_take h).2
  have hc : c = 47 := by
    cases r with
    | nil => simp at h2
    | cons d r => simp at h2; exact h2.1
  subst hc
  rw [List.takeWhile_cons, if_pos (by decide)]
  simp
theorem skip_fuel : ∀ (f g : Nat) (l : List UInt8), l.length < f → l.length < g → skipGo f l = skipGo g l
  | 0, _, _, h, _ => absurd h (Nat.not_lt_zero _)
  | _ + 1, 0, _, _, h => absurd h (Nat.not_lt_zero _)
  | f + 1, g + 1, [], _, _ => rfl
  | f + 1, g + 1, c :: r, h1, h2 => by
    rw [skipGo_cons, skipGo_cons]
    simp only [List.length_cons] at h1 h2
    split
    · rw [skip_fuel f g r (by omega) (by omega)]
    · split
      · rename_i hp
        have := line_pos hp
        have hd : ((c :: r).drop ((c :: r).takeWhile lineB).length).length ≤ r.length := by
          rw [List.length_drop, List.length_cons]; omega
        rw [skip_fuel f g _ (by omega) (by omega)]
      · rfl
theorem skipB_one {c : UInt8} (h : blankB c = true) (r : List UInt8) : skipP (c :: r) = ((skipP r).1 + 1, eqI c 10 || (skipP r).2) := by
  unfold skipP
  rw [skipGo_cons, if_pos h, skip_fuel (c :: r).length (r.length + 1) r (by simp) (by omega)]
theorem skip_line {q r : List UInt8} (hq : ∀ c ∈ q, lineB c = true) (h2 : preB q [47, 47] = true) : skipP (q ++ 10 :: r) = (q.length + 1 + (skipP r).1, true) := by
  have hw : (q ++ 10 :: r).takeWhile lineB = q := by
    rw [List.takeWhile_append_of_pos hq, List.takeWhile_cons, if_neg (by decide), List.append_nil]
  have hp : preB (q ++ 10 :: r) [47, 47] = true := by
    have := preB_take h2
    unfold preB
    simp only [Bool.and_eq_true, decide_eq_true_eq, List.length_append]
    refine ⟨by omega, ?_⟩
    rw [bytesEq_iff, List.take_append_of_le_length this.1, this.2]
    decide
  match q, hq, hw, hp with
  | [], _, _, _ => exact absurd h2 (by decide)
  | c :: q, hq, hw, hp =>
    have hc : blankB c = false := by
      have := (preB_take hp).2
      have hc : c = 47 := by
        cases q with
        | nil => simp at this
        | cons d q => simp at this; exact this.1
      subst hc; decide
    have e1 : skipP (c :: q ++ 10 :: r) = (((c :: q).length + (skipP (10 :: r)).1), (skipP (10 :: r)).2) := by
      have hw' : (c :: (q ++ 10 :: r)).takeWhile lineB = c :: q := hw
      unfold skipP
      rw [List.cons_append, skipGo_cons, hc]
      simp only [Bool.false_eq_true, if_false]
      rw [if_pos (by exact hp), hw']
      have hd : (c :: (q ++ 10 :: r)).drop (c :: q).length = 10 :: r := by
        rw [← List.cons_append, List.drop_left]
      rw [hd, skip_fuel (c :: (q ++ 10 :: r)).length ((10 :: r).length + 1) (10 :: r) (by simp; omega) (by omega)]
    rw [e1, skipB_one (by decide) r]
    have e10 : eqI 10 10 = true := by decide
    rw [e10]
    simp only [Bool.true_or]
    rw [Prod.mk.injEq]
    exact ⟨by omega, rfl⟩
def aheadN : Nat → List UInt8
  | 0 => [32]
  | 1 => [9]
  | 2 => [13]
  | 3 => [10]
  | 4 => [47, 47, 32, 120, 32, 123, 32, 34, 10]
  | _ => [47, 47, 10]
def aheadOf (c : UInt8) : List UInt8 := aheadN (c.toNat % 6)
def endsOf (c : UInt8) : Bool := decide (3 ≤ c.toNat % 6)
theorem skip_one (c : UInt8) (r : List UInt8) : skipP (aheadOf c ++ r) = ((aheadOf c).length + (skipP r).1, endsOf c || (skipP r).2) := by
  have hm : c.toNat % 6 < 6 := Nat.mod_lt _ (by decide)
  unfold aheadOf endsOf
  generalize c.toNat % 6 = m at *
  have h : m = 0 ∨ m = 1 ∨ m = 2 ∨ m = 3 ∨ m = 4 ∨ m = 5 := by omega
  rcases h with rfl | rfl | rfl | rfl | rfl | rfl
  · show skipP (32 :: r) = _
    rw [skipB_one (by decide), Nat.add_comm]; rfl
  · show skipP (9 :: r) = _
    rw [skipB_one (by decide), Nat.add_comm]; rfl
  · show skipP (13 :: r) = _
    rw [skipB_one (by decide), Nat.add_comm]; rfl
  · show skipP (10 :: r) = _
    rw [skipB_one (by decide), Nat.add_comm]; rfl
  · exact skip_line (q := [47, 47, 32, 120, 32, 123, 32, 34]) (r := r) (by decide) (by decide)
  · exact skip_line (q := [47, 47]) (r := r) (by decide) (by decide)
theorem skipB_all (bs : List UInt8) (r : List UInt8) : skipP (bs.flatMap aheadOf ++ r) = ((bs.flatMap aheadOf).length + (skipP r).1, bs.any endsOf || (skipP r).2) := by
  induction bs with
  | nil => simp
  | cons c bs ih =>
    rw [List.flatMap_cons, List.append_assoc, skip_one, ih, List.length_append, List.any_cons, Bool.or_assoc, Nat.add_assoc]
/-- A token, by what is left. -/
def tokD (d : List UInt8) : Tk := (((Tk.or ⟨if 0 < d.length then 6 else 0, ⟨#[]⟩, 0, 0⟩ (numT d)).or (textT d)).or (nameT d)).or (signT d)
theorem nextT_tok (l : List UInt8) (a : Nat) : nextT l a = tokD (l.drop (nextM l a)) := by
  unfold nextT tokD
  have : (nextM l a < l.length) = (0 < (l.drop (nextM l a)).length) := by
    rw [List.length_drop]; apply propext; omega
  simp only [this]
theorem next_ahead (ah s : List UInt8) (n : Nat) (b : Bool) (h : skipP (ah ++ s) = (ah.length + (skipP s).1, b)) : nextM (ah ++ s) 0 = ah.length + nextM s 0 ∧ nextT (ah ++ s) 0 = nextT s 0 := by
  have h1 : nextM (ah ++ s) 0 = ah.length + nextM s 0 := by
    unfold nextM
    rw [List.drop_zero, List.drop_zero, h]
    simp only; omega
  refine ⟨h1, ?_⟩
  rw [nextT_tok, nextT_tok, h1, List.drop_append, List.drop_of_length_le (by omega), List.nil_append, Nat.add_sub_cancel_left]
/-- Where blanks have been skipped, nothing is to be skipped. -/
theorem skip_done : ∀ (f : Nat) (l : List UInt8), l.length < f → skipP (l.drop (skipGo f l).1) = (0, false)
  | 0, _, h => absurd h (Nat.not_lt_zero _)
  | f + 1, [], _ => rfl
  | f + 1, c :: r, h => by
    simp only [List.length_cons] at h
    rw [skipGo_cons]
    split
    · rename_i hb
      rw [List.drop_succ_cons]
      exact skip_done f r (by omega)
    · rename_i hb
      split
      · rename_i hp
        have := line_pos hp
        rw [← List.drop_drop]
        refine skip_done f _ ?_
        rw [List.length_drop, List.length_cons]; omega
      · rename_i hp
        rw [List.drop_zero]
        unfold skipP
        rw [skipGo_cons, if_neg hb, if_neg hp]
theorem nextM_again (l : List UInt8) (a : Nat) : nextM l (nextM l a) = nextM l a := by
  show nextM l a + (skipP (l.drop (nextM l a))).1 = nextM l a
  have : skipP (l.drop (nextM l a)) = (0, false) := by
    have := skip_done ((l.drop a).length + 1) (l.drop a) (by omega)
    rw [List.drop_drop] at this
    exact this
  rw [this]
  rfl
theorem nextT_again (l : List UInt8) (a : Nat) : nextT l (nextM l a) = nextT l a := by
  rw [nextT_tok, nextT_tok, nextM_again]
end Go.Proofs.Lx
