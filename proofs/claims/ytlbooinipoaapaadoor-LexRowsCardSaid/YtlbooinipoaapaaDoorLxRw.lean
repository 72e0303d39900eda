/- Rows of tokens, plainly. -/
import Derived.Test.YtlbooinipoaapaaDoorLxBl
set_option linter.unusedVariables false
namespace Go.Proofs.Lx
open Go.Ev
/-- What a token of this rest is like. -/
structure GoodT (d : List UInt8) (t : Tk) : Prop where
  kind : t.k = 0 ∨ t.k = 1 ∨ t.k = 2 ∨ t.k = 3 ∨ t.k = 4 ∨ t.k = 5 ∨ t.k = 6
  some : 0 < t.z → t.k ≠ 0
  text : t.k = 1 ∨ t.k = 3 ∨ t.k = 4 ∨ t.k = 5 → ∃ m, t.s = ⟨(d.take m).toArray⟩
theorem GoodT.or {d : List UInt8} {x y : Tk} (hx : GoodT d x) (hy : GoodT d y) : GoodT d (x.or y) := by
  unfold Tk.or; split
  · exact hy
  · exact hx
theorem good_nil (d : List UInt8) (k : Int) (hk : k = 0 ∨ k = 6) : GoodT d ⟨k, ⟨#[]⟩, 0, 0⟩ := ⟨by rcases hk with rfl | rfl <;> simp, fun h => absurd h (Nat.lt_irrefl _), fun h => by rcases hk with rfl | rfl <;> simp at h⟩
theorem good_bad (d : List UInt8) (z : Nat) : GoodT d ⟨6, ⟨#[]⟩, 0, z⟩ := ⟨by simp, fun _ => by simp, fun h => by simp at h⟩
theorem good_num (d : List UInt8) : GoodT d (numT d) := by
  unfold numT
  simp only
  split
  · exact good_nil d 0 (.inl rfl)
  · split
    · exact good_bad d _
    · exact ⟨by simp, fun _ => by simp, fun _ => ⟨_, rfl⟩⟩
theorem good_text (d : List UInt8) : GoodT d (textT d) := by
  unfold textT
  split
  · exact good_nil _ 0 (.inl rfl)
  · split
    · split
      · exact good_bad _ _
      · split
        · exact good_bad _ _
        · exact ⟨by simp, fun _ => by simp, fun h => by simp at h⟩
    · exact good_nil _ 0 (.inl rfl)
theorem good_name (d : List UInt8) : GoodT d (nameT d) := by
  unfold nameT
  split
  · exact good_nil _ 0 (.inl rfl)
  · split
    · refine ⟨?_, fun _ => ?_, fun _ => ⟨_, rfl⟩⟩
      · simp only; split <;> simp
      · simp only; split <;> simp
    · exact good_nil _ 0 (.inl rfl)
theorem good_sign (d : List UInt8) : GoodT d (signT d) := by
  unfold signT
  split
  · rename_i x hx
    have := (preB_take (firstS_in hx)).2
    exact ⟨by simp, fun _ => by simp, fun _ => ⟨x.length, by rw [this]⟩⟩
  · exact good_nil _ 0 (.inl rfl)
theorem good_tok (d : List UInt8) : GoodT d (tokD d) := by
  unfold tokD
  refine (((GoodT.or ?_ (good_num d)).or (good_text d)).or (good_name d)).or (good_sign d)
  refine good_nil d _ ?_
  split
  · exact .inr rfl
  · exact .inl rfl
theorem or_ne {x y : Tk} {d : List UInt8} (hx : x.k ≠ 0) (hy : GoodT d y) : (x.or y).k ≠ 0 := by
  unfold Tk.or; split
  · rename_i h; exact hy.some h
  · exact hx
theorem tok_end {d : List UInt8} (h : (tokD d).k = 0) : d = [] := by
  cases d with
  | nil => rfl
  | cons c r =>
    refine absurd h ?_
    unfold tokD
    refine or_ne (or_ne (or_ne (or_ne ?_ (good_num _)) (good_text _)) (good_name _)) (good_sign _)
    simp
/-- Tokens from a place on. -/
inductive Tks (l : List UInt8) : Nat → List (List AV) → Prop
  | last {a : Nat} (ha : a ≤ l.length) (hk : (nextT l a).k = 0 ∨ (nextT l a).k = 6) : Tks l a [rowA l a]
  | more {a : Nat} {rest : List (List AV)} (ha : a ≤ l.length) (hk : ¬ ((nextT l a).k = 0 ∨ (nextT l a).k = 6)) (ht : Tks l (nextM l a + (nextT l a).z) rest) : Tks l a (rowA l a :: rest)
theorem toksGo_tks (l : List UInt8) : ∀ (f a : Nat) (acc : List (List AV)), a ≤ l.length → l.length - a < f → ∃ rest, toksGo f l a acc = acc ++ rest ∧ Tks l a rest
  | 0, _, _, _, h => absurd h (Nat.not_lt_zero _)
  | f + 1, a, acc, ha, hf => by
    by_cases hk : (nextT l a).k = 0 ∨ (nextT l a).k = 6
    · exact ⟨_, toksGo_end hk, .last ha hk⟩
    · rw [toksGo_on hk]
      have hz := next_z_pos l a ha (fun e => hk (.inl e)) (fun e => hk (.inr e))
      have hle := next_z_le l a ha
      have hge := nextM_ge l a
      obtain ⟨rest, h1, h2⟩ := toksGo_tks l f (nextM l a + (nextT l a).z) (acc ++ [rowA l a]) hle (by omega)
      exact ⟨rowA l a :: rest, by rw [h1, List.append_assoc]; rfl, .more ha hk h2⟩
theorem toks_tks (l : List UInt8) : Tks l 0 (toks l) := by
  obtain ⟨rest, h1, h2⟩ := toksGo_tks l (l.length + 1) 0 [] (Nat.zero_le _) (by omega)
  unfold toks
  rw [h1]; exact h2
theorem Tks.ne {l : List UInt8} {a : Nat} {r : List (List AV)} (h : Tks l a r) : r ≠ [] := by cases h <;> simp
theorem Tks.end {l : List UInt8} {a : Nat} {r : List (List AV)} (h : Tks l a r) : ∃ b, b ≤ l.length ∧ ((nextT l b).k = 0 ∨ (nextT l b).k = 6) ∧ r.getLast? = some (rowA l b) := by
  induction h with
  | last ha hk => exact ⟨_, ha, hk, rfl⟩
  | more ha hk ht ih =>
    obtain ⟨b, h1, h2, h3⟩ := ih
    refine ⟨b, h1, h2, ?_⟩
    rw [List.getLast?_cons, h3]; rfl
/-- What a token's row is like. -/
theorem row_facts (l : List UInt8) (a : Nat) (ha : a ≤ l.length) :
    ((nextT l a).k = 0 ∨ (nextT l a).k = 1 ∨ (nextT l a).k = 2 ∨ (nextT l a).k = 3 ∨ (nextT l a).k = 4 ∨ (nextT l a).k = 5 ∨ (nextT l a).k = 6) ∧
    ((nextT l a).k = 1 ∨ (nextT l a).k = 3 ∨ (nextT l a).k = 4 ∨ (nextT l a).k = 5 → nextM l a + (nextT l a).s.data.toList.length ≤ l.length ∧ (l.drop (nextM l a)).take (nextT l a).s.data.toList.length = (nextT l a).s.data.toList) ∧
    ((nextT l a).k = 0 → nextM l a = l.length) := by
  have hg := good_tok (l.drop (nextM l a))
  have hm := nextM_le ha
  rw [nextT_tok]
  refine ⟨hg.kind, fun h => ?_, fun h => ?_⟩
  · obtain ⟨m, e⟩ := hg.text h
    rw [e]
    simp only [List.length_take, List.length_drop]
    refine ⟨by omega, ?_⟩
    rw [List.take_eq_take_iff]
    simp
  · have := tok_end h
    rw [List.drop_eq_nil_iff] at this
    omega
end Go.Proofs.Lx
