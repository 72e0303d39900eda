/- A quoted text is read as it was. -/
import Derived.Test.YtlbooinipoaapaaDoorLxQuote
set_option linter.unusedSimpArgs false
set_option linter.unusedVariables false
namespace Go.Proofs.Lx
open Go.Ev
/-- Bytes that may stand in a text. -/
def Fit (c : UInt8) : Prop := (c.toNat : Int) = 10 ∨ (¬ (c.toNat : Int) < 32 ∧ ¬ 126 < (c.toNat : Int))
theorem quotB_esc {c : UInt8} (hv : Fit c) (r : List UInt8) : quotB (escB c ++ r) = (c, (escB c).length) := by
  unfold escB
  by_cases h34 : (c.toNat : Int) = 34
  · simp [quotB, eqI, leI, geI, h34]
  by_cases h92 : (c.toNat : Int) = 92
  · simp [quotB, eqI, leI, geI, h92]
  by_cases h10 : (c.toNat : Int) = 10
  · have hc : c = 10 := UInt8.toNat_inj.1 (by show c.toNat = 10; omega)
    subst hc
    rfl
  · rcases hv with h | ⟨h1, h2⟩
    · exact absurd h h10
    · simp [quotB, eqI, leI, geI, h34, h92, h10, h1, h2]
theorem esc_head {c : UInt8} : ∃ x xs, escB c = x :: xs ∧ ¬ (x.toNat : Int) = 34 := by
  unfold escB
  by_cases h34 : (c.toNat : Int) = 34
  · exact ⟨92, [c], by simp [eqI, h34], by decide⟩
  by_cases h92 : (c.toNat : Int) = 92
  · exact ⟨92, [c], by simp [eqI, h92], by decide⟩
  by_cases h10 : (c.toNat : Int) = 10
  · exact ⟨92, [110], by simp [eqI, h10], by decide⟩
  · exact ⟨c, [], by simp [eqI, h34, h92, h10], h34⟩
theorem text_read : ∀ (s : List UInt8), (∀ c ∈ s, Fit c) → ∀ (pre rest acc : List UInt8) (f : Nat), s.length < f → textGo f (pre ++ (s.flatMap escB ++ 34 :: rest)) pre.length acc = (false, pre.length + (s.flatMap escB).length, acc ++ s)
  | [], _, pre, rest, acc, f + 1, _ => by
    have hn : pre.length < (pre ++ (34 :: rest)).length := by simp
    have hx : (((pre ++ (34 :: rest))[pre.length]'hn).toNat : Int) = 34 := by simp
    simp only [List.flatMap_nil, List.nil_append]
    rw [textGo_end hn hx]
    simp
  | c :: s, hs, pre, rest, acc, f + 1, hf => by
    obtain ⟨x, xs, hx, hne⟩ := esc_head (c := c)
    have hl : pre ++ ((c :: s).flatMap escB ++ 34 :: rest) = pre ++ (escB c ++ (s.flatMap escB ++ 34 :: rest)) := by
      rw [List.flatMap_cons, List.append_assoc]
    have hpos := escB_len c
    rw [hl]
    have hn : pre.length < (pre ++ (escB c ++ (s.flatMap escB ++ 34 :: rest))).length := by simp; omega
    have hh : ¬ (((pre ++ (escB c ++ (s.flatMap escB ++ 34 :: rest)))[pre.length]'hn).toNat : Int) = 34 := by
      rw [List.getElem_append_right (Nat.le_refl _)]
      simp only [Nat.sub_self, hx, List.cons_append, List.getElem_cons_zero]
      exact hne
    rw [textGo_in hn hh]
    have hd : (pre ++ (escB c ++ (s.flatMap escB ++ 34 :: rest))).drop pre.length = escB c ++ (s.flatMap escB ++ 34 :: rest) := by simp
    rw [hd, quotB_esc (hs c (by simp))]
    simp only
    rw [if_neg (by omega)]
    have ih := text_read s (fun d hd => hs d (by simp [hd])) (pre ++ escB c) rest (acc ++ [c]) f (by simp at hf; omega)
    rw [List.length_append, List.append_assoc] at ih
    rw [ih, List.flatMap_cons, List.length_append]
    simp [Nat.add_assoc]
end Go.Proofs.Lx
