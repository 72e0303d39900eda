/- What stands where a quoted text begins. -/
import Derived.Test.YtlbooinipoaapaaDoorLxTextLaw
set_option linter.unusedSimpArgs false
set_option linter.unusedVariables false
namespace Go.Proofs.Lx
open Go.Ev
theorem skip_quote (r : List UInt8) : skipP (34 :: r) = (0, false) := by
  have hb : blankB 34 = false := by decide
  unfold skipP
  rw [skipGo_cons, hb, pre_ne (by decide)]
  rfl
theorem num_quote (r : List UInt8) : numT (34 :: r) = ⟨0, ⟨#[]⟩, 0, 0⟩ := by
  have : (34 :: r).takeWhile digB = [] := by rw [List.takeWhile_cons]; rfl
  unfold numT
  rw [this]; rfl
theorem name_quote (r : List UInt8) : nameT (34 :: r) = ⟨0, ⟨#[]⟩, 0, 0⟩ := by
  have : letB 34 = false := by decide
  simp [nameT, this]
theorem sign_quote (r : List UInt8) : signT (34 :: r) = ⟨0, ⟨#[]⟩, 0, 0⟩ := by
  have key : ∀ (L : List (List UInt8)), (∀ x ∈ L, ∃ y ys, x = y :: ys ∧ y.toNat ≠ 34) → firstS (34 :: r) L = none := by
    intro L
    induction L with
    | nil => intro _; rfl
    | cons x L ih =>
      intro hL
      obtain ⟨y, ys, rfl, hy⟩ := hL x (by simp)
      rw [firstS_cons, pre_ne (fun e => hy e.symm)]
      exact ih (fun x hx => hL x (by simp [hx]))
  have : firstS (34 :: r) signsL = none := by
    refine key signsL ?_
    unfold signsL
    simp only [List.forall_mem_cons]
    refine ⟨?_, ?_, ?_, ?_, ?_, ?_, ?_, ?_, ?_, ?_, ?_, ?_, ?_, ?_, ?_, ?_, ?_, ?_, ?_, ?_, ?_, ?_, ?_, ?_, ?_, ?_, fun _ h => by cases h⟩
    all_goals exact ⟨_, _, rfl, by decide⟩
  unfold signT; rw [this]
/-- A quoted text's token, wherever it begins: pre, of blanks alone, was skipped. -/
theorem next_quote {s : List UInt8} (hs : ∀ c ∈ s, Fit c) (l rest : List UInt8) (a m : Nat) (hm : nextM l a = m) (hd : l.drop m = quoteP s ++ rest) : nextT l a = ⟨2, ⟨s.toArray⟩, 0, (quoteP s).length⟩ := by
  have ht := textT_quote hs rest
  unfold nextT
  rw [hm, hd, ht, quote_cons, num_quote, name_quote, sign_quote]
  have hp : 0 < (quoteP s).length := by rw [quote_len]; omega
  simp [Tk.or, hp]
end Go.Proofs.Lx
