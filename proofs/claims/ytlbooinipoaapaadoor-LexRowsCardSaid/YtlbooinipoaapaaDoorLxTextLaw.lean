/- A quoted text as a token; Quote in the chain. -/
import Derived.Test.YtlbooinipoaapaaDoorLxL4
import Derived.Test.YtlbooinipoaapaaDoorLxQuoteLaw
set_option linter.unusedSimpArgs false
set_option linter.unusedVariables false
namespace Go.Proofs.Lx
open Go.Ev
noncomputable def S12 : List AV → H → CR := fun xs h => match xs with
  | [.str s] => if s.data.toList.length ≤ 400000 then .ret (T (quoteP s.data.toList)) h else .bad 0
  | _ => .bad 0
noncomputable def k12 : Calls' := upd k10 12 S12
theorem ok12 : CallsOk Γ Tryd.prog k12 := ok10.add mixed (F := LF12) (one_ok c12_ok) fun xs h r e hb => by
  unfold S12 at e
  split at e
  · rename_i s
    split at e
    · rename_i hc
      subst e
      rw [T_of s]
      exact ⟨_, comes_tells (t12 _ h hc) rfl⟩
    · subst e; exact absurd rfl (hb 0)
  · subst e; exact absurd rfl (hb 0)
theorem quote_cons (s rest : List UInt8) : quoteP s ++ rest = 34 :: (s.flatMap escB ++ 34 :: rest) := by
  unfold quoteP
  simp
theorem quote_len (s : List UInt8) : (quoteP s).length = (s.flatMap escB).length + 2 := by
  unfold quoteP
  rw [List.length_append, List.length_append, List.length_singleton]; omega
theorem flat_ge (s : List UInt8) : s.length ≤ (s.flatMap escB).length := by
  induction s with
  | nil => simp
  | cons c s ih => have := escB_len c; rw [List.flatMap_cons, List.length_append, List.length_cons]; omega
theorem textT_quote {s : List UInt8} (hs : ∀ c ∈ s, Fit c) (rest : List UInt8) : textT (quoteP s ++ rest) = ⟨2, ⟨s.toArray⟩, 0, (quoteP s).length⟩ := by
  rw [quote_cons, quote_len]
  have hg := flat_ge s
  have hl : (34 :: (s.flatMap escB ++ 34 :: rest)).length = (s.flatMap escB).length + rest.length + 2 := by
    rw [List.length_cons, List.length_append, List.length_cons]; omega
  have h := text_read s hs [34] rest [] ((34 :: (s.flatMap escB ++ 34 :: rest)).length + 1) (by omega)
  have h : textGo ((34 :: (s.flatMap escB ++ 34 :: rest)).length + 1) (34 :: (s.flatMap escB ++ 34 :: rest)) 1 [] = (false, 1 + (s.flatMap escB).length, s) := h
  unfold textT
  simp only [h]
  rw [if_pos (by decide), if_neg (by decide), if_neg (by rw [hl]; omega)]
  congr 1
  omega
end Go.Proofs.Lx
