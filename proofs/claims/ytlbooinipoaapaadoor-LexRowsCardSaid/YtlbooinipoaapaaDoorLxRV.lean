import Derived.Test.YtlbooinipoaapaaDoorLxRU
import Derived.Test.YtlbooinipoaapaaDoorLxTextTok
set_option linter.unusedSimpArgs false
set_option linter.unusedVariables false
set_option linter.unusedSectionVars false
namespace Go.Proofs.Lx
open Go.Ev

theorem tk_head {call : Calls'} {l : List UInt8} {M : Nat} {b : Bool} (n : Int) (q : ∀ h, call 23 [T l, .int .i64 (clampA l.length n : Int)] h = .ret (.tup [.int .i64 (M : Int), .bool b]) h) (fuel : Nat) (h : H) :
    ∃ F, evC call fuel c15_1 (.node (some (.v (T l))) (.node (some (.v (.int .i64 n))) .nil .nil .nil .nil) .nil .nil (.node (some (.box h.gen [.int .i64 0, .str ⟨#[]⟩, .int .i64 0, .int .i64 0, .bool false, .int .i64 0])) .nil .nil .nil .nil)) ⟨h.next, h.t, h.gen + 1⟩ = evC call fuel c15_4 F ⟨h.next, h.t, h.gen + 1 + 1⟩ ∧ Ev.get [] F = some (.v (T l)) ∧ Ev.get [.a] F = some (.v (.int .i64 (M : Int))) ∧ Ev.get [.b, .a] F = some (.box (h.gen + 1) [.int .i64 0, .str ⟨#[]⟩, .int .i64 0, .int .i64 (M : Int), .bool b]) ∧ Ev.get [.d] F = some (.box h.gen Z6) := by
  rcases Decidable.em (n < 0) with h1 | h1
  · have h2 : ¬ (l.length : Int) < n := by omega
    have h3 : ¬ (0 : Int) < n := by omega
    have e : clampA l.length n = 0 := by unfold clampA; rw [if_pos h1]
    rw [e] at q
    simp at q
    refine ⟨?F1, ?e1, ?_, ?_, ?_, ?_⟩
    case e1 =>
      simp [-y_Hnew, c15_1, c15_2, c15_3, vMinMax, q, vExtract, gs, h1, h2, h3]
      rfl
    all_goals simp [gs]
  
  · rcases Decidable.em ((l.length : Int) < n) with h2 | h2
    · have h3 : ¬ (l.length : Int) < 0 := by omega
      have e : clampA l.length n = l.length := by unfold clampA; rw [if_neg h1, if_pos h2]
      rw [e] at q
      rcases Decidable.em (0 < l.length) with h4 | h4
      · have h4' : (0 : Int) < (l.length : Int) := by omega
        refine ⟨?F2, ?e2, ?_, ?_, ?_, ?_⟩
        case e2 =>
          simp [-y_Hnew, c15_1, c15_2, c15_3, vMinMax, q, vExtract, gs, h1, h2, h3, h4, h4']
          rfl
        all_goals simp [gs]
      
      · have h4' : ¬ (0 : Int) < (l.length : Int) := by omega
        have e0 : l = [] := List.length_eq_zero_iff.1 (by omega)
        subst e0
        simp at q h2
        refine ⟨?F3, ?e3, ?_, ?_, ?_, ?_⟩
        case e3 =>
          simp [-y_Hnew, c15_1, c15_2, c15_3, vMinMax, q, vExtract, gs, h1, h2, h3, h4, h4']
          rfl
        all_goals simp [gs]
      
    · obtain ⟨n, rfl⟩ := Int.eq_ofNat_of_zero_le (Int.not_lt.1 h1)
      have e : clampA l.length (n : Int) = n := by unfold clampA; rw [if_neg h1, if_neg h2]; omega
      rw [e] at q
      rcases Decidable.em (0 < n) with h4 | h4
      · have h4' : (0 : Int) < (n : Int) := by omega
        have h2' : n ≤ l.length := by omega
        have h2'' : ¬ l.length < n := by omega
        refine ⟨?F4, ?e4, ?_, ?_, ?_, ?_⟩
        case e4 =>
          simp [-y_Hnew, c15_1, c15_2, c15_3, vMinMax, q, vExtract, gs, h1, h2, h2', h2'', h4, h4']
          rfl
        all_goals simp [gs]
      
      · have e0 : n = 0 := by omega
        subst e0
        simp at q
        have h5 : ¬ (l.length : Int) < 0 := by omega
        refine ⟨?F5, ?e5, ?_, ?_, ?_, ?_⟩
        case e5 =>
          simp [-y_Hnew, c15_1, c15_2, c15_3, vMinMax, q, vExtract, gs, h1, h2, h4, h5]
          rfl
        all_goals simp [gs]
      
/-- The reference's token from a place on. -/
def refM (l : List UInt8) (n : Int) : Nat := nextM l (clampA l.length n)
def refA (l : List UInt8) (n : Int) : AV := .agg ((refT l (refM l n)).found (refM l n) (skipP (l.drop (clampA l.length n))).2)
theorem t15 {call : Calls'} (k24 : ∀ c h, call 24 [.int .u8 (UInt8.toNat c : Int)] h = .ret (.bool (digB c)) h) (k27 : ∀ c h, call 27 [.int .u8 (UInt8.toNat c : Int)] h = .ret (.bool (letB c)) h) (k20 : ∀ s h, call 20 [.str s] h = .ret (.bool (isW s)) h)
  (k25 : ∀ (l : List UInt8) (a m : Nat) (b : Bool) h (hl : l.length ≤ 1000000) (ha : a < l.length), digB l[a] = true → call 25 [T l, .int .i64 (a : Int), .agg [.int .i64 0, .str ⟨#[]⟩, .int .i64 0, .int .i64 (m : Int), .bool b]] h = .ret (.agg (((numT (l.drop a)).sh a).found m b)) h)
  (k26 : ∀ (l : List UInt8) (a m : Nat) (b : Bool) h (hl : l.length ≤ 1000000) (ha : a < l.length), call 26 [T l, .int .i64 (a : Int), .agg [.int .i64 0, .str ⟨#[]⟩, .int .i64 0, .int .i64 (m : Int), .bool b]] h = .ret (.agg ((rqT l a).found m b)) h)
  (k28 : ∀ h, call 28 [] h = .ret (.sl h.next 1 0 26) (h.new sB))
  (k23 : ∀ (l : List UInt8) (n : Nat) h, l.length ≤ 1000000 → n ≤ l.length → call 23 [T l, .int .i64 (n : Int)] h = .ret (.tup [.int .i64 ((nextM l n : Nat) : Int), .bool (skipP (l.drop n)).2]) h)
  (l : List UInt8) (n : Int) (h : H) (hl : l.length ≤ 1000000) :
    Tells (evFun LF15 call (l.length + 30) 15 [T l, .int .i64 n] h) h (refA l n) := by
  have hM : refM l n ≤ l.length := nextM_le (clampA_le _ _)
  obtain ⟨F, h1, hF⟩ := tk_head (call := call) (l := l) (M := refM l n) (b := (skipP (l.drop (clampA l.length n))).2) n (fun h => k23 l (clampA l.length n) h hl (clampA_le _ _)) (l.length + 30) h
  obtain ⟨fr', h', h2, h3, h4⟩ := tk_body (call := call) k24 k27 k20 k25 k26 k28 hl hM (Nat.le_refl _) ⟨h.next, h.t, h.gen + 1 + 1⟩ F hF
  rw [h2] at h1
  have hk : OldKept h h' := by
    rcases h3 with e | e
    · subst e; exact .gen
    · subst e; exact OldKept.new .gen (Nat.le_refl _) _
  unfold refA Tk.found
  simp [-y_Hnew, Tells, evFun, FF15, c15, h1, h4, Tk.found]
  try exact hk
end Go.Proofs.Lx
