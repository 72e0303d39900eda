import Derived.Test.YtlbooinipoaapaaDoorLxChain
set_option linter.unusedSimpArgs false
set_option linter.unusedVariables false
namespace Go.Proofs.Lx
open Go.Ev
/-- A place, within a text. -/
def clampA (n : Nat) (a : Int) : Nat := if a < 0 then 0 else if (n : Int) < a then n else a.toNat
theorem clampA_le (n : Nat) (a : Int) : clampA n a ≤ n := by unfold clampA; split; omega; split <;> omega
theorem hk21_21 (l : List UInt8) (n : Nat) (h : H) (hl : l.length ≤ 1000000) (hn : n ≤ l.length) : k21 21 [T l, .int .i64 (n : Int)] h = .ret (.tup [nextA l n, .int .i64 ((nextM l n + (nextT l n).z : Nat) : Int)]) h := by
  show S21 [T l, .int .i64 (n : Int)] h = _
  unfold S21
  have hc : (⟨l.toArray⟩ : ByteArray).data.toList.length ≤ 1000000 ∧ 0 ≤ (n : Int) ∧ (n : Int) ≤ ((⟨l.toArray⟩ : ByteArray).data.toList.length : Int) := ⟨by simpa using hl, by omega, by simpa using hn⟩
  simp only
  rw [if_pos hc]
  simp
theorem y_minmax (mx : Bool) (x y : Rd) (fr : FT) : vMinMax mx x y fr = match gv x fr with
  | some (.int j a) => (match gv y fr with | some (.int k b) => (match keq j k with | true => some (.v (.int k (match (match mx with | true => ilt a b | false => ilt b a) with | true => b | false => a))) | false => none) | _ => none)
  | _ => none := rfl
theorem t11 {call : Calls'} (l : List UInt8) (a : Int) (h : H) (k21' : ∀ (n : Nat) h, n ≤ l.length → call 21 [T l, .int .i64 (n : Int)] h = .ret (.tup [nextA l n, .int .i64 ((nextM l n + (nextT l n).z : Nat) : Int)]) h) : Tells (evFun LF11 call 1 11 [T l, .int .i64 a] h) h (nextA l (clampA l.length a)) := by
  have q := fun h => k21' (clampA l.length a) h (clampA_le _ _)
  rcases Decidable.em (a < 0) with h1 | h1
  · have h2 : ¬ (l.length : Int) < a := by omega
    have h3 : ¬ (0 : Int) < a := by omega
    have e : clampA l.length a = 0 := by unfold clampA; rw [if_pos h1]
    rw [e] at q ⊢
    simp at q
    simp [Tells, evFun, FF11, c11, c11_1, c11_2, vMinMax, q, h1, h2, h3, vExtract]
  · rcases Decidable.em ((l.length : Int) < a) with h2 | h2
    · have h3 : ¬ (l.length : Int) < 0 := by omega
      have e : clampA l.length a = l.length := by unfold clampA; rw [if_neg h1, if_pos h2]
      rw [e] at q ⊢
      rcases Decidable.em (0 < l.length) with h4 | h4
      · have h4' : (0 : Int) < (l.length : Int) := by omega
        simp [Tells, evFun, FF11, c11, c11_1, c11_2, vMinMax, q, h1, h2, h3, h4, h4', vExtract]
      · have h4' : ¬ (0 : Int) < (l.length : Int) := by omega
        have e0 : l.length = 0 := by omega
        rw [e0] at q h2 ⊢
        simp at q h2
        simp [Tells, evFun, FF11, c11, c11_1, c11_2, vMinMax, q, h1, h2, h3, h4, h4', e0, vExtract]
    · obtain ⟨n, rfl⟩ := Int.eq_ofNat_of_zero_le (Int.not_lt.1 h1)
      have e : clampA l.length (n : Int) = n := by unfold clampA; rw [if_neg h1, if_neg h2]; omega
      rw [e] at q ⊢
      rcases Decidable.em (0 < n) with h4 | h4
      · have h4' : (0 : Int) < (n : Int) := by omega
        have h2' : n ≤ l.length := by omega
        have h2'' : ¬ l.length < n := by omega
        simp [Tells, evFun, FF11, c11, c11_1, c11_2, vMinMax, q, h1, h2, h2', h2'', h4, h4', vExtract]
      · have e0 : n = 0 := by omega
        subst e0
        simp at q
        have h5 : ¬ (l.length : Int) < 0 := by omega
        simp [Tells, evFun, FF11, c11, c11_1, c11_2, vMinMax, q, h5, vExtract]
noncomputable def S11 : List AV → H → CR := fun xs h => match xs with
  | [.str s, .int .i64 a] => if s.data.toList.length ≤ 1000000 then .ret (nextA s.data.toList (clampA s.data.toList.length a)) h else .bad 0
  | _ => .bad 0
noncomputable def k11 : Calls' := upd k21 11 S11
theorem ok11 : CallsOk Γ Tryd.prog k11 := ok21.add mixed (F := LF11) (one_ok c11_ok) fun xs h r e hb => by
  unfold S11 at e
  split at e
  · rename_i s a
    split at e
    · rename_i hc
      subst e
      rw [T_of s]
      exact ⟨1, comes_tells (t11 _ a h (fun n h hn => hk21_21 _ n h hc hn)) rfl⟩
    · subst e; exact absurd rfl (hb 0)
  · subst e; exact absurd rfl (hb 0)
theorem hk11_11 (l : List UInt8) (a : Int) (h : H) (hl : l.length ≤ 1000000) : k11 11 [T l, .int .i64 a] h = .ret (nextA l (clampA l.length a)) h := by
  show S11 [T l, .int .i64 a] h = _
  unfold S11
  simp only
  rw [if_pos (by simpa using hl)]
end Go.Proofs.Lx
