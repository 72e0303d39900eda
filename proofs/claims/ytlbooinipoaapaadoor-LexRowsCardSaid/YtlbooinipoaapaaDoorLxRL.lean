/- The plain law: the reference's token is the one that next tells. -/
import Derived.Test.YtlbooinipoaapaaDoorLxRX
set_option linter.unusedSimpArgs false
set_option linter.unusedVariables false
namespace Go.Proofs.Lx
open Go.Ev
theorem sign_heads : ∀ x ∈ signsL, ∃ y ys, x = y :: ys ∧ wordB y = false ∧ y ≠ 34 := by
  unfold signsL
  simp only [List.forall_mem_cons]
  refine ⟨?_, ?_, ?_, ?_, ?_, ?_, ?_, ?_, ?_, ?_, ?_, ?_, ?_, ?_, ?_, ?_, ?_, ?_, ?_, ?_, ?_, ?_, ?_, ?_, ?_, ?_, fun _ h => by cases h⟩
  all_goals exact ⟨_, _, rfl, by decide, by decide⟩
theorem first_none {c : UInt8} {r : List UInt8} : ∀ (L : List (List UInt8)), (∀ x ∈ L, ∃ y ys, x = y :: ys ∧ y ≠ c) → firstS (c :: r) L = none
  | [], _ => rfl
  | x :: L, hL => by
    obtain ⟨y, ys, rfl, hy⟩ := hL x (by simp)
    rw [firstS_cons, pre_ne (fun e => hy (UInt8.toNat_inj.1 e.symm))]
    exact first_none L (fun x hx => hL x (by simp [hx]))
theorem sign_none {c : UInt8} {r : List UInt8} (h : wordB c = true ∨ c = 34) : firstS (c :: r) signsL = none := by
  refine first_none signsL (fun x hx => ?_)
  obtain ⟨y, ys, e, h1, h2⟩ := sign_heads x hx
  refine ⟨y, ys, e, ?_⟩
  rintro rfl
  rcases h with h | h
  · rw [h1] at h; cases h
  · exact h2 h
theorem first_mem {l : List UInt8} {x : List UInt8} : ∀ (L : List (List UInt8)), firstS l L = some x → x ∈ L ∧ preB l x = true
  | [], h => by cases h
  | y :: L, h => by
    rw [firstS_cons] at h
    split at h
    · rename_i hp
      cases h
      exact ⟨by simp, hp⟩
    · have := first_mem L h
      exact ⟨List.mem_cons_of_mem _ this.1, this.2⟩
theorem first_pos {l x : List UInt8} (h : firstS l signsL = some x) : 0 < x.length := by
  obtain ⟨y, ys, rfl, _⟩ := sign_heads x (first_mem _ h).1
  simp
theorem num_no {c : UInt8} {r : List UInt8} (h : digB c = false) : numT (c :: r) = ⟨0, ⟨#[]⟩, 0, 0⟩ := by
  have : (c :: r).takeWhile digB = [] := by rw [List.takeWhile_cons, h]; rfl
  unfold numT
  rw [this]; rfl
theorem num_pos {c : UInt8} {r : List UInt8} (h : digB c = true) : 0 < (numT (c :: r)).z := by
  have hk : 0 < ((c :: r).takeWhile digB).length := by rw [List.takeWhile_cons, h]; simp
  unfold numT
  simp only
  rw [if_neg (by omega)]
  split <;> exact hk
theorem text_no {c : UInt8} {r : List UInt8} (h : eqI c 34 = false) : textT (c :: r) = ⟨0, ⟨#[]⟩, 0, 0⟩ := by simp [textT, h]
theorem name_no {c : UInt8} {r : List UInt8} (h : letB c = false) : nameT (c :: r) = ⟨0, ⟨#[]⟩, 0, 0⟩ := by simp [nameT, h]
theorem name_pos {c : UInt8} {r : List UInt8} (h : letB c = true) : 0 < (nameT (c :: r)).z := by
  have hw : wordB c = true := by simp [wordB, h]
  have hk : 0 < ((c :: r).takeWhile wordB).length := by rw [List.takeWhile_cons, hw]; simp
  simp only [nameT, h, if_true]
  exact hk
theorem textGo_ge : ∀ (f : Nat) (l : List UInt8) (n : Nat) (acc : List UInt8), n ≤ (textGo f l n acc).2.1
  | 0, _, _, _ => Nat.le_refl _
  | f + 1, l, n, acc => by
    by_cases hn : n < l.length
    · by_cases hx : ((l[n]).toNat : Int) = 34
      · rw [textGo_end hn hx]; exact Nat.le_refl _
      · rw [textGo_in hn hx]
        split
        · exact Nat.le_refl _
        · exact Nat.le_trans (Nat.le_add_right _ _) (textGo_ge f l _ _)
    · rw [textGo_out hn]; exact Nat.le_refl _
theorem text_pos {c : UInt8} {r : List UInt8} (h : eqI c 34 = true) : 0 < (textT (c :: r)).z := by
  have := textGo_ge ((c :: r).length + 1) (c :: r) 1 []
  simp only [textT, h, if_true]
  split
  · exact this
  · split
    · exact this
    · exact Nat.succ_pos _
theorem textGo_shift (l : List UInt8) (a : Nat) : ∀ (f n : Nat) (acc : List UInt8), textGo f l (a + n) acc = ((textGo f (l.drop a) n acc).1, a + (textGo f (l.drop a) n acc).2.1, (textGo f (l.drop a) n acc).2.2)
  | 0, _, _ => rfl
  | f + 1, n, acc => by
    have e2 : (l.drop a).drop n = l.drop (a + n) := by rw [List.drop_drop]
    by_cases hn : a + n < l.length
    · have hn' : n < (l.drop a).length := by rw [List.length_drop]; omega
      have e1 : (l.drop a)[n] = l[a + n] := by rw [List.getElem_drop]
      by_cases hx : ((l[a + n]).toNat : Int) = 34
      · rw [textGo_end hn hx, textGo_end hn' (by rw [e1]; exact hx)]
      · rw [textGo_in hn hx, textGo_in hn' (by rw [e1]; exact hx), e2]
        split
        · rfl
        · rw [Nat.add_assoc]
          exact textGo_shift l a f _ _
    · have hn' : ¬ n < (l.drop a).length := by rw [List.length_drop]; omega
      rw [textGo_out hn, textGo_out hn']
theorem textGo_more (l : List UInt8) : ∀ (f g n : Nat) (acc : List UInt8), n ≤ l.length → l.length < n + f → l.length < n + g → textGo f l n acc = textGo g l n acc
  | 0, _, _, _, _, _, _ => by omega
  | _ + 1, 0, _, _, _, _, _ => by omega
  | f + 1, g + 1, n, acc, h0, h1, h2 => by
    by_cases hn : n < l.length
    · by_cases hx : ((l[n]).toNat : Int) = 34
      · rw [textGo_end hn hx, textGo_end hn hx]
      · rw [textGo_in hn hx, textGo_in hn hx]
        split
        · rfl
        · have hq := quotB_le (l.drop n)
          rw [List.length_drop] at hq
          exact textGo_more l f g _ _ (by omega) (by omega) (by omega)
    · rw [textGo_out hn, textGo_out hn]
theorem rqT_text {l : List UInt8} {a : Nat} (ha : a < l.length) (h : eqI l[a] 34 = true) : (rqT l a).k = (textT (l.drop a)).k ∧ (rqT l a).s = (textT (l.drop a)).s ∧ (rqT l a).n = (textT (l.drop a)).n ∧ ((textT (l.drop a)).k ≠ 0 → (textT (l.drop a)).k ≠ 6 → (rqT l a).z = a + (textT (l.drop a)).z) := by
  have hdr : l.drop a = l[a] :: l.drop (a + 1) := List.drop_eq_getElem_cons ha
  have hl : (l.drop a).length = l.length - a := List.length_drop
  have ht : textT (l.drop a) = (if (textGo ((l.drop a).length + 1) (l.drop a) 1 []).1 then ⟨6, ⟨#[]⟩, 0, (textGo ((l.drop a).length + 1) (l.drop a) 1 []).2.1⟩ else if (l.drop a).length ≤ (textGo ((l.drop a).length + 1) (l.drop a) 1 []).2.1 then ⟨6, ⟨#[]⟩, 0, (textGo ((l.drop a).length + 1) (l.drop a) 1 []).2.1⟩ else ⟨2, ⟨(textGo ((l.drop a).length + 1) (l.drop a) 1 []).2.2.toArray⟩, 0, (textGo ((l.drop a).length + 1) (l.drop a) 1 []).2.1 + 1⟩) := by
    rw [hdr]
    simp only [textT, h, if_true]
  have hq : textGo (l.length + 1) l (a + 1) [] = ((textGo ((l.drop a).length + 1) (l.drop a) 1 []).1, a + (textGo ((l.drop a).length + 1) (l.drop a) 1 []).2.1, (textGo ((l.drop a).length + 1) (l.drop a) 1 []).2.2) := by
    rw [textGo_more l (l.length + 1) ((l.drop a).length + 1) (a + 1) [] (by omega) (by omega) (by omega)]
    exact textGo_shift l a _ _ _
  unfold rqT
  rw [ht, hq]
  generalize textGo ((l.drop a).length + 1) (l.drop a) 1 [] = q
  obtain ⟨q1, q2, q3⟩ := q
  simp only
  cases q1
  · simp only [Bool.false_eq_true, if_false]
    by_cases hc : (l.drop a).length ≤ q2
    · rw [if_pos hc, if_pos (by omega : l.length ≤ a + q2)]
      exact ⟨rfl, rfl, rfl, fun _ h => absurd rfl h⟩
    · rw [if_neg hc, if_neg (by omega : ¬ l.length ≤ a + q2)]
      exact ⟨rfl, rfl, rfl, fun _ _ => by simp only; omega⟩
  · exact ⟨rfl, rfl, rfl, fun _ h => absurd rfl h⟩
/-- Both tell the same token; and, if it is one, both go on behind it. -/
theorem same_tok (l : List UInt8) (a : Nat) (ha : a ≤ l.length) : (refT l (nextM l a)).k = (nextT l a).k ∧ (refT l (nextM l a)).s = (nextT l a).s ∧ (refT l (nextM l a)).n = (nextT l a).n ∧ ((nextT l a).k ≠ 0 → (nextT l a).k ≠ 6 → (refT l (nextM l a)).z = nextM l a + (nextT l a).z) := by
  have hM : nextM l a ≤ l.length := nextM_le ha
  unfold nextT
  generalize nextM l a = M at *
  by_cases hn : M < l.length
  · have hdr : l.drop M = l[M] :: l.drop (M + 1) := List.drop_eq_getElem_cons hn
    have hr : refT l M = if digB l[M] then (numT (l.drop M)).sh M else if eqI l[M] 34 then rqT l M else if letB l[M] then (nameT (l.drop M)).sh M else match firstS (l.drop M) signsL with | some x => ⟨5, ⟨x.toArray⟩, 0, M + x.length⟩ | none => ⟨6, ⟨#[]⟩, 0, M⟩ := by
      unfold refT; rw [List.getElem?_eq_getElem hn]; rfl
    rw [hr, if_pos hn]
    cases hd : digB l[M]
    · have h1 : numT (l.drop M) = ⟨0, ⟨#[]⟩, 0, 0⟩ := by rw [hdr]; exact num_no hd
      rw [h1]
      cases hq : eqI l[M] 34
      · have h2 : textT (l.drop M) = ⟨0, ⟨#[]⟩, 0, 0⟩ := by rw [hdr]; exact text_no hq
        rw [h2]
        cases hc : letB l[M]
        · have h3 : nameT (l.drop M) = ⟨0, ⟨#[]⟩, 0, 0⟩ := by rw [hdr]; exact name_no hc
          rw [h3]
          unfold signT
          cases hs : firstS (l.drop M) signsL with
          | none => exact ⟨rfl, rfl, rfl, fun _ h => absurd rfl h⟩
          | some x =>
            have hp := first_pos hs
            simp [Tk.or, hp]
        · have h3 : 0 < (nameT (l.drop M)).z := by rw [hdr]; exact name_pos hc
          have h4 : signT (l.drop M) = ⟨0, ⟨#[]⟩, 0, 0⟩ := by
            unfold signT; rw [hdr, sign_none (.inl (by simp [wordB, hc]))]
          rw [h4]
          simp [Tk.or, h3, Tk.sh]
      · have h2 : 0 < (textT (l.drop M)).z := by rw [hdr]; exact text_pos hq
        have he : l[M] = 34 := by
          have : ((l[M]).toNat : Int) = 34 := by simpa [eqI] using hq
          exact UInt8.toNat_inj.1 (by simp; omega)
        have h3 : nameT (l.drop M) = ⟨0, ⟨#[]⟩, 0, 0⟩ := by rw [hdr]; exact name_no (by rw [he]; decide)
        have h4 : signT (l.drop M) = ⟨0, ⟨#[]⟩, 0, 0⟩ := by
          unfold signT; rw [hdr, sign_none (.inr he)]
        rw [h3, h4]
        have := rqT_text hn hq
        simpa [Tk.or, h2] using this
    · have h1 : 0 < (numT (l.drop M)).z := by rw [hdr]; exact num_pos hd
      have hq : eqI l[M] 34 = false := by
        have h := hd
        simp [digB, leI, geI] at h
        simp [eqI]
        omega
      have hc : letB l[M] = false := by
        have h := hd
        simp [digB, leI, geI] at h
        simp [letB, leI, geI, eqI]
        omega
      have h2 : textT (l.drop M) = ⟨0, ⟨#[]⟩, 0, 0⟩ := by rw [hdr]; exact text_no hq
      have h3 : nameT (l.drop M) = ⟨0, ⟨#[]⟩, 0, 0⟩ := by rw [hdr]; exact name_no hc
      have h4 : signT (l.drop M) = ⟨0, ⟨#[]⟩, 0, 0⟩ := by
        unfold signT; rw [hdr, sign_none (.inl (by simp [wordB, hd]))]
      rw [h2, h3, h4]
      simp [Tk.or, h1, Tk.sh]
  · have hd0 : l.drop M = [] := List.drop_eq_nil_of_le (by omega)
    have hr : refT l M = ⟨0, ⟨#[]⟩, 0, M⟩ := by
      unfold refT; rw [List.getElem?_eq_none (by omega)]
    rw [hr, if_neg hn, hd0]
    refine ⟨rfl, rfl, rfl, fun h => absurd rfl h⟩
end Go.Proofs.Lx
