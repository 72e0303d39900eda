import Derived.Test.YtlbooinipoaapaaDoorLxRA
set_option linter.unusedSimpArgs false
set_option linter.unusedVariables false
set_option linter.unusedSectionVars false
namespace Go.Proofs.Lx
open Go.Ev
noncomputable def c18_10 : EC := (.seq (.steps [(.op Option.none (.pure 1 (vMove (.sl [.c]))) (Option.some [.d, .a, .a])), (.op Option.none (.pure 2 (vMove (.sl [.d, .a, .a]))) (Option.some [.b]))]) .ret)
noncomputable def c18_9 : EC := (.cond (.sl [.c, .a, .a]) c18_10 .skip)
noncomputable def c18_11 : EC := (.steps [(.op Option.none (.pure 18 (vFieldAddr (.sl [.a, .a]) 5)) (Option.some [.a, .b, .a])), (.op Option.none (.look 8 (lLoad (.sl [.a, .b, .a]) 1 Bool.false)) (Option.some [.b, .b, .a])), (.op Option.none (.pure 2 (vMove (.sl [.b, .b, .a]))) (Option.some [.d]))])
noncomputable def c18_8 : EC := (.seq (.seq (.steps [(.op Option.none (.pure 18 (vFieldAddr (.sl [.a, .a]) 0)) (Option.some [.b, .c])), (.op Option.none (.pure 18 (vFieldAddr (.sl [.b, .c]) 0)) (Option.some [.c, .c])), (.op Option.none (.look 8 (lLoad (.sl [.c, .c]) 1 Bool.false)) (Option.some [.d, .c])), (.op Option.none (.pure 11 (vBin .no .eql (.sl [.d, .c]) (.k (.int .i64 (.ofNat 0))))) (Option.some [.a, .d])), (.op Option.none (.pure 1 (vMove (.sl [.a, .d]))) (Option.some [.b, .d])), (.op (Option.some ([.b, .d], Bool.false)) (.pure 18 (vFieldAddr (.sl [.a, .a]) 0)) (Option.some [.c, .d])), (.op (Option.some ([.b, .d], Bool.false)) (.pure 18 (vFieldAddr (.sl [.c, .d]) 0)) (Option.some [.d, .d])), (.op (Option.some ([.b, .d], Bool.false)) (.look 8 (lLoad (.sl [.d, .d]) 1 Bool.false)) (Option.some [.a, .a, .a])), (.op (Option.some ([.b, .d], Bool.false)) (.pure 11 (vBin .no .eql (.sl [.a, .a, .a]) (.k (.int .i64 (.ofNat 6))))) (Option.some [.b, .a, .a])), (.op Option.none (.pure 3 (vPick (.sl [.b, .d]) (.k (.bool Bool.true)) (.sl [.b, .a, .a]))) (Option.some [.c, .a, .a]))]) c18_9) c18_11)
noncomputable def c18_7 : EC := (.seq (.steps [(.op Option.none (.pure 1 (vMove (.sl [.c]))) (Option.some [.a, .b])), (.op Option.none (.pure 18 (vFieldAddr (.sl [.a, .a]) 0)) (Option.some [.b, .b])), (.op Option.none (.look 8 (lLoad (.sl [.b, .b]) 5 Bool.true)) (Option.some [.c, .b])), (.op Option.none (.new 7 (nSlice 5 1 [(.int .i64 (.ofNat 0)), (.str ⟨#[]⟩), (.int .i64 (.ofNat 0)), (.int .i64 (.ofNat 0)), (.bool Bool.false)] [(0, (5, (.sl [.c, .b])))])) (Option.some [.d, .b])), (.op Option.none (.eff (hAppend 5 (.sl [.a, .b]) (.sl [.d, .b]) (Option.some [.a, .c]))) (Option.some [.a, .c])), (.op Option.none (.pure 2 (vMove (.sl [.a, .c]))) (Option.some [.c]))]) c18_8)
noncomputable def c18_6 : EC := (.seq (.steps [(.op Option.none (.pure 1 (vMove (.sl []))) (Option.some [.b, .a])), (.op Option.none (.pure 1 (vMove (.sl [.d]))) (Option.some [.c, .a])), (.op Option.none (.eff (hCall (.k (.fn 15 [] [])) [(.sl [.b, .a]), (.sl [.c, .a])])) (Option.some [.d, .a])), (.op Option.none (.eff (bLoc [(.int .i64 (.ofNat 0)), (.str ⟨#[]⟩), (.int .i64 (.ofNat 0)), (.int .i64 (.ofNat 0)), (.bool Bool.false), (.int .i64 (.ofNat 0))] [.a, .a])) (Option.some [.a, .a])), (.op Option.none (.eff (hStore (.sl [.a, .a]) (.sl [.d, .a]) 6)) Option.none)]) c18_7)
noncomputable def c18_5 : EC := (.block 1 c18_6)
noncomputable def c18_4 : EC := (.loop c18_5)
noncomputable def c18_3 : EC := (.block 0 c18_4)
noncomputable def c18_2 : EC := (.seq (.steps [(.op Option.none (.pure 2 (vMove (.k (.int .i64 (.ofNat 0))))) (Option.some [.d]))]) c18_3)
noncomputable def c18_1 : EC := (.seq (.steps [(.op Option.none (.pure 2 (vMove (.k .nils))) (Option.some [.c]))]) c18_2)
noncomputable def c18 : EF := ⟨(.seq (.steps [(.op Option.none (.pure 2 (vMove (.k .nils))) (Option.some [.b]))]) c18_1), [(.slot (.sl [.b]))], Bool.false⟩
theorem c18_ok : compF Tryd.prog 18 = some c18 := by kernel_rfl
noncomputable def LF18 : FuncId → Option EF := lookF [(18, c18)]
theorem FF18 : LF18 18 = some c18 := rfl

section
variable {call : Calls'} {l : List UInt8} {zf : Nat → Nat}
theorem rall_go (fuel a : Nat) (h0 h : H) (v : AV) (acc : List (List AV)) (fr : FT) (k15 : ∀ a h, a ≤ l.length → call 15 [T l, .int .i64 (a : Int)] h = .ret (.agg (rowA l a ++ [.int .i64 (zf a : Int)])) h) (ha : a ≤ l.length) (ho : OutT h0 h v acc) (hs : Since h0 h) (hacc : acc.length ≤ 1000000) (e0 : Ev.get [] fr = some (.v (T l))) (e1 : Ev.get [.d] fr = some (.v (.int .i64 (a : Int)))) (e2 : Ev.get [.c] fr = some (.v v)) (hk : (nextT l a).k ≠ 0 ∧ (nextT l a).k ≠ 6) :
    ∃ fr' h' v', evC call fuel c18_5 fr h = .norm fr' h' ∧ OutT h0 h' v' (acc ++ [rowA l a]) ∧ Since h0 h' ∧ Ev.get [] fr' = some (.v (T l)) ∧ Ev.get [.d] fr' = some (.v (.int .i64 (zf a : Int))) ∧ Ev.get [.c] fr' = some (.v v') := by
  obtain ⟨t, ht⟩ : ∃ t, nextT l a = t := ⟨_, rfl⟩
  obtain ⟨M, hM⟩ : ∃ M, nextM l a = M := ⟨_, rfl⟩
  obtain ⟨bb, hbb⟩ : ∃ bb, (skipP (l.drop a)).2 = bb := ⟨_, rfl⟩
  have q := k15 a
  unfold rowA at q ⊢
  rw [ht, hM, hbb] at q ⊢
  rw [ht] at hk
  have ho' : OutT h0 ⟨h.next, h.t, h.gen + 1⟩ v acc := ho
  have hs' : Since h0 ⟨h.next, h.t, h.gen + 1⟩ := hs
  obtain ⟨v', h', a1, a2, a3, a4, a5⟩ := outT_more ho' hs' [.int .i64 t.k, .str t.s, .int .i64 t.n, .int .i64 (M : Int), .bool bb] hacc
  have hmost : acc.length + 1 ≤ most := by unfold most; omega
  obtain ⟨k0, k6⟩ := hk
  have q := fun h => q h ha
  refine ⟨?fr, h', v', ?e, a3, a4, ?_, ?_, ?_⟩
  case e =>
    simp [-y_Hnew, -lenOf, c18_5, c18_10, c18_11, c18_6, c18_7, c18_8, c18_9, gs, e0, e1, e2, q, vExtract, k0, k6, hAppend, apOut, a1, a2, hmost]
    rfl
  all_goals simp [gs, e0, e1, e2]
theorem rall_ret (fuel a : Nat) (h0 h : H) (v : AV) (acc : List (List AV)) (fr : FT) (k15 : ∀ a h, a ≤ l.length → call 15 [T l, .int .i64 (a : Int)] h = .ret (.agg (rowA l a ++ [.int .i64 (zf a : Int)])) h) (ha : a ≤ l.length) (ho : OutT h0 h v acc) (hs : Since h0 h) (hacc : acc.length ≤ 1000000) (e0 : Ev.get [] fr = some (.v (T l))) (e1 : Ev.get [.d] fr = some (.v (.int .i64 (a : Int)))) (e2 : Ev.get [.c] fr = some (.v v)) (hk : (nextT l a).k = 0 ∨ (nextT l a).k = 6) :
    ∃ fr' h' v', evC call fuel c18_5 fr h = .ret fr' h' ∧ OutT h0 h' v' (acc ++ [rowA l a]) ∧ Since h0 h' ∧ Ev.get [.b] fr' = some (.v v') := by
  obtain ⟨t, ht⟩ : ∃ t, nextT l a = t := ⟨_, rfl⟩
  obtain ⟨M, hM⟩ : ∃ M, nextM l a = M := ⟨_, rfl⟩
  obtain ⟨bb, hbb⟩ : ∃ bb, (skipP (l.drop a)).2 = bb := ⟨_, rfl⟩
  have q := k15 a
  unfold rowA at q ⊢
  rw [ht, hM, hbb] at q ⊢
  rw [ht] at hk
  have ho' : OutT h0 ⟨h.next, h.t, h.gen + 1⟩ v acc := ho
  have hs' : Since h0 ⟨h.next, h.t, h.gen + 1⟩ := hs
  obtain ⟨v', h', a1, a2, a3, a4, a5⟩ := outT_more ho' hs' [.int .i64 t.k, .str t.s, .int .i64 t.n, .int .i64 (M : Int), .bool bb] hacc
  have hmost : acc.length + 1 ≤ most := by unfold most; omega
  have q := fun h => q h ha
  rcases hk with k0 | k6
  · rw [k0] at q a1 a3 ⊢
    refine ⟨?fr, h', v', ?e, a3, a4, ?_⟩
    case e =>
      simp [-y_Hnew, -lenOf, c18_5, c18_10, c18_11, c18_6, c18_7, c18_8, c18_9, gs, e0, e1, e2, q, vExtract, hAppend, apOut, a1, a2, hmost]
      rfl
    all_goals simp [gs, e0, e1, e2]
  · rw [k6] at q a1 a3 ⊢
    refine ⟨?fr2, h', v', ?e2, a3, a4, ?_⟩
    case e2 =>
      simp [-y_Hnew, -lenOf, c18_5, c18_10, c18_11, c18_6, c18_7, c18_8, c18_9, gs, e0, e1, e2, q, vExtract, hAppend, apOut, a1, a2, hmost]
      rfl
    all_goals simp [gs, e0, e1, e2]
/-- All tokens from a place on, behind some. -/
def toksGo : Nat → List UInt8 → Nat → List (List AV) → List (List AV)
  | 0, _, _, acc => acc
  | f + 1, l, a, acc => if (nextT l a).k = 0 ∨ (nextT l a).k = 6 then acc ++ [rowA l a] else toksGo f l (nextM l a + (nextT l a).z) (acc ++ [rowA l a])
theorem toksGo_end {f : Nat} {l : List UInt8} {a : Nat} {acc : List (List AV)} (h : (nextT l a).k = 0 ∨ (nextT l a).k = 6) : toksGo (f + 1) l a acc = acc ++ [rowA l a] := if_pos h
theorem toksGo_on {f : Nat} {l : List UInt8} {a : Nat} {acc : List (List AV)} (h : ¬ ((nextT l a).k = 0 ∨ (nextT l a).k = 6)) : toksGo (f + 1) l a acc = toksGo f l (nextM l a + (nextT l a).z) (acc ++ [rowA l a]) := if_neg h
theorem nextM_ge (l : List UInt8) (a : Nat) : a ≤ nextM l a := Nat.le_add_right _ _
theorem or_pos {x y : Tk} (h : (x.or y).k ≠ x.k) : 0 < (x.or y).z := by
  unfold Tk.or at h ⊢
  split
  · rename_i hy; exact hy
  · rename_i hy; rw [if_neg hy] at h; exact absurd rfl h
theorem or_z {x y : Tk} (h : 0 < x.z) : 0 < (x.or y).z := by
  unfold Tk.or
  split
  · rename_i hy; exact hy
  · exact h
theorem or_or {x y : Tk} (h : 0 < x.z ∨ x.k = 0 ∨ x.k = 6) : 0 < (x.or y).z ∨ (x.or y).k = 0 ∨ (x.or y).k = 6 := by
  unfold Tk.or
  split
  · rename_i hy; exact .inl hy
  · exact h
theorem next_z_pos (l : List UInt8) (a : Nat) (ha : a ≤ l.length) (h0 : (nextT l a).k ≠ 0) (h6 : (nextT l a).k ≠ 6) : 0 < (nextT l a).z := by
  have : 0 < (nextT l a).z ∨ (nextT l a).k = 0 ∨ (nextT l a).k = 6 := by
    unfold nextT
    refine or_or (or_or (or_or (or_or (.inr ?_))))
    simp only
    split
    · exact .inr rfl
    · exact .inl rfl
  rcases this with h | h | h
  · exact h
  · exact absurd h h0
  · exact absurd h h6
theorem textGo_le (l : List UInt8) : ∀ (f n : Nat) (acc : List UInt8), n ≤ l.length → (textGo f l n acc).2.1 ≤ l.length
  | 0, _, _, h => h
  | f + 1, n, acc, h => by
    by_cases hn : n < l.length
    · by_cases hx : ((l[n]).toNat : Int) = 34
      · rw [textGo_end hn hx]; exact h
      · rw [textGo_in hn hx]
        split
        · exact h
        · have hq := quotB_le (l.drop n)
          rw [List.length_drop] at hq
          exact textGo_le l f _ _ (by omega)
    · rw [textGo_out hn]; exact h
theorem text_z : ∀ d : List UInt8, (textT d).z ≤ d.length
  | [] => Nat.le_refl _
  | c :: r => by
    have := textGo_le (c :: r) ((c :: r).length + 1) 1 [] (by simp)
    cases h : eqI c 34
    · rw [text_no h]; exact Nat.zero_le _
    · simp only [textT, h, if_true]
      split
      · exact this
      · split
        · exact this
        · simp only; omega
theorem num_z (d : List UInt8) : (numT d).z ≤ d.length := by
  have : (d.takeWhile digB).length ≤ d.length := (List.takeWhile_sublist _).length_le
  unfold numT
  simp only
  split
  · exact Nat.zero_le _
  · split <;> exact this
theorem name_z : ∀ d : List UInt8, (nameT d).z ≤ d.length
  | [] => Nat.le_refl _
  | c :: r => by
    have : ((c :: r).takeWhile wordB).length ≤ (c :: r).length := (List.takeWhile_sublist _).length_le
    unfold nameT
    simp only
    split
    · exact this
    · exact Nat.zero_le _
theorem sign_z (d : List UInt8) : (signT d).z ≤ d.length := by
  unfold signT
  cases h : firstS d signsL with
  | none => exact Nat.zero_le _
  | some x =>
    have := (first_mem _ h).2
    unfold preB at this
    rw [Bool.and_eq_true, decide_eq_true_eq] at this
    exact this.1
theorem or_le {x y : Tk} {n : Nat} (hx : x.z ≤ n) (hy : y.z ≤ n) : (x.or y).z ≤ n := by
  unfold Tk.or; split <;> assumption
theorem next_z_le (l : List UInt8) (a : Nat) (ha : a ≤ l.length) : nextM l a + (nextT l a).z ≤ l.length := by
  have hM := nextM_le ha
  have : (nextT l a).z ≤ (l.drop (nextM l a)).length := by
    unfold nextT
    exact or_le (or_le (or_le (or_le (Nat.zero_le _) (num_z _)) (text_z _)) (name_z _)) (sign_z _)
  rw [List.length_drop] at this
  omega
theorem all_all (fuel : Nat) (h0 : H) (k21 : ∀ a h, a ≤ l.length → call 21 [T l, .int .i64 (a : Int)] h = .ret (.tup [nextA l a, .int .i64 ((nextM l a + (nextT l a).z : Nat) : Int)]) h) (hl : l.length ≤ 1000000)  : ∀ (f a : Nat) (h : H) (v : AV) (acc : List (List AV)) (fr : FT) (j : Nat), a ≤ l.length → l.length < a + f → acc.length ≤ a → OutT h0 h v acc → Since h0 h → Ev.get [] fr = some (.v (T l)) → Ev.get [.d] fr = some (.v (.int .i64 (a : Int))) → Ev.get [.c] fr = some (.v v) →
    ∃ fr' h' v', loopF call fuel c17_5 (f + j) fr h = .ret fr' h' ∧ OutT h0 h' v' (toksGo f l a acc) ∧ Since h0 h' ∧ Ev.get [.b] fr' = some (.v v')
  | 0, a, h, v, acc, fr, j, h1, h2, _, _, _, _, _, _ => by omega
  | f + 1, a, h, v, acc, fr, j, h1, h2, ha, ho, hs, e0, e1, e2 => by
    rw [show f + 1 + j = (f + j) + 1 by omega, loopF_succ]
    by_cases hk : (nextT l a).k = 0 ∨ (nextT l a).k = 6
    · rw [toksGo_end hk]
      obtain ⟨fr', h', v', g1, g2, g3, g4⟩ := all_ret fuel a h0 h v acc fr k21 h1 ho hs (by omega) e0 e1 e2 hk
      exact ⟨fr', h', v', by rw [g1], g2, g3, g4⟩
    · rw [toksGo_on hk]
      have hk' : (nextT l a).k ≠ 0 ∧ (nextT l a).k ≠ 6 := ⟨fun e => hk (.inl e), fun e => hk (.inr e)⟩
      obtain ⟨fr1, hh, v1, g1, o1, s1, a0, a1, a2⟩ := all_go fuel a h0 h v acc fr k21 h1 ho hs (by omega) e0 e1 e2 hk'
      skip
      have hz := next_z_pos l a h1 hk'.1 hk'.2
      have hM := nextM_ge l a
      have hb := next_z_le l a h1
      rw [g1]
      exact all_all fuel h0 k21 hl  f _ hh v1 _ fr1 j (by omega) (by omega) (by simp; omega) o1 s1 a0 a1 a2
theorem rall_all (fuel : Nat) (h0 : H) (k15 : ∀ a h, a ≤ l.length → call 15 [T l, .int .i64 (a : Int)] h = .ret (.agg (rowA l a ++ [.int .i64 (zf a : Int)])) h) (hl : l.length ≤ 1000000) (hz18 : ∀ a, a ≤ l.length → (nextT l a).k ≠ 0 → (nextT l a).k ≠ 6 → zf a = nextM l a + (nextT l a).z) : ∀ (f a : Nat) (h : H) (v : AV) (acc : List (List AV)) (fr : FT) (j : Nat), a ≤ l.length → l.length < a + f → acc.length ≤ a → OutT h0 h v acc → Since h0 h → Ev.get [] fr = some (.v (T l)) → Ev.get [.d] fr = some (.v (.int .i64 (a : Int))) → Ev.get [.c] fr = some (.v v) →
    ∃ fr' h' v', loopF call fuel c18_5 (f + j) fr h = .ret fr' h' ∧ OutT h0 h' v' (toksGo f l a acc) ∧ Since h0 h' ∧ Ev.get [.b] fr' = some (.v v')
  | 0, a, h, v, acc, fr, j, h1, h2, _, _, _, _, _, _ => by omega
  | f + 1, a, h, v, acc, fr, j, h1, h2, ha, ho, hs, e0, e1, e2 => by
    rw [show f + 1 + j = (f + j) + 1 by omega, loopF_succ]
    by_cases hk : (nextT l a).k = 0 ∨ (nextT l a).k = 6
    · rw [toksGo_end hk]
      obtain ⟨fr', h', v', g1, g2, g3, g4⟩ := rall_ret fuel a h0 h v acc fr k15 h1 ho hs (by omega) e0 e1 e2 hk
      exact ⟨fr', h', v', by rw [g1], g2, g3, g4⟩
    · rw [toksGo_on hk]
      have hk' : (nextT l a).k ≠ 0 ∧ (nextT l a).k ≠ 6 := ⟨fun e => hk (.inl e), fun e => hk (.inr e)⟩
      obtain ⟨fr1, hh, v1, g1, o1, s1, a0, a1, a2⟩ := rall_go fuel a h0 h v acc fr k15 h1 ho hs (by omega) e0 e1 e2 hk'
      rw [hz18 a h1 hk'.1 hk'.2] at a1
      have hz := next_z_pos l a h1 hk'.1 hk'.2
      have hM := nextM_ge l a
      have hb := next_z_le l a h1
      rw [g1]
      exact rall_all fuel h0 k15 hl hz18 f _ hh v1 _ fr1 j (by omega) (by omega) (by simp; omega) o1 s1 a0 a1 a2
end
end Go.Proofs.Lx
