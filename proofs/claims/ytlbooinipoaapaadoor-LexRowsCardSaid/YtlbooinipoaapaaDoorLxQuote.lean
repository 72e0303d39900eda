/- The reference's Quote: one round of its loop. -/
import Derived.Test.YtlbooinipoaapaaDoorLxTwo
set_option linter.unusedSimpArgs false
set_option linter.unusedVariables false
namespace Go.Proofs.Lx
open Go.Ev
noncomputable def c12_7 : EC := (.cond (.sl [.c, .b]) .skip (.exit 0))
noncomputable def c12_13 : EC := (.steps [(.op Option.none (.pure 11 (vBin .no .eql (.sl [.d, .c]) (.k (.int .u8 (.ofNat 92))))) (Option.some [.a, .b, .a])), (.op Option.none (.pure 2 (vMove (.sl [.a, .b, .a]))) (Option.some [.c, .a, .a]))])
noncomputable def c12_12 : EC := (.cond (.sl [.c, .a, .a]) .skip c12_13)
noncomputable def c12_15 : EC := (.steps [(.op Option.none (.pure 1 (vMove (.sl [.c]))) (Option.some [.b, .b, .a])), (.op Option.none (.pure 1 (vMove (.sl []))) (Option.some [.c, .b, .a])), (.op Option.none (.pure 1 (vMove (.sl [.d]))) (Option.some [.d, .b, .a])), (.op Option.none (.pure 21 (vIndex (.sl [.c, .b, .a]) (.sl [.d, .b, .a]))) (Option.some [.a, .c, .a])), (.op Option.none (.new 7 (nSlice 1 2 [(.int .u8 (.ofNat 0)), (.int .u8 (.ofNat 0))] [(0, (1, (.k (.int .u8 (.ofNat 92))))), (1, (1, (.sl [.a, .c, .a])))])) (Option.some [.b, .c, .a])), (.op Option.none (.eff (hAppend 1 (.sl [.b, .b, .a]) (.sl [.b, .c, .a]) (Option.some [.c, .c, .a]))) (Option.some [.c, .c, .a])), (.op Option.none (.pure 2 (vMove (.sl [.c, .c, .a]))) (Option.some [.c]))])
noncomputable def c12_18 : EC := (.steps [(.op Option.none (.pure 1 (vMove (.sl [.c]))) (Option.some [.b, .d, .a])), (.op Option.none (.new 7 (nSlice 1 2 [(.int .u8 (.ofNat 0)), (.int .u8 (.ofNat 0))] [(0, (1, (.k (.int .u8 (.ofNat 92))))), (1, (1, (.k (.int .u8 (.ofNat 110)))))])) (Option.some [.c, .d, .a])), (.op Option.none (.eff (hAppend 1 (.sl [.b, .d, .a]) (.sl [.c, .d, .a]) (Option.some [.d, .d, .a]))) (Option.some [.d, .d, .a])), (.op Option.none (.pure 2 (vMove (.sl [.d, .d, .a]))) (Option.some [.c]))])
noncomputable def c12_19 : EC := (.steps [(.op Option.none (.pure 1 (vMove (.sl [.c]))) (Option.some [.a, .d])), (.op Option.none (.pure 1 (vMove (.sl []))) (Option.some [.b, .d])), (.op Option.none (.pure 1 (vMove (.sl [.d]))) (Option.some [.c, .d])), (.op Option.none (.pure 21 (vIndex (.sl [.b, .d]) (.sl [.c, .d]))) (Option.some [.d, .d])), (.op Option.none (.new 7 (nSlice 1 1 [(.int .u8 (.ofNat 0))] [(0, (1, (.sl [.d, .d])))])) (Option.some [.a, .a, .a])), (.op Option.none (.eff (hAppend 1 (.sl [.a, .d]) (.sl [.a, .a, .a]) (Option.some [.b, .a, .a]))) (Option.some [.b, .a, .a])), (.op Option.none (.pure 2 (vMove (.sl [.b, .a, .a]))) (Option.some [.c]))])
noncomputable def c12_17 : EC := (.cond (.sl [.d, .c, .a]) c12_18 c12_19)
noncomputable def c12_16 : EC := (.seq (.steps [(.op Option.none (.pure 11 (vBin .no .eql (.sl [.d, .c]) (.k (.int .u8 (.ofNat 10))))) (Option.some [.a, .d, .a])), (.op Option.none (.pure 2 (vMove (.sl [.a, .d, .a]))) (Option.some [.d, .c, .a]))]) c12_17)
noncomputable def c12_14 : EC := (.cond (.sl [.c, .a, .a]) c12_15 c12_16)
noncomputable def c12_11 : EC := (.seq (.seq (.steps [(.op Option.none (.pure 11 (vBin .no .eql (.sl [.d, .c]) (.k (.int .u8 (.ofNat 34))))) (Option.some [.d, .a, .a])), (.op Option.none (.pure 2 (vMove (.sl [.d, .a, .a]))) (Option.some [.c, .a, .a]))]) c12_12) c12_14)
noncomputable def c12_10 : EC := (.block 2 c12_11)
noncomputable def c12_9 : EC := (.seq (.steps [(.op Option.none (.pure 1 (vMove (.sl []))) (Option.some [.b, .c])), (.op Option.none (.pure 1 (vMove (.sl [.d]))) (Option.some [.c, .c])), (.op Option.none (.pure 21 (vIndex (.sl [.b, .c]) (.sl [.c, .c]))) (Option.some [.d, .c]))]) c12_10)
noncomputable def c12_20 : EC := (.steps [(.op Option.none (.pure 1 (vMove (.sl [.d]))) (Option.some [.d, .b])), (.op Option.none (.pure 11 (vBin .no .add (.sl [.d, .b]) (.k (.int .i64 (.ofNat 1))))) (Option.some [.a, .c])), (.op Option.none (.pure 2 (vMove (.sl [.a, .c]))) (Option.some [.d]))])
noncomputable def c12_8 : EC := (.seq (.block 1 c12_9) c12_20)
noncomputable def c12_6 : EC := (.seq (.seq (.steps [(.op Option.none (.pure 1 (vMove (.sl [.d]))) (Option.some [.d, .a])), (.op Option.none (.pure 1 (vMove (.sl []))) (Option.some [.a, .b])), (.op Option.none (.pure 23 (vLenS (.sl [.a, .b]))) (Option.some [.b, .b])), (.op Option.none (.pure 11 (vBin .no .lss (.sl [.d, .a]) (.sl [.b, .b]))) (Option.some [.c, .b]))]) c12_7) c12_8)
noncomputable def c12_5 : EC := (.loop c12_6)
noncomputable def c12_4 : EC := (.block 0 c12_5)
noncomputable def c12_21 : EC := (.seq (.steps [(.op Option.none (.pure 1 (vMove (.sl [.c]))) (Option.some [.a, .a, .b])), (.op Option.none (.new 7 (nSlice 1 1 [(.int .u8 (.ofNat 0))] [(0, (1, (.k (.int .u8 (.ofNat 34)))))])) (Option.some [.b, .a, .b])), (.op Option.none (.eff (hAppend 1 (.sl [.a, .a, .b]) (.sl [.b, .a, .b]) (Option.some [.c, .a, .b]))) (Option.some [.c, .a, .b])), (.op Option.none (.look 13 (lBytes (.sl [.c, .a, .b]))) (Option.some [.d, .a, .b])), (.op Option.none (.pure 2 (vMove (.sl [.d, .a, .b]))) (Option.some [.b]))]) .ret)
noncomputable def c12_3 : EC := (.seq (.seq (.steps [(.op Option.none (.pure 2 (vMove (.k (.int .i64 (.ofNat 0))))) (Option.some [.d]))]) c12_4) c12_21)
noncomputable def c12_2 : EC := (.seq (.steps [(.op Option.none (.pure 1 (vMove (.sl [.c]))) (Option.some [.a, .a])), (.op Option.none (.new 7 (nSlice 1 1 [(.int .u8 (.ofNat 0))] [(0, (1, (.k (.int .u8 (.ofNat 34)))))])) (Option.some [.b, .a])), (.op Option.none (.eff (hAppend 1 (.sl [.a, .a]) (.sl [.b, .a]) (Option.some [.c, .a]))) (Option.some [.c, .a])), (.op Option.none (.pure 2 (vMove (.sl [.c, .a]))) (Option.some [.c]))]) c12_3)
noncomputable def c12_1 : EC := (.seq (.steps [(.op Option.none (.pure 2 (vMove (.k .nils))) (Option.some [.c]))]) c12_2)
noncomputable def c12 : EF := ⟨(.seq (.steps [(.op Option.none (.pure 2 (vMove (.k (.str ⟨#[]⟩)))) (Option.some [.b]))]) c12_1), [(.slot (.sl [.b]))], Bool.false⟩
theorem c12_ok : compF Tryd.prog 12 = some c12 := by kernel_rfl
noncomputable def LF12 : FuncId → Option EF := lookF [(12, c12)]
theorem FF12 : LF12 12 = some c12 := rfl

def escB (c : UInt8) : List UInt8 := if eqI c 34 || eqI c 92 then [92, c] else if eqI c 10 then [92, 110] else [c]
theorem quote_one {call : Calls'} {l : List UInt8} (hl : l.length ≤ 400000) (fuel n : Nat) (h0 h : H) (v : AV) (acc : List UInt8) (fr : FT) (hn : n < l.length) (ho : OutOk h0 h v acc) (hne : acc ≠ []) (hs : Since h0 h) (ha : acc.length ≤ 1 + 2 * n)
    (e0 : Ev.get [] fr = some (.v (T l))) (e1 : Ev.get [.d] fr = some (.v (.int .i64 (n : Int)))) (e2 : Ev.get [.c] fr = some (.v v)) :
    ∃ fr' h' v', evC call fuel c12_6 fr h = .norm fr' h' ∧ OutOk h0 h' v' (acc ++ escB l[n]) ∧ Since h0 h' ∧ Ev.get [] fr' = some (.v (T l)) ∧ Ev.get [.d] fr' = some (.v (.int .i64 ((n + 1 : Nat) : Int))) ∧ Ev.get [.c] fr' = some (.v v') := by
  have w : wrapF .i64 ((n : Int) + 1) = (n : Int) + 1 := wrap64 (by omega) (by omega)
  have m1 : acc.length + 1 ≤ most := by unfold most; omega
  have m2 : acc.length + 2 ≤ most := by unfold most; omega
  rcases Decidable.em (((l[n]).toNat : Int) = 34 ∨ ((l[n]).toNat : Int) = 92) with hx | hx
  · have he : escB l[n] = [92, l[n]] := by
      unfold escB
      rw [if_pos (by simpa [eqI] using hx)]
    obtain ⟨v', h', a1, a2, a3, a4, a5⟩ := out_two ho hne hs 92 l[n] (by omega)
    rw [he]
    have a1 : appendV (h.new ⟨1, 2, .node (some [.int .u8 92]) (.node (some [.int .u8 (l[n].toNat : Int)]) .nil .nil .nil .nil) .nil .nil .nil, false, false, false⟩) 1 v (.sl h.next 1 0 2) = some (v', h') := a1
    rcases Decidable.em (((l[n]).toNat : Int) = 34) with h34 | h34
    · rw [h34] at a1
      refine ⟨?fr, h', v', ?e, a3, a4, ?_, ?_, ?_⟩
      case e =>
        simp [-y_Hnew, -lenOf, c12_6, c12_10, c12_11, c12_12, c12_13, c12_14, c12_15, c12_16, c12_17, c12_18, c12_19, c12_20, c12_7, c12_8, c12_9, gs, e0, e1, e2, hn, h34, w, hAppend, apOut, a1, a2, m2]
        rfl
      all_goals simp [gs, e0, e1, e2]
    · have h92 : ((l[n]).toNat : Int) = 92 := by omega
      rw [h92] at a1
      refine ⟨?fr1, h', v', ?e1, a3, a4, ?_, ?_, ?_⟩
      case e1 =>
        simp [-y_Hnew, -lenOf, c12_6, c12_10, c12_11, c12_12, c12_13, c12_14, c12_15, c12_16, c12_17, c12_18, c12_19, c12_20, c12_7, c12_8, c12_9, gs, e0, e1, e2, hn, h92, w, hAppend, apOut, a1, a2, m2]
        rfl
      all_goals simp [gs, e0, e1, e2]
  · have h34 : ¬ ((l[n]).toNat : Int) = 34 := fun h => hx (.inl h)
    have h92 : ¬ ((l[n]).toNat : Int) = 92 := fun h => hx (.inr h)
    rcases Decidable.em (((l[n]).toNat : Int) = 10) with h10 | h10
    · have he : escB l[n] = [92, 110] := by
        unfold escB
        rw [if_neg (by simpa [eqI] using hx), if_pos (by simpa [eqI] using h10)]
      obtain ⟨v', h', a1, a2, a3, a4, a5⟩ := out_two ho hne hs 92 110 (by omega)
      have a1 : appendV (h.new ⟨1, 2, .node (some [.int .u8 92]) (.node (some [.int .u8 110]) .nil .nil .nil .nil) .nil .nil .nil, false, false, false⟩) 1 v (.sl h.next 1 0 2) = some (v', h') := a1
      rw [he]
      refine ⟨?fr2, h', v', ?e2, a3, a4, ?_, ?_, ?_⟩
      case e2 =>
        simp [-y_Hnew, -lenOf, c12_6, c12_10, c12_11, c12_12, c12_13, c12_14, c12_15, c12_16, c12_17, c12_18, c12_19, c12_20, c12_7, c12_8, c12_9, gs, e0, e1, e2, hn, h34, h92, h10, w, hAppend, apOut, a1, a2, m2]
        rfl
      all_goals simp [gs, e0, e1, e2]
    · have he : escB l[n] = [l[n]] := by
        unfold escB
        rw [if_neg (by simpa [eqI] using hx), if_neg (by simpa [eqI] using h10)]
      obtain ⟨v', h', a1, a2, a3, a4, a5⟩ := out_more ho hs l[n] (by omega)
      rw [he]
      refine ⟨?fr3, h', v', ?e3, a3, a4, ?_, ?_, ?_⟩
      case e3 =>
        simp [-y_Hnew, -lenOf, c12_6, c12_10, c12_11, c12_12, c12_13, c12_14, c12_15, c12_16, c12_17, c12_18, c12_19, c12_20, c12_7, c12_8, c12_9, gs, e0, e1, e2, hn, h34, h92, h10, w, hAppend, apOut, a1, a2, m1]
        rfl
      all_goals simp [gs, e0, e1, e2]
theorem quote_end {call : Calls'} {l : List UInt8} (fuel n : Nat) (h : H) (v : AV) (fr : FT) (hn : ¬ n < l.length)
    (e0 : Ev.get [] fr = some (.v (T l))) (e1 : Ev.get [.d] fr = some (.v (.int .i64 (n : Int)))) (e2 : Ev.get [.c] fr = some (.v v)) :
    ∃ fr', evC call fuel c12_6 fr h = .exit 0 fr' h ∧ Ev.get [.c] fr' = some (.v v) := by
  refine ⟨?fr, ?e, ?_⟩
  case e =>
    simp [-y_Hnew, c12_6, c12_10, c12_11, c12_12, c12_13, c12_14, c12_15, c12_16, c12_17, c12_18, c12_19, c12_20, c12_7, c12_8, c12_9, gs, e0, e1, e2, hn]
    rfl
  all_goals simp [gs, e0, e1, e2]
theorem escB_len (c : UInt8) : 1 ≤ (escB c).length ∧ (escB c).length ≤ 2 := by unfold escB; split; exact ⟨by simp, by simp⟩; split <;> exact ⟨by simp, by simp⟩
theorem quote_all {call : Calls'} {l : List UInt8} (hl : l.length ≤ 400000) (fuel : Nat) (h0 : H) : ∀ (k n : Nat) (h : H) (v : AV) (acc : List UInt8) (fr : FT) (j : Nat), l.length = n + k → OutOk h0 h v acc → acc ≠ [] → Since h0 h → acc.length ≤ 1 + 2 * n → Ev.get [] fr = some (.v (T l)) → Ev.get [.d] fr = some (.v (.int .i64 (n : Int))) → Ev.get [.c] fr = some (.v v) →
    ∃ fr' h' v', loopF call fuel c12_6 (k + 1 + j) fr h = .exit 0 fr' h' ∧ OutOk h0 h' v' (acc ++ (l.drop n).flatMap escB) ∧ Since h0 h' ∧ Ev.get [.c] fr' = some (.v v')
  | 0, n, h, v, acc, fr, j, hk, ho, hne, hs, ha, e0, e1, e2 => by
    obtain ⟨fr', g1, g2⟩ := quote_end (call := call) fuel n h v fr (by omega : ¬ n < l.length) e0 e1 e2
    refine ⟨fr', h, v, by rw [show 0 + 1 + j = j + 1 by omega, loopF_succ, g1], ?_, hs, g2⟩
    rw [List.drop_eq_nil_of_le (by omega)]
    simpa using ho
  | k + 1, n, h, v, acc, fr, j, hk, ho, hne, hs, ha, e0, e1, e2 => by
    have hn : n < l.length := by omega
    have hd : l.drop n = l[n] :: l.drop (n + 1) := List.drop_eq_getElem_cons hn
    obtain ⟨fr1, hh, v1, g1, o1, s1, a0, a1, a2⟩ := quote_one (call := call) hl fuel n h0 h v acc fr hn ho hne hs ha e0 e1 e2
    have hlen := escB_len l[n]
    obtain ⟨fr', h', v', g2, o2, s2, a3⟩ := quote_all hl fuel h0 k (n + 1) hh v1 (acc ++ escB l[n]) fr1 j (by omega) o1 (by simp [hne]) s1 (by simp; omega) a0 a1 a2
    refine ⟨fr', h', v', by rw [show k + 1 + 1 + j = (k + 1 + j) + 1 by omega, loopF_succ, g1]; exact g2, ?_, s2, a3⟩
    rw [hd, List.flatMap_cons, ← List.append_assoc]
    exact o2
/-- A text, quoted. -/
def quoteP (l : List UInt8) : List UInt8 := [34] ++ l.flatMap escB ++ [34]
theorem flat_len (l : List UInt8) : (l.flatMap escB).length ≤ 2 * l.length := by
  induction l with
  | nil => simp
  | cons c l ih => have := escB_len c; rw [List.flatMap_cons, List.length_append, List.length_cons]; omega
set_option maxHeartbeats 1000000 in
theorem t12 {call : Calls'} (l : List UInt8) (h : H) (hl : l.length ≤ 400000) : Tells (evFun LF12 call (l.length + 1) 12 [T l] h) h (T (quoteP l)) := by
  have s0 : Since h h := ⟨.refl _, Nat.le_refl _⟩
  obtain ⟨v0, h1, a1, a2, a3, a4, a5⟩ := out_more (h0 := h) (h := h) (v := .nils) (acc := []) (.inl ⟨rfl, rfl⟩) s0 34 (by simp)
  have a1 : appendV (h.new ⟨1, 1, .node (some [.int .u8 34]) .nil .nil .nil .nil, false, false, false⟩) 1 .nils (.sl h.next 1 0 1) = some (v0, h1) := a1
  have a2 : lenOf v0 = some 1 := a2
  obtain ⟨fr', h2, v2, b1, b2, b3, b4⟩ := quote_all (call := call) hl (l.length + 1) h l.length 0 h1 v0 [34] (.node (some (.v (T l))) (.node none (.node (some (.v .nils)) .nil .nil .nil .nil) .nil .nil .nil) (.node (some (.v (.str ⟨#[]⟩))) (.node (some (.v (.sl h.next 1 0 1))) .nil .nil .nil .nil) .nil .nil .nil) (.node (some (.v v0)) (.node (some (.v v0)) .nil .nil .nil .nil) .nil .nil .nil) (.node (some (.v (.int .i64 0))) .nil .nil .nil .nil)) 0 (by omega) a3 (by simp) a4 (by simp) rfl rfl rfl
  have b1 : loopF call (l.length + 1) c12_6 (l.length + 1) _ h1 = _ := b1
  rw [List.drop_zero] at b2
  have hf := flat_len l
  have hlen : ([34] ++ l.flatMap escB).length ≤ 1000000 := by rw [List.length_append, List.length_singleton]; omega
  obtain ⟨v3, h3, c1, c2, c3, c4, c5⟩ := out_more b2 b3 34 hlen
  have c1 : appendV (h2.new ⟨1, 1, .node (some [.int .u8 34]) .nil .nil .nil .nil, false, false, false⟩) 1 v2 (.sl h2.next 1 0 1) = some (v3, h3) := c1
  have cb := out_bytes c3
  have hm : ([34] ++ l.flatMap escB).length + 1 ≤ most := by unfold most; omega
  have hm1 : 1 ≤ most := by decide
  unfold quoteP
  generalize [34] ++ l.flatMap escB = Q at *
  simp [-y_Hnew, -lBytes, -lenOf, Tells, evFun, FF12, c12]
  (try (conv in (evC call _ c12_1 _ _) => unfold c12_1; simp [-y_Hnew, -lBytes, -lenOf, y_lb, gs, hAppend, apOut, a1, a2, hm1, b4, c1, c2, hm, cb]); try dsimp only)
  (try (conv in (evC call _ c12_2 _ _) => unfold c12_2; simp [-y_Hnew, -lBytes, -lenOf, y_lb, gs, hAppend, apOut, a1, a2, hm1, b4, c1, c2, hm, cb]); try dsimp only)
  (try (conv in (evC call _ c12_3 _ _) => unfold c12_3; simp [-y_Hnew, -lBytes, -lenOf, y_lb, gs, hAppend, apOut, a1, a2, hm1, b4, c1, c2, hm, cb]); try dsimp only)
  (try (conv in (evC call _ c12_4 _ _) => unfold c12_4; simp [-y_Hnew, -lBytes, -lenOf, y_lb, gs, hAppend, apOut, a1, a2, hm1, b4, c1, c2, hm, cb]); try dsimp only)
  (try (conv in (evC call _ c12_5 _ _) => unfold c12_5; simp [-y_Hnew, -lBytes, -lenOf, y_lb, gs, hAppend, apOut, a1, a2, hm1, b4, c1, c2, hm, cb]); try dsimp only)
  rw [b1]
  try dsimp only
  (try (conv in (decide ((0 : Nat) = 0)) => simp)); try dsimp only
  (try (conv in (evC call _ c12_21 _ _) => unfold c12_21; simp [-y_Hnew, -lBytes, -lenOf, y_lb, gs, hAppend, apOut, a1, a2, hm1, b4, c1, c2, hm, cb]); try dsimp only)
  simp [-y_Hnew, -lBytes, -lenOf, Tells, gs, cb]

  exact c4.1
end Go.Proofs.Lx
