import Derived.Test.YtlbooinipoaapaaDoorLxRS
import Derived.Test.YtlbooinipoaapaaDoorLxL3
set_option linter.unusedSimpArgs false
set_option linter.unusedVariables false
set_option linter.unusedSectionVars false
namespace Go.Proofs.Lx
open Go.Ev
noncomputable def S17 : List AV → H → CR := fun xs h => match xs with
  | [.str s] => if s.data.toList.length ≤ 1000000 then evFun LF17 k15 (s.data.toList.length + 1) 17 [.str s] h else .bad 0
  | _ => .bad 0
noncomputable def k17 : Calls' := upd k15 17 S17
theorem ok17 : CallsOk Γ Tryd.prog k17 := ok15.add mixed (F := LF17) (one_ok c17_ok) fun xs h r e hb => by
  unfold S17 at e
  split at e
  · rename_i s
    split at e
    · exact ⟨_, .inl e⟩
    · subst e; exact absurd rfl (hb 0)
  · subst e; exact absurd rfl (hb 0)
noncomputable def S18 : List AV → H → CR := fun xs h => match xs with
  | [.str s] => if s.data.toList.length ≤ 1000000 then evFun LF18 k17 (s.data.toList.length + 1) 18 [.str s] h else .bad 0
  | _ => .bad 0
noncomputable def k18 : Calls' := upd k17 18 S18
theorem ok18 : CallsOk Γ Tryd.prog k18 := ok17.add mixed (F := LF18) (one_ok c18_ok) fun xs h r e hb => by
  unfold S18 at e
  split at e
  · rename_i s
    split at e
    · exact ⟨_, .inl e⟩
    · subst e; exact absurd rfl (hb 0)
  · subst e; exact absurd rfl (hb 0)
noncomputable def S16 : List AV → H → CR := fun xs h => match xs with
  | [.sl p k i n, v] => evFun LF16 k18 (n + 1) 16 [.sl p k i n, v] h
  | _ => .bad 0
noncomputable def k16 : Calls' := upd k18 16 S16
theorem ok16 : CallsOk Γ Tryd.prog k16 := ok18.add mixed (F := LF16) (one_ok c16_ok) fun xs h r e hb => by
  unfold S16 at e
  split at e
  · exact ⟨_, .inl e⟩
  · subst e; exact absurd rfl (hb 0)
theorem hk15_21 (l : List UInt8) (n : Nat) (h : H) (hl : l.length ≤ 1000000) (hn : n ≤ l.length) : k15 21 [T l, .int .i64 (n : Int)] h = .ret (.tup [nextA l n, .int .i64 ((nextM l n + (nextT l n).z : Nat) : Int)]) h := hk21_21 l n h hl hn
theorem hk17_15 (l : List UInt8) (n : Int) (h : H) (hl : l.length ≤ 1000000) : k17 15 [T l, .int .i64 n] h = .ret (refA l n) h := hk15_15 l n h hl
theorem refA_row (l : List UInt8) (n : Int) : refA l n = .agg (rowA l (clampA l.length n) ++ [.int .i64 ((refT l (nextM l (clampA l.length n))).z : Int)]) := by
  obtain ⟨e1, e2, e3, _⟩ := same_tok l (clampA l.length n) (clampA_le _ _)
  unfold refA refM Tk.found rowA
  rw [e1, e2, e3]
  rfl
theorem clamp_nat {m n : Nat} (h : n ≤ m) : clampA m (n : Int) = n := by
  unfold clampA
  rw [if_neg (by omega), if_neg (by omega)]; rfl
theorem all17 (l : List UInt8) (h : H) (hl : l.length ≤ 1000000) : ∃ v' h', k16 17 [T l] h = .ret v' h' ∧ OutT h h' v' (toks l) ∧ Since h h' := by
  obtain ⟨v', h', e, q⟩ := t17 (call := k15) (l := l) h hl (fun a h ha => hk15_21 l a h hl ha)
  refine ⟨v', h', ?_, q⟩
  show S17 [T l] h = _
  unfold S17
  simp only
  rw [if_pos (by simpa using hl)]
  exact e
theorem all18 (l : List UInt8) (h : H) (hl : l.length ≤ 1000000) : ∃ v' h', k16 18 [T l] h = .ret v' h' ∧ OutT h h' v' (toks l) ∧ Since h h' := by
  obtain ⟨v', h', e, q⟩ := t18 (call := k17) (l := l) (zf := fun a => (refT l (nextM l a)).z) h hl (fun a h ha => (hk17_15 l a h hl).trans (by rw [refA_row, clamp_nat ha])) (fun a ha h0 h6 => (same_tok l a ha).2.2.2 h0 h6)
  refine ⟨v', h', ?_, q⟩
  show S18 [T l] h = _
  unfold S18
  simp only
  rw [if_pos (by simpa using hl)]
  exact e
theorem toks_rows (l : List UInt8) : ∀ (f a : Nat) (acc : List (List AV)), (∀ r ∈ acc, TokRow r) → ∀ r ∈ toksGo f l a acc, TokRow r
  | 0, _, _, h => h
  | f + 1, a, acc, h => by
    have h' : ∀ r ∈ acc ++ [rowA l a], TokRow r := by
      intro r hr
      rcases List.mem_append.1 hr with hr | hr
      · exact h r hr
      · rw [List.mem_singleton.1 hr]; exact ⟨_, _, _, _, _, rfl⟩
    by_cases hk : (nextT l a).k = 0 ∨ (nextT l a).k = 6
    · rw [toksGo_end hk]; exact h'
    · rw [toksGo_on hk]; exact toks_rows l f _ _ h'
theorem toks_len (l : List UInt8) : ∀ (f a : Nat) (acc : List (List AV)), acc.length ≤ (toksGo f l a acc).length ∧ (toksGo f l a acc).length ≤ acc.length + f
  | 0, _, _ => ⟨Nat.le_refl _, Nat.le_refl _⟩
  | f + 1, a, acc => by
    by_cases hk : (nextT l a).k = 0 ∨ (nextT l a).k = 6
    · rw [toksGo_end hk]; simp
    · rw [toksGo_on hk]
      have := toks_len l f (nextM l a + (nextT l a).z) (acc ++ [rowA l a])
      simp only [List.length_append, List.length_singleton] at this
      omega
theorem toks_ne (l : List UInt8) : toks l ≠ [] := by
  intro e
  have : 0 < (toks l).length := by
    unfold toks
    by_cases hk : (nextT l 0).k = 0 ∨ (nextT l 0).k = 6
    · rw [toksGo_end hk]; simp
    · rw [toksGo_on hk]
      have := toks_len l l.length (nextM l 0 + (nextT l 0).z) ([] ++ [rowA l 0])
      simp only [List.length_append, List.length_singleton] at this
      omega
  rw [e] at this
  exact absurd this (Nat.lt_irrefl _)
theorem same16 (l : List UInt8) (h h1 h2 : H) (v1 v2 : AV) (hl : l.length ≤ 1000000) (o1 : OutT h h1 v1 (toks l)) (s1 : Since h h1) (o2 : OutT h1 h2 v2 (toks l)) (s2 : Since h1 h2) : k16 16 [v1, v2] h2 = .ret (.bool true) h2 := by
  rcases o1 with ⟨e, _⟩ | ⟨p, b, rfl, _, _, hp, hb, hk, _, _, _, hm, hr⟩
  · exact absurd e (toks_ne l)
  rcases o2 with ⟨e, _⟩ | ⟨p', b', rfl, _, _, _, hb', hk', _, _, _, hm', hr'⟩
  · exact absurd e (toks_ne l)
  have hb2 : Ev.get p h2.t = some b := (s2.1 p hp).trans hb
  have hlen := (toks_len l (l.length + 1) 0 []).2
  simp only [List.length_nil] at hlen
  show S16 [.sl p 5 0 (toks l).length, .sl p' 5 0 (toks l).length] h2 = _
  unfold S16
  exact t16 hb2 hm hk hr hb' hm' hk' hr' (by unfold toks; omega) (toks_rows l _ _ _ (fun _ h => by cases h))
noncomputable def c7_2 : List St := [(.op (Option.some ([.b, .b], Bool.false)) (.pure 1 (vMove (.sl [.b]))) (Option.some [.c, .b])), (.op (Option.some ([.b, .b], Bool.false)) (.pure 23 (vLenS (.sl [.c, .b]))) (Option.some [.d, .b])), (.op (Option.some ([.b, .b], Bool.false)) (.pure 11 (vBin .no .gtr (.sl [.d, .b]) (.k (.int .i64 (.ofNat 40))))) (Option.some [.a, .c])), (.op Option.none (.pure 3 (vPick (.sl [.b, .b]) (.k (.bool Bool.true)) (.sl [.a, .c]))) (Option.some [.b, .c]))]
noncomputable def c7_4 : EC := (.seq (.steps [(.op Option.none (.eff (hCall (.k (.fn 10 [] [])) [])) (Option.some [.c, .c])), (.op Option.none (.pure 2 (vMove (.sl [.c, .c]))) (Option.some [.b, .a]))]) .ret)
noncomputable def c7_3 : EC := (.cond (.sl [.b, .c]) c7_4 .skip)
noncomputable def c7_11 : List St := [(.op Option.none (.pure 3 (vPick (.sl [.b, .a, .b]) (.sl [.c, .a, .b]) (.k (.bool Bool.false)))) (Option.some [.d, .a, .b])), (.op Option.none (.pure 2 (vMove (.sl [.d, .a, .b]))) (Option.some [.b, .a]))]
noncomputable def c7_10 : List St := ((.op (Option.some ([.c, .c, .a], Bool.true)) (.pure 11 (vBin (.one .bool) .eql (.sl [.a, .d, .a]) (.sl [.c, .d, .a]))) (Option.some [.d, .d, .a])) :: (.op Option.none (.pure 3 (vPick (.sl [.c, .c, .a]) (.sl [.d, .d, .a]) (.k (.bool Bool.false)))) (Option.some [.a, .a, .b])) :: (.op Option.none (.pure 1 (vMove (.sl [.a, .a, .b]))) (Option.some [.b, .a, .b])) :: (.op (Option.some ([.b, .a, .b], Bool.true)) (.eff (hCall (.k (.fn 10 [] [])) [])) (Option.some [.c, .a, .b])) :: c7_11)
noncomputable def c7_9 : List St := ((.op (Option.some ([.c, .c, .a], Bool.true)) (.pure 1 (vMove (.sl [.b]))) (Option.some [.d, .c, .a])) :: (.op (Option.some ([.c, .c, .a], Bool.true)) (.eff (hCall (.k (.fn 19 [] [])) [(.sl [.d, .c, .a])])) (Option.some [.a, .d, .a])) :: (.op (Option.some ([.c, .c, .a], Bool.true)) (.pure 1 (vMove (.sl [.b]))) (Option.some [.b, .d, .a])) :: (.op (Option.some ([.c, .c, .a], Bool.true)) (.eff (hCall (.k (.fn 20 [] [])) [(.sl [.b, .d, .a])])) (Option.some [.c, .d, .a])) :: c7_10)
noncomputable def c7_8 : List St := ((.op (Option.some ([.d, .a, .a], Bool.true)) (.eff (hCall (.k (.fn 18 [] [])) [(.sl [.c, .b, .a])])) (Option.some [.d, .b, .a])) :: (.op (Option.some ([.d, .a, .a], Bool.true)) (.eff (hCall (.k (.fn 16 [] [])) [(.sl [.b, .b, .a]), (.sl [.d, .b, .a])])) (Option.some [.a, .c, .a])) :: (.op Option.none (.pure 3 (vPick (.sl [.d, .a, .a]) (.sl [.a, .c, .a]) (.k (.bool Bool.false)))) (Option.some [.b, .c, .a])) :: (.op Option.none (.pure 1 (vMove (.sl [.b, .c, .a]))) (Option.some [.c, .c, .a])) :: c7_9)
noncomputable def c7_7 : List St := ((.op Option.none (.pure 1 (vMove (.sl [.c, .a, .a]))) (Option.some [.d, .a, .a])) :: (.op (Option.some ([.d, .a, .a], Bool.true)) (.pure 1 (vMove (.sl []))) (Option.some [.a, .b, .a])) :: (.op (Option.some ([.d, .a, .a], Bool.true)) (.eff (hCall (.k (.fn 17 [] [])) [(.sl [.a, .b, .a])])) (Option.some [.b, .b, .a])) :: (.op (Option.some ([.d, .a, .a], Bool.true)) (.pure 1 (vMove (.sl []))) (Option.some [.c, .b, .a])) :: c7_8)
noncomputable def c7_6 : List St := ((.op Option.none (.pure 1 (vMove (.sl [.a]))) (Option.some [.d, .d])) :: (.op Option.none (.eff (hCall (.k (.fn 15 [] [])) [(.sl [.c, .d]), (.sl [.d, .d])])) (Option.some [.a, .a, .a])) :: (.op Option.none (.pure 19 (vField (.sl [.a, .a, .a]) 0 5 Bool.true)) (Option.some [.b, .a, .a])) :: (.op Option.none (.pure 11 (vBin (.all [.int, .str, .int, .int, .bool]) .eql (.sl [.b, .d]) (.sl [.b, .a, .a]))) (Option.some [.c, .a, .a])) :: c7_7)
noncomputable def c7_5 : EC := (.seq (.steps ((.op Option.none (.pure 1 (vMove (.sl []))) (Option.some [.d, .c])) :: (.op Option.none (.pure 1 (vMove (.sl [.a]))) (Option.some [.a, .d])) :: (.op Option.none (.eff (hCall (.k (.fn 11 [] [])) [(.sl [.d, .c]), (.sl [.a, .d])])) (Option.some [.b, .d])) :: (.op Option.none (.pure 1 (vMove (.sl []))) (Option.some [.c, .d])) :: c7_6)) .ret)
noncomputable def c7_1 : EC := (.seq (.seq (.steps ((.op Option.none (.pure 1 (vMove (.sl []))) (Option.some [.c, .a])) :: (.op Option.none (.pure 23 (vLenS (.sl [.c, .a]))) (Option.some [.d, .a])) :: (.op Option.none (.pure 11 (vBin .no .gtr (.sl [.d, .a]) (.k (.int .i64 (.ofNat 1000))))) (Option.some [.a, .b])) :: (.op Option.none (.pure 1 (vMove (.sl [.a, .b]))) (Option.some [.b, .b])) :: c7_2)) c7_3) c7_5)
noncomputable def c7 : EF := ⟨(.seq (.steps [(.op Option.none (.pure 2 (vMove (.k (.bool Bool.false)))) (Option.some [.b, .a]))]) c7_1), [(.slot (.sl [.b, .a]))], Bool.false⟩
theorem c7_ok : compF Tryd.prog 7 = some c7 := by kernel_rfl
noncomputable def LF7 : FuncId → Option EF := lookF [(7, c7)]
theorem FF7 : LF7 7 = some c7 := rfl

set_option maxRecDepth 100000 in
set_option maxHeartbeats 4000000 in
theorem L7 (l S : List UInt8) (a : Int) : Says (evFun LF7 k16 20 7 [T l, .int .i64 a, T S] H.empty) (.bool true) := by
  have k10' : ∀ h, k16 10 [] h = .ret (.bool true) h := fun _ => rfl
  have k19' : ∀ h, k16 19 [T S] h = .ret (.bool (isW ⟨S.toArray⟩)) h := fun _ => if_pos (e := CR.bad 0) trivial
  have k20' : ∀ h, k16 20 [T S] h = .ret (.bool (isW ⟨S.toArray⟩)) h := fun _ => if_pos (e := CR.bad 0) trivial
  have k11' : ∀ h, l.length ≤ 1000000 → k16 11 [T l, .int .i64 a] h = .ret (.agg (rowA l (clampA l.length a))) h := fun h hl => hk11_11 l a h hl
  have k15' : ∀ h, l.length ≤ 1000000 → k16 15 [T l, .int .i64 a] h = .ret (.agg (rowA l (clampA l.length a) ++ [.int .i64 ((refT l (nextM l (clampA l.length a))).z : Int)])) h := fun h hl => (hk15_15 l a h hl).trans (by rw [refA_row])
  have A17 := all17 l
  have A18 := all18 l
  have A16 := same16 l
  generalize k16 = call at *
  rcases Decidable.em (1000 < (l.length : Int)) with h1 | h1
  · simp [Says, evFun, FF7, c7, k10', h1]
    (try (conv in (evC call _ c7_1 _ _) => unfold c7_1; simp [k10', h1]); try dsimp only)
    (try (conv in (evSteps call c7_2 _ _) => unfold c7_2; simp [k10', h1]); try dsimp only)
    (try (conv in (evC call _ c7_3 _ _) => unfold c7_3; simp [k10', h1]); try dsimp only)
    (try (conv in (evC call _ c7_4 _ _) => unfold c7_4; simp [k10', h1]); try dsimp only)
    (try (conv in (evC call _ c7_5 _ _) => unfold c7_5; simp [k10', h1]); try dsimp only)
    (try (conv in (evSteps call c7_6 _ _) => unfold c7_6; simp [k10', h1]); try dsimp only)
    (try (conv in (evSteps call c7_7 _ _) => unfold c7_7; simp [k10', h1]); try dsimp only)
    (try (conv in (evSteps call c7_8 _ _) => unfold c7_8; simp [k10', h1]); try dsimp only)
    (try (conv in (evSteps call c7_9 _ _) => unfold c7_9; simp [k10', h1]); try dsimp only)
    (try (conv in (evSteps call c7_10 _ _) => unfold c7_10; simp [k10', h1]); try dsimp only)
    (try (conv in (evSteps call c7_11 _ _) => unfold c7_11; simp [k10', h1]); try dsimp only)
    try simp [k10', h1]
  rcases Decidable.em (40 < (S.length : Int)) with h2 | h2
  · simp [Says, evFun, FF7, c7, k10', h1, h2]
    (try (conv in (evC call _ c7_1 _ _) => unfold c7_1; simp [k10', h1, h2]); try dsimp only)
    (try (conv in (evSteps call c7_2 _ _) => unfold c7_2; simp [k10', h1, h2]); try dsimp only)
    (try (conv in (evC call _ c7_3 _ _) => unfold c7_3; simp [k10', h1, h2]); try dsimp only)
    (try (conv in (evC call _ c7_4 _ _) => unfold c7_4; simp [k10', h1, h2]); try dsimp only)
    (try (conv in (evC call _ c7_5 _ _) => unfold c7_5; simp [k10', h1, h2]); try dsimp only)
    (try (conv in (evSteps call c7_6 _ _) => unfold c7_6; simp [k10', h1, h2]); try dsimp only)
    (try (conv in (evSteps call c7_7 _ _) => unfold c7_7; simp [k10', h1, h2]); try dsimp only)
    (try (conv in (evSteps call c7_8 _ _) => unfold c7_8; simp [k10', h1, h2]); try dsimp only)
    (try (conv in (evSteps call c7_9 _ _) => unfold c7_9; simp [k10', h1, h2]); try dsimp only)
    (try (conv in (evSteps call c7_10 _ _) => unfold c7_10; simp [k10', h1, h2]); try dsimp only)
    (try (conv in (evSteps call c7_11 _ _) => unfold c7_11; simp [k10', h1, h2]); try dsimp only)
    try simp [k10', h1, h2]
  have hl : l.length ≤ 1000000 := by omega
  have g11 := fun h => k11' h hl
  have g15 := fun h => k15' h hl
  obtain ⟨v1, H1, g17, o1, s1⟩ := A17 H.empty hl
  obtain ⟨v2, H2, g18, o2, s2⟩ := A18 H1 hl
  have g16 := A16 H.empty H1 H2 v1 v2 hl o1 s1 o2 s2
  have g17 : call 17 [T l] ⟨[], .nil, 0⟩ = .ret v1 H1 := g17
  unfold rowA at g11 g15
  generalize (nextT l (clampA l.length a)).k = x1 at *
  generalize (nextT l (clampA l.length a)).s = x2 at *
  generalize (nextT l (clampA l.length a)).n = x3 at *
  generalize (refT l (nextM l (clampA l.length a))).z = x6 at *
  generalize nextM l (clampA l.length a) = x4 at *
  generalize (skipP (l.drop (clampA l.length a))).2 = x5 at *
  generalize isW ⟨S.toArray⟩ = w at *
  simp [Says, evFun, FF7, c7, h1, h2]
  cases x5 <;> cases w
  · (try (conv in (evC call _ c7_1 _ _) => unfold c7_1; simp [-y_Hnew, -y_Hput, gs, k10', g11, g15, g17, g18, g16, k19', k20', vField, h1, h2]); try dsimp only)
    (try (conv in (evSteps call c7_2 _ _) => unfold c7_2; simp [-y_Hnew, -y_Hput, gs, k10', g11, g15, g17, g18, g16, k19', k20', vField, h1, h2]); try dsimp only)
    (try (conv in (evC call _ c7_3 _ _) => unfold c7_3; simp [-y_Hnew, -y_Hput, gs, k10', g11, g15, g17, g18, g16, k19', k20', vField, h1, h2]); try dsimp only)
    (try (conv in (evC call _ c7_4 _ _) => unfold c7_4; simp [-y_Hnew, -y_Hput, gs, k10', g11, g15, g17, g18, g16, k19', k20', vField, h1, h2]); try dsimp only)
    (try (conv in (evC call _ c7_5 _ _) => unfold c7_5; simp [-y_Hnew, -y_Hput, gs, k10', g11, g15, g17, g18, g16, k19', k20', vField, h1, h2]); try dsimp only)
    (try (conv in (evSteps call c7_6 _ _) => unfold c7_6; simp [-y_Hnew, -y_Hput, gs, k10', g11, g15, g17, g18, g16, k19', k20', vField, h1, h2]); try dsimp only)
    (try (conv in (evSteps call c7_7 _ _) => unfold c7_7; simp [-y_Hnew, -y_Hput, gs, k10', g11, g15, g17, g18, g16, k19', k20', vField, h1, h2]); try dsimp only)
    (try (conv in (evSteps call c7_8 _ _) => unfold c7_8; simp [-y_Hnew, -y_Hput, gs, k10', g11, g15, g17, g18, g16, k19', k20', vField, h1, h2]); try dsimp only)
    (try (conv in (evSteps call c7_9 _ _) => unfold c7_9; simp [-y_Hnew, -y_Hput, gs, k10', g11, g15, g17, g18, g16, k19', k20', vField, h1, h2]); try dsimp only)
    (try (conv in (evSteps call c7_10 _ _) => unfold c7_10; simp [-y_Hnew, -y_Hput, gs, k10', g11, g15, g17, g18, g16, k19', k20', vField, h1, h2]); try dsimp only)
    (try (conv in (evSteps call c7_11 _ _) => unfold c7_11; simp [-y_Hnew, -y_Hput, gs, k10', g11, g15, g17, g18, g16, k19', k20', vField, h1, h2]); try dsimp only)
    try simp [-y_Hnew, -y_Hput, gs, k10', g11, g15, g17, g18, g16, k19', k20', vField, h1, h2]
  · (try (conv in (evC call _ c7_1 _ _) => unfold c7_1; simp [-y_Hnew, -y_Hput, gs, k10', g11, g15, g17, g18, g16, k19', k20', vField, h1, h2]); try dsimp only)
    (try (conv in (evSteps call c7_2 _ _) => unfold c7_2; simp [-y_Hnew, -y_Hput, gs, k10', g11, g15, g17, g18, g16, k19', k20', vField, h1, h2]); try dsimp only)
    (try (conv in (evC call _ c7_3 _ _) => unfold c7_3; simp [-y_Hnew, -y_Hput, gs, k10', g11, g15, g17, g18, g16, k19', k20', vField, h1, h2]); try dsimp only)
    (try (conv in (evC call _ c7_4 _ _) => unfold c7_4; simp [-y_Hnew, -y_Hput, gs, k10', g11, g15, g17, g18, g16, k19', k20', vField, h1, h2]); try dsimp only)
    (try (conv in (evC call _ c7_5 _ _) => unfold c7_5; simp [-y_Hnew, -y_Hput, gs, k10', g11, g15, g17, g18, g16, k19', k20', vField, h1, h2]); try dsimp only)
    (try (conv in (evSteps call c7_6 _ _) => unfold c7_6; simp [-y_Hnew, -y_Hput, gs, k10', g11, g15, g17, g18, g16, k19', k20', vField, h1, h2]); try dsimp only)
    (try (conv in (evSteps call c7_7 _ _) => unfold c7_7; simp [-y_Hnew, -y_Hput, gs, k10', g11, g15, g17, g18, g16, k19', k20', vField, h1, h2]); try dsimp only)
    (try (conv in (evSteps call c7_8 _ _) => unfold c7_8; simp [-y_Hnew, -y_Hput, gs, k10', g11, g15, g17, g18, g16, k19', k20', vField, h1, h2]); try dsimp only)
    (try (conv in (evSteps call c7_9 _ _) => unfold c7_9; simp [-y_Hnew, -y_Hput, gs, k10', g11, g15, g17, g18, g16, k19', k20', vField, h1, h2]); try dsimp only)
    (try (conv in (evSteps call c7_10 _ _) => unfold c7_10; simp [-y_Hnew, -y_Hput, gs, k10', g11, g15, g17, g18, g16, k19', k20', vField, h1, h2]); try dsimp only)
    (try (conv in (evSteps call c7_11 _ _) => unfold c7_11; simp [-y_Hnew, -y_Hput, gs, k10', g11, g15, g17, g18, g16, k19', k20', vField, h1, h2]); try dsimp only)
    try simp [-y_Hnew, -y_Hput, gs, k10', g11, g15, g17, g18, g16, k19', k20', vField, h1, h2]
  · (try (conv in (evC call _ c7_1 _ _) => unfold c7_1; simp [-y_Hnew, -y_Hput, gs, k10', g11, g15, g17, g18, g16, k19', k20', vField, h1, h2]); try dsimp only)
    (try (conv in (evSteps call c7_2 _ _) => unfold c7_2; simp [-y_Hnew, -y_Hput, gs, k10', g11, g15, g17, g18, g16, k19', k20', vField, h1, h2]); try dsimp only)
    (try (conv in (evC call _ c7_3 _ _) => unfold c7_3; simp [-y_Hnew, -y_Hput, gs, k10', g11, g15, g17, g18, g16, k19', k20', vField, h1, h2]); try dsimp only)
    (try (conv in (evC call _ c7_4 _ _) => unfold c7_4; simp [-y_Hnew, -y_Hput, gs, k10', g11, g15, g17, g18, g16, k19', k20', vField, h1, h2]); try dsimp only)
    (try (conv in (evC call _ c7_5 _ _) => unfold c7_5; simp [-y_Hnew, -y_Hput, gs, k10', g11, g15, g17, g18, g16, k19', k20', vField, h1, h2]); try dsimp only)
    (try (conv in (evSteps call c7_6 _ _) => unfold c7_6; simp [-y_Hnew, -y_Hput, gs, k10', g11, g15, g17, g18, g16, k19', k20', vField, h1, h2]); try dsimp only)
    (try (conv in (evSteps call c7_7 _ _) => unfold c7_7; simp [-y_Hnew, -y_Hput, gs, k10', g11, g15, g17, g18, g16, k19', k20', vField, h1, h2]); try dsimp only)
    (try (conv in (evSteps call c7_8 _ _) => unfold c7_8; simp [-y_Hnew, -y_Hput, gs, k10', g11, g15, g17, g18, g16, k19', k20', vField, h1, h2]); try dsimp only)
    (try (conv in (evSteps call c7_9 _ _) => unfold c7_9; simp [-y_Hnew, -y_Hput, gs, k10', g11, g15, g17, g18, g16, k19', k20', vField, h1, h2]); try dsimp only)
    (try (conv in (evSteps call c7_10 _ _) => unfold c7_10; simp [-y_Hnew, -y_Hput, gs, k10', g11, g15, g17, g18, g16, k19', k20', vField, h1, h2]); try dsimp only)
    (try (conv in (evSteps call c7_11 _ _) => unfold c7_11; simp [-y_Hnew, -y_Hput, gs, k10', g11, g15, g17, g18, g16, k19', k20', vField, h1, h2]); try dsimp only)
    try simp [-y_Hnew, -y_Hput, gs, k10', g11, g15, g17, g18, g16, k19', k20', vField, h1, h2]
  · (try (conv in (evC call _ c7_1 _ _) => unfold c7_1; simp [-y_Hnew, -y_Hput, gs, k10', g11, g15, g17, g18, g16, k19', k20', vField, h1, h2]); try dsimp only)
    (try (conv in (evSteps call c7_2 _ _) => unfold c7_2; simp [-y_Hnew, -y_Hput, gs, k10', g11, g15, g17, g18, g16, k19', k20', vField, h1, h2]); try dsimp only)
    (try (conv in (evC call _ c7_3 _ _) => unfold c7_3; simp [-y_Hnew, -y_Hput, gs, k10', g11, g15, g17, g18, g16, k19', k20', vField, h1, h2]); try dsimp only)
    (try (conv in (evC call _ c7_4 _ _) => unfold c7_4; simp [-y_Hnew, -y_Hput, gs, k10', g11, g15, g17, g18, g16, k19', k20', vField, h1, h2]); try dsimp only)
    (try (conv in (evC call _ c7_5 _ _) => unfold c7_5; simp [-y_Hnew, -y_Hput, gs, k10', g11, g15, g17, g18, g16, k19', k20', vField, h1, h2]); try dsimp only)
    (try (conv in (evSteps call c7_6 _ _) => unfold c7_6; simp [-y_Hnew, -y_Hput, gs, k10', g11, g15, g17, g18, g16, k19', k20', vField, h1, h2]); try dsimp only)
    (try (conv in (evSteps call c7_7 _ _) => unfold c7_7; simp [-y_Hnew, -y_Hput, gs, k10', g11, g15, g17, g18, g16, k19', k20', vField, h1, h2]); try dsimp only)
    (try (conv in (evSteps call c7_8 _ _) => unfold c7_8; simp [-y_Hnew, -y_Hput, gs, k10', g11, g15, g17, g18, g16, k19', k20', vField, h1, h2]); try dsimp only)
    (try (conv in (evSteps call c7_9 _ _) => unfold c7_9; simp [-y_Hnew, -y_Hput, gs, k10', g11, g15, g17, g18, g16, k19', k20', vField, h1, h2]); try dsimp only)
    (try (conv in (evSteps call c7_10 _ _) => unfold c7_10; simp [-y_Hnew, -y_Hput, gs, k10', g11, g15, g17, g18, g16, k19', k20', vField, h1, h2]); try dsimp only)
    (try (conv in (evSteps call c7_11 _ _) => unfold c7_11; simp [-y_Hnew, -y_Hput, gs, k10', g11, g15, g17, g18, g16, k19', k20', vField, h1, h2]); try dsimp only)
    try simp [-y_Hnew, -y_Hput, gs, k10', g11, g15, g17, g18, g16, k19', k20', vField, h1, h2]
theorem L7w (s : ByteArray) (a : Int) (b : ByteArray) : Says (evFun LF7 k16 20 7 [.str s, .int .i64 a, .str b] H.empty) (.bool true) := by
  rw [T_of s, T_of b]
  exact L7 _ _ a
theorem calls_says7 {FL : FuncId → Option EF} (hF : ∀ f e, FL f = some e → compF Tryd.prog f = some e) {f : FuncId} {xs : List AV} {fuel : Nat} (t : Says (evFun FL k16 fuel f xs H.empty) (.bool true)) {args : Array Value} (ha : VRs (fun _ => none) xs args.toList) (W : World) (hG : Sps W) :
    Calls Tryd.prog f args W (fun e W' => e = .returned (.bool true) ∧ Go.RowKit.Below W.heap.size W W') := by
  obtain ⟨h', hr⟩ := t.elim
  refine Calls.mono ((fun_sound hF ok16 (DrawnAll mixed) fuel).ret hr (HR.empty W) (met W hG) ha) ?_
  rintro _ w' ⟨x, A', rfl, hx, J⟩
  have hx : x = .bool true := hx
  exact ⟨by rw [hx], ⟨J.os, J.tape, J.output, J.size, fun k hk => J.keep k hk (fun p r hp => by cases hp)⟩⟩
end Go.Proofs.Lx
