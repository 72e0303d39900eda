import Derived.Test.YtlbooinipoaapaaDoorLxRQ
set_option linter.unusedSimpArgs false
set_option linter.unusedVariables false
set_option linter.unusedSectionVars false
namespace Go.Proofs.Lx
open Go.Ev

/-- Where the reference says that a text is spoilt. -/
def rqEnd (l : List UInt8) (e : Nat) : Nat := if (match l[e]? with | some c => eqI c 92 | none => false) && decide (e + 1 < l.length) then e + 1 else e
theorem rqEnd_no {l : List UInt8} {n : Nat} (hn : n < l.length) (h : ¬ ((l[n]).toNat : Int) = 92) : rqEnd l n = n := by
  unfold rqEnd; rw [List.getElem?_eq_getElem hn]; simp [eqI, h]
theorem rqEnd_last {l : List UInt8} {n : Nat} (h : ¬ n + 1 < l.length) : rqEnd l n = n := by
  unfold rqEnd; simp [h]
theorem rqEnd_two {l : List UInt8} {n : Nat} (hn : n < l.length) (h : ((l[n]).toNat : Int) = 92) (h1 : n + 1 < l.length) : rqEnd l n = n + 1 := by
  unfold rqEnd; rw [List.getElem?_eq_getElem hn]; simp [eqI, h, h1]
section
variable {call : Calls'} {l : List UInt8} {g g' m : Nat} {b : Bool} (hl : l.length ≤ 1000000)
include hl
theorem rq_bad_any (fuel n : Nat) (h : H) (v : AV) (fr : FT) (hn : n < l.length) (hx : ¬ ((l[n]).toNat : Int) = 34) (hz : (quotB (l.drop n)).2 = 0) (e : Ev.get [] fr = some (.v (T l)) ∧ Ev.get [.a, .a] fr = some (.box g [.int .i64 6, .str ⟨#[]⟩, .int .i64 0, .int .i64 (m : Int), .bool b]) ∧ Ev.get [.b, .a] fr = some (.box g' Z6)) (e2 : Ev.get [.d, .a] fr = some (.v (.int .i64 (n : Int)))) (e3 : Ev.get [.c, .a] fr = some (.v v)) :
    ∃ fr', evC call fuel c26_6 fr h = .ret fr' h ∧ Ev.get [.b, .a] fr' = some (.box g' [.int .i64 6, .str ⟨#[]⟩, .int .i64 0, .int .i64 (m : Int), .bool b, .int .i64 ((rqEnd l n : Nat) : Int)]) := by
  have hd : l.drop n = l[n] :: l.drop (n + 1) := List.drop_eq_getElem_cons hn
  rw [hd] at hz
  rcases Decidable.em (((l[n]).toNat : Int) = 92) with h92 | h92
  · by_cases h1 : n + 1 < l.length
    · have hd1 : l.drop (n + 1) = l[n + 1] :: l.drop (n + 1 + 1) := List.drop_eq_getElem_cons h1
      rw [rqEnd_two hn h92 h1]
      rw [hd1] at hz
      have d34 : ¬ ((l[n + 1]).toNat : Int) = 34 := fun q => by simp [quotB, leI, geI, eqI, h92, q] at hz
      have d92 : ¬ ((l[n + 1]).toNat : Int) = 92 := fun q => by simp [quotB, leI, geI, eqI, h92, q] at hz
      have d110 : ¬ ((l[n + 1]).toNat : Int) = 110 := fun q => by simp [quotB, leI, geI, eqI, h92, q] at hz
      exact rq_bad hl fuel n h v fr hn hx (n + 1) rfl h92 h1 d34 d92 d110 e e2 e3
    · rw [rqEnd_last h1]
      exact rq_last hl fuel n h v fr hn hx (n + 1) rfl h92 h1 e e2 e3
  · rw [rqEnd_no hn h92]
    rcases Decidable.em (((l[n]).toNat : Int) < 32) with h32 | h32
    · exact rq_low hl fuel n h v fr hn hx h92 h32 e e2 e3
    · rcases Decidable.em (126 < ((l[n]).toNat : Int)) with h126 | h126
      · exact rq_high hl fuel n h v fr hn hx h92 h32 h126 e e2 e3
      · exfalso
        simp [quotB, leI, geI, eqI, h92, h32, h126] at hz
theorem rq_step (fuel n : Nat) (h0 h : H) (v : AV) (acc : List UInt8) (fr : FT) (hn : n < l.length) (hx : ¬ ((l[n]).toNat : Int) = 34) (hz : ¬ (quotB (l.drop n)).2 = 0) (ho : OutOk h0 h v acc) (hs : Since h0 h) (ha : acc.length ≤ n) (e : Ev.get [] fr = some (.v (T l)) ∧ Ev.get [.a, .a] fr = some (.box g [.int .i64 6, .str ⟨#[]⟩, .int .i64 0, .int .i64 (m : Int), .bool b]) ∧ Ev.get [.b, .a] fr = some (.box g' Z6)) (e2 : Ev.get [.d, .a] fr = some (.v (.int .i64 (n : Int)))) (e3 : Ev.get [.c, .a] fr = some (.v v)) :
    ∃ fr' h' v', evC call fuel c26_6 fr h = .norm fr' h' ∧ OutOk h0 h' v' (acc ++ [(quotB (l.drop n)).1]) ∧ Since h0 h' ∧ (Ev.get [] fr' = some (.v (T l)) ∧ Ev.get [.a, .a] fr' = some (.box g [.int .i64 6, .str ⟨#[]⟩, .int .i64 0, .int .i64 (m : Int), .bool b]) ∧ Ev.get [.b, .a] fr' = some (.box g' Z6)) ∧ Ev.get [.d, .a] fr' = some (.v (.int .i64 ((n + (quotB (l.drop n)).2 : Nat) : Int))) ∧ Ev.get [.c, .a] fr' = some (.v v') := by
  have hd : l.drop n = l[n] :: l.drop (n + 1) := List.drop_eq_getElem_cons hn
  rcases Decidable.em (((l[n]).toNat : Int) = 92) with h92 | h92
  · by_cases h1 : n + 1 < l.length
    · have hd1 : l.drop (n + 1) = l[n + 1] :: l.drop (n + 1 + 1) := List.drop_eq_getElem_cons h1
      rcases Decidable.em (((l[n + 1]).toNat : Int) = 34) with q | q
      · have hq : quotB (l.drop n) = (l[n + 1], 2) := by rw [hd, hd1]; simp [quotB, leI, geI, eqI, h92, q]
        rw [hq]
        exact rq_q hl fuel n h0 h v acc fr hn hx (n + 1) rfl h92 h1 q ho hs ha e e2 e3
      · rcases Decidable.em (((l[n + 1]).toNat : Int) = 92) with q2 | q2
        · have hq : quotB (l.drop n) = (l[n + 1], 2) := by rw [hd, hd1]; simp [quotB, leI, geI, eqI, h92, q2]
          rw [hq]
          exact rq_b hl fuel n h0 h v acc fr hn hx (n + 1) rfl h92 h1 q2 ho hs ha e e2 e3
        · rcases Decidable.em (((l[n + 1]).toNat : Int) = 110) with q3 | q3
          · have hq : quotB (l.drop n) = (10, 2) := by rw [hd, hd1]; simp [quotB, leI, geI, eqI, h92, q3]
            rw [hq]
            exact rq_n hl fuel n h0 h v acc fr hn hx (n + 1) rfl h92 h1 q3 ho hs ha e e2 e3
          · exact absurd (by rw [hd, hd1]; simp [quotB, leI, geI, eqI, h92, q, q2, q3]) hz
    · exact absurd (by rw [hd, List.drop_eq_nil_of_le (by omega : l.length ≤ n + 1)]; simp [quotB, leI, geI, eqI, h92]) hz
  · rcases Decidable.em (((l[n]).toNat : Int) < 32) with h32 | h32
    · exact absurd (by rw [hd]; simp [quotB, leI, geI, eqI, h32]) hz
    · rcases Decidable.em (126 < ((l[n]).toNat : Int)) with h126 | h126
      · exact absurd (by rw [hd]; simp [quotB, leI, geI, eqI, h126]) hz
      · have hq : quotB (l.drop n) = (l[n], 1) := by rw [hd]; simp [quotB, leI, geI, eqI, h92, h32, h126]
        rw [hq]
        exact rq_plain hl fuel n h0 h v acc fr hn hx h92 h32 h126 ho hs ha e e2 e3
theorem rq_all (fuel : Nat) (h0 : H) : ∀ (f n : Nat) (h : H) (v : AV) (acc : List UInt8) (fr : FT) (j : Nat), n ≤ l.length → l.length < n + f → acc.length ≤ n → OutOk h0 h v acc → Since h0 h → (Ev.get [] fr = some (.v (T l)) ∧ Ev.get [.a, .a] fr = some (.box g [.int .i64 6, .str ⟨#[]⟩, .int .i64 0, .int .i64 (m : Int), .bool b]) ∧ Ev.get [.b, .a] fr = some (.box g' Z6)) → Ev.get [.d, .a] fr = some (.v (.int .i64 (n : Int))) → Ev.get [.c, .a] fr = some (.v v) →
    ∃ fr' h' v', Since h0 h' ∧ (((textGo f l n acc).1 = true ∧ loopF call fuel c26_6 (f + j) fr h = .ret fr' h' ∧ Ev.get [.b, .a] fr' = some (.box g' [.int .i64 6, .str ⟨#[]⟩, .int .i64 0, .int .i64 (m : Int), .bool b, .int .i64 ((rqEnd l (textGo f l n acc).2.1 : Nat) : Int)])) ∨
      ((textGo f l n acc).1 = false ∧ loopF call fuel c26_6 (f + j) fr h = .exit 0 fr' h' ∧ OutOk h0 h' v' (textGo f l n acc).2.2 ∧ (textGo f l n acc).2.1 ≤ l.length ∧ (Ev.get [] fr' = some (.v (T l)) ∧ Ev.get [.a, .a] fr' = some (.box g [.int .i64 6, .str ⟨#[]⟩, .int .i64 0, .int .i64 (m : Int), .bool b]) ∧ Ev.get [.b, .a] fr' = some (.box g' Z6)) ∧ Ev.get [.d, .a] fr' = some (.v (.int .i64 ((textGo f l n acc).2.1 : Int))) ∧ Ev.get [.c, .a] fr' = some (.v v')))
  | 0, n, h, v, acc, fr, j, h1, h2, _, _, _, _, _, _ => by omega
  | f + 1, n, h, v, acc, fr, j, h1, h2, ha, ho, hs, e, e2, e3 => by
    rw [show f + 1 + j = (f + j) + 1 by omega, loopF_succ]
    by_cases hn : n < l.length
    · by_cases hx : ((l[n]).toNat : Int) = 34
      · rw [textGo_end hn hx]
        obtain ⟨fr', g1, g2, g3, g4⟩ := rq_end (call := call) hl fuel n h v fr (fun _ => hx) e e2 e3
        exact ⟨fr', h, v, hs, .inr ⟨rfl, by rw [g1], ho, h1, g2, g3, g4⟩⟩
      · rw [textGo_in hn hx]
        by_cases hz : (quotB (l.drop n)).2 = 0
        · rw [if_pos hz]
          obtain ⟨fr', g1, g2⟩ := rq_bad_any (call := call) hl fuel n h v fr hn hx hz e e2 e3
          exact ⟨fr', h, v, hs, .inl ⟨rfl, by rw [g1], g2⟩⟩
        · rw [if_neg hz]
          obtain ⟨fr1, hh, v1, g1, o1, s1, a0, a1, a2⟩ := rq_step (call := call) hl fuel n h0 h v acc fr hn hx hz ho hs ha e e2 e3
          have hq := quotB_le (l.drop n)
          have hq' : (quotB (l.drop n)).2 ≤ l.length - n := by simpa using hq
          rw [g1]
          exact rq_all fuel h0 f _ hh v1 _ fr1 j (by omega) (by omega) (by simp; omega) o1 s1 a0 a1 a2
    · rw [textGo_out hn]
      obtain ⟨fr', g1, g2, g3, g4⟩ := rq_end (call := call) hl fuel n h v fr (fun h => absurd h hn) e e2 e3
      exact ⟨fr', h, v, hs, .inr ⟨rfl, by rw [g1], ho, h1, g2, g3, g4⟩⟩
end
/-- The reference's text token at a place; z: the place behind. -/
def rqT (l : List UInt8) (a : Nat) : Tk :=
  if (textGo (l.length + 1) l (a + 1) []).1 then ⟨6, ⟨#[]⟩, 0, rqEnd l (textGo (l.length + 1) l (a + 1) []).2.1⟩
  else if l.length ≤ (textGo (l.length + 1) l (a + 1) []).2.1 then ⟨6, ⟨#[]⟩, 0, (textGo (l.length + 1) l (a + 1) []).2.1⟩
  else ⟨2, ⟨(textGo (l.length + 1) l (a + 1) []).2.2.toArray⟩, 0, (textGo (l.length + 1) l (a + 1) []).2.1 + 1⟩
abbrev Fnd0 (m : Nat) (b : Bool) (t : Tk) : AV := .agg [.int .i64 t.k, .str t.s, .int .i64 t.n, .int .i64 (m : Int), .bool b, .int .i64 (t.z : Int)]
set_option maxHeartbeats 4000000 in
theorem t26 {call : Calls'} (l : List UInt8) (a m : Nat) (b : Bool) (h : H) (hl : l.length ≤ 1000000) (ha : a < l.length) :
    Tells (evFun LF26 call (l.length + 1) 26 [T l, .int .i64 (a : Int), .agg [.int .i64 0, .str ⟨#[]⟩, .int .i64 0, .int .i64 (m : Int), .bool b]] h) h (Fnd0 m b (rqT l a)) := by
  have w1 : wrapF .i64 ((a : Int) + 1) = (a : Int) + 1 := wrap64 (by omega) (by omega)
  obtain ⟨fr', h', v', hs, hh⟩ := rq_all (call := call) (g := h.gen) (g' := h.gen + 1) (m := m) (b := b) hl (l.length + 1) h (l.length + 1) (a + 1) ⟨h.next, h.t, h.gen + 1 + 1⟩ .nils [] (.node (some (.v (T l))) (.node (some (.v (.int .i64 (a : Int)))) (.node (some (.box h.gen [.int .i64 6, .str ⟨#[]⟩, .int .i64 0, .int .i64 (m : Int), .bool b])) .nil .nil .nil .nil) .nil .nil .nil) (.node (some (.v (.agg [.int .i64 0, .str ⟨#[]⟩, .int .i64 0, .int .i64 (m : Int), .bool b]))) (.node (some (.box (h.gen + 1) [.int .i64 0, .str ⟨#[]⟩, .int .i64 0, .int .i64 0, .bool false, .int .i64 0])) .nil .nil .nil .nil) (.node (some (.lp [.a, .a] h.gen 0)) .nil .nil .nil .nil) .nil .nil) (.node none (.node (some (.v .nils)) .nil .nil .nil .nil) (.node (some (.v (.int .i64 (a : Int)))) .nil .nil .nil .nil) .nil .nil) (.node none (.node (some (.v (.int .i64 ((a : Int) + 1)))) .nil .nil .nil .nil) (.node (some (.v (.int .i64 ((a : Int) + 1)))) .nil .nil .nil .nil) .nil .nil)) 0 (by omega) (by omega) (by simp) (.inl ⟨rfl, rfl⟩) ⟨.gen, Nat.le_refl _⟩ ⟨rfl, rfl, rfl⟩ rfl rfl
  unfold rqT
  generalize textGo (l.length + 1) l (a + 1) [] = q at *
  obtain ⟨q1, q2, q3⟩ := q
  rcases hh with ⟨a1, a2, a3⟩ | ⟨a1, a2, a3, a4, ⟨a5, a6, a7⟩, a8, a9⟩
  · simp only at a1 a2 a3
    subst a1
    have a2 : loopF call (l.length + 1) c26_6 (l.length + 1) _ _ = _ := a2
    simp only [if_true]
    simp [-y_Hnew, Tells, evFun, FF26, c26]
    (try (conv in (evC call _ c26_1 _ _) => unfold c26_1; simp [-y_Hnew, -lBytes, y_lb, gs, w1]); try dsimp only)
    (try (conv in (evC call _ c26_2 _ _) => unfold c26_2; simp [-y_Hnew, -lBytes, y_lb, gs, w1]); try dsimp only)
    (try (conv in (evC call _ c26_3 _ _) => unfold c26_3; simp [-y_Hnew, -lBytes, y_lb, gs, w1]); try dsimp only)
    (try (conv in (evC call _ c26_4 _ _) => unfold c26_4; simp [-y_Hnew, -lBytes, y_lb, gs, w1]); try dsimp only)
    (try (conv in (evC call _ c26_5 _ _) => unfold c26_5; simp [-y_Hnew, -lBytes, y_lb, gs, w1]); try dsimp only)
    rw [a2]
    try dsimp only
    (try (conv in (decide ((0 : Nat) = 0)) => simp)); try dsimp only
    (try (conv in (evC call _ c26_29 _ _) => unfold c26_29; simp [-y_Hnew, -lBytes, y_lb, gs, a3]); try dsimp only)
    (try (conv in (evC call _ c26_30 _ _) => unfold c26_30; simp [-y_Hnew, -lBytes, y_lb, gs, a3]); try dsimp only)
    (try (conv in (evC call _ c26_31 _ _) => unfold c26_31; simp [-y_Hnew, -lBytes, y_lb, gs, a3]); try dsimp only)
    (try (conv in (evC call _ c26_32 _ _) => unfold c26_32; simp [-y_Hnew, -lBytes, y_lb, gs, a3]); try dsimp only)
    (try (conv in (evC call _ c26_33 _ _) => unfold c26_33; simp [-y_Hnew, -lBytes, y_lb, gs, a3]); try dsimp only)
    (try (conv in (evC call _ c26_34 _ _) => unfold c26_34; simp [-y_Hnew, -lBytes, y_lb, gs, a3]); try dsimp only)
    simp [-y_Hnew, -lBytes, y_lb, gs, a3]
    try exact hs.1
  · simp only at a1 a2 a3 a4 a5 a6 a7 a8 a9
    subst a1
    have a2 : loopF call (l.length + 1) c26_6 (l.length + 1) _ _ = _ := a2
    have ab := out_bytes a3
    have w : wrapF .i64 ((q2 : Int) + 1) = (q2 : Int) + 1 := wrap64 (by omega) (by omega)
    simp only [Bool.false_eq_true, if_false]
    by_cases hq : l.length ≤ q2
    · have hq' : ¬ (q2 : Int) < (l.length : Int) := by omega
      rw [if_pos hq]
      simp [-y_Hnew, Tells, evFun, FF26, c26]
      (try (conv in (evC call _ c26_1 _ _) => unfold c26_1; simp [-y_Hnew, -lBytes, y_lb, gs, w1]); try dsimp only)
      (try (conv in (evC call _ c26_2 _ _) => unfold c26_2; simp [-y_Hnew, -lBytes, y_lb, gs, w1]); try dsimp only)
      (try (conv in (evC call _ c26_3 _ _) => unfold c26_3; simp [-y_Hnew, -lBytes, y_lb, gs, w1]); try dsimp only)
      (try (conv in (evC call _ c26_4 _ _) => unfold c26_4; simp [-y_Hnew, -lBytes, y_lb, gs, w1]); try dsimp only)
      (try (conv in (evC call _ c26_5 _ _) => unfold c26_5; simp [-y_Hnew, -lBytes, y_lb, gs, w1]); try dsimp only)
      rw [a2]
      try dsimp only
      (try (conv in (decide ((0 : Nat) = 0)) => simp)); try dsimp only
      (try (conv in (evC call _ c26_29 _ _) => unfold c26_29; simp [-y_Hnew, -lBytes, y_lb, gs, a5, a6, a7, a8, a9, hq, hq']); try dsimp only)
      (try (conv in (evC call _ c26_30 _ _) => unfold c26_30; simp [-y_Hnew, -lBytes, y_lb, gs, a5, a6, a7, a8, a9, hq, hq']); try dsimp only)
      (try (conv in (evC call _ c26_31 _ _) => unfold c26_31; simp [-y_Hnew, -lBytes, y_lb, gs, a5, a6, a7, a8, a9, hq, hq']); try dsimp only)
      (try (conv in (evC call _ c26_32 _ _) => unfold c26_32; simp [-y_Hnew, -lBytes, y_lb, gs, a5, a6, a7, a8, a9, hq, hq']); try dsimp only)
      (try (conv in (evC call _ c26_33 _ _) => unfold c26_33; simp [-y_Hnew, -lBytes, y_lb, gs, a5, a6, a7, a8, a9, hq, hq']); try dsimp only)
      (try (conv in (evC call _ c26_34 _ _) => unfold c26_34; simp [-y_Hnew, -lBytes, y_lb, gs, a5, a6, a7, a8, a9, hq, hq']); try dsimp only)
      simp [-y_Hnew, -lBytes, y_lb, gs, a5, a6, a7, a8, a9, hq, hq']
      try exact hs.1
    · have hq' : (q2 : Int) < (l.length : Int) := by omega
      rw [if_neg hq]
      simp [-y_Hnew, Tells, evFun, FF26, c26]
      (try (conv in (evC call _ c26_1 _ _) => unfold c26_1; simp [-y_Hnew, -lBytes, y_lb, gs, w1]); try dsimp only)
      (try (conv in (evC call _ c26_2 _ _) => unfold c26_2; simp [-y_Hnew, -lBytes, y_lb, gs, w1]); try dsimp only)
      (try (conv in (evC call _ c26_3 _ _) => unfold c26_3; simp [-y_Hnew, -lBytes, y_lb, gs, w1]); try dsimp only)
      (try (conv in (evC call _ c26_4 _ _) => unfold c26_4; simp [-y_Hnew, -lBytes, y_lb, gs, w1]); try dsimp only)
      (try (conv in (evC call _ c26_5 _ _) => unfold c26_5; simp [-y_Hnew, -lBytes, y_lb, gs, w1]); try dsimp only)
      rw [a2]
      try dsimp only
      (try (conv in (decide ((0 : Nat) = 0)) => simp)); try dsimp only
      (try (conv in (evC call _ c26_29 _ _) => unfold c26_29; simp [-y_Hnew, -lBytes, y_lb, gs, a5, a6, a7, a8, a9, hq, hq', ab, w]); try dsimp only)
      (try (conv in (evC call _ c26_30 _ _) => unfold c26_30; simp [-y_Hnew, -lBytes, y_lb, gs, a5, a6, a7, a8, a9, hq, hq', ab, w]); try dsimp only)
      (try (conv in (evC call _ c26_31 _ _) => unfold c26_31; simp [-y_Hnew, -lBytes, y_lb, gs, a5, a6, a7, a8, a9, hq, hq', ab, w]); try dsimp only)
      (try (conv in (evC call _ c26_32 _ _) => unfold c26_32; simp [-y_Hnew, -lBytes, y_lb, gs, a5, a6, a7, a8, a9, hq, hq', ab, w]); try dsimp only)
      (try (conv in (evC call _ c26_33 _ _) => unfold c26_33; simp [-y_Hnew, -lBytes, y_lb, gs, a5, a6, a7, a8, a9, hq, hq', ab, w]); try dsimp only)
      (try (conv in (evC call _ c26_34 _ _) => unfold c26_34; simp [-y_Hnew, -lBytes, y_lb, gs, a5, a6, a7, a8, a9, hq, hq', ab, w]); try dsimp only)
      simp [-y_Hnew, -lBytes, y_lb, gs, a5, a6, a7, a8, a9, hq, hq', ab, w]
      try exact hs.1
end Go.Proofs.Lx
