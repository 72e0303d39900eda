import Derived.Test.YtlbooinipoaapaaDoorLxNext
set_option linter.unusedSimpArgs false
set_option linter.unusedVariables false
set_option linter.unusedSectionVars false
namespace Go.Proofs.Lx
open Go.Ev
noncomputable def c35_3 : EC := (.seq (.steps [(.op Option.none (.pure 6 (vBuild [(.int .i64 (.ofNat 0)), (.str ⟨#[]⟩), (.int .i64 (.ofNat 0)), (.int .i64 (.ofNat 0)), (.bool Bool.false)] [])) (Option.some [.c, .c])), (.op Option.none (.eff (hStore (.sl [.b]) (.sl [.c, .c]) 5)) Option.none), (.op Option.none (.pure 2 (vMove (.k (.int .i64 (.ofNat 0))))) (Option.some [.c]))]) .ret)
noncomputable def c35_2 : EC := (.cond (.sl [.b, .c]) c35_3 .skip)
noncomputable def c35_9 : EC := (.cond (.sl [.a, .b, .a]) .skip (.exit 0))
noncomputable def c35_14 : EC := (.seq (.steps [(.op Option.none (.pure 6 (vBuild [(.int .i64 (.ofNat 0)), (.str ⟨#[]⟩), (.int .i64 (.ofNat 0)), (.int .i64 (.ofNat 0)), (.bool Bool.false)] [(0, (1, (.k (.int .i64 (.ofNat 6)))))])) (Option.some [.c, .d, .a])), (.op Option.none (.pure 1 (vMove (.sl [.a, .a]))) (Option.some [.d, .d, .a])), (.op Option.none (.eff (hStore (.sl [.b]) (.sl [.c, .d, .a]) 5)) Option.none), (.op Option.none (.pure 2 (vMove (.sl [.d, .d, .a]))) (Option.some [.c]))]) .ret)
noncomputable def c35_13 : EC := (.cond (.sl [.b, .d, .a]) c35_14 .skip)
noncomputable def c35_15 : EC := (.steps [(.op Option.none (.pure 1 (vMove (.sl [.d]))) (Option.some [.a, .a, .b])), (.op Option.none (.pure 1 (vMove (.sl [.b, .a]))) (Option.some [.b, .a, .b])), (.op Option.none (.new 7 (nSlice 1 1 [(.int .u8 (.ofNat 0))] [(0, (1, (.sl [.b, .a, .b])))])) (Option.some [.c, .a, .b])), (.op Option.none (.eff (hAppend 1 (.sl [.a, .a, .b]) (.sl [.c, .a, .b]) (Option.some [.d, .a, .b]))) (Option.some [.d, .a, .b])), (.op Option.none (.pure 1 (vMove (.sl [.a, .a]))) (Option.some [.a, .b, .b])), (.op Option.none (.pure 1 (vMove (.sl [.c, .a]))) (Option.some [.b, .b, .b])), (.op Option.none (.pure 11 (vBin .no .add (.sl [.a, .b, .b]) (.sl [.b, .b, .b]))) (Option.some [.c, .b, .b])), (.op Option.none (.pure 2 (vMove (.sl [.d, .a, .b]))) (Option.some [.d])), (.op Option.none (.pure 2 (vMove (.sl [.c, .b, .b]))) (Option.some [.a, .a]))])
noncomputable def c35_12 : EC := (.seq (.seq (.steps [(.op Option.none (.pure 1 (vMove (.sl [.c, .a]))) (Option.some [.a, .d, .a])), (.op Option.none (.pure 11 (vBin .no .eql (.sl [.a, .d, .a]) (.k (.int .i64 (.ofNat 0))))) (Option.some [.b, .d, .a]))]) c35_13) c35_15)
noncomputable def c35_11 : EC := (.seq (.steps [(.op Option.none (.pure 1 (vMove (.sl []))) (Option.some [.c, .b, .a])), (.op Option.none (.pure 1 (vMove (.sl [.a, .a]))) (Option.some [.d, .b, .a])), (.op Option.none (.pure 17 (vSliceS (.sl [.c, .b, .a]) (Option.some (.sl [.d, .b, .a])) Option.none)) (Option.some [.a, .c, .a])), (.op Option.none (.eff (hCall (.k (.fn 47 [] [])) [(.sl [.a, .c, .a])])) (Option.some [.b, .c, .a])), (.op Option.none (.pure 1 (vMove (.sl [.b, .c, .a]))) (Option.some [.b, .b, .a])), (.op Option.none (.pure 22 (vExtract (.sl [.b, .b, .a]) 0)) (Option.some [.c, .c, .a])), (.op Option.none (.pure 22 (vExtract (.sl [.b, .b, .a]) 1)) (Option.some [.d, .c, .a])), (.op Option.none (.pure 2 (vMove (.sl [.c, .c, .a]))) (Option.some [.b, .a])), (.op Option.none (.pure 2 (vMove (.sl [.d, .c, .a]))) (Option.some [.c, .a]))]) c35_12)
noncomputable def c35_10 : EC := (.block 1 c35_11)
noncomputable def c35_8 : EC := (.seq (.seq (.steps [(.op Option.none (.pure 1 (vMove (.sl [.a, .a]))) (Option.some [.d, .c])), (.op Option.none (.pure 1 (vMove (.sl []))) (Option.some [.a, .d])), (.op Option.none (.pure 23 (vLenS (.sl [.a, .d]))) (Option.some [.b, .d])), (.op Option.none (.pure 11 (vBin .no .lss (.sl [.d, .c]) (.sl [.b, .d]))) (Option.some [.c, .d])), (.op Option.none (.pure 1 (vMove (.sl [.c, .d]))) (Option.some [.d, .d])), (.op (Option.some ([.d, .d], Bool.true)) (.pure 1 (vMove (.sl []))) (Option.some [.a, .a, .a])), (.op (Option.some ([.d, .d], Bool.true)) (.pure 1 (vMove (.sl [.a, .a]))) (Option.some [.b, .a, .a])), (.op (Option.some ([.d, .d], Bool.true)) (.pure 21 (vIndex (.sl [.a, .a, .a]) (.sl [.b, .a, .a]))) (Option.some [.c, .a, .a])), (.op (Option.some ([.d, .d], Bool.true)) (.pure 11 (vBin .no .neq (.sl [.c, .a, .a]) (.k (.int .u8 (.ofNat 34))))) (Option.some [.d, .a, .a])), (.op Option.none (.pure 3 (vPick (.sl [.d, .d]) (.sl [.d, .a, .a]) (.k (.bool Bool.false)))) (Option.some [.a, .b, .a]))]) c35_9) c35_10)
noncomputable def c35_7 : EC := (.loop c35_8)
noncomputable def c35_18 : EC := (.seq (.steps [(.op Option.none (.pure 6 (vBuild [(.int .i64 (.ofNat 0)), (.str ⟨#[]⟩), (.int .i64 (.ofNat 0)), (.int .i64 (.ofNat 0)), (.bool Bool.false)] [(0, (1, (.k (.int .i64 (.ofNat 6)))))])) (Option.some [.d, .c, .b])), (.op Option.none (.pure 1 (vMove (.sl [.a, .a]))) (Option.some [.a, .d, .b])), (.op Option.none (.eff (hStore (.sl [.b]) (.sl [.d, .c, .b]) 5)) Option.none), (.op Option.none (.pure 2 (vMove (.sl [.a, .d, .b]))) (Option.some [.c]))]) .ret)
noncomputable def c35_17 : EC := (.cond (.sl [.c, .c, .b]) c35_18 .skip)
noncomputable def c35_19 : EC := (.seq (.steps [(.op Option.none (.pure 1 (vMove (.sl [.d]))) (Option.some [.b, .d, .b])), (.op Option.none (.look 13 (lBytes (.sl [.b, .d, .b]))) (Option.some [.c, .d, .b])), (.op Option.none (.pure 6 (vBuild [(.int .i64 (.ofNat 0)), (.str ⟨#[]⟩), (.int .i64 (.ofNat 0)), (.int .i64 (.ofNat 0)), (.bool Bool.false)] [(0, (1, (.k (.int .i64 (.ofNat 2))))), (1, (1, (.sl [.c, .d, .b])))])) (Option.some [.d, .d, .b])), (.op Option.none (.pure 1 (vMove (.sl [.a, .a]))) (Option.some [.a, .a, .c])), (.op Option.none (.pure 11 (vBin .no .add (.sl [.a, .a, .c]) (.k (.int .i64 (.ofNat 1))))) (Option.some [.b, .a, .c])), (.op Option.none (.eff (hStore (.sl [.b]) (.sl [.d, .d, .b]) 5)) Option.none), (.op Option.none (.pure 2 (vMove (.sl [.b, .a, .c]))) (Option.some [.c]))]) .ret)
noncomputable def c35_16 : EC := (.seq (.seq (.steps [(.op Option.none (.pure 1 (vMove (.sl [.a, .a]))) (Option.some [.d, .b, .b])), (.op Option.none (.pure 1 (vMove (.sl []))) (Option.some [.a, .c, .b])), (.op Option.none (.pure 23 (vLenS (.sl [.a, .c, .b]))) (Option.some [.b, .c, .b])), (.op Option.none (.pure 11 (vBin .no .geq (.sl [.d, .b, .b]) (.sl [.b, .c, .b]))) (Option.some [.c, .c, .b]))]) c35_17) c35_19)
noncomputable def c35_6 : EC := (.seq (.block 0 c35_7) c35_16)
noncomputable def c35_5 : EC := (.seq (.steps [(.op Option.none (.pure 2 (vMove (.k (.int .i64 (.ofNat 1))))) (Option.some [.a, .a]))]) c35_6)
noncomputable def c35_4 : EC := (.seq (.steps [(.op Option.none (.pure 2 (vMove (.k .nils))) (Option.some [.d]))]) c35_5)
noncomputable def c35_1 : EC := (.seq (.seq (.steps [(.op Option.none (.pure 1 (vMove (.sl []))) (Option.some [.d, .a])), (.op Option.none (.pure 11 (vBin .no .eql (.sl [.d, .a]) (.k (.str ⟨#[]⟩)))) (Option.some [.a, .b])), (.op Option.none (.pure 1 (vMove (.sl [.a, .b]))) (Option.some [.b, .b])), (.op (Option.some ([.b, .b], Bool.false)) (.pure 1 (vMove (.sl []))) (Option.some [.c, .b])), (.op (Option.some ([.b, .b], Bool.false)) (.pure 21 (vIndex (.sl [.c, .b]) (.k (.int .i64 (.ofNat 0))))) (Option.some [.d, .b])), (.op (Option.some ([.b, .b], Bool.false)) (.pure 11 (vBin .no .neq (.sl [.d, .b]) (.k (.int .u8 (.ofNat 34))))) (Option.some [.a, .c])), (.op Option.none (.pure 3 (vPick (.sl [.b, .b]) (.k (.bool Bool.true)) (.sl [.a, .c]))) (Option.some [.b, .c]))]) c35_2) c35_4)
noncomputable def c35 : EF := ⟨(.seq (.steps [(.op Option.none (.eff (bLoc [(.int .i64 (.ofNat 0)), (.str ⟨#[]⟩), (.int .i64 (.ofNat 0)), (.int .i64 (.ofNat 0)), (.bool Bool.false)] [.b])) (Option.some [.b])), (.op Option.none (.pure 2 (vMove (.k (.int .i64 (.ofNat 0))))) (Option.some [.c]))]) c35_1), [(.cell (.sl [.b]) 5 Bool.true), (.slot (.sl [.c]))], Bool.false⟩
theorem c35_ok : compF Tryd.prog 35 = some c35 := by kernel_rfl
noncomputable def LF35 : FuncId → Option EF := lookF [(35, c35)]
theorem FF35 : LF35 35 = some c35 := rfl

/-- What was read so far: nothing, or bytes in a block that grows. -/
def OutOk (h0 h : H) (v : AV) (acc : List UInt8) : Prop := (acc = [] ∧ v = .nils) ∨ (∃ p b, v = .sl p 1 0 acc.length ∧ acc ≠ [] ∧ num h0.next ≤ num p ∧ num p < num h.next ∧ Ev.get p h.t = some b ∧ b.k = 1 ∧ b.n = acc.length ∧ b.grows = true ∧ b.ro = false ∧ b.map = false ∧ ∀ (j : Nat) (hj : j < acc.length), Ev.get (pathOf j) b.rows = some [.int .u8 ((acc[j]).toNat : Int)])
def Since (h0 h : H) : Prop := OldKept h0 h ∧ num h0.next ≤ num h.next
theorem copyRows_one {src : Tr (List AV)} {i j : Nat} {t : Tr (List AV)} {r : List AV} (h : Ev.get (pathOf i) src = some r) : copyRows src 1 i j t = some (Ev.set (pathOf j) (some r) t) := by
  have e : copyRows src 1 i j t = Option.rec none (fun r => copyRows src 0 (i + 1) (j + 1) (Ev.set (pathOf j) (some r) t)) (Ev.get (pathOf i) src) := rfl
  rw [e, h]
  rfl
/-- A byte more. -/
theorem out_more {h0 h : H} {v : AV} {acc : List UInt8} (ho : OutOk h0 h v acc) (hs : Since h0 h) (c : UInt8) (hl : acc.length ≤ 1000000) :
    ∃ v' h', appendV (h.new ⟨1, 1, .node (some [.int .u8 (c.toNat : Int)]) .nil .nil .nil .nil, false, false, false⟩) 1 v (.sl h.next 1 0 1) = some (v', h') ∧ lenOf v' = some (acc.length + 1) ∧ OutOk h0 h' v' (acc ++ [c]) ∧ Since h0 h' ∧ h'.gen = h.gen := by
  have hq : getC h.next (h.new ⟨1, 1, .node (some [.int .u8 (c.toNat : Int)]) .nil .nil .nil .nil, false, false, false⟩).t = some ⟨1, 1, .node (some [.int .u8 (c.toNat : Int)]) .nil .nil .nil .nil, false, false, false⟩ := by
    unfold getC H.new; simp only; rw [get_set, if_pos rfl]
  have hnum := num_new h ⟨1, 1, .node (some [.int .u8 (c.toNat : Int)]) .nil .nil .nil .nil, false, false, false⟩
  obtain ⟨hk, hn⟩ := hs
  have k1 : OldKept h0 (h.new ⟨1, 1, .node (some [.int .u8 (c.toNat : Int)]) .nil .nil .nil .nil, false, false, false⟩) := hk.new hn _
  generalize hh1 : h.new ⟨1, 1, .node (some [.int .u8 (c.toNat : Int)]) .nil .nil .nil .nil, false, false, false⟩ = h1 at *
  have hg1 : h1.gen = h.gen := by rw [← hh1]; rfl
  have cr : ∀ j t, copyRows (.node (some [.int .u8 (c.toNat : Int)]) .nil .nil .nil .nil) 1 0 j t = some (Ev.set (pathOf j) (some [.int .u8 (c.toNat : Int)]) t) := fun j t => copyRows_one (i := 0) rfl
  rcases ho with ⟨rfl, rfl⟩ | ⟨p, b, rfl, hne, hp, hp', hb, hbk, hbn, hbg, hbr, hbm, hrows⟩
  · refine ⟨.sl h1.next 1 0 1, h1.new ⟨1, 1, Ev.set (pathOf 0) (some [.int .u8 (c.toNat : Int)]) .nil, true, false, false⟩, ?_, rfl, .inr ⟨h1.next, ⟨1, 1, Ev.set (pathOf 0) (some [.int .u8 (c.toNat : Int)]) .nil, true, false, false⟩, rfl, by simp, by omega, ?_, ?_, rfl, rfl, rfl, rfl, rfl, ?_⟩, ⟨k1.new (by omega) _, ?_⟩, hg1⟩
    · simp only [appendV, hq]
      show appendRows h1 1 .nils 1 _ 0 = _
      simp only [appendRows, cr]
    · rw [num_new]; omega
    · unfold H.new; simp only; rw [get_set, if_pos rfl]
    · intro j hj
      have : j = 0 := by simp at hj; omega
      subst this
      rfl
    · rw [num_new]; omega
  · have hpne : p ≠ h.next := fun e => by subst e; omega
    have hb1 : Ev.get p h1.t = some b := by
      rw [← hh1]; unfold H.new; simp only; rw [get_set, if_neg hpne]; exact hb
    have hc1 : getC p h1.t = some b := by unfold getC; rw [hb1]; simp only; rw [hbm]
    have hble : Nat.ble (0 + acc.length + 1) b.n = false := by rw [hbn, natBle]; simp
    refine ⟨.sl h1.next 1 0 (acc.length + 1), (h1.put p none).new ⟨1, acc.length + 1, Ev.set (pathOf acc.length) (some [.int .u8 (c.toNat : Int)]) b.rows, true, false, false⟩, ?_, rfl, .inr ⟨h1.next, ⟨1, acc.length + 1, Ev.set (pathOf acc.length) (some [.int .u8 (c.toNat : Int)]) b.rows, true, false, false⟩, by simp, by simp, by omega, ?_, ?_, rfl, by simp, rfl, rfl, rfl, ?_⟩, ⟨?_, ?_⟩, hg1⟩
    · have hbeq : Nat.beq (0 + acc.length) b.n = true := by rw [hbn, Nat.zero_add]; exact Nat.beq_refl _
      have hk1 : Nat.beq b.k 1 = true := by rw [hbk]; rfl
      simp only [appendV, hq]
      show appendRows h1 1 (.sl p 1 0 acc.length) 1 _ 0 = _
      simp only [appendRows, hc1, hbr, hk1, hble, hbeq, oldRows, cr, hbg]
    · rw [num_new]; show num h1.next < num h1.next + 1; omega
    · unfold H.new H.put; simp only; rw [get_set, if_pos rfl]
    · intro j hj
      simp only
      rw [gs]
      by_cases hje : j = acc.length
      · subst hje
        simp
      · have hlt : j < acc.length := by simp at hj; omega
        rw [if_neg (fun e => hje (pathOf_inj e)), hrows j hlt, List.getElem_append_left hlt]
    · intro q hq'
      have e1 : q ≠ h1.next := fun e => by subst e; omega
      have e2 : q ≠ p := fun e => by subst e; omega
      unfold H.new H.put
      simp only
      rw [get_set, if_neg e1, get_set, if_neg e2]
      exact k1 q hq'
    · rw [num_new]; show num h0.next ≤ num h1.next + 1; omega

theorem quotB_le (l : List UInt8) : (quotB l).2 ≤ l.length := by
  unfold quotB
  split
  · simp
  · split
    · simp
    · split
      · simp
      · split
        · simp
        · split
          · simp
          · split <;> simp
/-- A text's inside from a place on: was it spoilt, where did it end, what was read. -/
def textGo : Nat → List UInt8 → Nat → List UInt8 → Bool × Nat × List UInt8
  | 0, _, n, acc => (true, n, acc)
  | f + 1, l, n, acc => if n < l.length then (if (match l[n]? with | some x => eqI x 34 | none => true) then (false, n, acc) else if (quotB (l.drop n)).2 = 0 then (true, n, acc) else textGo f l (n + (quotB (l.drop n)).2) (acc ++ [(quotB (l.drop n)).1])) else (false, n, acc)
theorem textGo_S (f : Nat) (l : List UInt8) (n : Nat) (acc : List UInt8) : textGo (f + 1) l n acc = if n < l.length then (if (match l[n]? with | some x => eqI x 34 | none => true) then (false, n, acc) else if (quotB (l.drop n)).2 = 0 then (true, n, acc) else textGo f l (n + (quotB (l.drop n)).2) (acc ++ [(quotB (l.drop n)).1])) else (false, n, acc) := rfl
theorem textGo_out {f : Nat} {l : List UInt8} {n : Nat} {acc : List UInt8} (hn : ¬ n < l.length) : textGo (f + 1) l n acc = (false, n, acc) := by rw [textGo_S, if_neg hn]
theorem textGo_end {f : Nat} {l : List UInt8} {n : Nat} {acc : List UInt8} (hn : n < l.length) (hx : ((l[n]).toNat : Int) = 34) : textGo (f + 1) l n acc = (false, n, acc) := by
  have : (match l[n]? with | some x => eqI x 34 | none => true) = true := by rw [List.getElem?_eq_getElem hn]; simp [eqI, hx]
  rw [textGo_S, if_pos hn, if_pos this]
theorem textGo_in {f : Nat} {l : List UInt8} {n : Nat} {acc : List UInt8} (hn : n < l.length) (hx : ¬ ((l[n]).toNat : Int) = 34) : textGo (f + 1) l n acc = if (quotB (l.drop n)).2 = 0 then (true, n, acc) else textGo f l (n + (quotB (l.drop n)).2) (acc ++ [(quotB (l.drop n)).1]) := by
  have : ¬ (match l[n]? with | some x => eqI x 34 | none => true) = true := by rw [List.getElem?_eq_getElem hn]; simp [eqI, hx]
  rw [textGo_S, if_pos hn, if_neg this]
section
variable {call : Calls'} (k47 : ∀ l h, call 47 [T l] h = .ret (.tup [.int .u8 ((quotB l).1.toNat : Int), .int .i64 ((quotB l).2 : Int)]) h) {l : List UInt8} {g : Nat} (hl : l.length ≤ 1000000)
include k47 hl
theorem text_step (fuel n : Nat) (h0 h : H) (v : AV) (acc : List UInt8) (fr : FT) (hn : n < l.length) (hx : ¬ ((l[n]).toNat : Int) = 34) (hz : ¬ (quotB (l.drop n)).2 = 0) (ho : OutOk h0 h v acc) (hs : Since h0 h) (ha : acc.length ≤ n)
    (e0 : Ev.get [] fr = some (.v (T l))) (e1 : Ev.get [.b] fr = some (.box g Z5)) (e2 : Ev.get [.a, .a] fr = some (.v (.int .i64 (n : Int)))) (e3 : Ev.get [.d] fr = some (.v v)) :
    ∃ fr' h' v', evC call fuel c35_8 fr h = .norm fr' h' ∧ OutOk h0 h' v' (acc ++ [(quotB (l.drop n)).1]) ∧ Since h0 h' ∧ Ev.get [] fr' = some (.v (T l)) ∧ Ev.get [.b] fr' = some (.box g Z5) ∧ Ev.get [.a, .a] fr' = some (.v (.int .i64 ((n + (quotB (l.drop n)).2 : Nat) : Int))) ∧ Ev.get [.d] fr' = some (.v v') := by
  have hq := quotB_le (l.drop n)
  have k := k47 (l.drop n)
  generalize quotB (l.drop n) = cz at *
  obtain ⟨c, z⟩ := cz
  simp only at hz hq k ⊢
  have hq' : z ≤ l.length - n := by simpa using hq
  obtain ⟨v', h', a1, a2, a3, a4, a5⟩ := out_more ho hs c (by omega)
  have w : wrapF .i64 ((n : Int) + (z : Int)) = (n : Int) + (z : Int) := wrap64 (by omega) (by omega)
  have tk : (l.drop n).take (l.length - n) = l.drop n := List.take_of_length_le (by simp)
  have hz' : ¬ (z : Int) = 0 := by omega
  have hmost : acc.length + 1 ≤ most := by unfold most; omega
  refine ⟨?fr, h', v', ?e, a3, a4, ?_, ?_, ?_, ?_⟩
  case e =>
    simp [-y_Hnew, -lenOf, c35_8, c35_10, c35_11, c35_12, c35_13, c35_14, c35_15, c35_9, gs, e0, e1, e2, e3, hn, Nat.le_of_lt hn, hx, k, hz, hz', w, tk, vSliceS, gvo, sliceS, bnd, hAppend, apOut, a1, a2, hmost, vExtract]
    rfl
  all_goals simp [gs, e0, e1, e2, e3]
theorem text_bad (fuel n : Nat) (h : H) (v : AV) (fr : FT) (hn : n < l.length) (hx : ¬ ((l[n]).toNat : Int) = 34) (hz : (quotB (l.drop n)).2 = 0)
    (e0 : Ev.get [] fr = some (.v (T l))) (e1 : Ev.get [.b] fr = some (.box g Z5)) (e2 : Ev.get [.a, .a] fr = some (.v (.int .i64 (n : Int)))) (e3 : Ev.get [.d] fr = some (.v v)) :
    ∃ fr', evC call fuel c35_8 fr h = .ret fr' h ∧ Ev.get [.b] fr' = some (.box g [.int .i64 6, .str ⟨#[]⟩, .int .i64 0, .int .i64 0, .bool false]) ∧ Ev.get [.c] fr' = some (.v (.int .i64 (n : Int))) := by
  have k := k47 (l.drop n)
  generalize quotB (l.drop n) = cz at *
  obtain ⟨c, z⟩ := cz
  simp only at hz k ⊢
  subst hz
  have tk : (l.drop n).take (l.length - n) = l.drop n := List.take_of_length_le (by simp)
  refine ⟨?fr, ?e, ?_, ?_⟩
  case e =>
    simp [-y_Hnew, c35_8, c35_10, c35_11, c35_12, c35_13, c35_14, c35_15, c35_9, gs, e0, e1, e2, e3, hn, Nat.le_of_lt hn, hx, k, tk, vSliceS, gvo, sliceS, bnd, vExtract]
    rfl
  all_goals simp [gs, e0, e1, e2, e3]
theorem text_end (fuel n : Nat) (h : H) (v : AV) (fr : FT) (hx : ∀ hn : n < l.length, ((l[n]).toNat : Int) = 34)
    (e0 : Ev.get [] fr = some (.v (T l))) (e1 : Ev.get [.b] fr = some (.box g Z5)) (e2 : Ev.get [.a, .a] fr = some (.v (.int .i64 (n : Int)))) (e3 : Ev.get [.d] fr = some (.v v)) :
    ∃ fr', evC call fuel c35_8 fr h = .exit 0 fr' h ∧ Ev.get [] fr' = some (.v (T l)) ∧ Ev.get [.b] fr' = some (.box g Z5) ∧ Ev.get [.a, .a] fr' = some (.v (.int .i64 (n : Int))) ∧ Ev.get [.d] fr' = some (.v v) := by
  by_cases hn : n < l.length
  · have hx := hx hn
    refine ⟨?fr, ?e, ?_, ?_, ?_, ?_⟩
    case e =>
      simp [-y_Hnew, c35_8, c35_10, c35_11, c35_12, c35_13, c35_14, c35_15, c35_9, gs, e0, e1, e2, e3, hn, hx]
      rfl
    all_goals simp [gs, e0, e1, e2, e3]
  · refine ⟨?fr1, ?e1, ?_, ?_, ?_, ?_⟩
    case e1 =>
      simp [-y_Hnew, c35_8, c35_10, c35_11, c35_12, c35_13, c35_14, c35_15, c35_9, gs, e0, e1, e2, e3, hn]
      rfl
    all_goals simp [gs, e0, e1, e2, e3]
theorem text_all (fuel : Nat) (h0 : H) : ∀ (f n : Nat) (h : H) (v : AV) (acc : List UInt8) (fr : FT) (j : Nat), n ≤ l.length → l.length < n + f → acc.length ≤ n → OutOk h0 h v acc → Since h0 h → Ev.get [] fr = some (.v (T l)) → Ev.get [.b] fr = some (.box g Z5) → Ev.get [.a, .a] fr = some (.v (.int .i64 (n : Int))) → Ev.get [.d] fr = some (.v v) →
    ∃ fr' h' v', Since h0 h' ∧ (((textGo f l n acc).1 = true ∧ loopF call fuel c35_8 (f + j) fr h = .ret fr' h' ∧ Ev.get [.b] fr' = some (.box g [.int .i64 6, .str ⟨#[]⟩, .int .i64 0, .int .i64 0, .bool false]) ∧ Ev.get [.c] fr' = some (.v (.int .i64 ((textGo f l n acc).2.1 : Int)))) ∨
      ((textGo f l n acc).1 = false ∧ loopF call fuel c35_8 (f + j) fr h = .exit 0 fr' h' ∧ OutOk h0 h' v' (textGo f l n acc).2.2 ∧ (textGo f l n acc).2.1 ≤ l.length ∧ Ev.get [] fr' = some (.v (T l)) ∧ Ev.get [.b] fr' = some (.box g Z5) ∧ Ev.get [.a, .a] fr' = some (.v (.int .i64 ((textGo f l n acc).2.1 : Int))) ∧ Ev.get [.d] fr' = some (.v v')))
  | 0, n, h, v, acc, fr, j, h1, h2, _, _, _, _, _, _, _ => by omega
  | f + 1, n, h, v, acc, fr, j, h1, h2, ha, ho, hs, e0, e1, e2, e3 => by
    rw [show f + 1 + j = (f + j) + 1 by omega, loopF_succ]
    by_cases hn : n < l.length
    · by_cases hx : ((l[n]).toNat : Int) = 34
      · rw [textGo_end hn hx]
        obtain ⟨fr', g1, g2, g3, g4, g5⟩ := text_end k47 hl (g := g) fuel n h v fr (fun _ => hx) e0 e1 e2 e3
        exact ⟨fr', h, v, hs, .inr ⟨rfl, by rw [g1], ho, h1, g2, g3, g4, g5⟩⟩
      · rw [textGo_in hn hx]
        by_cases hz : (quotB (l.drop n)).2 = 0
        · rw [if_pos hz]
          obtain ⟨fr', g1, g2, g3⟩ := text_bad k47 hl (g := g) fuel n h v fr hn hx hz e0 e1 e2 e3
          exact ⟨fr', h, v, hs, .inl ⟨rfl, by rw [g1], g2, g3⟩⟩
        · rw [if_neg hz]
          obtain ⟨fr1, hh, v1, g1, o1, s1, a0, a1, a2, a3⟩ := text_step k47 hl (g := g) fuel n h0 h v acc fr hn hx hz ho hs ha e0 e1 e2 e3
          have hq := quotB_le (l.drop n)
          have hq' : (quotB (l.drop n)).2 ≤ l.length - n := by simpa using hq
          rw [g1]
          exact text_all fuel h0 f _ hh v1 _ fr1 j (by omega) (by omega) (by simp; omega) o1 s1 a0 a1 a2 a3
    · rw [textGo_out hn]
      obtain ⟨fr', g1, g2, g3, g4, g5⟩ := text_end k47 hl (g := g) fuel n h v fr (fun h => absurd h hn) e0 e1 e2 e3
      exact ⟨fr', h, v, hs, .inr ⟨rfl, by rw [g1], ho, h1, g2, g3, g4, g5⟩⟩
end

noncomputable def bytesF (v : AV) (h : H) : Option Sl := match v with
  | .nils => some (.v (.str ⟨#[]⟩))
  | .sl b _ i n => match getC b h.t with
    | some bl => match Nat.beq bl.k 1 with
      | true => match bytesIn bl.rows n i with | some l => some (.v (.str ⟨l.toArray⟩)) | none => none
      | false => none
    | none => none
  | _ => none
theorem y_lb (x : Rd) (fr : FT) (h : H) : lBytes x fr h = match gv x fr with | some v => bytesF v h | none => none := by
  unfold lBytes bytesF
  cases gv x fr with
  | none => rfl
  | some v => cases v <;> rfl
theorem bytesIn_rows {rows : Tr (List AV)} : ∀ (acc : List UInt8) (i : Nat), (∀ (j : Nat) (hj : j < acc.length), Ev.get (pathOf (i + j)) rows = some [.int .u8 ((acc[j]).toNat : Int)]) → bytesIn rows acc.length i = some acc
  | [], _, _ => rfl
  | c :: acc, i, h => by
    have h0 := h 0 (by simp)
    have ih := bytesIn_rows acc (i + 1) (fun j hj => by
      have := h (j + 1) (by simpa using hj)
      rw [show i + 1 + j = i + (j + 1) by omega, this]
      simp)
    show bytesIn rows (acc.length + 1) i = _
    rw [y_bytes1]
    have h0' : Ev.get (pathOf i) rows = some [.int .u8 (.ofNat c.toNat)] := by simpa using h0
    rw [h0', ih]
    simp
theorem out_bytes {h0 h : H} {v : AV} {acc : List UInt8} (ho : OutOk h0 h v acc) : bytesF v h = some (.v (.str ⟨acc.toArray⟩)) := by
  rcases ho with ⟨rfl, rfl⟩ | ⟨p, b, rfl, _, _, _, hb, hbk, _, _, _, hbm, hrows⟩
  · rfl
  · have hc1 : getC p h.t = some b := by unfold getC; rw [hb]; simp only; rw [hbm]
    have hk1 : Nat.beq b.k 1 = true := by rw [hbk]; rfl
    unfold bytesF
    simp only [hc1, hk1]
    rw [bytesIn_rows acc 0 (fun j hj => by rw [Nat.zero_add]; exact hrows j hj)]
/-- A text's token. -/
def textT (l : List UInt8) : Tk := match l with
  | [] => ⟨0, ⟨#[]⟩, 0, 0⟩
  | x :: _ => if eqI x 34 then (if (textGo (l.length + 1) l 1 []).1 then ⟨6, ⟨#[]⟩, 0, (textGo (l.length + 1) l 1 []).2.1⟩ else if l.length ≤ (textGo (l.length + 1) l 1 []).2.1 then ⟨6, ⟨#[]⟩, 0, (textGo (l.length + 1) l 1 []).2.1⟩ else ⟨2, ⟨(textGo (l.length + 1) l 1 []).2.2.toArray⟩, 0, (textGo (l.length + 1) l 1 []).2.1 + 1⟩) else ⟨0, ⟨#[]⟩, 0, 0⟩
set_option maxHeartbeats 1000000 in
theorem t35 {call : Calls'} (k47 : ∀ l h, call 47 [T l] h = .ret (.tup [.int .u8 ((quotB l).1.toNat : Int), .int .i64 ((quotB l).2 : Int)]) h) (l : List UInt8) (h : H) (hl : l.length ≤ 1000000) :
    Tells (evFun LF35 call (l.length + 1) 35 [T l] h) h (textT l).res := by
  match l, hl with
  | [], _ => simp [Tells, evFun, FF35, c35, c35_1, c35_2, c35_3, c35_4, c35_5, c35_6, c35_7, c35_16, c35_17, c35_18, c35_19, textT, sEq, bytesEq, Tk.res]
  | x :: r, hl =>
    by_cases hx : (x.toNat : Int) = 34
    · have ht : textT (x :: r) = (if (textGo (r.length + 1 + 1) (x :: r) 1 []).1 then ⟨6, ⟨#[]⟩, 0, (textGo (r.length + 1 + 1) (x :: r) 1 []).2.1⟩ else if r.length + 1 ≤ (textGo (r.length + 1 + 1) (x :: r) 1 []).2.1 then ⟨6, ⟨#[]⟩, 0, (textGo (r.length + 1 + 1) (x :: r) 1 []).2.1⟩ else ⟨2, ⟨(textGo (r.length + 1 + 1) (x :: r) 1 []).2.2.toArray⟩, 0, (textGo (r.length + 1 + 1) (x :: r) 1 []).2.1 + 1⟩) := by
        simp [textT, eqI, hx]
      obtain ⟨fr', h', v', hs, hh⟩ := text_all k47 hl (g := h.gen) (r.length + 1 + 1) h (r.length + 1 + 1) 1 ⟨h.next, h.t, h.gen + 1⟩ .nils [] (.node (some (.v (T (x :: r)))) (.node none (.node (some (.v (.int .i64 1))) .nil .nil .nil .nil) (.node (some (.v (.bool false))) .nil .nil .nil .nil) (.node (some (.v (.bool false))) .nil .nil .nil .nil) .nil) (.node (some (.box h.gen Z5)) .nil (.node (some (.v (.bool false))) .nil .nil .nil .nil) (.node (some (.v (.bool false))) .nil .nil .nil .nil) .nil) (.node (some (.v (.int .i64 0))) .nil (.node (some (.v (T (x :: r)))) .nil .nil .nil .nil) .nil .nil) (.node (some (.v .nils)) (.node (some (.v (T (x :: r)))) .nil .nil .nil .nil) (.node (some (.v (.int .u8 34))) .nil .nil .nil .nil) .nil .nil)) 0 (by simp) (by simp; omega) (by simp) (.inl ⟨rfl, rfl⟩) ⟨.gen, Nat.le_refl _⟩ rfl rfl rfl rfl
      rw [ht]
      generalize textGo (r.length + 1 + 1) (x :: r) 1 [] = q at *
      obtain ⟨q1, q2, q3⟩ := q
      rcases hh with ⟨a1, a2, a3, a4⟩ | ⟨a1, a2, a3, a4, a5, a6, a7, a8⟩
      · simp only at a1 a2 a3 a4
        subst a1
        have a2 : loopF call (r.length + 1 + 1) c35_8 (r.length + 1 + 1) _ _ = _ := a2
        simp only [if_true]
        simp [-y_Hnew, Tells, evFun, FF35, c35]
        (try (conv in (evC call _ c35_1 _ _) => unfold c35_1; simp [-y_Hnew, -lBytes, y_lb, gs, hx, sEq, bytesEq]); try dsimp only)
        (try (conv in (evC call _ c35_2 _ _) => unfold c35_2; simp [-y_Hnew, -lBytes, y_lb, gs, hx, sEq, bytesEq]); try dsimp only)
        (try (conv in (evC call _ c35_3 _ _) => unfold c35_3; simp [-y_Hnew, -lBytes, y_lb, gs, hx, sEq, bytesEq]); try dsimp only)
        (try (conv in (evC call _ c35_4 _ _) => unfold c35_4; simp [-y_Hnew, -lBytes, y_lb, gs, hx, sEq, bytesEq]); try dsimp only)
        (try (conv in (evC call _ c35_5 _ _) => unfold c35_5; simp [-y_Hnew, -lBytes, y_lb, gs, hx, sEq, bytesEq]); try dsimp only)
        (try (conv in (evC call _ c35_6 _ _) => unfold c35_6; simp [-y_Hnew, -lBytes, y_lb, gs, hx, sEq, bytesEq]); try dsimp only)
        (try (conv in (evC call _ c35_7 _ _) => unfold c35_7; simp [-y_Hnew, -lBytes, y_lb, gs, hx, sEq, bytesEq]); try dsimp only)
        rw [a2]
        try dsimp only
        (try (conv in (decide ((0 : Nat) = 0)) => simp)); try dsimp only
        (try (conv in (evC call _ c35_16 _ _) => unfold c35_16; simp [-y_Hnew, -lBytes, y_lb, gs, hx, sEq, bytesEq, a3, a4]); try dsimp only)
        (try (conv in (evC call _ c35_17 _ _) => unfold c35_17; simp [-y_Hnew, -lBytes, y_lb, gs, hx, sEq, bytesEq, a3, a4]); try dsimp only)
        (try (conv in (evC call _ c35_18 _ _) => unfold c35_18; simp [-y_Hnew, -lBytes, y_lb, gs, hx, sEq, bytesEq, a3, a4]); try dsimp only)
        (try (conv in (evC call _ c35_19 _ _) => unfold c35_19; simp [-y_Hnew, -lBytes, y_lb, gs, hx, sEq, bytesEq, a3, a4]); try dsimp only)
        simp [Tells, -y_Hnew, -lBytes, y_lb, gs, hx, sEq, bytesEq, a3, a4]
        exact hs.1

      · simp only at a1 a2 a3 a4 a5 a6 a7 a8
        subst a1
        have a2 : loopF call (r.length + 1 + 1) c35_8 (r.length + 1 + 1) _ _ = _ := a2
        have ab := out_bytes a3
        have a4' : q2 ≤ r.length + 1 := by simpa using a4
        have hlr : r.length + 1 ≤ 1000000 := by simpa using hl
        have w : wrapF .i64 ((q2 : Int) + 1) = (q2 : Int) + 1 := wrap64 (by omega) (by omega)
        simp only [Bool.false_eq_true, if_false]
        by_cases hq : r.length + 1 ≤ q2
        · have hq' : ¬ (q2 : Int) < (r.length : Int) + 1 := by omega
          rw [if_pos hq]
          simp [-y_Hnew, Tells, evFun, FF35, c35]
          (try (conv in (evC call _ c35_1 _ _) => unfold c35_1; simp [-y_Hnew, -lBytes, y_lb, gs, hx, sEq, bytesEq]); try dsimp only)
          (try (conv in (evC call _ c35_2 _ _) => unfold c35_2; simp [-y_Hnew, -lBytes, y_lb, gs, hx, sEq, bytesEq]); try dsimp only)
          (try (conv in (evC call _ c35_3 _ _) => unfold c35_3; simp [-y_Hnew, -lBytes, y_lb, gs, hx, sEq, bytesEq]); try dsimp only)
          (try (conv in (evC call _ c35_4 _ _) => unfold c35_4; simp [-y_Hnew, -lBytes, y_lb, gs, hx, sEq, bytesEq]); try dsimp only)
          (try (conv in (evC call _ c35_5 _ _) => unfold c35_5; simp [-y_Hnew, -lBytes, y_lb, gs, hx, sEq, bytesEq]); try dsimp only)
          (try (conv in (evC call _ c35_6 _ _) => unfold c35_6; simp [-y_Hnew, -lBytes, y_lb, gs, hx, sEq, bytesEq]); try dsimp only)
          (try (conv in (evC call _ c35_7 _ _) => unfold c35_7; simp [-y_Hnew, -lBytes, y_lb, gs, hx, sEq, bytesEq]); try dsimp only)
          rw [a2]
          try dsimp only
          (try (conv in (decide ((0 : Nat) = 0)) => simp)); try dsimp only
          (try (conv in (evC call _ c35_16 _ _) => unfold c35_16; simp [-y_Hnew, -lBytes, y_lb, gs, hx, sEq, bytesEq, a5, a6, a7, a8, hq, hq']); try dsimp only)
          (try (conv in (evC call _ c35_17 _ _) => unfold c35_17; simp [-y_Hnew, -lBytes, y_lb, gs, hx, sEq, bytesEq, a5, a6, a7, a8, hq, hq']); try dsimp only)
          (try (conv in (evC call _ c35_18 _ _) => unfold c35_18; simp [-y_Hnew, -lBytes, y_lb, gs, hx, sEq, bytesEq, a5, a6, a7, a8, hq, hq']); try dsimp only)
          (try (conv in (evC call _ c35_19 _ _) => unfold c35_19; simp [-y_Hnew, -lBytes, y_lb, gs, hx, sEq, bytesEq, a5, a6, a7, a8, hq, hq']); try dsimp only)
          simp [Tells, -y_Hnew, -lBytes, y_lb, gs, hx, sEq, bytesEq, a5, a6, a7, a8, hq, hq']
          exact hs.1

        · have hq' : (q2 : Int) < (r.length : Int) + 1 := by omega
          rw [if_neg hq]
          simp [-y_Hnew, Tells, evFun, FF35, c35]
          (try (conv in (evC call _ c35_1 _ _) => unfold c35_1; simp [-y_Hnew, -lBytes, y_lb, gs, hx, sEq, bytesEq]); try dsimp only)
          (try (conv in (evC call _ c35_2 _ _) => unfold c35_2; simp [-y_Hnew, -lBytes, y_lb, gs, hx, sEq, bytesEq]); try dsimp only)
          (try (conv in (evC call _ c35_3 _ _) => unfold c35_3; simp [-y_Hnew, -lBytes, y_lb, gs, hx, sEq, bytesEq]); try dsimp only)
          (try (conv in (evC call _ c35_4 _ _) => unfold c35_4; simp [-y_Hnew, -lBytes, y_lb, gs, hx, sEq, bytesEq]); try dsimp only)
          (try (conv in (evC call _ c35_5 _ _) => unfold c35_5; simp [-y_Hnew, -lBytes, y_lb, gs, hx, sEq, bytesEq]); try dsimp only)
          (try (conv in (evC call _ c35_6 _ _) => unfold c35_6; simp [-y_Hnew, -lBytes, y_lb, gs, hx, sEq, bytesEq]); try dsimp only)
          (try (conv in (evC call _ c35_7 _ _) => unfold c35_7; simp [-y_Hnew, -lBytes, y_lb, gs, hx, sEq, bytesEq]); try dsimp only)
          rw [a2]
          try dsimp only
          (try (conv in (decide ((0 : Nat) = 0)) => simp)); try dsimp only
          (try (conv in (evC call _ c35_16 _ _) => unfold c35_16; simp [-y_Hnew, -lBytes, y_lb, gs, hx, sEq, bytesEq, a5, a6, a7, a8, hq, hq', ab, w]); try dsimp only)
          (try (conv in (evC call _ c35_17 _ _) => unfold c35_17; simp [-y_Hnew, -lBytes, y_lb, gs, hx, sEq, bytesEq, a5, a6, a7, a8, hq, hq', ab, w]); try dsimp only)
          (try (conv in (evC call _ c35_18 _ _) => unfold c35_18; simp [-y_Hnew, -lBytes, y_lb, gs, hx, sEq, bytesEq, a5, a6, a7, a8, hq, hq', ab, w]); try dsimp only)
          (try (conv in (evC call _ c35_19 _ _) => unfold c35_19; simp [-y_Hnew, -lBytes, y_lb, gs, hx, sEq, bytesEq, a5, a6, a7, a8, hq, hq', ab, w]); try dsimp only)
          simp [Tells, -y_Hnew, -lBytes, y_lb, gs, hx, sEq, bytesEq, a5, a6, a7, a8, hq, hq', ab, w]
          exact hs.1

    · have ht : textT (x :: r) = ⟨0, ⟨#[]⟩, 0, 0⟩ := by simp [textT, eqI, hx]
      rw [ht]
      simp [Tells, evFun, FF35, c35, c35_1, c35_2, c35_3, c35_4, c35_5, c35_6, c35_7, c35_16, c35_17, c35_18, c35_19, sEq, bytesEq, hx]
end Go.Proofs.Lx
