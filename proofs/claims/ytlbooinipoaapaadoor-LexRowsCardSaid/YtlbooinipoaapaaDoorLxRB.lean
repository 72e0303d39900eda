import Derived.Test.YtlbooinipoaapaaDoorLxSkip
set_option linter.unusedSimpArgs false
set_option linter.unusedVariables false
set_option linter.unusedSectionVars false
namespace Go.Proofs.Lx
open Go.Ev
noncomputable def c24_1 : EC := (.seq (.steps [(.op Option.none (.pure 1 (vMove (.sl []))) (Option.some [.c])), (.op Option.none (.pure 11 (vBin .no .geq (.sl [.c]) (.k (.int .u8 (.ofNat 48))))) (Option.some [.d])), (.op Option.none (.pure 1 (vMove (.sl [.d]))) (Option.some [.a, .a])), (.op (Option.some ([.a, .a], Bool.true)) (.pure 1 (vMove (.sl []))) (Option.some [.b, .a])), (.op (Option.some ([.a, .a], Bool.true)) (.pure 11 (vBin .no .leq (.sl [.b, .a]) (.k (.int .u8 (.ofNat 57))))) (Option.some [.c, .a])), (.op Option.none (.pure 3 (vPick (.sl [.a, .a]) (.sl [.c, .a]) (.k (.bool Bool.false)))) (Option.some [.d, .a])), (.op Option.none (.pure 2 (vMove (.sl [.d, .a]))) (Option.some [.b]))]) .ret)
noncomputable def c24 : EF := ⟨(.seq (.steps [(.op Option.none (.pure 2 (vMove (.k (.bool Bool.false)))) (Option.some [.b]))]) c24_1), [(.slot (.sl [.b]))], Bool.false⟩
theorem c24_ok : compF Tryd.prog 24 = some c24 := by kernel_rfl
noncomputable def LF24 : FuncId → Option EF := lookF [(24, c24)]
theorem FF24 : LF24 24 = some c24 := rfl
noncomputable def c27_1 : EC := (.seq (.steps [(.op Option.none (.pure 1 (vMove (.sl []))) (Option.some [.c])), (.op Option.none (.pure 11 (vBin .no .geq (.sl [.c]) (.k (.int .u8 (.ofNat 97))))) (Option.some [.d])), (.op Option.none (.pure 1 (vMove (.sl [.d]))) (Option.some [.a, .a])), (.op (Option.some ([.a, .a], Bool.true)) (.pure 1 (vMove (.sl []))) (Option.some [.b, .a])), (.op (Option.some ([.a, .a], Bool.true)) (.pure 11 (vBin .no .leq (.sl [.b, .a]) (.k (.int .u8 (.ofNat 122))))) (Option.some [.c, .a])), (.op Option.none (.pure 3 (vPick (.sl [.a, .a]) (.sl [.c, .a]) (.k (.bool Bool.false)))) (Option.some [.d, .a])), (.op Option.none (.pure 1 (vMove (.sl [.d, .a]))) (Option.some [.a, .b])), (.op (Option.some ([.a, .b], Bool.false)) (.pure 1 (vMove (.sl []))) (Option.some [.b, .b])), (.op (Option.some ([.a, .b], Bool.false)) (.pure 11 (vBin .no .geq (.sl [.b, .b]) (.k (.int .u8 (.ofNat 65))))) (Option.some [.c, .b])), (.op (Option.some ([.a, .b], Bool.false)) (.pure 1 (vMove (.sl [.c, .b]))) (Option.some [.d, .b])), (.op (Option.some ([.d, .b], Bool.true)) (.pure 1 (vMove (.sl []))) (Option.some [.a, .c])), (.op (Option.some ([.d, .b], Bool.true)) (.pure 11 (vBin .no .leq (.sl [.a, .c]) (.k (.int .u8 (.ofNat 90))))) (Option.some [.b, .c])), (.op (Option.some ([.a, .b], Bool.false)) (.pure 3 (vPick (.sl [.d, .b]) (.sl [.b, .c]) (.k (.bool Bool.false)))) (Option.some [.c, .c])), (.op Option.none (.pure 3 (vPick (.sl [.a, .b]) (.k (.bool Bool.true)) (.sl [.c, .c]))) (Option.some [.d, .c])), (.op Option.none (.pure 1 (vMove (.sl [.d, .c]))) (Option.some [.a, .d])), (.op (Option.some ([.a, .d], Bool.false)) (.pure 1 (vMove (.sl []))) (Option.some [.b, .d])), (.op (Option.some ([.a, .d], Bool.false)) (.pure 11 (vBin .no .eql (.sl [.b, .d]) (.k (.int .u8 (.ofNat 95))))) (Option.some [.c, .d])), (.op Option.none (.pure 3 (vPick (.sl [.a, .d]) (.k (.bool Bool.true)) (.sl [.c, .d]))) (Option.some [.d, .d])), (.op Option.none (.pure 1 (vMove (.sl [.d, .d]))) (Option.some [.a, .a, .a])), (.op (Option.some ([.a, .a, .a], Bool.false)) (.pure 1 (vMove (.sl []))) (Option.some [.b, .a, .a])), (.op (Option.some ([.a, .a, .a], Bool.false)) (.pure 11 (vBin .no .eql (.sl [.b, .a, .a]) (.k (.int .u8 (.ofNat 36))))) (Option.some [.c, .a, .a])), (.op Option.none (.pure 3 (vPick (.sl [.a, .a, .a]) (.k (.bool Bool.true)) (.sl [.c, .a, .a]))) (Option.some [.d, .a, .a])), (.op Option.none (.pure 2 (vMove (.sl [.d, .a, .a]))) (Option.some [.b]))]) .ret)
noncomputable def c27 : EF := ⟨(.seq (.steps [(.op Option.none (.pure 2 (vMove (.k (.bool Bool.false)))) (Option.some [.b]))]) c27_1), [(.slot (.sl [.b]))], Bool.false⟩
theorem c27_ok : compF Tryd.prog 27 = some c27 := by kernel_rfl
noncomputable def LF27 : FuncId → Option EF := lookF [(27, c27)]
theorem FF27 : LF27 27 = some c27 := rfl
noncomputable def c23_5 : EC := (.cond (.sl [.c, .b]) .skip (.exit 0))
noncomputable def c23_12 : EC := (.steps [(.op Option.none (.pure 1 (vMove (.sl [.a]))) (Option.some [.d, .d])), (.op Option.none (.pure 11 (vBin .no .add (.sl [.d, .d]) (.k (.int .i64 (.ofNat 1))))) (Option.some [.a, .a, .a])), (.op Option.none (.pure 2 (vMove (.sl [.a, .a, .a]))) (Option.some [.a]))])
noncomputable def c23_11 : EC := (.seq (.steps [(.op Option.none (.pure 2 (vMove (.k (.bool Bool.true)))) (Option.some [.b, .a]))]) c23_12)
noncomputable def c23_15 : EC := (.steps [(.op Option.none (.pure 1 (vMove (.sl [.a]))) (Option.some [.a, .d, .a])), (.op Option.none (.pure 11 (vBin .no .add (.sl [.a, .d, .a]) (.k (.int .i64 (.ofNat 1))))) (Option.some [.b, .d, .a])), (.op Option.none (.pure 2 (vMove (.sl [.b, .d, .a]))) (Option.some [.a]))])
noncomputable def c23_21 : EC := (.cond (.sl [.a, .c, .c]) .skip (.exit 3))
noncomputable def c23_23 : EC := (.steps [(.op Option.none (.pure 1 (vMove (.sl [.a]))) (Option.some [.b, .c, .c])), (.op Option.none (.pure 11 (vBin .no .add (.sl [.b, .c, .c]) (.k (.int .i64 (.ofNat 1))))) (Option.some [.c, .c, .c])), (.op Option.none (.pure 2 (vMove (.sl [.c, .c, .c]))) (Option.some [.a]))])
noncomputable def c23_22 : EC := (.block 4 c23_23)
noncomputable def c23_20 : EC := (.seq (.seq (.steps [(.op Option.none (.pure 1 (vMove (.sl [.a]))) (Option.some [.d, .d, .b])), (.op Option.none (.pure 1 (vMove (.sl []))) (Option.some [.a, .a, .c])), (.op Option.none (.pure 23 (vLenS (.sl [.a, .a, .c]))) (Option.some [.b, .a, .c])), (.op Option.none (.pure 11 (vBin .no .lss (.sl [.d, .d, .b]) (.sl [.b, .a, .c]))) (Option.some [.c, .a, .c])), (.op Option.none (.pure 1 (vMove (.sl [.c, .a, .c]))) (Option.some [.d, .a, .c])), (.op (Option.some ([.d, .a, .c], Bool.true)) (.pure 1 (vMove (.sl []))) (Option.some [.a, .b, .c])), (.op (Option.some ([.d, .a, .c], Bool.true)) (.pure 1 (vMove (.sl [.a]))) (Option.some [.b, .b, .c])), (.op (Option.some ([.d, .a, .c], Bool.true)) (.pure 21 (vIndex (.sl [.a, .b, .c]) (.sl [.b, .b, .c]))) (Option.some [.c, .b, .c])), (.op (Option.some ([.d, .a, .c], Bool.true)) (.pure 11 (vBin .no .neq (.sl [.c, .b, .c]) (.k (.int .u8 (.ofNat 10))))) (Option.some [.d, .b, .c])), (.op Option.none (.pure 3 (vPick (.sl [.d, .a, .c]) (.sl [.d, .b, .c]) (.k (.bool Bool.false)))) (Option.some [.a, .c, .c]))]) c23_21) c23_22)
noncomputable def c23_19 : EC := (.loop c23_20)
noncomputable def c23_18 : EC := (.block 3 c23_19)
noncomputable def c23_24 : EC := (.seq (.steps [(.op Option.none (.pure 1 (vMove (.sl [.a]))) (Option.some [.c, .c])), (.op Option.none (.pure 1 (vMove (.sl [.b, .a]))) (Option.some [.d, .c])), (.op Option.none (.pure 2 (vMove (.sl [.c, .c]))) (Option.some [.d])), (.op Option.none (.pure 2 (vMove (.sl [.d, .c]))) (Option.some [.a, .a]))]) .ret)
noncomputable def c23_17 : EC := (.cond (.sl [.c, .d, .a]) c23_18 c23_24)
noncomputable def c23_16 : EC := (.seq (.steps [(.op Option.none (.pure 1 (vMove (.sl [.c, .a]))) (Option.some [.d, .d, .a])), (.op Option.none (.pure 11 (vBin .no .eql (.sl [.d, .d, .a]) (.k (.int .u8 (.ofNat 47))))) (Option.some [.a, .a, .b])), (.op Option.none (.pure 1 (vMove (.sl [.a, .a, .b]))) (Option.some [.b, .a, .b])), (.op (Option.some ([.b, .a, .b], Bool.true)) (.pure 1 (vMove (.sl [.a]))) (Option.some [.c, .a, .b])), (.op (Option.some ([.b, .a, .b], Bool.true)) (.pure 11 (vBin .no .add (.sl [.c, .a, .b]) (.k (.int .i64 (.ofNat 1))))) (Option.some [.d, .a, .b])), (.op (Option.some ([.b, .a, .b], Bool.true)) (.pure 1 (vMove (.sl []))) (Option.some [.a, .b, .b])), (.op (Option.some ([.b, .a, .b], Bool.true)) (.pure 23 (vLenS (.sl [.a, .b, .b]))) (Option.some [.b, .b, .b])), (.op (Option.some ([.b, .a, .b], Bool.true)) (.pure 11 (vBin .no .lss (.sl [.d, .a, .b]) (.sl [.b, .b, .b]))) (Option.some [.c, .b, .b])), (.op Option.none (.pure 3 (vPick (.sl [.b, .a, .b]) (.sl [.c, .b, .b]) (.k (.bool Bool.false)))) (Option.some [.d, .b, .b])), (.op Option.none (.pure 1 (vMove (.sl [.d, .b, .b]))) (Option.some [.a, .c, .b])), (.op (Option.some ([.a, .c, .b], Bool.true)) (.pure 1 (vMove (.sl []))) (Option.some [.b, .c, .b])), (.op (Option.some ([.a, .c, .b], Bool.true)) (.pure 1 (vMove (.sl [.a]))) (Option.some [.c, .c, .b])), (.op (Option.some ([.a, .c, .b], Bool.true)) (.pure 11 (vBin .no .add (.sl [.c, .c, .b]) (.k (.int .i64 (.ofNat 1))))) (Option.some [.d, .c, .b])), (.op (Option.some ([.a, .c, .b], Bool.true)) (.pure 21 (vIndex (.sl [.b, .c, .b]) (.sl [.d, .c, .b]))) (Option.some [.a, .d, .b])), (.op (Option.some ([.a, .c, .b], Bool.true)) (.pure 11 (vBin .no .eql (.sl [.a, .d, .b]) (.k (.int .u8 (.ofNat 47))))) (Option.some [.b, .d, .b])), (.op Option.none (.pure 3 (vPick (.sl [.a, .c, .b]) (.sl [.b, .d, .b]) (.k (.bool Bool.false)))) (Option.some [.c, .d, .b])), (.op Option.none (.pure 2 (vMove (.sl [.c, .d, .b]))) (Option.some [.c, .d, .a]))]) c23_17)
noncomputable def c23_14 : EC := (.cond (.sl [.b, .a, .a]) c23_15 c23_16)
noncomputable def c23_13 : EC := (.seq (.steps [(.op Option.none (.pure 1 (vMove (.sl [.c, .a]))) (Option.some [.c, .a, .a])), (.op Option.none (.pure 11 (vBin .no .eql (.sl [.c, .a, .a]) (.k (.int .u8 (.ofNat 9))))) (Option.some [.d, .a, .a])), (.op Option.none (.pure 1 (vMove (.sl [.d, .a, .a]))) (Option.some [.a, .b, .a])), (.op (Option.some ([.a, .b, .a], Bool.false)) (.pure 1 (vMove (.sl [.c, .a]))) (Option.some [.b, .b, .a])), (.op (Option.some ([.a, .b, .a], Bool.false)) (.pure 11 (vBin .no .eql (.sl [.b, .b, .a]) (.k (.int .u8 (.ofNat 13))))) (Option.some [.c, .b, .a])), (.op Option.none (.pure 3 (vPick (.sl [.a, .b, .a]) (.k (.bool Bool.true)) (.sl [.c, .b, .a]))) (Option.some [.d, .b, .a])), (.op Option.none (.pure 1 (vMove (.sl [.d, .b, .a]))) (Option.some [.a, .c, .a])), (.op (Option.some ([.a, .c, .a], Bool.false)) (.pure 1 (vMove (.sl [.c, .a]))) (Option.some [.b, .c, .a])), (.op (Option.some ([.a, .c, .a], Bool.false)) (.pure 11 (vBin .no .eql (.sl [.b, .c, .a]) (.k (.int .u8 (.ofNat 32))))) (Option.some [.c, .c, .a])), (.op Option.none (.pure 3 (vPick (.sl [.a, .c, .a]) (.k (.bool Bool.true)) (.sl [.c, .c, .a]))) (Option.some [.d, .c, .a])), (.op Option.none (.pure 2 (vMove (.sl [.d, .c, .a]))) (Option.some [.b, .a, .a]))]) c23_14)
noncomputable def c23_10 : EC := (.cond (.sl [.a, .d]) c23_11 c23_13)
noncomputable def c23_9 : EC := (.seq (.steps [(.op Option.none (.pure 1 (vMove (.sl [.c, .a]))) (Option.some [.b, .d])), (.op Option.none (.pure 11 (vBin .no .eql (.sl [.b, .d]) (.k (.int .u8 (.ofNat 10))))) (Option.some [.c, .d])), (.op Option.none (.pure 2 (vMove (.sl [.c, .d]))) (Option.some [.a, .d]))]) c23_10)
noncomputable def c23_8 : EC := (.block 2 c23_9)
noncomputable def c23_7 : EC := (.seq (.steps [(.op Option.none (.pure 1 (vMove (.sl []))) (Option.some [.d, .b])), (.op Option.none (.pure 1 (vMove (.sl [.a]))) (Option.some [.a, .c])), (.op Option.none (.pure 21 (vIndex (.sl [.d, .b]) (.sl [.a, .c]))) (Option.some [.b, .c])), (.op Option.none (.pure 2 (vMove (.sl [.b, .c]))) (Option.some [.c, .a]))]) c23_8)
noncomputable def c23_6 : EC := (.block 1 c23_7)
noncomputable def c23_4 : EC := (.seq (.seq (.steps [(.op Option.none (.pure 1 (vMove (.sl [.a]))) (Option.some [.d, .a])), (.op Option.none (.pure 1 (vMove (.sl []))) (Option.some [.a, .b])), (.op Option.none (.pure 23 (vLenS (.sl [.a, .b]))) (Option.some [.b, .b])), (.op Option.none (.pure 11 (vBin .no .lss (.sl [.d, .a]) (.sl [.b, .b]))) (Option.some [.c, .b]))]) c23_5) c23_6)
noncomputable def c23_3 : EC := (.loop c23_4)
noncomputable def c23_25 : EC := (.seq (.steps [(.op Option.none (.pure 1 (vMove (.sl [.a]))) (Option.some [.d, .c, .c])), (.op Option.none (.pure 1 (vMove (.sl [.b, .a]))) (Option.some [.a, .d, .c])), (.op Option.none (.pure 2 (vMove (.sl [.d, .c, .c]))) (Option.some [.d])), (.op Option.none (.pure 2 (vMove (.sl [.a, .d, .c]))) (Option.some [.a, .a]))]) .ret)
noncomputable def c23_2 : EC := (.seq (.block 0 c23_3) c23_25)
noncomputable def c23_1 : EC := (.seq (.steps [(.op Option.none (.pure 2 (vMove (.k (.bool Bool.false)))) (Option.some [.b, .a]))]) c23_2)
noncomputable def c23 : EF := ⟨(.seq (.steps [(.op Option.none (.pure 2 (vMove (.k (.int .i64 (.ofNat 0))))) (Option.some [.d])), (.op Option.none (.pure 2 (vMove (.k (.bool Bool.false)))) (Option.some [.a, .a]))]) c23_1), [(.slot (.sl [.d])), (.slot (.sl [.a, .a]))], Bool.false⟩
theorem c23_ok : compF Tryd.prog 23 = some c23 := by kernel_rfl
noncomputable def LF23 : FuncId → Option EF := lookF [(23, c23)]
theorem FF23 : LF23 23 = some c23 := rfl

theorem t24 {call : Calls'} (c : UInt8) (h : H) : evFun LF24 call 1 24 [.int .u8 (c.toNat : Int)] h = .ret (.bool (digB c)) h := by
  rcases Decidable.em ((c.toNat : Int) < 48) with h1 | h1 <;> rcases Decidable.em (57 < (c.toNat : Int)) with h2 | h2 <;> simp [evFun, FF24, c24, c24_1, digB, leI, geI, h1, h2]
theorem t27 {call : Calls'} (c : UInt8) (h : H) : evFun LF27 call 1 27 [.int .u8 (c.toNat : Int)] h = .ret (.bool (letB c)) h := by
  rcases Decidable.em ((c.toNat : Int) < 97) with h1 | h1 <;> rcases Decidable.em (122 < (c.toNat : Int)) with h2 | h2 <;> rcases Decidable.em ((c.toNat : Int) < 65) with h3 | h3 <;> rcases Decidable.em (90 < (c.toNat : Int)) with h4 | h4 <;> first
    | (exfalso; omega)
    | (rcases Decidable.em ((c.toNat : Int) = 95) with h5 | h5 <;> rcases Decidable.em ((c.toNat : Int) = 36) with h6 | h6 <;> first
      | (exfalso; omega)
      | simp [evFun, FF27, c27, c27_1, letB, leI, geI, eqI, h1, h2, h3, h4, h5, h6])
/-- The comment's loop. -/
theorem note_one {call : Calls'} (l : List UInt8) (fuel n : Nat) (b : Bool) (fr : FT) (h : H) (hn : n < l.length) (hl : l.length ≤ 1000000) (hp : ¬ ((l[n]).toNat : Int) = 10)
    (e0 : Ev.get [] fr = some (.v (T l))) (e1 : Ev.get [.a] fr = some (.v (.int .i64 (n : Int)))) (e2 : Ev.get [.b, .a] fr = some (.v (.bool b))) :
    ∃ fr', evC call fuel c23_20 fr h = .norm fr' h ∧ Ev.get [] fr' = some (.v (T l)) ∧ Ev.get [.a] fr' = some (.v (.int .i64 ((n + 1 : Nat) : Int))) ∧ Ev.get [.b, .a] fr' = some (.v (.bool b)) := by
  have w : wrapF .i64 ((n : Int) + 1) = (n : Int) + 1 := wrap64 (by omega) (by omega)
  refine ⟨?fr, ?e, ?_, ?_, ?_⟩
  case e =>
    simp [c23_20, c23_21, c23_22, c23_23, gs, e0, e1, e2, hn, hp, w]
    rfl
  all_goals simp [gs, e0, e1, e2]
theorem note_end {call : Calls'} (l : List UInt8) (fuel n : Nat) (b : Bool) (fr : FT) (h : H) (hp : ∀ hn : n < l.length, ((l[n]).toNat : Int) = 10)
    (e0 : Ev.get [] fr = some (.v (T l))) (e1 : Ev.get [.a] fr = some (.v (.int .i64 (n : Int)))) (e2 : Ev.get [.b, .a] fr = some (.v (.bool b))) :
    ∃ fr', evC call fuel c23_20 fr h = .exit 3 fr' h ∧ Ev.get [] fr' = some (.v (T l)) ∧ Ev.get [.a] fr' = some (.v (.int .i64 (n : Int))) ∧ Ev.get [.b, .a] fr' = some (.v (.bool b)) := by
  by_cases hn : n < l.length
  · have hp := hp hn
    refine ⟨?fr, ?e, ?_, ?_, ?_⟩
    case e =>
      simp [c23_20, c23_21, c23_22, c23_23, gs, e0, e1, e2, hn, hp]
      rfl
    all_goals simp [gs, e0, e1, e2]
  · refine ⟨?fr2, ?e2, ?_, ?_, ?_⟩
    case e2 =>
      simp [c23_20, c23_21, c23_22, c23_23, gs, e0, e1, e2, hn]
      rfl
    all_goals simp [gs, e0, e1, e2]
theorem note_all {call : Calls'} (l : List UInt8) (fuel : Nat) (b : Bool) (h : H) (hl : l.length ≤ 1000000) : ∀ (k n : Nat) (fr : FT) (j : Nat), l.length = n + k →
    Ev.get [] fr = some (.v (T l)) → Ev.get [.a] fr = some (.v (.int .i64 (n : Int))) → Ev.get [.b, .a] fr = some (.v (.bool b)) →
    ∃ fr', loopF call fuel c23_20 (k + 1 + j) fr h = .exit 3 fr' h ∧ Ev.get [] fr' = some (.v (T l)) ∧ Ev.get [.a] fr' = some (.v (.int .i64 ((n + ((l.drop n).takeWhile lineB).length : Nat) : Int))) ∧ Ev.get [.b, .a] fr' = some (.v (.bool b))
  | 0, n, fr, j, hk, e0, e1, e2 => by
    obtain ⟨fr', h1, h2, h3, h4⟩ := note_end (call := call) l fuel n b fr h (fun hn => by omega) e0 e1 e2
    refine ⟨fr', ?_, h2, ?_, h4⟩
    · rw [show 0 + 1 + j = j + 1 by omega, loopF_succ, h1]
    · rw [List.drop_eq_nil_of_le (by omega)]; exact h3
  | k + 1, n, fr, j, hk, e0, e1, e2 => by
    have hn : n < l.length := by omega
    have hd : l.drop n = l[n] :: l.drop (n + 1) := List.drop_eq_getElem_cons hn
    rcases Decidable.em (((l[n]).toNat : Int) = 10) with hp | hp
    · have hq : lineB l[n] = false := by simp [lineB, eqI, hp]
      obtain ⟨fr', h1, h2, h3, h4⟩ := note_end (call := call) l fuel n b fr h (fun _ => hp) e0 e1 e2
      refine ⟨fr', ?_, h2, ?_, h4⟩
      · rw [show k + 1 + 1 + j = (k + 1 + j) + 1 by omega, loopF_succ, h1]
      · rw [hd, List.takeWhile_cons, hq]; exact h3
    · have hq : lineB l[n] = true := by simp [lineB, eqI, hp]
      obtain ⟨fr1, h1, a0, a1, a2⟩ := note_one (call := call) l fuel n b fr h hn hl hp e0 e1 e2
      obtain ⟨fr', h2, h3, h4, h5⟩ := note_all l fuel b h hl k (n + 1) fr1 j (by omega) a0 a1 a2
      refine ⟨fr', ?_, h3, ?_, h5⟩
      · rw [show k + 1 + 1 + j = (k + 1 + j) + 1 by omega, loopF_succ, h1]; exact h2
      · rw [hd, List.takeWhile_cons, hq, h4]
        simp only [if_true, List.length_cons]
        congr 3; omega
theorem note_blk {call : Calls'} (l : List UInt8) (b : Bool) (h : H) (hl : l.length ≤ 1000000) (n : Nat) (fr : FT) (hn : n ≤ l.length)
    (e0 : Ev.get [] fr = some (.v (T l))) (e1 : Ev.get [.a] fr = some (.v (.int .i64 (n : Int)))) (e2 : Ev.get [.b, .a] fr = some (.v (.bool b))) :
    ∃ fr', evC call (l.length + 1) c23_18 fr h = .norm fr' h ∧ Ev.get [] fr' = some (.v (T l)) ∧ Ev.get [.a] fr' = some (.v (.int .i64 ((n + ((l.drop n).takeWhile lineB).length : Nat) : Int))) ∧ Ev.get [.b, .a] fr' = some (.v (.bool b)) := by
  obtain ⟨fr', h1, h2⟩ := note_all (call := call) l (l.length + 1) b h hl (l.length - n) n fr n (by omega) e0 e1 e2
  rw [show l.length - n + 1 + n = l.length + 1 by omega] at h1
  refine ⟨fr', ?_, h2⟩
  simp [c23_18, c23_19, h1]
theorem rb_end {call : Calls'} (l : List UInt8) (fuel n : Nat) (b : Bool) (fr : FT) (h : H) (hn : ¬ n < l.length)
    (e0 : Ev.get [] fr = some (.v (T l))) (e1 : Ev.get [.a] fr = some (.v (.int .i64 (n : Int)))) (e2 : Ev.get [.b, .a] fr = some (.v (.bool b))) :
    ∃ fr', evC call fuel c23_4 fr h = .exit 0 fr' h ∧ Ev.get [.a] fr' = some (.v (.int .i64 (n : Int))) ∧ Ev.get [.b, .a] fr' = some (.v (.bool b)) := by
  refine ⟨?fr, ?e, ?_, ?_⟩
  case e =>
    simp [c23_4, c23_5, c23_6, c23_7, c23_8, c23_9, c23_10, c23_11, c23_12, c23_13, c23_14, c23_15, c23_16, c23_17, c23_24, gs, e0, e1, e2, hn]
    rfl
  all_goals simp [gs, e0, e1, e2]
set_option maxRecDepth 100000 in
theorem blank_iff : ∀ c : UInt8, blankB c = true ↔ ((c.toNat : Int) = 10 ∨ (c.toNat : Int) = 9 ∨ (c.toNat : Int) = 13 ∨ (c.toNat : Int) = 32) := by
  intro c
  have h : ∀ n : Fin 256, blankB (UInt8.ofNat n.1) = true ↔ ((n.1 : Int) = 10 ∨ (n.1 : Int) = 9 ∨ (n.1 : Int) = 13 ∨ (n.1 : Int) = 32) := by decide
  have := h ⟨c.toNat, c.toNat_lt⟩
  simpa using this
theorem rb_blank {call : Calls'} (l : List UInt8) (fuel n : Nat) (b : Bool) (fr : FT) (h : H) (hn : n < l.length) (hl : l.length ≤ 1000000) (hb : blankB l[n] = true)
    (e0 : Ev.get [] fr = some (.v (T l))) (e1 : Ev.get [.a] fr = some (.v (.int .i64 (n : Int)))) (e2 : Ev.get [.b, .a] fr = some (.v (.bool b))) :
    ∃ fr', evC call fuel c23_4 fr h = .norm fr' h ∧ Ev.get [] fr' = some (.v (T l)) ∧ Ev.get [.a] fr' = some (.v (.int .i64 ((n + 1 : Nat) : Int))) ∧ Ev.get [.b, .a] fr' = some (.v (.bool (b || eqI l[n] 10))) := by
  have w : wrapF .i64 ((n : Int) + 1) = (n : Int) + 1 := wrap64 (by omega) (by omega)
  have hb := (blank_iff l[n]).1 hb
  rcases hb with hb | hb | hb | hb
  · refine ⟨?fr, ?e, ?_, ?_, ?_⟩
    case e =>
      simp [c23_4, c23_5, c23_6, c23_7, c23_8, c23_9, c23_10, c23_11, c23_12, c23_13, c23_14, c23_15, c23_16, c23_17, c23_24, gs, e0, e1, e2, hn, hb, w]
      rfl
    all_goals simp [gs, e0, e1, e2, eqI, hb]
  · refine ⟨?fr1, ?e1, ?_, ?_, ?_⟩
    case e1 =>
      simp [c23_4, c23_5, c23_6, c23_7, c23_8, c23_9, c23_10, c23_11, c23_12, c23_13, c23_14, c23_15, c23_16, c23_17, c23_24, gs, e0, e1, e2, hn, hb, w]
      rfl
    all_goals simp [gs, e0, e1, e2, eqI, hb]
  · refine ⟨?fr2, ?e2, ?_, ?_, ?_⟩
    case e2 =>
      simp [c23_4, c23_5, c23_6, c23_7, c23_8, c23_9, c23_10, c23_11, c23_12, c23_13, c23_14, c23_15, c23_16, c23_17, c23_24, gs, e0, e1, e2, hn, hb, w]
      rfl
    all_goals simp [gs, e0, e1, e2, eqI, hb]
  · refine ⟨?fr3, ?e3, ?_, ?_, ?_⟩
    case e3 =>
      simp [c23_4, c23_5, c23_6, c23_7, c23_8, c23_9, c23_10, c23_11, c23_12, c23_13, c23_14, c23_15, c23_16, c23_17, c23_24, gs, e0, e1, e2, hn, hb, w]
      rfl
    all_goals simp [gs, e0, e1, e2, eqI, hb]
/-- Does a comment begin there? -/
theorem pre_note (l : List UInt8) (n : Nat) (hn : n < l.length) : preB (l.drop n) [47, 47] = true ↔ ((l[n]).toNat : Int) = 47 ∧ ∃ h1 : n + 1 < l.length, ((l[n + 1]).toNat : Int) = 47 := by
  have e : ∀ c : UInt8, ((c.toNat : Int) = 47) ↔ c = 47 := by
    intro c
    constructor
    · intro h
      exact UInt8.toNat_inj.1 (by simp; omega)
    · intro h; subst h; rfl
  have hd : l.drop n = l[n] :: l.drop (n + 1) := List.drop_eq_getElem_cons hn
  rw [hd]
  by_cases h1 : n + 1 < l.length
  · have hd1 : l.drop (n + 1) = l[n + 1] :: l.drop (n + 1 + 1) := List.drop_eq_getElem_cons h1
    rw [hd1]
    have ht : (l[n] :: l[n + 1] :: l.drop (n + 1 + 1)).take ([47, 47] : List UInt8).length = [l[n], l[n + 1]] := rfl
    simp only [preB, bytesEq_iff, beq_iff_eq, Bool.and_eq_true, decide_eq_true_eq, e]
    rw [ht]
    constructor
    · intro h
      injection h.2 with q1 q2
      injection q2 with q2 q3
      exact ⟨q1, h1, q2⟩
    · rintro ⟨q1, _, q2⟩
      exact ⟨Nat.le_add_left 2 _, by rw [q1, q2]⟩
  · rw [List.drop_eq_nil_of_le (by omega)]
    simp [preB, h1]
theorem rb_note {call : Calls'} (l : List UInt8) (n : Nat) (b : Bool) (fr : FT) (h : H) (hn : n < l.length) (hl : l.length ≤ 1000000) (hb : blankB l[n] = false) (hp : preB (l.drop n) [47, 47] = true)
    (e0 : Ev.get [] fr = some (.v (T l))) (e1 : Ev.get [.a] fr = some (.v (.int .i64 (n : Int)))) (e2 : Ev.get [.b, .a] fr = some (.v (.bool b))) :
    ∃ fr', evC call (l.length + 1) c23_4 fr h = .norm fr' h ∧ Ev.get [] fr' = some (.v (T l)) ∧ Ev.get [.a] fr' = some (.v (.int .i64 ((n + ((l.drop n).takeWhile lineB).length : Nat) : Int))) ∧ Ev.get [.b, .a] fr' = some (.v (.bool b)) := by
  have w : wrapF .i64 ((n : Int) + 1) = (n : Int) + 1 := wrap64 (by omega) (by omega)
  obtain ⟨h47, h1, h47'⟩ := (pre_note l n hn).1 hp
  obtain ⟨m, hm⟩ : ∃ m, m = n + 1 := ⟨_, rfl⟩
  have w : wrapF .i64 ((n : Int) + 1) = (m : Int) := by rw [hm]; exact w
  have h1 : m < l.length := by omega
  have h47' : ((l[m]).toNat : Int) = 47 := by simpa only [hm] using h47'
  have ex : ∀ F : FT, ∃ fr' : FT, Ev.get [] F = some (.v (T l)) → Ev.get [.a] F = some (.v (.int .i64 (n : Int))) → Ev.get [.b, .a] F = some (.v (.bool b)) → evC call (l.length + 1) c23_18 F h = .norm fr' h ∧ Ev.get [] fr' = some (.v (T l)) ∧ Ev.get [.a] fr' = some (.v (.int .i64 ((n + ((l.drop n).takeWhile lineB).length : Nat) : Int))) ∧ Ev.get [.b, .a] fr' = some (.v (.bool b)) := by
    intro F
    rcases Classical.em (Ev.get [] F = some (.v (T l)) ∧ Ev.get [.a] F = some (.v (.int .i64 (n : Int))) ∧ Ev.get [.b, .a] F = some (.v (.bool b))) with ⟨g1, g2, g3⟩ | g
    · obtain ⟨fr', k⟩ := note_blk (call := call) l b h hl n F (by omega) g1 g2 g3
      exact ⟨fr', fun _ _ _ => k⟩
    · exact ⟨F, fun g1 g2 g3 => absurd ⟨g1, g2, g3⟩ g⟩
  obtain ⟨N, kN⟩ := Classical.axiomOfChoice ex
  have k18 : ∀ F, Ev.get [] F = some (.v (T l)) → Ev.get [.a] F = some (.v (.int .i64 (n : Int))) → Ev.get [.b, .a] F = some (.v (.bool b)) → evC call (l.length + 1) c23_18 F h = .norm (N F) h := fun F g1 g2 g3 => (kN F g1 g2 g3).1
  refine ⟨?F, ?e, ?_⟩
  case e =>
    simp [c23_4, c23_5, c23_6, c23_7, c23_8, c23_9, c23_10, c23_11, c23_12, c23_13, c23_14, c23_15, c23_16, c23_17, c23_24, gs, e0, e1, e2, hn, h47, h47', h1, w]
    rw [k18 _ (by simp [gs, e0]) (by simp [gs, e1]) (by simp [gs, e2])]
  exact (kN _ (by simp [gs, e0]) (by simp [gs, e1]) (by simp [gs, e2])).2
theorem rb_out {call : Calls'} (l : List UInt8) (fuel n : Nat) (b : Bool) (fr : FT) (h : H) (hn : n < l.length) (hl : l.length ≤ 1000000) (hb : blankB l[n] = false) (hp : preB (l.drop n) [47, 47] = false)
    (e0 : Ev.get [] fr = some (.v (T l))) (e1 : Ev.get [.a] fr = some (.v (.int .i64 (n : Int)))) (e2 : Ev.get [.b, .a] fr = some (.v (.bool b))) :
    ∃ fr', evC call fuel c23_4 fr h = .ret fr' h ∧ Ev.get [.d] fr' = some (.v (.int .i64 (n : Int))) ∧ Ev.get [.a, .a] fr' = some (.v (.bool b)) := by
  obtain ⟨m, hm⟩ : ∃ m, m = n + 1 := ⟨_, rfl⟩
  have w : wrapF .i64 ((n : Int) + 1) = (m : Int) := by rw [hm]; exact wrap64 (by omega) (by omega)
  have hc : ¬ (((l[n]).toNat : Int) = 10 ∨ ((l[n]).toNat : Int) = 9 ∨ ((l[n]).toNat : Int) = 13 ∨ ((l[n]).toNat : Int) = 32) := fun e => by
    rw [(blank_iff _).2 e] at hb; cases hb
  have h10 : ¬ ((l[n]).toNat : Int) = 10 := fun e => hc (.inl e)
  have h9 : ¬ ((l[n]).toNat : Int) = 9 := fun e => hc (.inr (.inl e))
  have h13 : ¬ ((l[n]).toNat : Int) = 13 := fun e => hc (.inr (.inr (.inl e)))
  have h32 : ¬ ((l[n]).toNat : Int) = 32 := fun e => hc (.inr (.inr (.inr e)))
  have hq : ¬ (((l[n]).toNat : Int) = 47 ∧ ∃ h1 : n + 1 < l.length, ((l[n + 1]).toNat : Int) = 47) := fun e => by
    rw [(pre_note l n hn).2 e] at hp; cases hp
  rcases Decidable.em (((l[n]).toNat : Int) = 47) with h47 | h47
  · by_cases h1 : m < l.length
    · have h47' : ¬ ((l[m]).toNat : Int) = 47 := fun e => hq ⟨h47, by omega, by simpa only [hm] using e⟩
      refine ⟨?fr, ?e, ?_, ?_⟩
      case e =>
        simp [c23_4, c23_5, c23_6, c23_7, c23_8, c23_9, c23_10, c23_11, c23_12, c23_13, c23_14, c23_15, c23_16, c23_17, c23_24, gs, e0, e1, e2, hn, h10, h9, h13, h32, h47, h47', h1, w]
        rfl
      all_goals simp [gs, e0, e1, e2]
    · refine ⟨?fr1, ?e1, ?_, ?_⟩
      case e1 =>
        simp [c23_4, c23_5, c23_6, c23_7, c23_8, c23_9, c23_10, c23_11, c23_12, c23_13, c23_14, c23_15, c23_16, c23_17, c23_24, gs, e0, e1, e2, hn, h10, h9, h13, h32, h47, h1, w]
        rfl
      all_goals simp [gs, e0, e1, e2]
  · refine ⟨?fr2, ?e2, ?_, ?_⟩
    case e2 =>
      simp [c23_4, c23_5, c23_6, c23_7, c23_8, c23_9, c23_10, c23_11, c23_12, c23_13, c23_14, c23_15, c23_16, c23_17, c23_24, gs, e0, e1, e2, hn, h10, h9, h13, h32, h47, w]
      rfl
    all_goals simp [gs, e0, e1, e2]
theorem rb_all {call : Calls'} (l : List UInt8) (h : H) (hl : l.length ≤ 1000000) : ∀ (f n : Nat) (b : Bool) (fr : FT) (j : Nat), n ≤ l.length → l.length < n + f →
    Ev.get [] fr = some (.v (T l)) → Ev.get [.a] fr = some (.v (.int .i64 (n : Int))) → Ev.get [.b, .a] fr = some (.v (.bool b)) →
    ∃ fr', (loopF call (l.length + 1) c23_4 (f + j) fr h = .exit 0 fr' h ∧ Ev.get [.a] fr' = some (.v (.int .i64 ((n + (skipGo f (l.drop n)).1 : Nat) : Int))) ∧ Ev.get [.b, .a] fr' = some (.v (.bool (b || (skipGo f (l.drop n)).2)))) ∨
      (loopF call (l.length + 1) c23_4 (f + j) fr h = .ret fr' h ∧ Ev.get [.d] fr' = some (.v (.int .i64 ((n + (skipGo f (l.drop n)).1 : Nat) : Int))) ∧ Ev.get [.a, .a] fr' = some (.v (.bool (b || (skipGo f (l.drop n)).2))))
  | 0, n, b, fr, j, h1, h2, _, _, _ => by omega
  | f + 1, n, b, fr, j, h1, h2, e0, e1, e2 => by
    rw [show f + 1 + j = (f + j) + 1 by omega, loopF_succ]
    by_cases hn : n < l.length
    · have hd : l.drop n = l[n] :: l.drop (n + 1) := List.drop_eq_getElem_cons hn
      cases hb : blankB l[n]
      · cases hp : preB (l.drop n) [47, 47]
        · obtain ⟨fr', g1, g2, g3⟩ := rb_out (call := call) l (l.length + 1) n b fr h hn hl hb hp e0 e1 e2
          have hs : skipGo (f + 1) (l.drop n) = (0, false) := by
            have hp' := hp
            rw [hd] at hp'
            rw [hd, skipGo_cons, hb, hp']
            rfl
          exact ⟨fr', .inr ⟨by rw [g1], by rw [hs]; exact g2, by rw [hs]; simpa using g3⟩⟩
        · obtain ⟨fr1, g1, a0, a1, a2⟩ := rb_note (call := call) l n b fr h hn hl hb hp e0 e1 e2
          have hpos : 0 < ((l.drop n).takeWhile lineB).length := by
            have := ((pre_note l n hn).1 hp).1
            rw [hd, List.takeWhile_cons]
            simp [lineB, eqI, this]
          have hle : ((l.drop n).takeWhile lineB).length ≤ l.length - n := Nat.le_trans (List.takeWhile_sublist _).length_le (by simp)
          have hs : skipGo (f + 1) (l.drop n) = (((l.drop n).takeWhile lineB).length + (skipGo f ((l.drop n).drop ((l.drop n).takeWhile lineB).length)).1, (skipGo f ((l.drop n).drop ((l.drop n).takeWhile lineB).length)).2) := by
            have hp' := hp
            rw [hd] at hp'
            rw [hd, skipGo_cons, hb, hp', ← hd]
            rfl
          rw [List.drop_drop] at hs
          rcases rb_all l h hl f (n + ((l.drop n).takeWhile lineB).length) b fr1 j (by omega) (by omega) a0 a1 a2 with ⟨fr', ⟨g2, g3, g4⟩ | ⟨g2, g3, g4⟩⟩
          · refine ⟨fr', .inl ⟨by rw [g1]; exact g2, ?_, ?_⟩⟩
            · rw [hs, g3]; simp only; congr 3; omega
            · rw [hs]; exact g4
          · refine ⟨fr', .inr ⟨by rw [g1]; exact g2, ?_, ?_⟩⟩
            · rw [hs, g3]; simp only; congr 3; omega
            · rw [hs]; exact g4
      · obtain ⟨fr1, g1, a0, a1, a2⟩ := rb_blank (call := call) l (l.length + 1) n b fr h hn hl hb e0 e1 e2
        have hs : skipGo (f + 1) (l.drop n) = ((skipGo f (l.drop (n + 1))).1 + 1, eqI l[n] 10 || (skipGo f (l.drop (n + 1))).2) := by
          rw [hd, skipGo_cons, hb]; rfl
        rcases rb_all l h hl f (n + 1) (b || eqI l[n] 10) fr1 j (by omega) (by omega) a0 a1 a2 with ⟨fr', ⟨g2, g3, g4⟩ | ⟨g2, g3, g4⟩⟩
        · refine ⟨fr', .inl ⟨by rw [g1]; exact g2, ?_, ?_⟩⟩
          · rw [hs, g3]; simp only; congr 3; omega
          · rw [hs, g4, Bool.or_assoc]
        · refine ⟨fr', .inr ⟨by rw [g1]; exact g2, ?_, ?_⟩⟩
          · rw [hs, g3]; simp only; congr 3; omega
          · rw [hs, g4, Bool.or_assoc]
    · obtain ⟨fr', g1, g2, g3⟩ := rb_end (call := call) l (l.length + 1) n b fr h hn e0 e1 e2
      have hs : skipGo (f + 1) (l.drop n) = (0, false) := by rw [List.drop_eq_nil_of_le (by omega)]; rfl
      exact ⟨fr', .inl ⟨by rw [g1], by rw [hs]; exact g2, by rw [hs]; simpa using g3⟩⟩
theorem skipGo_more : ∀ (f g : Nat) (l : List UInt8), l.length < f → l.length < g → skipGo f l = skipGo g l
  | 0, _, l, h, _ => absurd h (Nat.not_lt_zero _)
  | _ + 1, 0, l, _, h => absurd h (Nat.not_lt_zero _)
  | f + 1, g + 1, [], _, _ => rfl
  | f + 1, g + 1, c :: r, h1, h2 => by
    have hr : skipGo f r = skipGo g r := skipGo_more f g r (by simp only [List.length_cons] at h1; omega) (by simp only [List.length_cons] at h2; omega)
    rw [skipGo_cons, skipGo_cons, hr]
    cases hp : preB (c :: r) [47, 47]
    · rfl
    · have hpos : 0 < ((c :: r).takeWhile lineB).length := by
        have := ((pre_note (c :: r) 0 (by simp)).1 (by simpa using hp)).1
        rw [List.takeWhile_cons]
        have h47 : ((c.toNat : Int)) = 47 := this
        simp [lineB, eqI, h47]
      have hk : ((c :: r).drop ((c :: r).takeWhile lineB).length).length < (c :: r).length := by
        simp only [List.length_drop, List.length_cons]; omega
      have he := skipGo_more f g ((c :: r).drop ((c :: r).takeWhile lineB).length) (by omega) (by omega)
      rw [he]
theorem t23 {call : Calls'} (l : List UInt8) (n : Nat) (h : H) (hn : n ≤ l.length) (hl : l.length ≤ 1000000) :
    evFun LF23 call (l.length + 1) 23 [T l, .int .i64 (n : Int)] h = .ret (.tup [.int .i64 ((n + (skipP (l.drop n)).1 : Nat) : Int), .bool (skipP (l.drop n)).2]) h := by
  have key := rb_all (call := call) l h hl (l.length + 1 - n) n false (.node (some (.v (T l))) (.node (some (.v (.int .i64 (n : Int)))) (.node (some (.v (.bool false))) .nil .nil .nil .nil) .nil .nil .nil) (.node none (.node (some (.v (.bool false))) .nil .nil .nil .nil) .nil .nil .nil) .nil (.node (some (.v (.int .i64 0))) .nil .nil .nil .nil)) n hn (by omega) rfl rfl rfl
  rw [show l.length + 1 - n + n = l.length + 1 by omega, skipGo_more (l.length + 1 - n) ((l.drop n).length + 1) (l.drop n) (by simp only [List.length_drop]; omega) (by omega)] at key
  simp only [Bool.false_or] at key
  rcases key with ⟨fr', ⟨g1, g2, g3⟩ | ⟨g1, g2, g3⟩⟩
  · simp [evFun, FF23, c23, c23_1, c23_2, c23_3, c23_25, g1, g2, g3, gs, skipP]
  · simp [evFun, FF23, c23, c23_1, c23_2, c23_3, c23_25, g1, g2, g3, gs, skipP]
end Go.Proofs.Lx
