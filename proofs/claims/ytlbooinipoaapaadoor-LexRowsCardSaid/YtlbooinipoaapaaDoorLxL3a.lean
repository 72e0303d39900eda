/- LexTexts: its walk. -/
import Derived.Test.YtlbooinipoaapaaDoorLxTextTok
set_option linter.unusedSimpArgs false
set_option linter.unusedVariables false
namespace Go.Proofs.Lx
open Go.Ev
noncomputable def c3_2 : List St := [(.op (Option.some ([.c, .b], Bool.false)) (.pure 1 (vMove (.sl [.a]))) (Option.some [.d, .b])), (.op (Option.some ([.c, .b], Bool.false)) (.pure 23 (vLenS (.sl [.d, .b]))) (Option.some [.a, .c])), (.op (Option.some ([.c, .b], Bool.false)) (.pure 11 (vBin .no .gtr (.sl [.a, .c]) (.k (.int .i64 (.ofNat 50))))) (Option.some [.b, .c])), (.op Option.none (.pure 3 (vPick (.sl [.c, .b]) (.k (.bool Bool.true)) (.sl [.b, .c]))) (Option.some [.c, .c]))]
noncomputable def c3_4 : EC := (.seq (.steps [(.op Option.none (.eff (hCall (.k (.fn 10 [] [])) [])) (Option.some [.d, .c])), (.op Option.none (.pure 2 (vMove (.sl [.d, .c]))) (Option.some [.d]))]) .ret)
noncomputable def c3_3 : EC := (.cond (.sl [.c, .c]) c3_4 .skip)
noncomputable def c3_9 : EC := (.cond (.sl [.d, .d]) .skip (.exit 0))
noncomputable def c3_14 : List St := [(.op (Option.some ([.a, .d, .a], Bool.true)) (.pure 1 (vMove (.sl [.a, .a]))) (Option.some [.c, .d, .a])), (.op (Option.some ([.a, .d, .a], Bool.true)) (.pure 21 (vIndex (.sl [.b, .d, .a]) (.sl [.c, .d, .a]))) (Option.some [.d, .d, .a])), (.op (Option.some ([.a, .d, .a], Bool.true)) (.pure 11 (vBin .no .neq (.sl [.d, .d, .a]) (.k (.int .u8 (.ofNat 10))))) (Option.some [.a, .a, .b])), (.op Option.none (.pure 3 (vPick (.sl [.a, .d, .a]) (.sl [.a, .a, .b]) (.k (.bool Bool.false)))) (Option.some [.b, .a, .b]))]
noncomputable def c3_13 : List St := ((.op (Option.some ([.c, .b, .a], Bool.false)) (.pure 11 (vBin .no .gtr (.sl [.b, .c, .a]) (.k (.int .u8 (.ofNat 126))))) (Option.some [.c, .c, .a])) :: (.op Option.none (.pure 3 (vPick (.sl [.c, .b, .a]) (.k (.bool Bool.true)) (.sl [.c, .c, .a]))) (Option.some [.d, .c, .a])) :: (.op Option.none (.pure 1 (vMove (.sl [.d, .c, .a]))) (Option.some [.a, .d, .a])) :: (.op (Option.some ([.a, .d, .a], Bool.true)) (.pure 1 (vMove (.sl []))) (Option.some [.b, .d, .a])) :: c3_14)
noncomputable def c3_12 : List St := ((.op Option.none (.pure 1 (vMove (.sl [.b, .b, .a]))) (Option.some [.c, .b, .a])) :: (.op (Option.some ([.c, .b, .a], Bool.false)) (.pure 1 (vMove (.sl []))) (Option.some [.d, .b, .a])) :: (.op (Option.some ([.c, .b, .a], Bool.false)) (.pure 1 (vMove (.sl [.a, .a]))) (Option.some [.a, .c, .a])) :: (.op (Option.some ([.c, .b, .a], Bool.false)) (.pure 21 (vIndex (.sl [.d, .b, .a]) (.sl [.a, .c, .a]))) (Option.some [.b, .c, .a])) :: c3_13)
noncomputable def c3_16 : EC := (.seq (.steps [(.op Option.none (.eff (hCall (.k (.fn 10 [] [])) [])) (Option.some [.c, .a, .b])), (.op Option.none (.pure 2 (vMove (.sl [.c, .a, .b]))) (Option.some [.d]))]) .ret)
noncomputable def c3_15 : EC := (.cond (.sl [.b, .a, .b]) c3_16 .skip)
noncomputable def c3_11 : EC := (.seq (.steps ((.op Option.none (.pure 1 (vMove (.sl []))) (Option.some [.c, .a, .a])) :: (.op Option.none (.pure 1 (vMove (.sl [.a, .a]))) (Option.some [.d, .a, .a])) :: (.op Option.none (.pure 21 (vIndex (.sl [.c, .a, .a]) (.sl [.d, .a, .a]))) (Option.some [.a, .b, .a])) :: (.op Option.none (.pure 11 (vBin .no .lss (.sl [.a, .b, .a]) (.k (.int .u8 (.ofNat 32))))) (Option.some [.b, .b, .a])) :: c3_12)) c3_15)
noncomputable def c3_17 : EC := (.steps [(.op Option.none (.pure 1 (vMove (.sl [.a, .a]))) (Option.some [.a, .a, .a])), (.op Option.none (.pure 11 (vBin .no .add (.sl [.a, .a, .a]) (.k (.int .i64 (.ofNat 1))))) (Option.some [.b, .a, .a])), (.op Option.none (.pure 2 (vMove (.sl [.b, .a, .a]))) (Option.some [.a, .a]))])
noncomputable def c3_10 : EC := (.seq (.block 1 c3_11) c3_17)
noncomputable def c3_8 : EC := (.seq (.seq (.steps [(.op Option.none (.pure 1 (vMove (.sl [.a, .a]))) (Option.some [.a, .d])), (.op Option.none (.pure 1 (vMove (.sl []))) (Option.some [.b, .d])), (.op Option.none (.pure 23 (vLenS (.sl [.b, .d]))) (Option.some [.c, .d])), (.op Option.none (.pure 11 (vBin .no .lss (.sl [.a, .d]) (.sl [.c, .d]))) (Option.some [.d, .d]))]) c3_9) c3_10)
noncomputable def c3_7 : EC := (.loop c3_8)
noncomputable def c3_6 : EC := (.block 0 c3_7)
noncomputable def c3_19 : List St := [(.op Option.none (.eff (hCall (.k (.fn 11 [] [])) [(.sl [.c, .b, .b]), (.k (.int .i64 (.ofNat 0)))])) (Option.some [.d, .b, .b])), (.op Option.none (.eff (bLoc [(.int .i64 (.ofNat 0)), (.str ⟨#[]⟩), (.int .i64 (.ofNat 0)), (.int .i64 (.ofNat 0)), (.bool Bool.false)] [.b, .a])) (Option.some [.b, .a])), (.op Option.none (.eff (hStore (.sl [.b, .a]) (.sl [.d, .b, .b]) 5)) Option.none)]
noncomputable def c3_21 : List St := [(.op Option.none (.eff (bLoc [(.int .i64 (.ofNat 0)), (.str ⟨#[]⟩), (.int .i64 (.ofNat 0)), (.int .i64 (.ofNat 0)), (.bool Bool.false)] [.c, .a])) (Option.some [.c, .a])), (.op Option.none (.eff (hStore (.sl [.c, .a]) (.sl [.d, .c, .b]) 5)) Option.none)]
noncomputable def c3_32 : List St := [(.op (Option.some ([.d, .a, .a, .a], Bool.true)) (.eff (hCall (.k (.fn 10 [] [])) [])) (Option.some [.a, .b, .a, .a])), (.op Option.none (.pure 3 (vPick (.sl [.d, .a, .a, .a]) (.sl [.a, .b, .a, .a]) (.k (.bool Bool.false)))) (Option.some [.b, .b, .a, .a])), (.op Option.none (.pure 2 (vMove (.sl [.b, .b, .a, .a]))) (Option.some [.d]))]
noncomputable def c3_31 : List St := ((.op (Option.some ([.d, .d, .d], Bool.true)) (.pure 18 (vFieldAddr (.sl [.c, .a]) 4)) (Option.some [.a, .a, .a, .a])) :: (.op (Option.some ([.d, .d, .d], Bool.true)) (.look 8 (lLoad (.sl [.a, .a, .a, .a]) 1 Bool.false)) (Option.some [.b, .a, .a, .a])) :: (.op Option.none (.pure 3 (vPick (.sl [.d, .d, .d]) (.sl [.b, .a, .a, .a]) (.k (.bool Bool.false)))) (Option.some [.c, .a, .a, .a])) :: (.op Option.none (.pure 1 (vMove (.sl [.c, .a, .a, .a]))) (Option.some [.d, .a, .a, .a])) :: c3_32)
noncomputable def c3_30 : List St := ((.op (Option.some ([.c, .c, .d], Bool.true)) (.look 8 (lLoad (.sl [.d, .c, .d]) 1 Bool.false)) (Option.some [.a, .d, .d])) :: (.op (Option.some ([.c, .c, .d], Bool.true)) (.pure 11 (vBin .no .eql (.sl [.a, .d, .d]) (.k (.int .i64 (.ofNat 3))))) (Option.some [.b, .d, .d])) :: (.op Option.none (.pure 3 (vPick (.sl [.c, .c, .d]) (.sl [.b, .d, .d]) (.k (.bool Bool.false)))) (Option.some [.c, .d, .d])) :: (.op Option.none (.pure 1 (vMove (.sl [.c, .d, .d]))) (Option.some [.d, .d, .d])) :: c3_31)
noncomputable def c3_29 : List St := ((.op (Option.some ([.a, .b, .d], Bool.true)) (.pure 11 (vBin .no .eql (.sl [.c, .b, .d]) (.sl [.d, .b, .d]))) (Option.some [.a, .c, .d])) :: (.op Option.none (.pure 3 (vPick (.sl [.a, .b, .d]) (.sl [.a, .c, .d]) (.k (.bool Bool.false)))) (Option.some [.b, .c, .d])) :: (.op Option.none (.pure 1 (vMove (.sl [.b, .c, .d]))) (Option.some [.c, .c, .d])) :: (.op (Option.some ([.c, .c, .d], Bool.true)) (.pure 18 (vFieldAddr (.sl [.c, .a]) 3)) (Option.some [.d, .c, .d])) :: c3_30)
noncomputable def c3_28 : List St := ((.op Option.none (.pure 1 (vMove (.sl [.d, .a, .d]))) (Option.some [.a, .b, .d])) :: (.op (Option.some ([.a, .b, .d], Bool.true)) (.pure 18 (vFieldAddr (.sl [.c, .a]) 1)) (Option.some [.b, .b, .d])) :: (.op (Option.some ([.a, .b, .d], Bool.true)) (.look 8 (lLoad (.sl [.b, .b, .d]) 1 Bool.false)) (Option.some [.c, .b, .d])) :: (.op (Option.some ([.a, .b, .d], Bool.true)) (.pure 1 (vMove (.sl []))) (Option.some [.d, .b, .d])) :: c3_29)
noncomputable def c3_27 : List St := ((.op (Option.some ([.d, .d, .c], Bool.true)) (.pure 18 (vFieldAddr (.sl [.c, .a]) 0)) (Option.some [.a, .a, .d])) :: (.op (Option.some ([.d, .d, .c], Bool.true)) (.look 8 (lLoad (.sl [.a, .a, .d]) 1 Bool.false)) (Option.some [.b, .a, .d])) :: (.op (Option.some ([.d, .d, .c], Bool.true)) (.pure 11 (vBin .no .eql (.sl [.b, .a, .d]) (.k (.int .i64 (.ofNat 2))))) (Option.some [.c, .a, .d])) :: (.op Option.none (.pure 3 (vPick (.sl [.d, .d, .c]) (.sl [.c, .a, .d]) (.k (.bool Bool.false)))) (Option.some [.d, .a, .d])) :: c3_28)
noncomputable def c3_26 : List St := ((.op (Option.some ([.c, .c, .c], Bool.true)) (.look 8 (lLoad (.sl [.d, .c, .c]) 1 Bool.false)) (Option.some [.a, .d, .c])) :: (.op (Option.some ([.c, .c, .c], Bool.true)) (.pure 12 (vUn .not (.sl [.a, .d, .c]))) (Option.some [.b, .d, .c])) :: (.op Option.none (.pure 3 (vPick (.sl [.c, .c, .c]) (.sl [.b, .d, .c]) (.k (.bool Bool.false)))) (Option.some [.c, .d, .c])) :: (.op Option.none (.pure 1 (vMove (.sl [.c, .d, .c]))) (Option.some [.d, .d, .c])) :: c3_27)
noncomputable def c3_25 : List St := ((.op (Option.some ([.b, .b, .c], Bool.true)) (.pure 11 (vBin .no .eql (.sl [.d, .b, .c]) (.k (.int .i64 (.ofNat 0))))) (Option.some [.a, .c, .c])) :: (.op Option.none (.pure 3 (vPick (.sl [.b, .b, .c]) (.sl [.a, .c, .c]) (.k (.bool Bool.false)))) (Option.some [.b, .c, .c])) :: (.op Option.none (.pure 1 (vMove (.sl [.b, .c, .c]))) (Option.some [.c, .c, .c])) :: (.op (Option.some ([.c, .c, .c], Bool.true)) (.pure 18 (vFieldAddr (.sl [.b, .a]) 4)) (Option.some [.d, .c, .c])) :: c3_26)
noncomputable def c3_24 : List St := ((.op Option.none (.pure 3 (vPick (.sl [.d, .d, .b]) (.sl [.d, .a, .c]) (.k (.bool Bool.false)))) (Option.some [.a, .b, .c])) :: (.op Option.none (.pure 1 (vMove (.sl [.a, .b, .c]))) (Option.some [.b, .b, .c])) :: (.op (Option.some ([.b, .b, .c], Bool.true)) (.pure 18 (vFieldAddr (.sl [.b, .a]) 3)) (Option.some [.c, .b, .c])) :: (.op (Option.some ([.b, .b, .c], Bool.true)) (.look 8 (lLoad (.sl [.c, .b, .c]) 1 Bool.false)) (Option.some [.d, .b, .c])) :: c3_25)
noncomputable def c3_23 : List St := ((.op (Option.some ([.d, .d, .b], Bool.true)) (.pure 18 (vFieldAddr (.sl [.b, .a]) 1)) (Option.some [.a, .a, .c])) :: (.op (Option.some ([.d, .d, .b], Bool.true)) (.look 8 (lLoad (.sl [.a, .a, .c]) 1 Bool.false)) (Option.some [.b, .a, .c])) :: (.op (Option.some ([.d, .d, .b], Bool.true)) (.pure 1 (vMove (.sl []))) (Option.some [.c, .a, .c])) :: (.op (Option.some ([.d, .d, .b], Bool.true)) (.pure 11 (vBin .no .eql (.sl [.b, .a, .c]) (.sl [.c, .a, .c]))) (Option.some [.d, .a, .c])) :: c3_24)
noncomputable def c3_22 : EC := (.seq (.steps ((.op Option.none (.pure 18 (vFieldAddr (.sl [.b, .a]) 0)) (Option.some [.a, .d, .b])) :: (.op Option.none (.look 8 (lLoad (.sl [.a, .d, .b]) 1 Bool.false)) (Option.some [.b, .d, .b])) :: (.op Option.none (.pure 11 (vBin .no .eql (.sl [.b, .d, .b]) (.k (.int .i64 (.ofNat 2))))) (Option.some [.c, .d, .b])) :: (.op Option.none (.pure 1 (vMove (.sl [.c, .d, .b]))) (Option.some [.d, .d, .b])) :: c3_23)) .ret)
noncomputable def c3_20 : EC := (.seq (.steps ((.op Option.none (.pure 1 (vMove (.sl []))) (Option.some [.a, .c, .b])) :: (.op Option.none (.eff (hCall (.k (.fn 12 [] [])) [(.sl [.a, .c, .b])])) (Option.some [.b, .c, .b])) :: (.op Option.none (.pure 11 (vBin .no .add (.k (.str ⟨#[32, 32, 10]⟩)) (.sl [.b, .c, .b]))) (Option.some [.c, .c, .b])) :: (.op Option.none (.eff (hCall (.k (.fn 11 [] [])) [(.sl [.c, .c, .b]), (.k (.int .i64 (.ofNat 1)))])) (Option.some [.d, .c, .b])) :: c3_21)) c3_22)
noncomputable def c3_18 : EC := (.seq (.steps ((.op Option.none (.pure 1 (vMove (.sl []))) (Option.some [.d, .a, .b])) :: (.op Option.none (.eff (hCall (.k (.fn 12 [] [])) [(.sl [.d, .a, .b])])) (Option.some [.a, .b, .b])) :: (.op Option.none (.pure 1 (vMove (.sl [.a]))) (Option.some [.b, .b, .b])) :: (.op Option.none (.pure 11 (vBin .no .add (.sl [.a, .b, .b]) (.sl [.b, .b, .b]))) (Option.some [.c, .b, .b])) :: c3_19)) c3_20)
noncomputable def c3_5 : EC := (.seq (.seq (.steps [(.op Option.none (.pure 2 (vMove (.k (.int .i64 (.ofNat 0))))) (Option.some [.a, .a]))]) c3_6) c3_18)
noncomputable def c3_1 : EC := (.seq (.seq (.steps ((.op Option.none (.pure 1 (vMove (.sl []))) (Option.some [.d, .a])) :: (.op Option.none (.pure 23 (vLenS (.sl [.d, .a]))) (Option.some [.a, .b])) :: (.op Option.none (.pure 11 (vBin .no .gtr (.sl [.a, .b]) (.k (.int .i64 (.ofNat 200))))) (Option.some [.b, .b])) :: (.op Option.none (.pure 1 (vMove (.sl [.b, .b]))) (Option.some [.c, .b])) :: c3_2)) c3_3) c3_5)
noncomputable def c3 : EF := ⟨(.seq (.steps [(.op Option.none (.pure 2 (vMove (.k (.bool Bool.false)))) (Option.some [.d]))]) c3_1), [(.slot (.sl [.d]))], Bool.false⟩
theorem c3_ok : compF Tryd.prog 3 = some c3 := by kernel_rfl
noncomputable def LF3 : FuncId → Option EF := lookF [(3, c3)]
theorem FF3 : LF3 3 = some c3 := rfl

theorem texts_one {call : Calls'} {l B : List UInt8} (hl : l.length ≤ 200) (fuel n : Nat) (h : H) (fr : FT) (hn : n < l.length) (hf : Fit l[n])
    (e0 : Ev.get [] fr = some (.v (T l))) (e1 : Ev.get [.a, .a] fr = some (.v (.int .i64 (n : Int)))) (e2 : Ev.get [.a] fr = some (.v (T B))) :
    ∃ fr', evC call fuel c3_8 fr h = .norm fr' h ∧ Ev.get [] fr' = some (.v (T l)) ∧ Ev.get [.a, .a] fr' = some (.v (.int .i64 ((n + 1 : Nat) : Int))) ∧ Ev.get [.a] fr' = some (.v (T B)) := by
  have w : wrapF .i64 ((n : Int) + 1) = (n : Int) + 1 := wrap64 (by omega) (by omega)
  rcases hf with h10 | ⟨h32, h126⟩
  · refine ⟨?fr, ?e, ?_, ?_, ?_⟩
    case e =>
      simp [-y_Hnew, c3_8, c3_10, c3_11, c3_12, c3_13, c3_14, c3_15, c3_16, c3_17, c3_9, gs, e0, e1, e2, hn, h10, w]
      rfl
    all_goals simp [gs, e0, e1, e2]
  · refine ⟨?fr1, ?e1, ?_, ?_, ?_⟩
    case e1 =>
      simp [-y_Hnew, c3_8, c3_10, c3_11, c3_12, c3_13, c3_14, c3_15, c3_16, c3_17, c3_9, gs, e0, e1, e2, hn, h32, h126, w]
      rfl
    all_goals simp [gs, e0, e1, e2]
theorem texts_out {call : Calls'} (k10' : ∀ h, call 10 [] h = .ret (.bool true) h) {l B : List UInt8} (hl : l.length ≤ 200) (fuel n : Nat) (h : H) (fr : FT) (hn : n < l.length) (hf : ¬ Fit l[n])
    (e0 : Ev.get [] fr = some (.v (T l))) (e1 : Ev.get [.a, .a] fr = some (.v (.int .i64 (n : Int)))) :
    ∃ fr', evC call fuel c3_8 fr h = .ret fr' h ∧ Ev.get [.d] fr' = some (.v (.bool true)) := by
  have h10 : ¬ ((l[n]).toNat : Int) = 10 := fun e => hf (.inl e)
  rcases Decidable.em (((l[n]).toNat : Int) < 32) with h32 | h32
  · refine ⟨?fr, ?e, ?_⟩
    case e =>
      simp [-y_Hnew, c3_8, c3_10, c3_11, c3_12, c3_13, c3_14, c3_15, c3_16, c3_17, c3_9, gs, e0, e1, hn, h10, h32, k10']
      rfl
    all_goals simp [gs, e0, e1]
  · have h126 : 126 < ((l[n]).toNat : Int) := by
      rcases Decidable.em (126 < ((l[n]).toNat : Int)) with h | h
      · exact h
      · exact absurd (.inr ⟨h32, h⟩) hf
    refine ⟨?fr1, ?e1, ?_⟩
    case e1 =>
      simp [-y_Hnew, c3_8, c3_10, c3_11, c3_12, c3_13, c3_14, c3_15, c3_16, c3_17, c3_9, gs, e0, e1, hn, h10, h32, h126, k10']
      rfl
    all_goals simp [gs, e0, e1]
theorem texts_end {call : Calls'} {l B : List UInt8} (fuel n : Nat) (h : H) (fr : FT) (hn : ¬ n < l.length)
    (e0 : Ev.get [] fr = some (.v (T l))) (e1 : Ev.get [.a, .a] fr = some (.v (.int .i64 (n : Int)))) (e2 : Ev.get [.a] fr = some (.v (T B))) :
    ∃ fr', evC call fuel c3_8 fr h = .exit 0 fr' h ∧ Ev.get [] fr' = some (.v (T l)) ∧ Ev.get [.a] fr' = some (.v (T B)) := by
  refine ⟨?fr, ?e, ?_, ?_⟩
  case e =>
    simp [-y_Hnew, c3_8, c3_10, c3_11, c3_12, c3_13, c3_14, c3_15, c3_16, c3_17, c3_9, gs, e0, e1, e2, hn]
    rfl
  all_goals simp [gs, e0, e1, e2]
/-- All bytes may stand in a text: the loop ends; one may not: the call does. -/
theorem texts_all {call : Calls'} (k10' : ∀ h, call 10 [] h = .ret (.bool true) h) {l B : List UInt8} (hl : l.length ≤ 200) (fuel : Nat) : ∀ (k n : Nat) (h : H) (fr : FT) (j : Nat), l.length = n + k → Ev.get [] fr = some (.v (T l)) → Ev.get [.a, .a] fr = some (.v (.int .i64 (n : Int))) → Ev.get [.a] fr = some (.v (T B)) →
    (∃ fr', loopF call fuel c3_8 (k + 1 + j) fr h = .ret fr' h ∧ Ev.get [.d] fr' = some (.v (.bool true))) ∨ ((∀ c ∈ l.drop n, Fit c) ∧ ∃ fr', loopF call fuel c3_8 (k + 1 + j) fr h = .exit 0 fr' h ∧ Ev.get [] fr' = some (.v (T l)) ∧ Ev.get [.a] fr' = some (.v (T B)))
  | 0, n, h, fr, j, hk, e0, e1, e2 => by
    obtain ⟨fr', g1, g2, g3⟩ := texts_end (call := call) fuel n h fr (by omega : ¬ n < l.length) e0 e1 e2
    refine .inr ⟨?_, fr', by rw [show 0 + 1 + j = j + 1 by omega, loopF_succ, g1], g2, g3⟩
    rw [List.drop_eq_nil_of_le (by omega)]
    intro c hc; cases hc
  | k + 1, n, h, fr, j, hk, e0, e1, e2 => by
    have hn : n < l.length := by omega
    have hd : l.drop n = l[n] :: l.drop (n + 1) := List.drop_eq_getElem_cons hn
    rw [show k + 1 + 1 + j = (k + 1 + j) + 1 by omega]
    rcases Classical.em (Fit l[n]) with hf | hf
    · obtain ⟨fr1, g1, a0, a1, a2⟩ := texts_one (call := call) hl fuel n h fr hn hf e0 e1 e2
      rcases texts_all k10' hl fuel k (n + 1) h fr1 j (by omega) a0 a1 a2 with ⟨fr', g2, g3⟩ | ⟨hs, fr', g2, g3, g4⟩
      · exact .inl ⟨fr', by rw [loopF_succ, g1]; exact g2, g3⟩
      · refine .inr ⟨?_, fr', by rw [loopF_succ, g1]; exact g2, g3, g4⟩
        rw [hd]
        intro c hc
        rcases List.mem_cons.1 hc with rfl | hc
        · exact hf
        · exact hs c hc
    · obtain ⟨fr', g1, g2⟩ := texts_out k10' (B := B) hl fuel n h fr hn hf e0 e1
      exact .inl ⟨fr', by rw [loopF_succ, g1], g2⟩
end Go.Proofs.Lx
