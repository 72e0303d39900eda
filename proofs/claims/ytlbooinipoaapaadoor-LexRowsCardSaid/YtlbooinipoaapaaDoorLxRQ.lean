import Derived.Test.YtlbooinipoaapaaDoorLxRW
import Derived.Test.YtlbooinipoaapaaDoorLxText
set_option linter.unusedSimpArgs false
set_option linter.unusedVariables false
set_option linter.unusedSectionVars false
namespace Go.Proofs.Lx
open Go.Ev
noncomputable def c26_7 : EC := (.cond (.sl [.b, .a, .a]) .skip (.exit 0))
noncomputable def c26_17 : EC := (.steps [(.op Option.none (.pure 11 (vBin .no .eql (.sl [.c, .a, .b]) (.k (.int .u8 (.ofNat 92))))) (Option.some [.a, .c, .b])), (.op Option.none (.pure 2 (vMove (.sl [.a, .c, .b]))) (Option.some [.c, .b, .b]))])
noncomputable def c26_16 : EC := (.cond (.sl [.c, .b, .b]) .skip c26_17)
noncomputable def c26_19 : EC := (.steps [(.op Option.none (.pure 1 (vMove (.sl [.c, .a]))) (Option.some [.b, .c, .b])), (.op Option.none (.pure 1 (vMove (.sl []))) (Option.some [.c, .c, .b])), (.op Option.none (.pure 1 (vMove (.sl [.d, .a]))) (Option.some [.d, .c, .b])), (.op Option.none (.pure 21 (vIndex (.sl [.c, .c, .b]) (.sl [.d, .c, .b]))) (Option.some [.a, .d, .b])), (.op Option.none (.new 7 (nSlice 1 1 [(.int .u8 (.ofNat 0))] [(0, (1, (.sl [.a, .d, .b])))])) (Option.some [.b, .d, .b])), (.op Option.none (.eff (hAppend 1 (.sl [.b, .c, .b]) (.sl [.b, .d, .b]) (Option.some [.c, .d, .b]))) (Option.some [.c, .d, .b])), (.op Option.none (.pure 2 (vMove (.sl [.c, .d, .b]))) (Option.some [.c, .a]))])
noncomputable def c26_22 : EC := (.steps [(.op Option.none (.pure 1 (vMove (.sl [.c, .a]))) (Option.some [.b, .a, .c])), (.op Option.none (.new 7 (nSlice 1 1 [(.int .u8 (.ofNat 0))] [(0, (1, (.k (.int .u8 (.ofNat 10)))))])) (Option.some [.c, .a, .c])), (.op Option.none (.eff (hAppend 1 (.sl [.b, .a, .c]) (.sl [.c, .a, .c]) (Option.some [.d, .a, .c]))) (Option.some [.d, .a, .c])), (.op Option.none (.pure 2 (vMove (.sl [.d, .a, .c]))) (Option.some [.c, .a]))])
noncomputable def c26_23 : EC := (.seq (.steps [(.op Option.none (.look 8 (lLoad (.sl [.a, .a]) 5 Bool.true)) (Option.some [.d, .a, .b])), (.op Option.none (.pure 1 (vMove (.sl [.d, .a]))) (Option.some [.a, .b, .b])), (.op Option.none (.pure 6 (vBuild [(.int .i64 (.ofNat 0)), (.str ⟨#[]⟩), (.int .i64 (.ofNat 0)), (.int .i64 (.ofNat 0)), (.bool Bool.false), (.int .i64 (.ofNat 0))] [(0, (5, (.sl [.d, .a, .b]))), (5, (1, (.sl [.a, .b, .b])))])) (Option.some [.b, .b, .b])), (.op Option.none (.eff (hStore (.sl [.b, .a]) (.sl [.b, .b, .b]) 6)) Option.none)]) .ret)
noncomputable def c26_21 : EC := (.cond (.sl [.d, .d, .b]) c26_22 c26_23)
noncomputable def c26_20 : EC := (.seq (.steps [(.op Option.none (.pure 11 (vBin .no .eql (.sl [.c, .a, .b]) (.k (.int .u8 (.ofNat 110))))) (Option.some [.a, .a, .c])), (.op Option.none (.pure 2 (vMove (.sl [.a, .a, .c]))) (Option.some [.d, .d, .b]))]) c26_21)
noncomputable def c26_18 : EC := (.cond (.sl [.c, .b, .b]) c26_19 c26_20)
noncomputable def c26_15 : EC := (.seq (.seq (.steps [(.op Option.none (.pure 11 (vBin .no .eql (.sl [.c, .a, .b]) (.k (.int .u8 (.ofNat 34))))) (Option.some [.d, .b, .b])), (.op Option.none (.pure 2 (vMove (.sl [.d, .b, .b]))) (Option.some [.c, .b, .b]))]) c26_16) c26_18)
noncomputable def c26_14 : EC := (.block 2 c26_15)
noncomputable def c26_13 : EC := (.seq (.steps [(.op Option.none (.pure 1 (vMove (.sl []))) (Option.some [.a, .a, .b])), (.op Option.none (.pure 1 (vMove (.sl [.d, .a]))) (Option.some [.b, .a, .b])), (.op Option.none (.pure 21 (vIndex (.sl [.a, .a, .b]) (.sl [.b, .a, .b]))) (Option.some [.c, .a, .b]))]) c26_14)
noncomputable def c26_12 : EC := (.seq (.steps [(.op Option.none (.pure 1 (vMove (.sl [.d, .a]))) (Option.some [.c, .d, .a])), (.op Option.none (.pure 11 (vBin .no .add (.sl [.c, .d, .a]) (.k (.int .i64 (.ofNat 1))))) (Option.some [.d, .d, .a])), (.op Option.none (.pure 2 (vMove (.sl [.d, .d, .a]))) (Option.some [.d, .a]))]) c26_13)
noncomputable def c26_26 : EC := (.seq (.steps [(.op Option.none (.look 8 (lLoad (.sl [.a, .a]) 5 Bool.true)) (Option.some [.c, .d, .c])), (.op Option.none (.pure 1 (vMove (.sl [.d, .a]))) (Option.some [.d, .d, .c])), (.op Option.none (.pure 6 (vBuild [(.int .i64 (.ofNat 0)), (.str ⟨#[]⟩), (.int .i64 (.ofNat 0)), (.int .i64 (.ofNat 0)), (.bool Bool.false), (.int .i64 (.ofNat 0))] [(0, (5, (.sl [.c, .d, .c]))), (5, (1, (.sl [.d, .d, .c])))])) (Option.some [.a, .a, .d])), (.op Option.none (.eff (hStore (.sl [.b, .a]) (.sl [.a, .a, .d]) 6)) Option.none)]) .ret)
noncomputable def c26_27 : EC := (.steps [(.op Option.none (.pure 1 (vMove (.sl [.c, .a]))) (Option.some [.b, .a, .d])), (.op Option.none (.pure 1 (vMove (.sl [.a, .b]))) (Option.some [.c, .a, .d])), (.op Option.none (.new 7 (nSlice 1 1 [(.int .u8 (.ofNat 0))] [(0, (1, (.sl [.c, .a, .d])))])) (Option.some [.d, .a, .d])), (.op Option.none (.eff (hAppend 1 (.sl [.b, .a, .d]) (.sl [.d, .a, .d]) (Option.some [.a, .b, .d]))) (Option.some [.a, .b, .d])), (.op Option.none (.pure 2 (vMove (.sl [.a, .b, .d]))) (Option.some [.c, .a]))])
noncomputable def c26_25 : EC := (.cond (.sl [.b, .d, .c]) c26_26 c26_27)
noncomputable def c26_24 : EC := (.seq (.steps [(.op Option.none (.pure 1 (vMove (.sl [.a, .b]))) (Option.some [.a, .b, .c])), (.op Option.none (.pure 11 (vBin .no .lss (.sl [.a, .b, .c]) (.k (.int .u8 (.ofNat 32))))) (Option.some [.b, .b, .c])), (.op Option.none (.pure 1 (vMove (.sl [.b, .b, .c]))) (Option.some [.c, .b, .c])), (.op (Option.some ([.c, .b, .c], Bool.false)) (.pure 1 (vMove (.sl [.a, .b]))) (Option.some [.d, .b, .c])), (.op (Option.some ([.c, .b, .c], Bool.false)) (.pure 11 (vBin .no .gtr (.sl [.d, .b, .c]) (.k (.int .u8 (.ofNat 126))))) (Option.some [.a, .c, .c])), (.op Option.none (.pure 3 (vPick (.sl [.c, .b, .c]) (.k (.bool Bool.true)) (.sl [.a, .c, .c]))) (Option.some [.b, .c, .c])), (.op Option.none (.pure 1 (vMove (.sl [.b, .c, .c]))) (Option.some [.c, .c, .c])), (.op (Option.some ([.c, .c, .c], Bool.false)) (.pure 1 (vMove (.sl [.a, .b]))) (Option.some [.d, .c, .c])), (.op (Option.some ([.c, .c, .c], Bool.false)) (.pure 11 (vBin .no .eql (.sl [.d, .c, .c]) (.k (.int .u8 (.ofNat 92))))) (Option.some [.a, .d, .c])), (.op Option.none (.pure 3 (vPick (.sl [.c, .c, .c]) (.k (.bool Bool.true)) (.sl [.a, .d, .c]))) (Option.some [.b, .d, .c]))]) c26_25)
noncomputable def c26_11 : EC := (.cond (.sl [.b, .d, .a]) c26_12 c26_24)
noncomputable def c26_28 : EC := (.steps [(.op Option.none (.pure 1 (vMove (.sl [.d, .a]))) (Option.some [.b, .b, .d])), (.op Option.none (.pure 11 (vBin .no .add (.sl [.b, .b, .d]) (.k (.int .i64 (.ofNat 1))))) (Option.some [.c, .b, .d])), (.op Option.none (.pure 2 (vMove (.sl [.c, .b, .d]))) (Option.some [.d, .a]))])
noncomputable def c26_10 : EC := (.seq (.seq (.steps [(.op Option.none (.pure 1 (vMove (.sl [.a, .b]))) (Option.some [.b, .b, .a])), (.op Option.none (.pure 11 (vBin .no .eql (.sl [.b, .b, .a]) (.k (.int .u8 (.ofNat 92))))) (Option.some [.c, .b, .a])), (.op Option.none (.pure 1 (vMove (.sl [.c, .b, .a]))) (Option.some [.d, .b, .a])), (.op (Option.some ([.d, .b, .a], Bool.true)) (.pure 1 (vMove (.sl [.d, .a]))) (Option.some [.a, .c, .a])), (.op (Option.some ([.d, .b, .a], Bool.true)) (.pure 11 (vBin .no .add (.sl [.a, .c, .a]) (.k (.int .i64 (.ofNat 1))))) (Option.some [.b, .c, .a])), (.op (Option.some ([.d, .b, .a], Bool.true)) (.pure 1 (vMove (.sl []))) (Option.some [.c, .c, .a])), (.op (Option.some ([.d, .b, .a], Bool.true)) (.pure 23 (vLenS (.sl [.c, .c, .a]))) (Option.some [.d, .c, .a])), (.op (Option.some ([.d, .b, .a], Bool.true)) (.pure 11 (vBin .no .lss (.sl [.b, .c, .a]) (.sl [.d, .c, .a]))) (Option.some [.a, .d, .a])), (.op Option.none (.pure 3 (vPick (.sl [.d, .b, .a]) (.sl [.a, .d, .a]) (.k (.bool Bool.false)))) (Option.some [.b, .d, .a]))]) c26_11) c26_28)
noncomputable def c26_9 : EC := (.seq (.steps [(.op Option.none (.pure 1 (vMove (.sl []))) (Option.some [.c, .a, .a])), (.op Option.none (.pure 1 (vMove (.sl [.d, .a]))) (Option.some [.d, .a, .a])), (.op Option.none (.pure 21 (vIndex (.sl [.c, .a, .a]) (.sl [.d, .a, .a]))) (Option.some [.a, .b, .a])), (.op Option.none (.pure 2 (vMove (.sl [.a, .b, .a]))) (Option.some [.a, .b]))]) c26_10)
noncomputable def c26_8 : EC := (.block 1 c26_9)
noncomputable def c26_6 : EC := (.seq (.seq (.steps [(.op Option.none (.pure 1 (vMove (.sl [.d, .a]))) (Option.some [.a, .c])), (.op Option.none (.pure 1 (vMove (.sl []))) (Option.some [.b, .c])), (.op Option.none (.pure 23 (vLenS (.sl [.b, .c]))) (Option.some [.c, .c])), (.op Option.none (.pure 11 (vBin .no .lss (.sl [.a, .c]) (.sl [.c, .c]))) (Option.some [.d, .c])), (.op Option.none (.pure 1 (vMove (.sl [.d, .c]))) (Option.some [.a, .d])), (.op (Option.some ([.a, .d], Bool.true)) (.pure 1 (vMove (.sl []))) (Option.some [.b, .d])), (.op (Option.some ([.a, .d], Bool.true)) (.pure 1 (vMove (.sl [.d, .a]))) (Option.some [.c, .d])), (.op (Option.some ([.a, .d], Bool.true)) (.pure 21 (vIndex (.sl [.b, .d]) (.sl [.c, .d]))) (Option.some [.d, .d])), (.op (Option.some ([.a, .d], Bool.true)) (.pure 11 (vBin .no .neq (.sl [.d, .d]) (.k (.int .u8 (.ofNat 34))))) (Option.some [.a, .a, .a])), (.op Option.none (.pure 3 (vPick (.sl [.a, .d]) (.sl [.a, .a, .a]) (.k (.bool Bool.false)))) (Option.some [.b, .a, .a]))]) c26_7) c26_8)
noncomputable def c26_5 : EC := (.loop c26_6)
noncomputable def c26_31 : EC := (.seq (.steps [(.op Option.none (.look 8 (lLoad (.sl [.a, .a]) 5 Bool.true)) (Option.some [.d, .c, .d])), (.op Option.none (.pure 1 (vMove (.sl [.d, .a]))) (Option.some [.a, .d, .d])), (.op Option.none (.pure 6 (vBuild [(.int .i64 (.ofNat 0)), (.str ⟨#[]⟩), (.int .i64 (.ofNat 0)), (.int .i64 (.ofNat 0)), (.bool Bool.false), (.int .i64 (.ofNat 0))] [(0, (5, (.sl [.d, .c, .d]))), (5, (1, (.sl [.a, .d, .d])))])) (Option.some [.b, .d, .d])), (.op Option.none (.eff (hStore (.sl [.b, .a]) (.sl [.b, .d, .d]) 6)) Option.none)]) .ret)
noncomputable def c26_30 : EC := (.cond (.sl [.c, .c, .d]) c26_31 .skip)
noncomputable def c26_34 : EC := (.seq (.steps [(.op Option.none (.look 8 (lLoad (.sl [.a, .a]) 5 Bool.true)) (Option.some [.c, .a, .a, .a])), (.op Option.none (.pure 1 (vMove (.sl [.d, .a]))) (Option.some [.d, .a, .a, .a])), (.op Option.none (.pure 11 (vBin .no .add (.sl [.d, .a, .a, .a]) (.k (.int .i64 (.ofNat 1))))) (Option.some [.a, .b, .a, .a])), (.op Option.none (.pure 6 (vBuild [(.int .i64 (.ofNat 0)), (.str ⟨#[]⟩), (.int .i64 (.ofNat 0)), (.int .i64 (.ofNat 0)), (.bool Bool.false), (.int .i64 (.ofNat 0))] [(0, (5, (.sl [.c, .a, .a, .a]))), (5, (1, (.sl [.a, .b, .a, .a])))])) (Option.some [.b, .b, .a, .a])), (.op Option.none (.eff (hStore (.sl [.b, .a]) (.sl [.b, .b, .a, .a]) 6)) Option.none)]) .ret)
noncomputable def c26_33 : EC := (.seq (.steps [(.op Option.none (.pure 1 (vMove (.sl [.c, .a]))) (Option.some [.d, .d, .d])), (.op Option.none (.look 13 (lBytes (.sl [.d, .d, .d]))) (Option.some [.a, .a, .a, .a])), (.op Option.none (.pure 18 (vFieldAddr (.sl [.a, .a]) 1)) (Option.some [.b, .a, .a, .a])), (.op Option.none (.eff (hStore (.sl [.b, .a, .a, .a]) (.sl [.a, .a, .a, .a]) 1)) Option.none)]) c26_34)
noncomputable def c26_32 : EC := (.seq (.steps [(.op Option.none (.pure 18 (vFieldAddr (.sl [.a, .a]) 0)) (Option.some [.c, .d, .d])), (.op Option.none (.eff (hStore (.sl [.c, .d, .d]) (.k (.int .i64 (.ofNat 2))) 1)) Option.none)]) c26_33)
noncomputable def c26_29 : EC := (.seq (.seq (.steps [(.op Option.none (.pure 1 (vMove (.sl [.d, .a]))) (Option.some [.d, .b, .d])), (.op Option.none (.pure 1 (vMove (.sl []))) (Option.some [.a, .c, .d])), (.op Option.none (.pure 23 (vLenS (.sl [.a, .c, .d]))) (Option.some [.b, .c, .d])), (.op Option.none (.pure 11 (vBin .no .geq (.sl [.d, .b, .d]) (.sl [.b, .c, .d]))) (Option.some [.c, .c, .d]))]) c26_30) c26_32)
noncomputable def c26_4 : EC := (.seq (.block 0 c26_5) c26_29)
noncomputable def c26_3 : EC := (.seq (.steps [(.op Option.none (.pure 1 (vMove (.sl [.a]))) (Option.some [.c, .b])), (.op Option.none (.pure 11 (vBin .no .add (.sl [.c, .b]) (.k (.int .i64 (.ofNat 1))))) (Option.some [.d, .b])), (.op Option.none (.pure 2 (vMove (.sl [.d, .b]))) (Option.some [.d, .a]))]) c26_4)
noncomputable def c26_2 : EC := (.seq (.steps [(.op Option.none (.pure 2 (vMove (.k .nils))) (Option.some [.c, .a]))]) c26_3)
noncomputable def c26_1 : EC := (.seq (.steps [(.op Option.none (.pure 18 (vFieldAddr (.sl [.a, .a]) 0)) (Option.some [.b, .b])), (.op Option.none (.eff (hStore (.sl [.b, .b]) (.k (.int .i64 (.ofNat 6))) 1)) Option.none)]) c26_2)
noncomputable def c26 : EF := ⟨(.seq (.steps [(.op Option.none (.eff (bLocV 5 (.sl [.b]) [.a, .a])) (Option.some [.a, .a])), (.op Option.none (.eff (bLoc [(.int .i64 (.ofNat 0)), (.str ⟨#[]⟩), (.int .i64 (.ofNat 0)), (.int .i64 (.ofNat 0)), (.bool Bool.false), (.int .i64 (.ofNat 0))] [.b, .a])) (Option.some [.b, .a]))]) c26_1), [(.cell (.sl [.b, .a]) 6 Bool.true)], Bool.false⟩
theorem c26_ok : compF Tryd.prog 26 = some c26 := by kernel_rfl
noncomputable def LF26 : FuncId → Option EF := lookF [(26, c26)]
theorem FF26 : LF26 26 = some c26 := rfl

abbrev Z6 : List AV := [.int .i64 0, .str ⟨#[]⟩, .int .i64 0, .int .i64 0, .bool false, .int .i64 0]
section
variable {call : Calls'} {l : List UInt8} {g g' m : Nat} {b : Bool} (hl : l.length ≤ 1000000)
include hl
theorem rq_plain (fuel n : Nat) (h0 h : H) (v : AV) (acc : List UInt8) (fr : FT) (hn : n < l.length) (hx : ¬ ((l[n]).toNat : Int) = 34) (h92 : ¬ ((l[n]).toNat : Int) = 92) (h32 : ¬ ((l[n]).toNat : Int) < 32) (h126 : ¬ 126 < ((l[n]).toNat : Int)) (ho : OutOk h0 h v acc) (hs : Since h0 h) (ha : acc.length ≤ n) (e : Ev.get [] fr = some (.v (T l)) ∧ Ev.get [.a, .a] fr = some (.box g [.int .i64 6, .str ⟨#[]⟩, .int .i64 0, .int .i64 (m : Int), .bool b]) ∧ Ev.get [.b, .a] fr = some (.box g' Z6)) (e2 : Ev.get [.d, .a] fr = some (.v (.int .i64 (n : Int)))) (e3 : Ev.get [.c, .a] fr = some (.v v)) :
    ∃ fr' h' v', evC call fuel c26_6 fr h = .norm fr' h' ∧ OutOk h0 h' v' (acc ++ [l[n]]) ∧ Since h0 h' ∧ (Ev.get [] fr' = some (.v (T l)) ∧ Ev.get [.a, .a] fr' = some (.box g [.int .i64 6, .str ⟨#[]⟩, .int .i64 0, .int .i64 (m : Int), .bool b]) ∧ Ev.get [.b, .a] fr' = some (.box g' Z6)) ∧ Ev.get [.d, .a] fr' = some (.v (.int .i64 ((n + 1 : Nat) : Int))) ∧ Ev.get [.c, .a] fr' = some (.v v') := by
  obtain ⟨e0, e1, e4⟩ := e
  have w : wrapF .i64 ((n : Int) + 1) = (n : Int) + 1 := wrap64 (by omega) (by omega)
  obtain ⟨v', h', a1, a2, a3, a4, a5⟩ := out_more ho hs l[n] (by omega)
  have hmost : acc.length + 1 ≤ most := by unfold most; omega
  refine ⟨?fr, h', v', ?e, a3, a4, ⟨?_, ?_, ?_⟩, ?_, ?_⟩
  case e =>
    simp [-y_Hnew, -lenOf, c26_6, c26_10, c26_11, c26_12, c26_13, c26_14, c26_15, c26_16, c26_17, c26_18, c26_19, c26_20, c26_21, c26_22, c26_23, c26_24, c26_25, c26_26, c26_27, c26_28, c26_7, c26_8, c26_9, gs, e0, e1, e2, e3, e4, hn, hx, hAppend, apOut, a1, a2, hmost, h92, h32, h126, w]
    rfl
  all_goals simp [gs, e0, e1, e2, e3, e4]
  all_goals omega
theorem rq_q (fuel n : Nat) (h0 h : H) (v : AV) (acc : List UInt8) (fr : FT) (hn : n < l.length) (hx : ¬ ((l[n]).toNat : Int) = 34) (k : Nat) (hk : k = n + 1) (h92 : ((l[n]).toNat : Int) = 92) (h1 : k < l.length) (hd : ((l[k]).toNat : Int) = 34) (ho : OutOk h0 h v acc) (hs : Since h0 h) (ha : acc.length ≤ n) (e : Ev.get [] fr = some (.v (T l)) ∧ Ev.get [.a, .a] fr = some (.box g [.int .i64 6, .str ⟨#[]⟩, .int .i64 0, .int .i64 (m : Int), .bool b]) ∧ Ev.get [.b, .a] fr = some (.box g' Z6)) (e2 : Ev.get [.d, .a] fr = some (.v (.int .i64 (n : Int)))) (e3 : Ev.get [.c, .a] fr = some (.v v)) :
    ∃ fr' h' v', evC call fuel c26_6 fr h = .norm fr' h' ∧ OutOk h0 h' v' (acc ++ [l[k]]) ∧ Since h0 h' ∧ (Ev.get [] fr' = some (.v (T l)) ∧ Ev.get [.a, .a] fr' = some (.box g [.int .i64 6, .str ⟨#[]⟩, .int .i64 0, .int .i64 (m : Int), .bool b]) ∧ Ev.get [.b, .a] fr' = some (.box g' Z6)) ∧ Ev.get [.d, .a] fr' = some (.v (.int .i64 ((n + 2 : Nat) : Int))) ∧ Ev.get [.c, .a] fr' = some (.v v') := by
  obtain ⟨e0, e1, e4⟩ := e
  have w : wrapF .i64 ((n : Int) + 1) = (k : Int) := by rw [hk]; exact wrap64 (by omega) (by omega)
  have w2 : wrapF .i64 ((k : Int) + 1) = (k : Int) + 1 := wrap64 (by omega) (by omega)
  obtain ⟨v', h', a1, a2, a3, a4, a5⟩ := out_more ho hs l[k] (by omega)
  rw [hd] at a1
  have hmost : acc.length + 1 ≤ most := by unfold most; omega
  refine ⟨?fr, h', v', ?e, a3, a4, ⟨?_, ?_, ?_⟩, ?_, ?_⟩
  case e =>
    simp [-y_Hnew, -lenOf, c26_6, c26_10, c26_11, c26_12, c26_13, c26_14, c26_15, c26_16, c26_17, c26_18, c26_19, c26_20, c26_21, c26_22, c26_23, c26_24, c26_25, c26_26, c26_27, c26_28, c26_7, c26_8, c26_9, gs, e0, e1, e2, e3, e4, hn, hx, hAppend, apOut, a1, a2, hmost, h92, h1, hd, w, w2]
    rfl
  all_goals simp [gs, e0, e1, e2, e3, e4]
  all_goals omega
theorem rq_b (fuel n : Nat) (h0 h : H) (v : AV) (acc : List UInt8) (fr : FT) (hn : n < l.length) (hx : ¬ ((l[n]).toNat : Int) = 34) (k : Nat) (hk : k = n + 1) (h92 : ((l[n]).toNat : Int) = 92) (h1 : k < l.length) (hd : ((l[k]).toNat : Int) = 92) (ho : OutOk h0 h v acc) (hs : Since h0 h) (ha : acc.length ≤ n) (e : Ev.get [] fr = some (.v (T l)) ∧ Ev.get [.a, .a] fr = some (.box g [.int .i64 6, .str ⟨#[]⟩, .int .i64 0, .int .i64 (m : Int), .bool b]) ∧ Ev.get [.b, .a] fr = some (.box g' Z6)) (e2 : Ev.get [.d, .a] fr = some (.v (.int .i64 (n : Int)))) (e3 : Ev.get [.c, .a] fr = some (.v v)) :
    ∃ fr' h' v', evC call fuel c26_6 fr h = .norm fr' h' ∧ OutOk h0 h' v' (acc ++ [l[k]]) ∧ Since h0 h' ∧ (Ev.get [] fr' = some (.v (T l)) ∧ Ev.get [.a, .a] fr' = some (.box g [.int .i64 6, .str ⟨#[]⟩, .int .i64 0, .int .i64 (m : Int), .bool b]) ∧ Ev.get [.b, .a] fr' = some (.box g' Z6)) ∧ Ev.get [.d, .a] fr' = some (.v (.int .i64 ((n + 2 : Nat) : Int))) ∧ Ev.get [.c, .a] fr' = some (.v v') := by
  obtain ⟨e0, e1, e4⟩ := e
  have w : wrapF .i64 ((n : Int) + 1) = (k : Int) := by rw [hk]; exact wrap64 (by omega) (by omega)
  have w2 : wrapF .i64 ((k : Int) + 1) = (k : Int) + 1 := wrap64 (by omega) (by omega)
  obtain ⟨v', h', a1, a2, a3, a4, a5⟩ := out_more ho hs l[k] (by omega)
  rw [hd] at a1
  have hmost : acc.length + 1 ≤ most := by unfold most; omega
  refine ⟨?fr, h', v', ?e, a3, a4, ⟨?_, ?_, ?_⟩, ?_, ?_⟩
  case e =>
    simp [-y_Hnew, -lenOf, c26_6, c26_10, c26_11, c26_12, c26_13, c26_14, c26_15, c26_16, c26_17, c26_18, c26_19, c26_20, c26_21, c26_22, c26_23, c26_24, c26_25, c26_26, c26_27, c26_28, c26_7, c26_8, c26_9, gs, e0, e1, e2, e3, e4, hn, hx, hAppend, apOut, a1, a2, hmost, h92, h1, hd, w, w2]
    rfl
  all_goals simp [gs, e0, e1, e2, e3, e4]
  all_goals omega
theorem rq_n (fuel n : Nat) (h0 h : H) (v : AV) (acc : List UInt8) (fr : FT) (hn : n < l.length) (hx : ¬ ((l[n]).toNat : Int) = 34) (k : Nat) (hk : k = n + 1) (h92 : ((l[n]).toNat : Int) = 92) (h1 : k < l.length) (hd : ((l[k]).toNat : Int) = 110) (ho : OutOk h0 h v acc) (hs : Since h0 h) (ha : acc.length ≤ n) (e : Ev.get [] fr = some (.v (T l)) ∧ Ev.get [.a, .a] fr = some (.box g [.int .i64 6, .str ⟨#[]⟩, .int .i64 0, .int .i64 (m : Int), .bool b]) ∧ Ev.get [.b, .a] fr = some (.box g' Z6)) (e2 : Ev.get [.d, .a] fr = some (.v (.int .i64 (n : Int)))) (e3 : Ev.get [.c, .a] fr = some (.v v)) :
    ∃ fr' h' v', evC call fuel c26_6 fr h = .norm fr' h' ∧ OutOk h0 h' v' (acc ++ [(10 : UInt8)]) ∧ Since h0 h' ∧ (Ev.get [] fr' = some (.v (T l)) ∧ Ev.get [.a, .a] fr' = some (.box g [.int .i64 6, .str ⟨#[]⟩, .int .i64 0, .int .i64 (m : Int), .bool b]) ∧ Ev.get [.b, .a] fr' = some (.box g' Z6)) ∧ Ev.get [.d, .a] fr' = some (.v (.int .i64 ((n + 2 : Nat) : Int))) ∧ Ev.get [.c, .a] fr' = some (.v v') := by
  obtain ⟨e0, e1, e4⟩ := e
  have w : wrapF .i64 ((n : Int) + 1) = (k : Int) := by rw [hk]; exact wrap64 (by omega) (by omega)
  have w2 : wrapF .i64 ((k : Int) + 1) = (k : Int) + 1 := wrap64 (by omega) (by omega)
  obtain ⟨v', h', a1, a2, a3, a4, a5⟩ := out_more ho hs (10 : UInt8) (by omega)
  rw [show ((10 : UInt8).toNat : Int) = 10 from rfl] at a1
  have hmost : acc.length + 1 ≤ most := by unfold most; omega
  refine ⟨?fr, h', v', ?e, a3, a4, ⟨?_, ?_, ?_⟩, ?_, ?_⟩
  case e =>
    simp [-y_Hnew, -lenOf, c26_6, c26_10, c26_11, c26_12, c26_13, c26_14, c26_15, c26_16, c26_17, c26_18, c26_19, c26_20, c26_21, c26_22, c26_23, c26_24, c26_25, c26_26, c26_27, c26_28, c26_7, c26_8, c26_9, gs, e0, e1, e2, e3, e4, hn, hx, hAppend, apOut, a1, a2, hmost, h92, h1, hd, w, w2]
    rfl
  all_goals simp [gs, e0, e1, e2, e3, e4]
  all_goals omega
theorem rq_bad (fuel n : Nat) (h : H) (v : AV) (fr : FT) (hn : n < l.length) (hx : ¬ ((l[n]).toNat : Int) = 34) (k : Nat) (hk : k = n + 1) (h92 : ((l[n]).toNat : Int) = 92) (h1 : k < l.length) (d34 : ¬ ((l[k]).toNat : Int) = 34) (d92 : ¬ ((l[k]).toNat : Int) = 92) (d110 : ¬ ((l[k]).toNat : Int) = 110) (e : Ev.get [] fr = some (.v (T l)) ∧ Ev.get [.a, .a] fr = some (.box g [.int .i64 6, .str ⟨#[]⟩, .int .i64 0, .int .i64 (m : Int), .bool b]) ∧ Ev.get [.b, .a] fr = some (.box g' Z6)) (e2 : Ev.get [.d, .a] fr = some (.v (.int .i64 (n : Int)))) (e3 : Ev.get [.c, .a] fr = some (.v v)) :
    ∃ fr', evC call fuel c26_6 fr h = .ret fr' h ∧ Ev.get [.b, .a] fr' = some (.box g' [.int .i64 6, .str ⟨#[]⟩, .int .i64 0, .int .i64 (m : Int), .bool b, .int .i64 ((k : Nat) : Int)]) := by
  obtain ⟨e0, e1, e4⟩ := e
  have w : wrapF .i64 ((n : Int) + 1) = (k : Int) := by rw [hk]; exact wrap64 (by omega) (by omega)
  have w2 : wrapF .i64 ((k : Int) + 1) = (k : Int) + 1 := wrap64 (by omega) (by omega)
  refine ⟨?fr, ?e, ?_⟩
  case e =>
    simp [-y_Hnew, -lenOf, c26_6, c26_10, c26_11, c26_12, c26_13, c26_14, c26_15, c26_16, c26_17, c26_18, c26_19, c26_20, c26_21, c26_22, c26_23, c26_24, c26_25, c26_26, c26_27, c26_28, c26_7, c26_8, c26_9, gs, e0, e1, e2, e3, e4, hn, hx, h92, h1, d34, d92, d110, w, w2]
    rfl
  all_goals simp [gs, e0, e1, e2, e3, e4]
theorem rq_last (fuel n : Nat) (h : H) (v : AV) (fr : FT) (hn : n < l.length) (hx : ¬ ((l[n]).toNat : Int) = 34) (k : Nat) (hk : k = n + 1) (h92 : ((l[n]).toNat : Int) = 92) (h1 : ¬ k < l.length) (e : Ev.get [] fr = some (.v (T l)) ∧ Ev.get [.a, .a] fr = some (.box g [.int .i64 6, .str ⟨#[]⟩, .int .i64 0, .int .i64 (m : Int), .bool b]) ∧ Ev.get [.b, .a] fr = some (.box g' Z6)) (e2 : Ev.get [.d, .a] fr = some (.v (.int .i64 (n : Int)))) (e3 : Ev.get [.c, .a] fr = some (.v v)) :
    ∃ fr', evC call fuel c26_6 fr h = .ret fr' h ∧ Ev.get [.b, .a] fr' = some (.box g' [.int .i64 6, .str ⟨#[]⟩, .int .i64 0, .int .i64 (m : Int), .bool b, .int .i64 ((n : Nat) : Int)]) := by
  obtain ⟨e0, e1, e4⟩ := e
  have w : wrapF .i64 ((n : Int) + 1) = (k : Int) := by rw [hk]; exact wrap64 (by omega) (by omega)
  have w2 : wrapF .i64 ((k : Int) + 1) = (k : Int) + 1 := wrap64 (by omega) (by omega)
  refine ⟨?fr, ?e, ?_⟩
  case e =>
    simp [-y_Hnew, -lenOf, c26_6, c26_10, c26_11, c26_12, c26_13, c26_14, c26_15, c26_16, c26_17, c26_18, c26_19, c26_20, c26_21, c26_22, c26_23, c26_24, c26_25, c26_26, c26_27, c26_28, c26_7, c26_8, c26_9, gs, e0, e1, e2, e3, e4, hn, hx, h92, h1, w, w2]
    rfl
  all_goals simp [gs, e0, e1, e2, e3, e4]
theorem rq_low (fuel n : Nat) (h : H) (v : AV) (fr : FT) (hn : n < l.length) (hx : ¬ ((l[n]).toNat : Int) = 34) (h92 : ¬ ((l[n]).toNat : Int) = 92) (h32 : ((l[n]).toNat : Int) < 32) (e : Ev.get [] fr = some (.v (T l)) ∧ Ev.get [.a, .a] fr = some (.box g [.int .i64 6, .str ⟨#[]⟩, .int .i64 0, .int .i64 (m : Int), .bool b]) ∧ Ev.get [.b, .a] fr = some (.box g' Z6)) (e2 : Ev.get [.d, .a] fr = some (.v (.int .i64 (n : Int)))) (e3 : Ev.get [.c, .a] fr = some (.v v)) :
    ∃ fr', evC call fuel c26_6 fr h = .ret fr' h ∧ Ev.get [.b, .a] fr' = some (.box g' [.int .i64 6, .str ⟨#[]⟩, .int .i64 0, .int .i64 (m : Int), .bool b, .int .i64 ((n : Nat) : Int)]) := by
  obtain ⟨e0, e1, e4⟩ := e
  have w : wrapF .i64 ((n : Int) + 1) = (n : Int) + 1 := wrap64 (by omega) (by omega)
  refine ⟨?fr, ?e, ?_⟩
  case e =>
    simp [-y_Hnew, -lenOf, c26_6, c26_10, c26_11, c26_12, c26_13, c26_14, c26_15, c26_16, c26_17, c26_18, c26_19, c26_20, c26_21, c26_22, c26_23, c26_24, c26_25, c26_26, c26_27, c26_28, c26_7, c26_8, c26_9, gs, e0, e1, e2, e3, e4, hn, hx, h92, h32, w]
    rfl
  all_goals simp [gs, e0, e1, e2, e3, e4]
theorem rq_high (fuel n : Nat) (h : H) (v : AV) (fr : FT) (hn : n < l.length) (hx : ¬ ((l[n]).toNat : Int) = 34) (h92 : ¬ ((l[n]).toNat : Int) = 92) (h32 : ¬ ((l[n]).toNat : Int) < 32) (h126 : 126 < ((l[n]).toNat : Int)) (e : Ev.get [] fr = some (.v (T l)) ∧ Ev.get [.a, .a] fr = some (.box g [.int .i64 6, .str ⟨#[]⟩, .int .i64 0, .int .i64 (m : Int), .bool b]) ∧ Ev.get [.b, .a] fr = some (.box g' Z6)) (e2 : Ev.get [.d, .a] fr = some (.v (.int .i64 (n : Int)))) (e3 : Ev.get [.c, .a] fr = some (.v v)) :
    ∃ fr', evC call fuel c26_6 fr h = .ret fr' h ∧ Ev.get [.b, .a] fr' = some (.box g' [.int .i64 6, .str ⟨#[]⟩, .int .i64 0, .int .i64 (m : Int), .bool b, .int .i64 ((n : Nat) : Int)]) := by
  obtain ⟨e0, e1, e4⟩ := e
  have w : wrapF .i64 ((n : Int) + 1) = (n : Int) + 1 := wrap64 (by omega) (by omega)
  refine ⟨?fr, ?e, ?_⟩
  case e =>
    simp [-y_Hnew, -lenOf, c26_6, c26_10, c26_11, c26_12, c26_13, c26_14, c26_15, c26_16, c26_17, c26_18, c26_19, c26_20, c26_21, c26_22, c26_23, c26_24, c26_25, c26_26, c26_27, c26_28, c26_7, c26_8, c26_9, gs, e0, e1, e2, e3, e4, hn, hx, h92, h32, h126, w]
    rfl
  all_goals simp [gs, e0, e1, e2, e3, e4]
theorem rq_end (fuel n : Nat) (h : H) (v : AV) (fr : FT) (hx : ∀ hn : n < l.length, ((l[n]).toNat : Int) = 34) (e : Ev.get [] fr = some (.v (T l)) ∧ Ev.get [.a, .a] fr = some (.box g [.int .i64 6, .str ⟨#[]⟩, .int .i64 0, .int .i64 (m : Int), .bool b]) ∧ Ev.get [.b, .a] fr = some (.box g' Z6)) (e2 : Ev.get [.d, .a] fr = some (.v (.int .i64 (n : Int)))) (e3 : Ev.get [.c, .a] fr = some (.v v)) :
    ∃ fr', evC call fuel c26_6 fr h = .exit 0 fr' h ∧ (Ev.get [] fr' = some (.v (T l)) ∧ Ev.get [.a, .a] fr' = some (.box g [.int .i64 6, .str ⟨#[]⟩, .int .i64 0, .int .i64 (m : Int), .bool b]) ∧ Ev.get [.b, .a] fr' = some (.box g' Z6)) ∧ Ev.get [.d, .a] fr' = some (.v (.int .i64 (n : Int))) ∧ Ev.get [.c, .a] fr' = some (.v v) := by
  obtain ⟨e0, e1, e4⟩ := e
  by_cases hn : n < l.length
  · have hx := hx hn
    refine ⟨?fr, ?e, ⟨?_, ?_, ?_⟩, ?_, ?_⟩
    case e =>
      simp [-y_Hnew, -lenOf, c26_6, c26_10, c26_11, c26_12, c26_13, c26_14, c26_15, c26_16, c26_17, c26_18, c26_19, c26_20, c26_21, c26_22, c26_23, c26_24, c26_25, c26_26, c26_27, c26_28, c26_7, c26_8, c26_9, gs, e0, e1, e2, e3, e4, hn, hx]
      rfl
    all_goals simp [gs, e0, e1, e2, e3, e4]
  · refine ⟨?fr2, ?e2, ⟨?_, ?_, ?_⟩, ?_, ?_⟩
    case e2 =>
      simp [-y_Hnew, -lenOf, c26_6, c26_10, c26_11, c26_12, c26_13, c26_14, c26_15, c26_16, c26_17, c26_18, c26_19, c26_20, c26_21, c26_22, c26_23, c26_24, c26_25, c26_26, c26_27, c26_28, c26_7, c26_8, c26_9, gs, e0, e1, e2, e3, e4, hn]
      rfl
    all_goals simp [gs, e0, e1, e2, e3, e4]
end
end Go.Proofs.Lx
