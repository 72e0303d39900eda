import Derived.Test.YtlbooinipoaapaaDoorLxRB
import Derived.Test.YtlbooinipoaapaaDoorLxChain
set_option linter.unusedSimpArgs false
set_option linter.unusedVariables false
set_option linter.unusedSectionVars false
namespace Go.Proofs.Lx
open Go.Ev
noncomputable def c25_5 : EC := (.cond (.sl [.d, .d]) .skip (.exit 0))
noncomputable def c25_8 : EC := (.steps [(.op Option.none (.pure 1 (vMove (.sl [.c, .a]))) (Option.some [.b, .c, .a])), (.op Option.none (.pure 11 (vBin .no .add (.sl [.b, .c, .a]) (.k (.int .i64 (.ofNat 1))))) (Option.some [.c, .c, .a])), (.op Option.none (.pure 2 (vMove (.sl [.c, .c, .a]))) (Option.some [.c, .a]))])
noncomputable def c25_7 : EC := (.seq (.steps [(.op Option.none (.pure 1 (vMove (.sl [.d, .a]))) (Option.some [.a, .a, .a])), (.op Option.none (.pure 11 (vBin .no .mul (.sl [.a, .a, .a]) (.k (.int .i64 (.ofNat 10))))) (Option.some [.b, .a, .a])), (.op Option.none (.pure 1 (vMove (.sl []))) (Option.some [.c, .a, .a])), (.op Option.none (.pure 1 (vMove (.sl [.c, .a]))) (Option.some [.d, .a, .a])), (.op Option.none (.pure 21 (vIndex (.sl [.c, .a, .a]) (.sl [.d, .a, .a]))) (Option.some [.a, .b, .a])), (.op Option.none (.pure 11 (vBin .no .sub (.sl [.a, .b, .a]) (.k (.int .u8 (.ofNat 48))))) (Option.some [.b, .b, .a])), (.op Option.none (.pure 13 (vConvInt .i64 (.sl [.b, .b, .a]))) (Option.some [.c, .b, .a])), (.op Option.none (.pure 11 (vBin .no .add (.sl [.b, .a, .a]) (.sl [.c, .b, .a]))) (Option.some [.d, .b, .a])), (.op Option.none (.pure 25 (vMinMax Bool.false (.sl [.d, .b, .a]) (.k (.int .i64 (.ofNat 2147483648))))) (Option.some [.a, .c, .a])), (.op Option.none (.pure 2 (vMove (.sl [.a, .c, .a]))) (Option.some [.d, .a]))]) c25_8)
noncomputable def c25_6 : EC := (.block 1 c25_7)
noncomputable def c25_4 : EC := (.seq (.seq (.steps [(.op Option.none (.pure 1 (vMove (.sl [.c, .a]))) (Option.some [.c, .b])), (.op Option.none (.pure 1 (vMove (.sl []))) (Option.some [.d, .b])), (.op Option.none (.pure 23 (vLenS (.sl [.d, .b]))) (Option.some [.a, .c])), (.op Option.none (.pure 11 (vBin .no .lss (.sl [.c, .b]) (.sl [.a, .c]))) (Option.some [.b, .c])), (.op Option.none (.pure 1 (vMove (.sl [.b, .c]))) (Option.some [.c, .c])), (.op (Option.some ([.c, .c], Bool.true)) (.pure 1 (vMove (.sl []))) (Option.some [.d, .c])), (.op (Option.some ([.c, .c], Bool.true)) (.pure 1 (vMove (.sl [.c, .a]))) (Option.some [.a, .d])), (.op (Option.some ([.c, .c], Bool.true)) (.pure 21 (vIndex (.sl [.d, .c]) (.sl [.a, .d]))) (Option.some [.b, .d])), (.op (Option.some ([.c, .c], Bool.true)) (.eff (hCall (.k (.fn 24 [] [])) [(.sl [.b, .d])])) (Option.some [.c, .d])), (.op Option.none (.pure 3 (vPick (.sl [.c, .c]) (.sl [.c, .d]) (.k (.bool Bool.false)))) (Option.some [.d, .d]))]) c25_5) c25_6)
noncomputable def c25_3 : EC := (.loop c25_4)
noncomputable def c25_13 : EC := (.seq (.steps [(.op Option.none (.look 8 (lLoad (.sl [.a, .a]) 5 Bool.true)) (Option.some [.d, .b, .c])), (.op Option.none (.pure 1 (vMove (.sl [.c, .a]))) (Option.some [.a, .c, .c])), (.op Option.none (.pure 6 (vBuild [(.int .i64 (.ofNat 0)), (.str ⟨#[]⟩), (.int .i64 (.ofNat 0)), (.int .i64 (.ofNat 0)), (.bool Bool.false), (.int .i64 (.ofNat 0))] [(0, (5, (.sl [.d, .b, .c]))), (5, (1, (.sl [.a, .c, .c])))])) (Option.some [.b, .c, .c])), (.op Option.none (.eff (hStore (.sl [.b, .a]) (.sl [.b, .c, .c]) 6)) Option.none)]) .ret)
noncomputable def c25_12 : EC := (.seq (.steps [(.op Option.none (.pure 18 (vFieldAddr (.sl [.a, .a]) 0)) (Option.some [.c, .b, .c])), (.op Option.none (.eff (hStore (.sl [.c, .b, .c]) (.k (.int .i64 (.ofNat 6))) 1)) Option.none)]) c25_13)
noncomputable def c25_11 : EC := (.cond (.sl [.b, .b, .c]) c25_12 .skip)
noncomputable def c25_17 : EC := (.seq (.steps [(.op Option.none (.look 8 (lLoad (.sl [.a, .a]) 5 Bool.true)) (Option.some [.c, .a, .d])), (.op Option.none (.pure 1 (vMove (.sl [.c, .a]))) (Option.some [.d, .a, .d])), (.op Option.none (.pure 6 (vBuild [(.int .i64 (.ofNat 0)), (.str ⟨#[]⟩), (.int .i64 (.ofNat 0)), (.int .i64 (.ofNat 0)), (.bool Bool.false), (.int .i64 (.ofNat 0))] [(0, (5, (.sl [.c, .a, .d]))), (5, (1, (.sl [.d, .a, .d])))])) (Option.some [.a, .b, .d])), (.op Option.none (.eff (hStore (.sl [.b, .a]) (.sl [.a, .b, .d]) 6)) Option.none)]) .ret)
noncomputable def c25_16 : EC := (.seq (.steps [(.op Option.none (.pure 1 (vMove (.sl []))) (Option.some [.b, .d, .c])), (.op Option.none (.pure 1 (vMove (.sl [.a]))) (Option.some [.c, .d, .c])), (.op Option.none (.pure 1 (vMove (.sl [.c, .a]))) (Option.some [.d, .d, .c])), (.op Option.none (.pure 17 (vSliceS (.sl [.b, .d, .c]) (Option.some (.sl [.c, .d, .c])) (Option.some (.sl [.d, .d, .c])))) (Option.some [.a, .a, .d])), (.op Option.none (.pure 18 (vFieldAddr (.sl [.a, .a]) 1)) (Option.some [.b, .a, .d])), (.op Option.none (.eff (hStore (.sl [.b, .a, .d]) (.sl [.a, .a, .d]) 1)) Option.none)]) c25_17)
noncomputable def c25_15 : EC := (.seq (.steps [(.op Option.none (.pure 1 (vMove (.sl [.d, .a]))) (Option.some [.d, .c, .c])), (.op Option.none (.pure 18 (vFieldAddr (.sl [.a, .a]) 2)) (Option.some [.a, .d, .c])), (.op Option.none (.eff (hStore (.sl [.a, .d, .c]) (.sl [.d, .c, .c]) 1)) Option.none)]) c25_16)
noncomputable def c25_14 : EC := (.seq (.steps [(.op Option.none (.pure 18 (vFieldAddr (.sl [.a, .a]) 0)) (Option.some [.c, .c, .c])), (.op Option.none (.eff (hStore (.sl [.c, .c, .c]) (.k (.int .i64 (.ofNat 1))) 1)) Option.none)]) c25_15)
noncomputable def c25_10 : EC := (.seq (.seq (.steps [(.op Option.none (.pure 1 (vMove (.sl [.a, .b]))) (Option.some [.b, .b, .c]))]) c25_11) c25_14)
noncomputable def c25_9 : EC := (.seq (.steps [(.op Option.none (.pure 1 (vMove (.sl [.d, .a]))) (Option.some [.d, .c, .a])), (.op Option.none (.pure 11 (vBin .no .gtr (.sl [.d, .c, .a]) (.k (.int .i64 (.ofNat 2147483647))))) (Option.some [.a, .d, .a])), (.op Option.none (.pure 1 (vMove (.sl [.a, .d, .a]))) (Option.some [.b, .d, .a])), (.op (Option.some ([.b, .d, .a], Bool.false)) (.pure 1 (vMove (.sl []))) (Option.some [.c, .d, .a])), (.op (Option.some ([.b, .d, .a], Bool.false)) (.pure 1 (vMove (.sl [.a]))) (Option.some [.d, .d, .a])), (.op (Option.some ([.b, .d, .a], Bool.false)) (.pure 21 (vIndex (.sl [.c, .d, .a]) (.sl [.d, .d, .a]))) (Option.some [.a, .a, .b])), (.op (Option.some ([.b, .d, .a], Bool.false)) (.pure 11 (vBin .no .eql (.sl [.a, .a, .b]) (.k (.int .u8 (.ofNat 48))))) (Option.some [.b, .a, .b])), (.op (Option.some ([.b, .d, .a], Bool.false)) (.pure 1 (vMove (.sl [.b, .a, .b]))) (Option.some [.c, .a, .b])), (.op (Option.some ([.c, .a, .b], Bool.true)) (.pure 1 (vMove (.sl [.c, .a]))) (Option.some [.d, .a, .b])), (.op (Option.some ([.c, .a, .b], Bool.true)) (.pure 1 (vMove (.sl [.a]))) (Option.some [.a, .b, .b])), (.op (Option.some ([.c, .a, .b], Bool.true)) (.pure 11 (vBin .no .add (.sl [.a, .b, .b]) (.k (.int .i64 (.ofNat 1))))) (Option.some [.b, .b, .b])), (.op (Option.some ([.c, .a, .b], Bool.true)) (.pure 11 (vBin .no .gtr (.sl [.d, .a, .b]) (.sl [.b, .b, .b]))) (Option.some [.c, .b, .b])), (.op (Option.some ([.b, .d, .a], Bool.false)) (.pure 3 (vPick (.sl [.c, .a, .b]) (.sl [.c, .b, .b]) (.k (.bool Bool.false)))) (Option.some [.d, .b, .b])), (.op Option.none (.pure 3 (vPick (.sl [.b, .d, .a]) (.k (.bool Bool.true)) (.sl [.d, .b, .b]))) (Option.some [.a, .c, .b])), (.op Option.none (.pure 1 (vMove (.sl [.a, .c, .b]))) (Option.some [.b, .c, .b])), (.op (Option.some ([.b, .c, .b], Bool.false)) (.pure 1 (vMove (.sl [.c, .a]))) (Option.some [.c, .c, .b])), (.op (Option.some ([.b, .c, .b], Bool.false)) (.pure 1 (vMove (.sl []))) (Option.some [.d, .c, .b])), (.op (Option.some ([.b, .c, .b], Bool.false)) (.pure 23 (vLenS (.sl [.d, .c, .b]))) (Option.some [.a, .d, .b])), (.op (Option.some ([.b, .c, .b], Bool.false)) (.pure 11 (vBin .no .lss (.sl [.c, .c, .b]) (.sl [.a, .d, .b]))) (Option.some [.b, .d, .b])), (.op (Option.some ([.b, .c, .b], Bool.false)) (.pure 1 (vMove (.sl [.b, .d, .b]))) (Option.some [.c, .d, .b])), (.op (Option.some ([.c, .d, .b], Bool.true)) (.pure 1 (vMove (.sl []))) (Option.some [.d, .d, .b])), (.op (Option.some ([.c, .d, .b], Bool.true)) (.pure 1 (vMove (.sl [.c, .a]))) (Option.some [.a, .a, .c])), (.op (Option.some ([.c, .d, .b], Bool.true)) (.pure 21 (vIndex (.sl [.d, .d, .b]) (.sl [.a, .a, .c]))) (Option.some [.b, .a, .c])), (.op (Option.some ([.c, .d, .b], Bool.true)) (.eff (hCall (.k (.fn 27 [] [])) [(.sl [.b, .a, .c])])) (Option.some [.c, .a, .c])), (.op (Option.some ([.b, .c, .b], Bool.false)) (.pure 3 (vPick (.sl [.c, .d, .b]) (.sl [.c, .a, .c]) (.k (.bool Bool.false)))) (Option.some [.d, .a, .c])), (.op Option.none (.pure 3 (vPick (.sl [.b, .c, .b]) (.k (.bool Bool.true)) (.sl [.d, .a, .c]))) (Option.some [.a, .b, .c])), (.op Option.none (.pure 2 (vMove (.sl [.a, .b, .c]))) (Option.some [.a, .b]))]) c25_10)
noncomputable def c25_2 : EC := (.seq (.block 0 c25_3) c25_9)
noncomputable def c25_1 : EC := (.seq (.steps [(.op Option.none (.pure 1 (vMove (.sl [.a]))) (Option.some [.b, .b])), (.op Option.none (.pure 2 (vMove (.sl [.b, .b]))) (Option.some [.c, .a])), (.op Option.none (.pure 2 (vMove (.k (.int .i64 (.ofNat 0))))) (Option.some [.d, .a]))]) c25_2)
noncomputable def c25 : EF := ⟨(.seq (.steps [(.op Option.none (.eff (bLocV 5 (.sl [.b]) [.a, .a])) (Option.some [.a, .a])), (.op Option.none (.eff (bLoc [(.int .i64 (.ofNat 0)), (.str ⟨#[]⟩), (.int .i64 (.ofNat 0)), (.int .i64 (.ofNat 0)), (.bool Bool.false), (.int .i64 (.ofNat 0))] [.b, .a])) (Option.some [.b, .a]))]) c25_1), [(.cell (.sl [.b, .a]) 6 Bool.true)], Bool.false⟩
theorem c25_ok : compF Tryd.prog 25 = some c25 := by kernel_rfl
noncomputable def LF25 : FuncId → Option EF := lookF [(25, c25)]
theorem FF25 : LF25 25 = some c25 := rfl

section
variable {call : Calls'} (k24 : ∀ c h, call 24 [.int .u8 (UInt8.toNat c : Int)] h = .ret (.bool (digB c)) h) {l : List UInt8} {a g g' : Nat} {zs ys : List AV} {h : H} (hl : l.length ≤ 1000000)
include k24 hl
theorem rn_one (fuel i v : Nat) (fr : FT) (hi : i < l.length) (hv : v ≤ 2147483648) (hd : digB l[i] = true) (e : Ev.get [] fr = some (.v (T l)) ∧ Ev.get [.a] fr = some (.v (.int .i64 (a : Int))) ∧ Ev.get [.a, .a] fr = some (.box g zs) ∧ Ev.get [.b, .a] fr = some (.box g' ys)) (f0 : Ev.get [.c, .a] fr = some (.v (.int .i64 (i : Int)))) (f1 : Ev.get [.d, .a] fr = some (.v (.int .i64 (v : Int)))) :
    ∃ fr', evC call fuel c25_4 fr h = .norm fr' h ∧ (Ev.get [] fr' = some (.v (T l)) ∧ Ev.get [.a] fr' = some (.v (.int .i64 (a : Int))) ∧ Ev.get [.a, .a] fr' = some (.box g zs) ∧ Ev.get [.b, .a] fr' = some (.box g' ys)) ∧ Ev.get [.c, .a] fr' = some (.v (.int .i64 ((i + 1 : Nat) : Int))) ∧ Ev.get [.d, .a] fr' = some (.v (.int .i64 ((digV v l[i] : Nat) : Int))) := by
  obtain ⟨e0, e1, e2, e3⟩ := e
  have w : wrapF .i64 ((i : Int) + 1) = (i : Int) + 1 := wrap64 (by omega) (by omega)
  have hc := hd
  simp [digB, leI, geI] at hc
  have hc1 : 48 ≤ l[i].toNat := by omega
  have hc2 : l[i].toNat ≤ 57 := by omega
  have w1 : wrapF .u8 ((l[i].toNat : Int) - 48) = (l[i].toNat : Int) - 48 := wrap8 (by omega) (by omega)
  have w2 : wrapF .i64 ((l[i].toNat : Int) - 48) = (l[i].toNat : Int) - 48 := wrap64 (by omega) (by omega)
  have w3 : wrapF .i64 ((v : Int) * 10) = (v : Int) * 10 := wrap64 (by omega) (by omega)
  have w4 : wrapF .i64 ((v : Int) * 10 + ((l[i].toNat : Int) - 48)) = (v : Int) * 10 + ((l[i].toNat : Int) - 48) := wrap64 (by omega) (by omega)
  have w5 : minB ((v : Int) * 10 + ((l[i].toNat : Int) - 48)) = ((digV v l[i] : Nat) : Int) := by
    unfold minB digV
    split <;> omega
  refine ⟨?fr, ?e, ⟨?_, ?_, ?_, ?_⟩, ?_, ?_⟩
  case e =>
    simp [c25_4, c25_5, c25_6, c25_7, c25_8, gs, e0, e1, e2, e3, f0, f1, hi, hd, k24, w, w1, w2, w3, w4, w5, y_minB]
    rfl
  all_goals simp [gs, e0, e1, e2, e3, f0, f1]
theorem rn_end (fuel i v : Nat) (fr : FT) (hd : ∀ hi : i < l.length, digB l[i] = false) (e : Ev.get [] fr = some (.v (T l)) ∧ Ev.get [.a] fr = some (.v (.int .i64 (a : Int))) ∧ Ev.get [.a, .a] fr = some (.box g zs) ∧ Ev.get [.b, .a] fr = some (.box g' ys)) (f0 : Ev.get [.c, .a] fr = some (.v (.int .i64 (i : Int)))) (f1 : Ev.get [.d, .a] fr = some (.v (.int .i64 (v : Int)))) :
    ∃ fr', evC call fuel c25_4 fr h = .exit 0 fr' h ∧ (Ev.get [] fr' = some (.v (T l)) ∧ Ev.get [.a] fr' = some (.v (.int .i64 (a : Int))) ∧ Ev.get [.a, .a] fr' = some (.box g zs) ∧ Ev.get [.b, .a] fr' = some (.box g' ys)) ∧ Ev.get [.c, .a] fr' = some (.v (.int .i64 (i : Int))) ∧ Ev.get [.d, .a] fr' = some (.v (.int .i64 (v : Int))) := by
  obtain ⟨e0, e1, e2, e3⟩ := e
  by_cases hi : i < l.length
  · have hd := hd hi
    refine ⟨?fr, ?e, ⟨?_, ?_, ?_, ?_⟩, ?_, ?_⟩
    case e =>
      simp [c25_4, c25_5, c25_6, c25_7, c25_8, gs, e0, e1, e2, e3, f0, f1, hi, hd, k24]
      rfl
    all_goals simp [gs, e0, e1, e2, e3, f0, f1]
  · refine ⟨?fr2, ?e2, ⟨?_, ?_, ?_, ?_⟩, ?_, ?_⟩
    case e2 =>
      simp [c25_4, c25_5, c25_6, c25_7, c25_8, gs, e0, e1, e2, e3, f0, f1, hi, k24]
      rfl
    all_goals simp [gs, e0, e1, e2, e3, f0, f1]
theorem rn_all (fuel : Nat) : ∀ (k i v : Nat) (fr : FT) (j : Nat), l.length = i + k → v ≤ 2147483648 → (Ev.get [] fr = some (.v (T l)) ∧ Ev.get [.a] fr = some (.v (.int .i64 (a : Int))) ∧ Ev.get [.a, .a] fr = some (.box g zs) ∧ Ev.get [.b, .a] fr = some (.box g' ys)) → Ev.get [.c, .a] fr = some (.v (.int .i64 (i : Int))) → Ev.get [.d, .a] fr = some (.v (.int .i64 (v : Int))) →
    ∃ fr', loopF call fuel c25_4 (k + 1 + j) fr h = .exit 0 fr' h ∧ (Ev.get [] fr' = some (.v (T l)) ∧ Ev.get [.a] fr' = some (.v (.int .i64 (a : Int))) ∧ Ev.get [.a, .a] fr' = some (.box g zs) ∧ Ev.get [.b, .a] fr' = some (.box g' ys)) ∧ Ev.get [.c, .a] fr' = some (.v (.int .i64 ((i + ((l.drop i).takeWhile digB).length : Nat) : Int))) ∧ Ev.get [.d, .a] fr' = some (.v (.int .i64 ((numV ((l.drop i).takeWhile digB) v : Nat) : Int)))
  | 0, i, v, fr, j, hk, hv, e, f0, f1 => by
    obtain ⟨fr', h1, h2, h3, h4⟩ := rn_end (call := call) k24 (h := h) hl fuel i v fr (fun hi => by omega) e f0 f1
    refine ⟨fr', by rw [show 0 + 1 + j = j + 1 by omega, loopF_succ, h1], h2, ?_, ?_⟩
    · rw [List.drop_eq_nil_of_le (by omega)]; exact h3
    · rw [List.drop_eq_nil_of_le (by omega)]; exact h4
  | k + 1, i, v, fr, j, hk, hv, e, f0, f1 => by
    have hi : i < l.length := by omega
    have hdr : l.drop i = l[i] :: l.drop (i + 1) := List.drop_eq_getElem_cons hi
    rw [show k + 1 + 1 + j = (k + 1 + j) + 1 by omega, loopF_succ]
    cases hd : digB l[i]
    · obtain ⟨fr', h1, h2, h3, h4⟩ := rn_end (call := call) k24 (h := h) hl fuel i v fr (fun _ => hd) e f0 f1
      refine ⟨fr', by rw [h1], h2, ?_, ?_⟩
      · rw [hdr, List.takeWhile_cons, hd]; exact h3
      · rw [hdr, List.takeWhile_cons, hd]; exact h4
    · obtain ⟨fr1, h1, a0, a1, a2⟩ := rn_one (call := call) k24 (h := h) hl fuel i v fr hi hv hd e f0 f1
      obtain ⟨fr', h2, h3, h4, h5⟩ := rn_all fuel k (i + 1) (digV v l[i]) fr1 j (by omega) (digV_le _ _) a0 a1 a2
      refine ⟨fr', by rw [h1]; exact h2, h3, ?_, ?_⟩
      · rw [hdr, List.takeWhile_cons, hd, h4]
        simp only [if_true, List.length_cons]
        congr 3; omega
      · rw [hdr, List.takeWhile_cons, hd, h5]
        rfl
end
theorem takeWhile_take {P : UInt8 → Bool} : ∀ l : List UInt8, l.take (l.takeWhile P).length = l.takeWhile P
  | [] => rfl
  | c :: r => by
    rw [List.takeWhile_cons]
    split
    · rw [List.length_cons, List.take_succ_cons, takeWhile_take r]
    · rfl
/-- A token, found: the place it begins, whether a line ended, what it is, the place behind. -/
abbrev Fnd (m : Nat) (b : Bool) (t : Tk) (a : Nat) : AV := .agg [.int .i64 t.k, .str t.s, .int .i64 t.n, .int .i64 (m : Int), .bool b, .int .i64 ((a + t.z : Nat) : Int)]
set_option maxHeartbeats 4000000 in
theorem t25 {call : Calls'} (k24 : ∀ c h, call 24 [.int .u8 (UInt8.toNat c : Int)] h = .ret (.bool (digB c)) h) (k27 : ∀ c h, call 27 [.int .u8 (UInt8.toNat c : Int)] h = .ret (.bool (letB c)) h) (l : List UInt8) (a m : Nat) (b : Bool) (h : H) (hl : l.length ≤ 1000000) (ha : a < l.length) (hd : digB l[a] = true) :
    Tells (evFun LF25 call (l.length + 1) 25 [T l, .int .i64 (a : Int), .agg [.int .i64 0, .str ⟨#[]⟩, .int .i64 0, .int .i64 (m : Int), .bool b]] h) h (Fnd m b (numT (l.drop a)) a) := by
  have hdr : l.drop a = l[a] :: l.drop (a + 1) := List.drop_eq_getElem_cons ha
  obtain ⟨fr', g1, ⟨g2, g3, g4, g5⟩, g6, g7⟩ := rn_all (call := call) k24 (l := l) (a := a) (h := ⟨h.next, h.t, h.gen + 1 + 1⟩) (g := h.gen) (g' := h.gen + 1) (zs := [.int .i64 0, .str ⟨#[]⟩, .int .i64 0, .int .i64 (m : Int), .bool b]) (ys := [.int .i64 0, .str ⟨#[]⟩, .int .i64 0, .int .i64 0, .bool false, .int .i64 0]) hl (l.length + 1) (l.length - a) a 0 (.node (some (.v (T l))) (.node (some (.v (.int .i64 (a : Int)))) (.node (some (.box h.gen [.int .i64 0, .str ⟨#[]⟩, .int .i64 0, .int .i64 (m : Int), .bool b])) .nil .nil .nil .nil) .nil .nil .nil) (.node (some (.v (.agg [.int .i64 0, .str ⟨#[]⟩, .int .i64 0, .int .i64 (m : Int), .bool b]))) (.node (some (.box (h.gen + 1) [.int .i64 0, .str ⟨#[]⟩, .int .i64 0, .int .i64 0, .bool false, .int .i64 0])) .nil .nil .nil .nil) (.node (some (.v (.int .i64 (a : Int)))) .nil .nil .nil .nil) .nil .nil) (.node none (.node (some (.v (.int .i64 (a : Int)))) .nil .nil .nil .nil) .nil .nil .nil) (.node none (.node (some (.v (.int .i64 0))) .nil .nil .nil .nil) .nil .nil .nil)) a (by omega) (by omega) ⟨rfl, rfl, rfl, rfl⟩ rfl rfl
  rw [show l.length - a + 1 + a = l.length + 1 by omega] at g1
  have hk0 : 0 < ((l.drop a).takeWhile digB).length := by rw [hdr, List.takeWhile_cons, hd]; simp
  have hkl : ((l.drop a).takeWhile digB).length ≤ l.length - a := Nat.le_trans (List.takeWhile_sublist _).length_le (by simp)
  have htk := takeWhile_take (P := digB) (l.drop a)
  have tk : (l.drop a).take ((l.drop a).takeWhile digB).length = (l.drop a).takeWhile digB := htk
  have hex : (l.drop a)[((l.drop a).takeWhile digB).length]? = l[a + ((l.drop a).takeWhile digB).length]? := by rw [List.getElem?_drop]
  obtain ⟨k, hk⟩ : ∃ k, ((l.drop a).takeWhile digB).length = k := ⟨_, rfl⟩
  obtain ⟨ds, hds⟩ : ∃ ds, (l.drop a).takeWhile digB = ds := ⟨_, rfl⟩
  obtain ⟨v, hvv⟩ : ∃ v, numV ds 0 = v := ⟨_, rfl⟩
  have hnb : numT (l.drop a) = if (decide (2147483647 < v) || (decide (1 < k) && eqI l[a] 48) || (match l[a + k]? with | some c => letB c | none => false)) = true then ⟨6, ⟨#[]⟩, 0, k⟩ else ⟨1, ⟨ds.toArray⟩, (v : Int), k⟩ := by
    unfold numT numBad
    simp only [hk] at tk hex hk0 ⊢
    rw [if_neg (by omega), tk, hex, hds, hvv]
    rw [hdr]
    rfl
  rw [hk] at g6 hk0 hkl tk
  rw [hds] at g7 tk
  rw [hvv] at g7
  rw [hnb]
  clear hnb hex htk hk hds hvv
  obtain ⟨E, hE⟩ : ∃ E, E = a + k := ⟨_, rfl⟩
  rw [← hE] at g6 ⊢
  have hE' : E ≤ l.length := by omega
  have hEa : a ≤ E := by omega
  have w1 : wrapF .i64 ((a : Int) + 1) = (a : Int) + 1 := wrap64 (by omega) (by omega)
  have tk' : (l.drop a).take (E - a) = ds := by rw [hE, Nat.add_sub_cancel_left]; exact tk
  simp [-y_Hnew, Tells, evFun, FF25, c25]
  (try (conv in (evC call _ c25_1 _ _) => unfold c25_1; simp [-y_Hnew, gs]); try dsimp only)
  (try (conv in (evC call _ c25_2 _ _) => unfold c25_2; simp [-y_Hnew, gs]); try dsimp only)
  (try (conv in (evC call _ c25_3 _ _) => unfold c25_3; simp [-y_Hnew, gs]); try dsimp only)
  rw [g1]
  try dsimp only
  (try (conv in (decide ((0 : Nat) = 0)) => simp)); try dsimp only
  rcases Decidable.em (2147483647 < v) with hv | hv
  · have hv' : (2147483647 : Int) < (v : Int) := by omega
    (try (conv in (evC call _ c25_9 _ _) => unfold c25_9; simp [-y_Hnew, gs, g2, g3, g4, g5, g6, g7, g6, hE', hEa, ha, vSliceS, gvo, sliceS, bnd, w1, tk', hv, hv']); try dsimp only)
    (try (conv in (evC call _ c25_10 _ _) => unfold c25_10; simp [-y_Hnew, gs, g2, g3, g4, g5, g6, g7, g6, hE', hEa, ha, vSliceS, gvo, sliceS, bnd, w1, tk', hv, hv']); try dsimp only)
    (try (conv in (evC call _ c25_11 _ _) => unfold c25_11; simp [-y_Hnew, gs, g2, g3, g4, g5, g6, g7, g6, hE', hEa, ha, vSliceS, gvo, sliceS, bnd, w1, tk', hv, hv']); try dsimp only)
    (try (conv in (evC call _ c25_12 _ _) => unfold c25_12; simp [-y_Hnew, gs, g2, g3, g4, g5, g6, g7, g6, hE', hEa, ha, vSliceS, gvo, sliceS, bnd, w1, tk', hv, hv']); try dsimp only)
    (try (conv in (evC call _ c25_13 _ _) => unfold c25_13; simp [-y_Hnew, gs, g2, g3, g4, g5, g6, g7, g6, hE', hEa, ha, vSliceS, gvo, sliceS, bnd, w1, tk', hv, hv']); try dsimp only)
    (try (conv in (evC call _ c25_14 _ _) => unfold c25_14; simp [-y_Hnew, gs, g2, g3, g4, g5, g6, g7, g6, hE', hEa, ha, vSliceS, gvo, sliceS, bnd, w1, tk', hv, hv']); try dsimp only)
    (try (conv in (evC call _ c25_15 _ _) => unfold c25_15; simp [-y_Hnew, gs, g2, g3, g4, g5, g6, g7, g6, hE', hEa, ha, vSliceS, gvo, sliceS, bnd, w1, tk', hv, hv']); try dsimp only)
    (try (conv in (evC call _ c25_16 _ _) => unfold c25_16; simp [-y_Hnew, gs, g2, g3, g4, g5, g6, g7, g6, hE', hEa, ha, vSliceS, gvo, sliceS, bnd, w1, tk', hv, hv']); try dsimp only)
    (try (conv in (evC call _ c25_17 _ _) => unfold c25_17; simp [-y_Hnew, gs, g2, g3, g4, g5, g6, g7, g6, hE', hEa, ha, vSliceS, gvo, sliceS, bnd, w1, tk', hv, hv']); try dsimp only)
    try simp [-y_Hnew, gs, g2, g3, g4, g5, g6, g7, eqI, tk', tk, hv, hv']
    try omega
  · have hv' : ¬ (2147483647 : Int) < (v : Int) := by omega
    rcases Decidable.em (((l[a]).toNat : Int) = 48) with h48 | h48
    · rcases Decidable.em (1 < k) with hk1 | hk1
      · have hk2 : (a : Int) + 1 < (E : Int) := by omega
        (try (conv in (evC call _ c25_9 _ _) => unfold c25_9; simp [-y_Hnew, gs, g2, g3, g4, g5, g6, g7, g6, hE', hEa, ha, vSliceS, gvo, sliceS, bnd, w1, tk', hv, hv', h48, hk1, hk2]); try dsimp only)
        (try (conv in (evC call _ c25_10 _ _) => unfold c25_10; simp [-y_Hnew, gs, g2, g3, g4, g5, g6, g7, g6, hE', hEa, ha, vSliceS, gvo, sliceS, bnd, w1, tk', hv, hv', h48, hk1, hk2]); try dsimp only)
        (try (conv in (evC call _ c25_11 _ _) => unfold c25_11; simp [-y_Hnew, gs, g2, g3, g4, g5, g6, g7, g6, hE', hEa, ha, vSliceS, gvo, sliceS, bnd, w1, tk', hv, hv', h48, hk1, hk2]); try dsimp only)
        (try (conv in (evC call _ c25_12 _ _) => unfold c25_12; simp [-y_Hnew, gs, g2, g3, g4, g5, g6, g7, g6, hE', hEa, ha, vSliceS, gvo, sliceS, bnd, w1, tk', hv, hv', h48, hk1, hk2]); try dsimp only)
        (try (conv in (evC call _ c25_13 _ _) => unfold c25_13; simp [-y_Hnew, gs, g2, g3, g4, g5, g6, g7, g6, hE', hEa, ha, vSliceS, gvo, sliceS, bnd, w1, tk', hv, hv', h48, hk1, hk2]); try dsimp only)
        (try (conv in (evC call _ c25_14 _ _) => unfold c25_14; simp [-y_Hnew, gs, g2, g3, g4, g5, g6, g7, g6, hE', hEa, ha, vSliceS, gvo, sliceS, bnd, w1, tk', hv, hv', h48, hk1, hk2]); try dsimp only)
        (try (conv in (evC call _ c25_15 _ _) => unfold c25_15; simp [-y_Hnew, gs, g2, g3, g4, g5, g6, g7, g6, hE', hEa, ha, vSliceS, gvo, sliceS, bnd, w1, tk', hv, hv', h48, hk1, hk2]); try dsimp only)
        (try (conv in (evC call _ c25_16 _ _) => unfold c25_16; simp [-y_Hnew, gs, g2, g3, g4, g5, g6, g7, g6, hE', hEa, ha, vSliceS, gvo, sliceS, bnd, w1, tk', hv, hv', h48, hk1, hk2]); try dsimp only)
        (try (conv in (evC call _ c25_17 _ _) => unfold c25_17; simp [-y_Hnew, gs, g2, g3, g4, g5, g6, g7, g6, hE', hEa, ha, vSliceS, gvo, sliceS, bnd, w1, tk', hv, hv', h48, hk1, hk2]); try dsimp only)
        try simp [-y_Hnew, gs, g2, g3, g4, g5, g6, g7, eqI, tk', tk, hv, hv', h48, hk1, hk2]
        try omega
      · have hk2 : ¬ (a : Int) + 1 < (E : Int) := by omega
        rcases Decidable.em (E < l.length) with hE2 | hE2
        · have hE3 : l[a + k]? = some l[E] := by rw [← hE]; exact List.getElem?_eq_getElem hE2
          have hE4 := k27 l[E]
          cases hL : letB l[E]
          · have hE4 : ∀ h, call 27 [.int .u8 ((l[E]).toNat : Int)] h = .ret (.bool false) h := fun h => (hE4 h).trans (by rw [hL])
            (try (conv in (evC call _ c25_9 _ _) => unfold c25_9; simp [-y_Hnew, gs, g2, g3, g4, g5, g6, g7, g6, hE', hEa, ha, vSliceS, gvo, sliceS, bnd, w1, tk', hv, hv', h48, hk1, hk2, hE2, hE3, hE4, hL]); try dsimp only)
            (try (conv in (evC call _ c25_10 _ _) => unfold c25_10; simp [-y_Hnew, gs, g2, g3, g4, g5, g6, g7, g6, hE', hEa, ha, vSliceS, gvo, sliceS, bnd, w1, tk', hv, hv', h48, hk1, hk2, hE2, hE3, hE4, hL]); try dsimp only)
            (try (conv in (evC call _ c25_11 _ _) => unfold c25_11; simp [-y_Hnew, gs, g2, g3, g4, g5, g6, g7, g6, hE', hEa, ha, vSliceS, gvo, sliceS, bnd, w1, tk', hv, hv', h48, hk1, hk2, hE2, hE3, hE4, hL]); try dsimp only)
            (try (conv in (evC call _ c25_12 _ _) => unfold c25_12; simp [-y_Hnew, gs, g2, g3, g4, g5, g6, g7, g6, hE', hEa, ha, vSliceS, gvo, sliceS, bnd, w1, tk', hv, hv', h48, hk1, hk2, hE2, hE3, hE4, hL]); try dsimp only)
            (try (conv in (evC call _ c25_13 _ _) => unfold c25_13; simp [-y_Hnew, gs, g2, g3, g4, g5, g6, g7, g6, hE', hEa, ha, vSliceS, gvo, sliceS, bnd, w1, tk', hv, hv', h48, hk1, hk2, hE2, hE3, hE4, hL]); try dsimp only)
            (try (conv in (evC call _ c25_14 _ _) => unfold c25_14; simp [-y_Hnew, gs, g2, g3, g4, g5, g6, g7, g6, hE', hEa, ha, vSliceS, gvo, sliceS, bnd, w1, tk', hv, hv', h48, hk1, hk2, hE2, hE3, hE4, hL]); try dsimp only)
            (try (conv in (evC call _ c25_15 _ _) => unfold c25_15; simp [-y_Hnew, gs, g2, g3, g4, g5, g6, g7, g6, hE', hEa, ha, vSliceS, gvo, sliceS, bnd, w1, tk', hv, hv', h48, hk1, hk2, hE2, hE3, hE4, hL]); try dsimp only)
            (try (conv in (evC call _ c25_16 _ _) => unfold c25_16; simp [-y_Hnew, gs, g2, g3, g4, g5, g6, g7, g6, hE', hEa, ha, vSliceS, gvo, sliceS, bnd, w1, tk', hv, hv', h48, hk1, hk2, hE2, hE3, hE4, hL]); try dsimp only)
            (try (conv in (evC call _ c25_17 _ _) => unfold c25_17; simp [-y_Hnew, gs, g2, g3, g4, g5, g6, g7, g6, hE', hEa, ha, vSliceS, gvo, sliceS, bnd, w1, tk', hv, hv', h48, hk1, hk2, hE2, hE3, hE4, hL]); try dsimp only)
            try simp [-y_Hnew, gs, g2, g3, g4, g5, g6, g7, eqI, tk', tk, hv, hv', h48, hk1, hk2, hE2, hE3, hE4, hL]
            try omega
          · have hE4 : ∀ h, call 27 [.int .u8 ((l[E]).toNat : Int)] h = .ret (.bool true) h := fun h => (hE4 h).trans (by rw [hL])
            (try (conv in (evC call _ c25_9 _ _) => unfold c25_9; simp [-y_Hnew, gs, g2, g3, g4, g5, g6, g7, g6, hE', hEa, ha, vSliceS, gvo, sliceS, bnd, w1, tk', hv, hv', h48, hk1, hk2, hE2, hE3, hE4, hL]); try dsimp only)
            (try (conv in (evC call _ c25_10 _ _) => unfold c25_10; simp [-y_Hnew, gs, g2, g3, g4, g5, g6, g7, g6, hE', hEa, ha, vSliceS, gvo, sliceS, bnd, w1, tk', hv, hv', h48, hk1, hk2, hE2, hE3, hE4, hL]); try dsimp only)
            (try (conv in (evC call _ c25_11 _ _) => unfold c25_11; simp [-y_Hnew, gs, g2, g3, g4, g5, g6, g7, g6, hE', hEa, ha, vSliceS, gvo, sliceS, bnd, w1, tk', hv, hv', h48, hk1, hk2, hE2, hE3, hE4, hL]); try dsimp only)
            (try (conv in (evC call _ c25_12 _ _) => unfold c25_12; simp [-y_Hnew, gs, g2, g3, g4, g5, g6, g7, g6, hE', hEa, ha, vSliceS, gvo, sliceS, bnd, w1, tk', hv, hv', h48, hk1, hk2, hE2, hE3, hE4, hL]); try dsimp only)
            (try (conv in (evC call _ c25_13 _ _) => unfold c25_13; simp [-y_Hnew, gs, g2, g3, g4, g5, g6, g7, g6, hE', hEa, ha, vSliceS, gvo, sliceS, bnd, w1, tk', hv, hv', h48, hk1, hk2, hE2, hE3, hE4, hL]); try dsimp only)
            (try (conv in (evC call _ c25_14 _ _) => unfold c25_14; simp [-y_Hnew, gs, g2, g3, g4, g5, g6, g7, g6, hE', hEa, ha, vSliceS, gvo, sliceS, bnd, w1, tk', hv, hv', h48, hk1, hk2, hE2, hE3, hE4, hL]); try dsimp only)
            (try (conv in (evC call _ c25_15 _ _) => unfold c25_15; simp [-y_Hnew, gs, g2, g3, g4, g5, g6, g7, g6, hE', hEa, ha, vSliceS, gvo, sliceS, bnd, w1, tk', hv, hv', h48, hk1, hk2, hE2, hE3, hE4, hL]); try dsimp only)
            (try (conv in (evC call _ c25_16 _ _) => unfold c25_16; simp [-y_Hnew, gs, g2, g3, g4, g5, g6, g7, g6, hE', hEa, ha, vSliceS, gvo, sliceS, bnd, w1, tk', hv, hv', h48, hk1, hk2, hE2, hE3, hE4, hL]); try dsimp only)
            (try (conv in (evC call _ c25_17 _ _) => unfold c25_17; simp [-y_Hnew, gs, g2, g3, g4, g5, g6, g7, g6, hE', hEa, ha, vSliceS, gvo, sliceS, bnd, w1, tk', hv, hv', h48, hk1, hk2, hE2, hE3, hE4, hL]); try dsimp only)
            try simp [-y_Hnew, gs, g2, g3, g4, g5, g6, g7, eqI, tk', tk, hv, hv', h48, hk1, hk2, hE2, hE3, hE4, hL]
            try omega
        · have hE3 : l[a + k]? = none := by rw [← hE]; exact List.getElem?_eq_none (by omega)
          (try (conv in (evC call _ c25_9 _ _) => unfold c25_9; simp [-y_Hnew, gs, g2, g3, g4, g5, g6, g7, g6, hE', hEa, ha, vSliceS, gvo, sliceS, bnd, w1, tk', hv, hv', h48, hk1, hk2, hE2, hE3]); try dsimp only)
          (try (conv in (evC call _ c25_10 _ _) => unfold c25_10; simp [-y_Hnew, gs, g2, g3, g4, g5, g6, g7, g6, hE', hEa, ha, vSliceS, gvo, sliceS, bnd, w1, tk', hv, hv', h48, hk1, hk2, hE2, hE3]); try dsimp only)
          (try (conv in (evC call _ c25_11 _ _) => unfold c25_11; simp [-y_Hnew, gs, g2, g3, g4, g5, g6, g7, g6, hE', hEa, ha, vSliceS, gvo, sliceS, bnd, w1, tk', hv, hv', h48, hk1, hk2, hE2, hE3]); try dsimp only)
          (try (conv in (evC call _ c25_12 _ _) => unfold c25_12; simp [-y_Hnew, gs, g2, g3, g4, g5, g6, g7, g6, hE', hEa, ha, vSliceS, gvo, sliceS, bnd, w1, tk', hv, hv', h48, hk1, hk2, hE2, hE3]); try dsimp only)
          (try (conv in (evC call _ c25_13 _ _) => unfold c25_13; simp [-y_Hnew, gs, g2, g3, g4, g5, g6, g7, g6, hE', hEa, ha, vSliceS, gvo, sliceS, bnd, w1, tk', hv, hv', h48, hk1, hk2, hE2, hE3]); try dsimp only)
          (try (conv in (evC call _ c25_14 _ _) => unfold c25_14; simp [-y_Hnew, gs, g2, g3, g4, g5, g6, g7, g6, hE', hEa, ha, vSliceS, gvo, sliceS, bnd, w1, tk', hv, hv', h48, hk1, hk2, hE2, hE3]); try dsimp only)
          (try (conv in (evC call _ c25_15 _ _) => unfold c25_15; simp [-y_Hnew, gs, g2, g3, g4, g5, g6, g7, g6, hE', hEa, ha, vSliceS, gvo, sliceS, bnd, w1, tk', hv, hv', h48, hk1, hk2, hE2, hE3]); try dsimp only)
          (try (conv in (evC call _ c25_16 _ _) => unfold c25_16; simp [-y_Hnew, gs, g2, g3, g4, g5, g6, g7, g6, hE', hEa, ha, vSliceS, gvo, sliceS, bnd, w1, tk', hv, hv', h48, hk1, hk2, hE2, hE3]); try dsimp only)
          (try (conv in (evC call _ c25_17 _ _) => unfold c25_17; simp [-y_Hnew, gs, g2, g3, g4, g5, g6, g7, g6, hE', hEa, ha, vSliceS, gvo, sliceS, bnd, w1, tk', hv, hv', h48, hk1, hk2, hE2, hE3]); try dsimp only)
          try simp [-y_Hnew, gs, g2, g3, g4, g5, g6, g7, eqI, tk', tk, hv, hv', h48, hk1, hk2, hE2, hE3]
          try omega
    · rcases Decidable.em (E < l.length) with hE2 | hE2
      · have hE3 : l[a + k]? = some l[E] := by rw [← hE]; exact List.getElem?_eq_getElem hE2
        have hE4 := k27 l[E]
        cases hL : letB l[E]
        · have hE4 : ∀ h, call 27 [.int .u8 ((l[E]).toNat : Int)] h = .ret (.bool false) h := fun h => (hE4 h).trans (by rw [hL])
          (try (conv in (evC call _ c25_9 _ _) => unfold c25_9; simp [-y_Hnew, gs, g2, g3, g4, g5, g6, g7, g6, hE', hEa, ha, vSliceS, gvo, sliceS, bnd, w1, tk', hv, hv', h48, hE2, hE3, hE4, hL]); try dsimp only)
          (try (conv in (evC call _ c25_10 _ _) => unfold c25_10; simp [-y_Hnew, gs, g2, g3, g4, g5, g6, g7, g6, hE', hEa, ha, vSliceS, gvo, sliceS, bnd, w1, tk', hv, hv', h48, hE2, hE3, hE4, hL]); try dsimp only)
          (try (conv in (evC call _ c25_11 _ _) => unfold c25_11; simp [-y_Hnew, gs, g2, g3, g4, g5, g6, g7, g6, hE', hEa, ha, vSliceS, gvo, sliceS, bnd, w1, tk', hv, hv', h48, hE2, hE3, hE4, hL]); try dsimp only)
          (try (conv in (evC call _ c25_12 _ _) => unfold c25_12; simp [-y_Hnew, gs, g2, g3, g4, g5, g6, g7, g6, hE', hEa, ha, vSliceS, gvo, sliceS, bnd, w1, tk', hv, hv', h48, hE2, hE3, hE4, hL]); try dsimp only)
          (try (conv in (evC call _ c25_13 _ _) => unfold c25_13; simp [-y_Hnew, gs, g2, g3, g4, g5, g6, g7, g6, hE', hEa, ha, vSliceS, gvo, sliceS, bnd, w1, tk', hv, hv', h48, hE2, hE3, hE4, hL]); try dsimp only)
          (try (conv in (evC call _ c25_14 _ _) => unfold c25_14; simp [-y_Hnew, gs, g2, g3, g4, g5, g6, g7, g6, hE', hEa, ha, vSliceS, gvo, sliceS, bnd, w1, tk', hv, hv', h48, hE2, hE3, hE4, hL]); try dsimp only)
          (try (conv in (evC call _ c25_15 _ _) => unfold c25_15; simp [-y_Hnew, gs, g2, g3, g4, g5, g6, g7, g6, hE', hEa, ha, vSliceS, gvo, sliceS, bnd, w1, tk', hv, hv', h48, hE2, hE3, hE4, hL]); try dsimp only)
          (try (conv in (evC call _ c25_16 _ _) => unfold c25_16; simp [-y_Hnew, gs, g2, g3, g4, g5, g6, g7, g6, hE', hEa, ha, vSliceS, gvo, sliceS, bnd, w1, tk', hv, hv', h48, hE2, hE3, hE4, hL]); try dsimp only)
          (try (conv in (evC call _ c25_17 _ _) => unfold c25_17; simp [-y_Hnew, gs, g2, g3, g4, g5, g6, g7, g6, hE', hEa, ha, vSliceS, gvo, sliceS, bnd, w1, tk', hv, hv', h48, hE2, hE3, hE4, hL]); try dsimp only)
          try simp [-y_Hnew, gs, g2, g3, g4, g5, g6, g7, eqI, tk', tk, hv, hv', h48, hE2, hE3, hE4, hL]
          try omega
        · have hE4 : ∀ h, call 27 [.int .u8 ((l[E]).toNat : Int)] h = .ret (.bool true) h := fun h => (hE4 h).trans (by rw [hL])
          (try (conv in (evC call _ c25_9 _ _) => unfold c25_9; simp [-y_Hnew, gs, g2, g3, g4, g5, g6, g7, g6, hE', hEa, ha, vSliceS, gvo, sliceS, bnd, w1, tk', hv, hv', h48, hE2, hE3, hE4, hL]); try dsimp only)
          (try (conv in (evC call _ c25_10 _ _) => unfold c25_10; simp [-y_Hnew, gs, g2, g3, g4, g5, g6, g7, g6, hE', hEa, ha, vSliceS, gvo, sliceS, bnd, w1, tk', hv, hv', h48, hE2, hE3, hE4, hL]); try dsimp only)
          (try (conv in (evC call _ c25_11 _ _) => unfold c25_11; simp [-y_Hnew, gs, g2, g3, g4, g5, g6, g7, g6, hE', hEa, ha, vSliceS, gvo, sliceS, bnd, w1, tk', hv, hv', h48, hE2, hE3, hE4, hL]); try dsimp only)
          (try (conv in (evC call _ c25_12 _ _) => unfold c25_12; simp [-y_Hnew, gs, g2, g3, g4, g5, g6, g7, g6, hE', hEa, ha, vSliceS, gvo, sliceS, bnd, w1, tk', hv, hv', h48, hE2, hE3, hE4, hL]); try dsimp only)
          (try (conv in (evC call _ c25_13 _ _) => unfold c25_13; simp [-y_Hnew, gs, g2, g3, g4, g5, g6, g7, g6, hE', hEa, ha, vSliceS, gvo, sliceS, bnd, w1, tk', hv, hv', h48, hE2, hE3, hE4, hL]); try dsimp only)
          (try (conv in (evC call _ c25_14 _ _) => unfold c25_14; simp [-y_Hnew, gs, g2, g3, g4, g5, g6, g7, g6, hE', hEa, ha, vSliceS, gvo, sliceS, bnd, w1, tk', hv, hv', h48, hE2, hE3, hE4, hL]); try dsimp only)
          (try (conv in (evC call _ c25_15 _ _) => unfold c25_15; simp [-y_Hnew, gs, g2, g3, g4, g5, g6, g7, g6, hE', hEa, ha, vSliceS, gvo, sliceS, bnd, w1, tk', hv, hv', h48, hE2, hE3, hE4, hL]); try dsimp only)
          (try (conv in (evC call _ c25_16 _ _) => unfold c25_16; simp [-y_Hnew, gs, g2, g3, g4, g5, g6, g7, g6, hE', hEa, ha, vSliceS, gvo, sliceS, bnd, w1, tk', hv, hv', h48, hE2, hE3, hE4, hL]); try dsimp only)
          (try (conv in (evC call _ c25_17 _ _) => unfold c25_17; simp [-y_Hnew, gs, g2, g3, g4, g5, g6, g7, g6, hE', hEa, ha, vSliceS, gvo, sliceS, bnd, w1, tk', hv, hv', h48, hE2, hE3, hE4, hL]); try dsimp only)
          try simp [-y_Hnew, gs, g2, g3, g4, g5, g6, g7, eqI, tk', tk, hv, hv', h48, hE2, hE3, hE4, hL]
          try omega
      · have hE3 : l[a + k]? = none := by rw [← hE]; exact List.getElem?_eq_none (by omega)
        (try (conv in (evC call _ c25_9 _ _) => unfold c25_9; simp [-y_Hnew, gs, g2, g3, g4, g5, g6, g7, g6, hE', hEa, ha, vSliceS, gvo, sliceS, bnd, w1, tk', hv, hv', h48, hE2, hE3]); try dsimp only)
        (try (conv in (evC call _ c25_10 _ _) => unfold c25_10; simp [-y_Hnew, gs, g2, g3, g4, g5, g6, g7, g6, hE', hEa, ha, vSliceS, gvo, sliceS, bnd, w1, tk', hv, hv', h48, hE2, hE3]); try dsimp only)
        (try (conv in (evC call _ c25_11 _ _) => unfold c25_11; simp [-y_Hnew, gs, g2, g3, g4, g5, g6, g7, g6, hE', hEa, ha, vSliceS, gvo, sliceS, bnd, w1, tk', hv, hv', h48, hE2, hE3]); try dsimp only)
        (try (conv in (evC call _ c25_12 _ _) => unfold c25_12; simp [-y_Hnew, gs, g2, g3, g4, g5, g6, g7, g6, hE', hEa, ha, vSliceS, gvo, sliceS, bnd, w1, tk', hv, hv', h48, hE2, hE3]); try dsimp only)
        (try (conv in (evC call _ c25_13 _ _) => unfold c25_13; simp [-y_Hnew, gs, g2, g3, g4, g5, g6, g7, g6, hE', hEa, ha, vSliceS, gvo, sliceS, bnd, w1, tk', hv, hv', h48, hE2, hE3]); try dsimp only)
        (try (conv in (evC call _ c25_14 _ _) => unfold c25_14; simp [-y_Hnew, gs, g2, g3, g4, g5, g6, g7, g6, hE', hEa, ha, vSliceS, gvo, sliceS, bnd, w1, tk', hv, hv', h48, hE2, hE3]); try dsimp only)
        (try (conv in (evC call _ c25_15 _ _) => unfold c25_15; simp [-y_Hnew, gs, g2, g3, g4, g5, g6, g7, g6, hE', hEa, ha, vSliceS, gvo, sliceS, bnd, w1, tk', hv, hv', h48, hE2, hE3]); try dsimp only)
        (try (conv in (evC call _ c25_16 _ _) => unfold c25_16; simp [-y_Hnew, gs, g2, g3, g4, g5, g6, g7, g6, hE', hEa, ha, vSliceS, gvo, sliceS, bnd, w1, tk', hv, hv', h48, hE2, hE3]); try dsimp only)
        (try (conv in (evC call _ c25_17 _ _) => unfold c25_17; simp [-y_Hnew, gs, g2, g3, g4, g5, g6, g7, g6, hE', hEa, ha, vSliceS, gvo, sliceS, bnd, w1, tk', hv, hv', h48, hE2, hE3]); try dsimp only)
        try simp [-y_Hnew, gs, g2, g3, g4, g5, g6, g7, eqI, tk', tk, hv, hv', h48, hE2, hE3]
        try omega
end Go.Proofs.Lx
