/- LexBlanks, told. -/
import Derived.Test.YtlbooinipoaapaaDoorLxBl
set_option linter.unusedSimpArgs false
set_option linter.unusedVariables false
set_option linter.unusedSectionVars false
namespace Go.Proofs.Lx
open Go.Ev
noncomputable def c5_7 : EC := (.cond (.sl [.a, .a, .a]) .skip (.exit 0))
noncomputable def c5_11 : EC := (.steps [(.op Option.none (.pure 1 (vMove (.sl [.c, .a]))) (Option.some [.d, .d, .a])), (.op Option.none (.pure 1 (vMove (.sl [.d, .d, .a]))) (Option.some [.a, .a, .b])), (.op (Option.some ([.a, .a, .b], Bool.false)) (.pure 1 (vMove (.sl [.a, .b]))) (Option.some [.b, .a, .b])), (.op (Option.some ([.a, .a, .b], Bool.false)) (.pure 11 (vBin .no .geq (.sl [.b, .a, .b]) (.k (.int .i64 (.ofNat 3))))) (Option.some [.c, .a, .b])), (.op Option.none (.pure 3 (vPick (.sl [.a, .a, .b]) (.k (.bool Bool.true)) (.sl [.c, .a, .b]))) (Option.some [.d, .a, .b])), (.op Option.none (.pure 2 (vMove (.sl [.d, .a, .b]))) (Option.some [.c, .a]))])
noncomputable def c5_10 : EC := (.seq (.steps [(.op Option.none (.pure 1 (vMove (.sl [.b, .a]))) (Option.some [.b, .c, .a])), (.op Option.none (.new 7 (nSlice 1 6 [(.str ⟨#[]⟩), (.str ⟨#[]⟩), (.str ⟨#[]⟩), (.str ⟨#[]⟩), (.str ⟨#[]⟩), (.str ⟨#[]⟩)] [(0, (1, (.k (.str ⟨#[32]⟩)))), (1, (1, (.k (.str ⟨#[9]⟩)))), (2, (1, (.k (.str ⟨#[13]⟩)))), (3, (1, (.k (.str ⟨#[10]⟩)))), (4, (1, (.k (.str ⟨#[47, 47, 32, 120, 32, 123, 32, 34, 10]⟩)))), (5, (1, (.k (.str ⟨#[47, 47, 10]⟩))))])) (Option.some [.c, .c, .a])), (.op Option.none (.pure 1 (vMove (.sl [.a, .b]))) (Option.some [.d, .c, .a])), (.op Option.none (.pure 20 (vIndexAddr 1 (.sl [.c, .c, .a]) (.sl [.d, .c, .a]))) (Option.some [.a, .d, .a])), (.op Option.none (.look 8 (lLoad (.sl [.a, .d, .a]) 1 Bool.false)) (Option.some [.b, .d, .a])), (.op Option.none (.pure 11 (vBin .no .add (.sl [.b, .c, .a]) (.sl [.b, .d, .a]))) (Option.some [.c, .d, .a])), (.op Option.none (.pure 2 (vMove (.sl [.c, .d, .a]))) (Option.some [.b, .a]))]) c5_11)
noncomputable def c5_9 : EC := (.seq (.steps [(.op Option.none (.pure 1 (vMove (.sl [.a]))) (Option.some [.d, .a, .a])), (.op Option.none (.pure 1 (vMove (.sl [.d, .a]))) (Option.some [.a, .b, .a])), (.op Option.none (.pure 20 (vIndexAddr 1 (.sl [.d, .a, .a]) (.sl [.a, .b, .a]))) (Option.some [.b, .b, .a])), (.op Option.none (.look 8 (lLoad (.sl [.b, .b, .a]) 1 Bool.false)) (Option.some [.c, .b, .a])), (.op Option.none (.pure 13 (vConvInt .i64 (.sl [.c, .b, .a]))) (Option.some [.d, .b, .a])), (.op Option.none (.pure 11 (vBin .no .rem (.sl [.d, .b, .a]) (.k (.int .i64 (.ofNat 6))))) (Option.some [.a, .c, .a])), (.op Option.none (.pure 2 (vMove (.sl [.a, .c, .a]))) (Option.some [.a, .b]))]) c5_10)
noncomputable def c5_12 : EC := (.steps [(.op Option.none (.pure 1 (vMove (.sl [.d, .a]))) (Option.some [.b, .a, .a])), (.op Option.none (.pure 11 (vBin .no .add (.sl [.b, .a, .a]) (.k (.int .i64 (.ofNat 1))))) (Option.some [.c, .a, .a])), (.op Option.none (.pure 2 (vMove (.sl [.c, .a, .a]))) (Option.some [.d, .a]))])
noncomputable def c5_8 : EC := (.seq (.block 1 c5_9) c5_12)
noncomputable def c5_6 : EC := (.seq (.seq (.steps [(.op Option.none (.pure 1 (vMove (.sl [.d, .a]))) (Option.some [.b, .c])), (.op Option.none (.pure 1 (vMove (.sl [.a]))) (Option.some [.c, .c])), (.op Option.none (.pure 23 (vLen (.sl [.c, .c]))) (Option.some [.d, .c])), (.op Option.none (.pure 11 (vBin .no .lss (.sl [.b, .c]) (.sl [.d, .c]))) (Option.some [.a, .d])), (.op Option.none (.pure 1 (vMove (.sl [.a, .d]))) (Option.some [.b, .d])), (.op (Option.some ([.b, .d], Bool.true)) (.pure 1 (vMove (.sl [.d, .a]))) (Option.some [.c, .d])), (.op (Option.some ([.b, .d], Bool.true)) (.pure 11 (vBin .no .lss (.sl [.c, .d]) (.k (.int .i64 (.ofNat 12))))) (Option.some [.d, .d])), (.op Option.none (.pure 3 (vPick (.sl [.b, .d]) (.sl [.d, .d]) (.k (.bool Bool.false)))) (Option.some [.a, .a, .a]))]) c5_7) c5_8)
noncomputable def c5_5 : EC := (.loop c5_6)
noncomputable def c5_4 : EC := (.block 0 c5_5)
noncomputable def c5_16 : EC := (.seq (.steps [(.op Option.none (.look 8 (lLoad (.sl [.b, .b]) 5 Bool.true)) (Option.some [.c, .b, .c])), (.op Option.none (.look 8 (lLoad (.sl [.c, .b]) 5 Bool.true)) (Option.some [.d, .b, .c])), (.op Option.none (.pure 11 (vBin (.all [.int, .str, .int, .int, .bool]) .eql (.sl [.c, .b, .c]) (.sl [.d, .b, .c]))) (Option.some [.a, .c, .c])), (.op Option.none (.pure 1 (vMove (.sl [.a, .c, .c]))) (Option.some [.b, .c, .c])), (.op (Option.some ([.b, .c, .c], Bool.true)) (.eff (hCall (.k (.fn 10 [] [])) [])) (Option.some [.c, .c, .c])), (.op Option.none (.pure 3 (vPick (.sl [.b, .c, .c]) (.sl [.c, .c, .c]) (.k (.bool Bool.false)))) (Option.some [.d, .c, .c])), (.op Option.none (.pure 2 (vMove (.sl [.d, .c, .c]))) (Option.some [.d]))]) .ret)
noncomputable def c5_15 : EC := (.seq (.steps [(.op Option.none (.pure 18 (vFieldAddr (.sl [.b, .b]) 4)) (Option.some [.a, .a, .c])), (.op Option.none (.look 8 (lLoad (.sl [.a, .a, .c]) 1 Bool.false)) (Option.some [.b, .a, .c])), (.op Option.none (.pure 1 (vMove (.sl [.b, .a, .c]))) (Option.some [.c, .a, .c])), (.op (Option.some ([.c, .a, .c], Bool.false)) (.pure 1 (vMove (.sl [.c, .a]))) (Option.some [.d, .a, .c])), (.op Option.none (.pure 3 (vPick (.sl [.c, .a, .c]) (.k (.bool Bool.true)) (.sl [.d, .a, .c]))) (Option.some [.a, .b, .c])), (.op Option.none (.pure 18 (vFieldAddr (.sl [.b, .b]) 4)) (Option.some [.b, .b, .c])), (.op Option.none (.eff (hStore (.sl [.b, .b, .c]) (.sl [.a, .b, .c]) 1)) Option.none)]) c5_16)
noncomputable def c5_14 : EC := (.seq (.steps [(.op Option.none (.pure 18 (vFieldAddr (.sl [.b, .b]) 3)) (Option.some [.c, .c, .b])), (.op Option.none (.look 8 (lLoad (.sl [.c, .c, .b]) 1 Bool.false)) (Option.some [.d, .c, .b])), (.op Option.none (.pure 1 (vMove (.sl [.b, .a]))) (Option.some [.a, .d, .b])), (.op Option.none (.pure 23 (vLenS (.sl [.a, .d, .b]))) (Option.some [.b, .d, .b])), (.op Option.none (.pure 11 (vBin .no .add (.sl [.d, .c, .b]) (.sl [.b, .d, .b]))) (Option.some [.c, .d, .b])), (.op Option.none (.pure 18 (vFieldAddr (.sl [.b, .b]) 3)) (Option.some [.d, .d, .b])), (.op Option.none (.eff (hStore (.sl [.d, .d, .b]) (.sl [.c, .d, .b]) 1)) Option.none)]) c5_15)
noncomputable def c5_13 : EC := (.seq (.steps [(.op Option.none (.pure 1 (vMove (.sl [.a, .a]))) (Option.some [.a, .b, .b])), (.op Option.none (.eff (hCall (.k (.fn 11 [] [])) [(.sl [.a, .b, .b]), (.k (.int .i64 (.ofNat 0)))])) (Option.some [.b, .b, .b])), (.op Option.none (.pure 1 (vMove (.sl [.b, .a]))) (Option.some [.c, .b, .b])), (.op Option.none (.pure 1 (vMove (.sl [.a, .a]))) (Option.some [.d, .b, .b])), (.op Option.none (.pure 11 (vBin .no .add (.sl [.c, .b, .b]) (.sl [.d, .b, .b]))) (Option.some [.a, .c, .b])), (.op Option.none (.eff (hCall (.k (.fn 11 [] [])) [(.sl [.a, .c, .b]), (.k (.int .i64 (.ofNat 0)))])) (Option.some [.b, .c, .b])), (.op Option.none (.eff (bLoc [(.int .i64 (.ofNat 0)), (.str ⟨#[]⟩), (.int .i64 (.ofNat 0)), (.int .i64 (.ofNat 0)), (.bool Bool.false)] [.b, .b])) (Option.some [.b, .b])), (.op Option.none (.eff (bLoc [(.int .i64 (.ofNat 0)), (.str ⟨#[]⟩), (.int .i64 (.ofNat 0)), (.int .i64 (.ofNat 0)), (.bool Bool.false)] [.c, .b])) (Option.some [.c, .b])), (.op Option.none (.eff (hStore (.sl [.b, .b]) (.sl [.b, .b, .b]) 5)) Option.none), (.op Option.none (.eff (hStore (.sl [.c, .b]) (.sl [.b, .c, .b]) 5)) Option.none)]) c5_14)
noncomputable def c5_3 : EC := (.seq (.seq (.steps [(.op Option.none (.pure 2 (vMove (.k (.int .i64 (.ofNat 0))))) (Option.some [.d, .a]))]) c5_4) c5_13)
noncomputable def c5_2 : EC := (.seq (.steps [(.op Option.none (.pure 2 (vMove (.k (.str ⟨#[]⟩)))) (Option.some [.b, .a])), (.op Option.none (.pure 2 (vMove (.k (.bool Bool.false)))) (Option.some [.c, .a]))]) c5_3)
noncomputable def c5_1 : EC := (.seq (.steps [(.op Option.none (.pure 1 (vMove (.sl []))) (Option.some [.d, .b])), (.op Option.none (.eff (hCall (.k (.fn 14 [] [])) [(.sl [.d, .b])])) (Option.some [.a, .c])), (.op Option.none (.pure 2 (vMove (.sl [.a, .c]))) (Option.some [.a, .a]))]) c5_2)
noncomputable def c5 : EF := ⟨(.seq (.steps [(.op Option.none (.pure 2 (vMove (.k (.bool Bool.false)))) (Option.some [.d]))]) c5_1), [(.slot (.sl [.d]))], Bool.false⟩
theorem c5_ok : compF Tryd.prog 5 = some c5 := by kernel_rfl
noncomputable def LF5 : FuncId → Option EF := lookF [(5, c5)]
theorem FF5 : LF5 5 = some c5 := rfl

noncomputable def ahB : Blk := ⟨1, 6, rowsOf 1 6 0 [T [32], T [9], T [13], T [10], T [47, 47, 32, 120, 32, 123, 32, 34, 10], T [47, 47, 10]] .nil, false, false, false⟩
theorem ns6 (fr : FT) : (nSlice 1 6 [(.str ⟨#[]⟩), (.str ⟨#[]⟩), (.str ⟨#[]⟩), (.str ⟨#[]⟩), (.str ⟨#[]⟩), (.str ⟨#[]⟩)] [(0, (1, (.k (.str ⟨#[32]⟩)))), (1, (1, (.k (.str ⟨#[9]⟩)))), (2, (1, (.k (.str ⟨#[13]⟩)))), (3, (1, (.k (.str ⟨#[10]⟩)))), (4, (1, (.k (.str ⟨#[47, 47, 32, 120, 32, 123, 32, 34, 10]⟩)))), (5, (1, (.k (.str ⟨#[47, 47, 10]⟩))))]) fr = some (ahB, some 6) := rfl
theorem ahB_row (m : Nat) (hm : m < 6) : Ev.get (pathOf m) ahB.rows = some [T (aheadN m)] := by
  have h : m = 0 ∨ m = 1 ∨ m = 2 ∨ m = 3 ∨ m = 4 ∨ m = 5 := by omega
  rcases h with rfl | rfl | rfl | rfl | rfl | rfl <;> rfl
theorem aheadN_len (m : Nat) : (aheadN m).length ≤ 9 := by
  unfold aheadN; split <;> simp
theorem InS.new {h : H} {v : AV} {l : List AV} (hv : InS h v l) (b : Blk) : InS (h.new b) v l := hv.kept (.new (.refl h) (Nat.le_refl _) _) (by rw [num_new]; omega)
theorem bl_one {call : Calls'} {l : List UInt8} {v : AV} (fuel i : Nat) (fr : FT) (h : H) (hv : InS h v (l.map b8)) (hi : i < l.length) (h6 : i < 12) (acc : List UInt8) (line : Bool) (s : AV) (ha : acc.length ≤ 9 * i) (e0 : Ev.get [.a] fr = some (.v v)) (e1 : Ev.get [.a, .a] fr = some (.v s)) (e2 : Ev.get [.d, .a] fr = some (.v (.int .i64 (i : Int)))) (e3 : Ev.get [.b, .a] fr = some (.v (T acc))) (e4 : Ev.get [.c, .a] fr = some (.v (.bool line))) :
    ∃ fr', evC call fuel c5_6 fr h = .norm fr' (h.new ahB) ∧ Ev.get [.a] fr' = some (.v v) ∧ Ev.get [.a, .a] fr' = some (.v s) ∧ Ev.get [.d, .a] fr' = some (.v (.int .i64 ((i + 1 : Nat) : Int))) ∧ Ev.get [.b, .a] fr' = some (.v (T (acc ++ aheadOf l[i]))) ∧ Ev.get [.c, .a] fr' = some (.v (.bool (line || endsOf l[i]))) := by
  rcases hv with ⟨_, e⟩ | ⟨_, e⟩ | ⟨q, b, rfl, hb0, hb1, hb2, hb3, hb4, hb5, hb6, hb7⟩
  · rw [List.map_eq_nil_iff] at e; subst e; exact absurd hi (Nat.not_lt_zero _)
  · rw [List.map_eq_nil_iff] at e; subst e; exact absurd hi (Nat.not_lt_zero _)
  rw [List.length_map] at e0
  have hr := hb7 i (by rw [List.length_map]; exact hi)
  rw [List.getElem_map] at hr
  have w : wrapF .i64 ((i : Int) + 1) = (i : Int) + 1 := wrap64 (by omega) (by omega)
  have w2 : wrapF .i64 ((l[i].toNat : Nat) : Int) = ((l[i].toNat : Nat) : Int) := wrap64 (by omega) (by have := l[i].toNat_lt; omega)
  have hm : l[i].toNat % 6 < 6 := Nat.mod_lt _ (by decide)
  have w3 : ((l[i].toNat : Nat) : Int).tmod 6 = ((l[i].toNat % 6 : Nat) : Int) := by rw [Int.tmod_eq_emod_of_nonneg (by omega)]; rfl
  have hr2 := ahB_row (l[i].toNat % 6) hm
  have hbm : ahB.map = false := rfl
  have hbk : ahB.k = 1 := rfl
  have hs := aheadN_len (l[i].toNat % 6)
  have h6i : (i : Int) < 12 := by omega
  have gn : Ev.get h.next (h.new ahB).t = some ahB := get_new
  unfold aheadOf endsOf
  generalize aheadN (l[i].toNat % 6) = bt at *
  generalize l[i].toNat % 6 = m at *
  have n1 : bt.length + acc.length ≤ 9223372036854775807 := by omega
  have n2 : acc.length + bt.length ≤ 9223372036854775807 := by omega
  by_cases h8 : 3 ≤ m
  · have h8' : ¬ (m : Int) < 3 := by omega
    have h8'' : ¬ m < 3 := by omega
    cases line
    · refine ⟨?fr, ?e, ?_, ?_, ?_, ?_, ?_⟩
      case e =>
        simp [c5_6, c5_10, c5_11, c5_12, c5_7, c5_8, c5_9, -nSlice, -y_Hnew, -y_Hput, -y_getC, getC, ns6, gs, e0, e1, e2, e3, e4, hi, h6, h6i, hr, hb2, hb3, hb4, hb5, hb6, gn, hbm, hbk, hr2, hm, w, w2, w3, binStr, h8, h8', h8'', n1, n2]
        rfl
      all_goals simp [gs, e0, e1, e2, e3, e4, h8]
    · refine ⟨?fr4, ?e4, ?_, ?_, ?_, ?_, ?_⟩
      case e4 =>
        simp [c5_6, c5_10, c5_11, c5_12, c5_7, c5_8, c5_9, -nSlice, -y_Hnew, -y_Hput, -y_getC, getC, ns6, gs, e0, e1, e2, e3, e4, hi, h6, h6i, hr, hb2, hb3, hb4, hb5, hb6, gn, hbm, hbk, hr2, hm, w, w2, w3, binStr, h8, h8', h8'', n1, n2]
        rfl
      all_goals simp [gs, e0, e1, e2, e3, e4, h8]
  · have h8' : (m : Int) < 3 := by omega
    have h8'' : m < 3 := by omega
    cases line
    · refine ⟨?fr2, ?e2, ?_, ?_, ?_, ?_, ?_⟩
      case e2 =>
        simp [c5_6, c5_10, c5_11, c5_12, c5_7, c5_8, c5_9, -nSlice, -y_Hnew, -y_Hput, -y_getC, getC, ns6, gs, e0, e1, e2, e3, e4, hi, h6, h6i, hr, hb2, hb3, hb4, hb5, hb6, gn, hbm, hbk, hr2, hm, w, w2, w3, binStr, h8, h8', h8'', n1, n2]
        rfl
      all_goals simp [gs, e0, e1, e2, e3, e4, h8]
    · refine ⟨?fr3, ?e3, ?_, ?_, ?_, ?_, ?_⟩
      case e3 =>
        simp [c5_6, c5_10, c5_11, c5_12, c5_7, c5_8, c5_9, -nSlice, -y_Hnew, -y_Hput, -y_getC, getC, ns6, gs, e0, e1, e2, e3, e4, hi, h6, h6i, hr, hb2, hb3, hb4, hb5, hb6, gn, hbm, hbk, hr2, hm, w, w2, w3, binStr, h8, h8', h8'', n1, n2]
        rfl
      all_goals simp [gs, e0, e1, e2, e3, e4, h8]
theorem bl_end {call : Calls'} {l : List UInt8} {v : AV} (fuel i : Nat) (fr : FT) (h : H) (hv : InS h v (l.map b8)) (hi : ¬ (i < l.length ∧ i < 12)) (acc : List UInt8) (line : Bool) (s : AV) (e0 : Ev.get [.a] fr = some (.v v)) (e1 : Ev.get [.a, .a] fr = some (.v s)) (e2 : Ev.get [.d, .a] fr = some (.v (.int .i64 (i : Int)))) (e3 : Ev.get [.b, .a] fr = some (.v (T acc))) (e4 : Ev.get [.c, .a] fr = some (.v (.bool line))) :
    ∃ fr', evC call fuel c5_6 fr h = .exit 0 fr' h ∧ Ev.get [.a, .a] fr' = some (.v s) ∧ Ev.get [.b, .a] fr' = some (.v (T acc)) ∧ Ev.get [.c, .a] fr' = some (.v (.bool line)) := by
  have key : ∃ n : Nat, lenOf v = some n ∧ n = l.length := by
    rcases hv with ⟨rfl, e⟩ | ⟨rfl, e⟩ | ⟨q, b, rfl, _⟩
    · rw [List.map_eq_nil_iff] at e; subst e; exact ⟨0, rfl, rfl⟩
    · rw [List.map_eq_nil_iff] at e; subst e; exact ⟨0, rfl, rfl⟩
    · exact ⟨_, rfl, by simp⟩
  obtain ⟨n, hn, hnl⟩ := key
  by_cases h1 : i < l.length
  · have h6 : ¬ i < 12 := fun h => hi ⟨h1, h⟩
    have h6' : ¬ (i : Int) < 12 := by omega
    refine ⟨?fr, ?e, ?_, ?_, ?_⟩
    case e =>
      simp [c5_6, c5_10, c5_11, c5_12, c5_7, c5_8, c5_9, -lenOf, gs, e0, e1, e2, e3, e4, hn, hnl, h1, h6, h6']
      rfl
    all_goals simp [gs, e1, e3, e4]
  · refine ⟨?fr2, ?e2, ?_, ?_, ?_⟩
    case e2 =>
      simp [c5_6, c5_10, c5_11, c5_12, c5_7, c5_8, c5_9, -lenOf, gs, e0, e1, e2, e3, e4, hn, hnl, h1]
      rfl
    all_goals simp [gs, e1, e3, e4]
theorem bl_all {call : Calls'} {l : List UInt8} {v : AV} (fuel : Nat) (s : AV) : ∀ (k i : Nat) (fr : FT) (h : H) (j : Nat) (acc : List UInt8) (line : Bool), InS h v (l.map b8) → min l.length 12 = i + k → acc.length ≤ 9 * i → Ev.get [.a] fr = some (.v v) → Ev.get [.a, .a] fr = some (.v s) → Ev.get [.d, .a] fr = some (.v (.int .i64 (i : Int))) → Ev.get [.b, .a] fr = some (.v (T acc)) → Ev.get [.c, .a] fr = some (.v (.bool line)) →
    ∃ fr' h', loopF call fuel c5_6 (k + 1 + j) fr h = .exit 0 fr' h' ∧ Ev.get [.a, .a] fr' = some (.v s) ∧ Ev.get [.b, .a] fr' = some (.v (T (acc ++ ((l.take 12).drop i).flatMap aheadOf))) ∧ Ev.get [.c, .a] fr' = some (.v (.bool (line || ((l.take 12).drop i).any endsOf)))
  | 0, i, fr, h, j, acc, line, hv, hk0, ha, e0, e1, e2, e3, e4 => by
    obtain ⟨fr', h1, h2, h3, h4⟩ := bl_end (call := call) fuel i fr h hv (by omega) acc line s e0 e1 e2 e3 e4
    refine ⟨fr', h, by rw [show 0 + 1 + j = j + 1 by omega, loopF_succ, h1], h2, ?_, ?_⟩
    · rw [h3, List.drop_of_length_le (by simp; omega)]
      simp
    · rw [h4, List.drop_of_length_le (by simp; omega)]
      simp
  | k + 1, i, fr, h, j, acc, line, hv, hk0, ha, e0, e1, e2, e3, e4 => by
    rw [show k + 1 + 1 + j = (k + 1 + j) + 1 by omega, loopF_succ]
    have hi : i < l.length := by omega
    obtain ⟨fr1, h1, a0, a1, a2, a3, a4⟩ := bl_one (call := call) fuel i fr h hv hi (by omega) acc line s ha e0 e1 e2 e3 e4
    rw [h1]
    have : (aheadOf l[i]).length ≤ 9 := aheadN_len _
    obtain ⟨fr', h', h2, h3, h4, h5⟩ := bl_all fuel s k (i + 1) fr1 (h.new ahB) j (acc ++ aheadOf l[i]) (line || endsOf l[i]) (InS.new hv _) (by omega) (by simp only [List.length_append]; omega) a0 a1 a2 a3 a4
    refine ⟨fr', h', h2, h3, ?_, ?_⟩
    · rw [h4, List.drop_eq_getElem_cons (l := l.take 12) (i := i) (by simp; omega), List.flatMap_cons, List.getElem_take, List.append_assoc]
    · rw [h5, List.drop_eq_getElem_cons (l := l.take 12) (i := i) (by simp; omega), List.any_cons, List.getElem_take, Bool.or_assoc]
def aheadT (l : List UInt8) : List UInt8 := (l.take 12).flatMap aheadOf
theorem aheadT_len (l : List UInt8) : (aheadT l).length ≤ 108 := by
  have : ∀ m : List UInt8, (m.flatMap aheadOf).length ≤ 9 * m.length := fun m => by
    induction m with
    | nil => simp
    | cons c m ih =>
      have : (aheadOf c).length ≤ 9 := aheadN_len _
      simp only [List.flatMap_cons, List.length_append, List.length_cons]; omega
  have h2 := this (l.take 12)
  have h3 : (l.take 12).length ≤ 12 := by simp; omega
  unfold aheadT; omega
set_option maxRecDepth 100000 in
set_option maxHeartbeats 4000000 in
theorem L5 {l m : List UInt8} {h : H} {v u : AV} (hv : InS h v (l.map b8)) (hu : InS h u (m.map b8)) : Says (evFun LF5 k14 20 5 [v, u] h) (.bool true) := by
  have hl0 := textOf_len l
  have g14 := k14_14 hv
  have hu1 := InS.new hu bitsB
  generalize h.new bitsB = h1 at *
  generalize hs : textOf l = s at *
  obtain ⟨fr', h', h2, h3, h4, h5⟩ := bl_all (call := k14) 20 (T s) (min m.length 12) 0 ((.node (some (.v v)) (.node (some (.v u)) (.node (some (.v (T s))) .nil .nil .nil .nil) .nil (.node (some (.v (T s))) .nil .nil .nil .nil) .nil) (.node none (.node (some (.v (T []))) .nil .nil .nil .nil) .nil .nil .nil) (.node none (.node (some (.v (.bool false))) .nil .nil .nil .nil) .nil .nil .nil) (.node (some (.v (.bool false))) (.node (some (.v (.int .i64 0))) .nil .nil .nil .nil) (.node (some (.v v)) .nil .nil .nil .nil) .nil .nil))) h1 (19 - min m.length 12) [] false hu1 (by omega) (by simp) rfl rfl rfl rfl rfl
  rw [show min m.length 12 + 1 + (19 - min m.length 12) = 20 by omega] at h2
  have hal := aheadT_len m
  have h4 : Ev.get [.b, .a] fr' = some (.v (T (aheadT m))) := h4
  have h5 : Ev.get [.c, .a] fr' = some (.v (.bool ((m.take 12).any endsOf))) := h5
  have hsk := skipB_all (m.take 12) s
  have hsk : skipP (aheadT m ++ s) = ((aheadT m).length + (skipP s).1, (m.take 12).any endsOf || (skipP s).2) := hsk
  obtain ⟨q1, q2⟩ := next_ahead (aheadT m) s 0 _ hsk
  have q3 : (skipP ((aheadT m ++ s).drop 0)).2 = ((m.take 12).any endsOf || (skipP (s.drop 0)).2) := by rw [List.drop_zero, List.drop_zero, hsk]
  have hl : s.length ≤ 1000000 := by omega
  have hl2 : (aheadT m ++ s).length ≤ 1000000 := by simp only [List.length_append]; omega
  have k10' : ∀ h, k14 10 [] h = .ret (.bool true) h := fun _ => rfl
  have k11' : ∀ h, k14 11 [T s, .int .i64 0] h = .ret (.agg (rowA s 0)) h := fun h => hk11_11 s 0 h hl
  have k11'' : ∀ h, k14 11 [T (aheadT m ++ s), .int .i64 0] h = .ret (.agg (rowA (aheadT m ++ s) 0)) h := fun h => hk11_11 (aheadT m ++ s) 0 h hl2
  have hM : (nextM s 0 : Int) ≤ 1000000 := by
    have : (skipP (s.drop 0)).1 ≤ (s.drop 0).length := skip_le _ _
    unfold nextM
    rw [List.drop_zero] at *
    omega
  unfold rowA at k11' k11''
  rw [q1, q2, q3] at k11''
  have w1 : wrapF .i64 ((nextM s 0 : Int) + ((aheadT m).length : Int)) = (nextM s 0 : Int) + ((aheadT m).length : Int) := wrap64 (by omega) (by omega)
  have n1 : (aheadT m).length + s.length ≤ 9223372036854775807 := by omega
  have hcm : (((aheadT m).length : Int) + (nextM s 0 : Int)) = (nextM s 0 : Int) + ((aheadT m).length : Int) := Int.add_comm _ _
  clear q1 q2 q3 hsk
  generalize aheadT m = ah at *
  generalize (nextT s 0).k = x1 at *
  generalize (nextT s 0).s = x2 at *
  generalize (nextT s 0).n = x3 at *
  generalize nextM s 0 = x4 at *
  generalize (skipP (s.drop 0)).2 = x5 at *
  generalize (m.take 12).any endsOf = y5 at *
  generalize k14 = call at *
  simp [Says, evFun, FF5, c5, c5_1, c5_2, c5_3, c5_4, c5_5, -y_Hnew, -y_Hput, g14, gs, h2]
  cases x5 <;> cases y5
  · (try (conv in (evC call _ c5_13 _ _) => unfold c5_13; simp [-y_Hnew, -y_Hput, gs, k10', k11', k11'', h3, h4, h5, vField, w1, n1, hcm, binStr]); try dsimp only)
    (try (conv in (evC call _ c5_14 _ _) => unfold c5_14; simp [-y_Hnew, -y_Hput, gs, k10', k11', k11'', h3, h4, h5, vField, w1, n1, hcm, binStr]); try dsimp only)
    (try (conv in (evC call _ c5_15 _ _) => unfold c5_15; simp [-y_Hnew, -y_Hput, gs, k10', k11', k11'', h3, h4, h5, vField, w1, n1, hcm, binStr]); try dsimp only)
    (try (conv in (evC call _ c5_16 _ _) => unfold c5_16; simp [-y_Hnew, -y_Hput, gs, k10', k11', k11'', h3, h4, h5, vField, w1, n1, hcm, binStr]); try dsimp only)
    try simp [-y_Hnew, -y_Hput, gs, k10', k11', k11'', h3, h4, h5, vField, w1, n1, hcm, binStr]
  · (try (conv in (evC call _ c5_13 _ _) => unfold c5_13; simp [-y_Hnew, -y_Hput, gs, k10', k11', k11'', h3, h4, h5, vField, w1, n1, hcm, binStr]); try dsimp only)
    (try (conv in (evC call _ c5_14 _ _) => unfold c5_14; simp [-y_Hnew, -y_Hput, gs, k10', k11', k11'', h3, h4, h5, vField, w1, n1, hcm, binStr]); try dsimp only)
    (try (conv in (evC call _ c5_15 _ _) => unfold c5_15; simp [-y_Hnew, -y_Hput, gs, k10', k11', k11'', h3, h4, h5, vField, w1, n1, hcm, binStr]); try dsimp only)
    (try (conv in (evC call _ c5_16 _ _) => unfold c5_16; simp [-y_Hnew, -y_Hput, gs, k10', k11', k11'', h3, h4, h5, vField, w1, n1, hcm, binStr]); try dsimp only)
    try simp [-y_Hnew, -y_Hput, gs, k10', k11', k11'', h3, h4, h5, vField, w1, n1, hcm, binStr]
  · (try (conv in (evC call _ c5_13 _ _) => unfold c5_13; simp [-y_Hnew, -y_Hput, gs, k10', k11', k11'', h3, h4, h5, vField, w1, n1, hcm, binStr]); try dsimp only)
    (try (conv in (evC call _ c5_14 _ _) => unfold c5_14; simp [-y_Hnew, -y_Hput, gs, k10', k11', k11'', h3, h4, h5, vField, w1, n1, hcm, binStr]); try dsimp only)
    (try (conv in (evC call _ c5_15 _ _) => unfold c5_15; simp [-y_Hnew, -y_Hput, gs, k10', k11', k11'', h3, h4, h5, vField, w1, n1, hcm, binStr]); try dsimp only)
    (try (conv in (evC call _ c5_16 _ _) => unfold c5_16; simp [-y_Hnew, -y_Hput, gs, k10', k11', k11'', h3, h4, h5, vField, w1, n1, hcm, binStr]); try dsimp only)
    try simp [-y_Hnew, -y_Hput, gs, k10', k11', k11'', h3, h4, h5, vField, w1, n1, hcm, binStr]
  · (try (conv in (evC call _ c5_13 _ _) => unfold c5_13; simp [-y_Hnew, -y_Hput, gs, k10', k11', k11'', h3, h4, h5, vField, w1, n1, hcm, binStr]); try dsimp only)
    (try (conv in (evC call _ c5_14 _ _) => unfold c5_14; simp [-y_Hnew, -y_Hput, gs, k10', k11', k11'', h3, h4, h5, vField, w1, n1, hcm, binStr]); try dsimp only)
    (try (conv in (evC call _ c5_15 _ _) => unfold c5_15; simp [-y_Hnew, -y_Hput, gs, k10', k11', k11'', h3, h4, h5, vField, w1, n1, hcm, binStr]); try dsimp only)
    (try (conv in (evC call _ c5_16 _ _) => unfold c5_16; simp [-y_Hnew, -y_Hput, gs, k10', k11', k11'', h3, h4, h5, vField, w1, n1, hcm, binStr]); try dsimp only)
    try simp [-y_Hnew, -y_Hput, gs, k10', k11', k11'', h3, h4, h5, vField, w1, n1, hcm, binStr]
theorem L5z {W : World} {x y : Value} {l m : List UInt8} (R : SlIn W x (l.map b8)) (R2 : SlIn W y (m.map b8)) (hG : Sps W) : Calls Tryd.prog 5 #[x, y] W (fun e W' => e = .returned (.bool true) ∧ Go.RowKit.Below W.heap.size W W') := by
  obtain ⟨A, h, v, I, _, _, _, hx, hv⟩ := (Ins.start W).arg R
  obtain ⟨A', h', u, I', hm, hk, hn, hy, hu⟩ := I.arg R2
  exact calls_says14 (FL := LF5) (one_ok c5_ok) I' (L5 (Go.Ev.InS.kept hv hk hn) hu) (.cons (VR.mono hm _ _ hx) (.cons hy .nil)) hG
end Go.Proofs.Lx
