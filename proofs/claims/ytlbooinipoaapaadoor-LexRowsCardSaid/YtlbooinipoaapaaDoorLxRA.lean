import Derived.Test.YtlbooinipoaapaaDoorLxAO
set_option linter.unusedSimpArgs false
set_option linter.unusedVariables false
set_option linter.unusedSectionVars false
namespace Go.Proofs.Lx
open Go.Ev
noncomputable def c17_10 : EC := (.seq (.steps [(.op Option.none (.pure 1 (vMove (.sl [.c]))) (Option.some [.a, .b, .a])), (.op Option.none (.pure 2 (vMove (.sl [.a, .b, .a]))) (Option.some [.b]))]) .ret)
noncomputable def c17_9 : EC := (.cond (.sl [.d, .a, .a]) c17_10 .skip)
noncomputable def c17_11 : EC := (.steps [(.op Option.none (.pure 1 (vMove (.sl [.b, .a]))) (Option.some [.b, .b, .a])), (.op Option.none (.pure 2 (vMove (.sl [.b, .b, .a]))) (Option.some [.d]))])
noncomputable def c17_8 : EC := (.seq (.seq (.steps [(.op Option.none (.pure 18 (vFieldAddr (.sl [.a, .a]) 0)) (Option.some [.a, .d])), (.op Option.none (.look 8 (lLoad (.sl [.a, .d]) 1 Bool.false)) (Option.some [.b, .d])), (.op Option.none (.pure 11 (vBin .no .eql (.sl [.b, .d]) (.k (.int .i64 (.ofNat 0))))) (Option.some [.c, .d])), (.op Option.none (.pure 1 (vMove (.sl [.c, .d]))) (Option.some [.d, .d])), (.op (Option.some ([.d, .d], Bool.false)) (.pure 18 (vFieldAddr (.sl [.a, .a]) 0)) (Option.some [.a, .a, .a])), (.op (Option.some ([.d, .d], Bool.false)) (.look 8 (lLoad (.sl [.a, .a, .a]) 1 Bool.false)) (Option.some [.b, .a, .a])), (.op (Option.some ([.d, .d], Bool.false)) (.pure 11 (vBin .no .eql (.sl [.b, .a, .a]) (.k (.int .i64 (.ofNat 6))))) (Option.some [.c, .a, .a])), (.op Option.none (.pure 3 (vPick (.sl [.d, .d]) (.k (.bool Bool.true)) (.sl [.c, .a, .a]))) (Option.some [.d, .a, .a]))]) c17_9) c17_11)
noncomputable def c17_7 : EC := (.seq (.steps [(.op Option.none (.pure 1 (vMove (.sl [.c]))) (Option.some [.a, .c])), (.op Option.none (.look 8 (lLoad (.sl [.a, .a]) 5 Bool.true)) (Option.some [.b, .c])), (.op Option.none (.new 7 (nSlice 5 1 [(.int .i64 (.ofNat 0)), (.str ⟨#[]⟩), (.int .i64 (.ofNat 0)), (.int .i64 (.ofNat 0)), (.bool Bool.false)] [(0, (5, (.sl [.b, .c])))])) (Option.some [.c, .c])), (.op Option.none (.eff (hAppend 5 (.sl [.a, .c]) (.sl [.c, .c]) (Option.some [.d, .c]))) (Option.some [.d, .c])), (.op Option.none (.pure 2 (vMove (.sl [.d, .c]))) (Option.some [.c]))]) c17_8)
noncomputable def c17_6 : EC := (.seq (.steps [(.op Option.none (.pure 1 (vMove (.sl []))) (Option.some [.d, .a])), (.op Option.none (.pure 1 (vMove (.sl [.d]))) (Option.some [.a, .b])), (.op Option.none (.eff (hCall (.k (.fn 21 [] [])) [(.sl [.d, .a]), (.sl [.a, .b])])) (Option.some [.b, .b])), (.op Option.none (.pure 1 (vMove (.sl [.b, .b]))) (Option.some [.c, .a])), (.op Option.none (.pure 22 (vExtract (.sl [.c, .a]) 0)) (Option.some [.c, .b])), (.op Option.none (.pure 22 (vExtract (.sl [.c, .a]) 1)) (Option.some [.d, .b])), (.op Option.none (.eff (bLoc [(.int .i64 (.ofNat 0)), (.str ⟨#[]⟩), (.int .i64 (.ofNat 0)), (.int .i64 (.ofNat 0)), (.bool Bool.false)] [.a, .a])) (Option.some [.a, .a])), (.op Option.none (.eff (hStore (.sl [.a, .a]) (.sl [.c, .b]) 5)) Option.none), (.op Option.none (.pure 2 (vMove (.sl [.d, .b]))) (Option.some [.b, .a]))]) c17_7)
noncomputable def c17_5 : EC := (.block 1 c17_6)
noncomputable def c17_4 : EC := (.loop c17_5)
noncomputable def c17_3 : EC := (.block 0 c17_4)
noncomputable def c17_2 : EC := (.seq (.steps [(.op Option.none (.pure 2 (vMove (.k (.int .i64 (.ofNat 0))))) (Option.some [.d]))]) c17_3)
noncomputable def c17_1 : EC := (.seq (.steps [(.op Option.none (.pure 2 (vMove (.k .nils))) (Option.some [.c]))]) c17_2)
noncomputable def c17 : EF := ⟨(.seq (.steps [(.op Option.none (.pure 2 (vMove (.k .nils))) (Option.some [.b]))]) c17_1), [(.slot (.sl [.b]))], Bool.false⟩
theorem c17_ok : compF Tryd.prog 17 = some c17 := by kernel_rfl
noncomputable def LF17 : FuncId → Option EF := lookF [(17, c17)]
theorem FF17 : LF17 17 = some c17 := rfl

abbrev rowA (l : List UInt8) (a : Nat) : List AV := [.int .i64 (nextT l a).k, .str (nextT l a).s, .int .i64 (nextT l a).n, .int .i64 (nextM l a : Int), .bool (skipP (l.drop a)).2]
section
variable {call : Calls'} {l : List UInt8}
theorem all_go (fuel a : Nat) (h0 h : H) (v : AV) (acc : List (List AV)) (fr : FT) (k21 : ∀ a h, a ≤ l.length → call 21 [T l, .int .i64 (a : Int)] h = .ret (.tup [nextA l a, .int .i64 ((nextM l a + (nextT l a).z : Nat) : Int)]) h) (ha : a ≤ l.length) (ho : OutT h0 h v acc) (hs : Since h0 h) (hacc : acc.length ≤ 1000000) (e0 : Ev.get [] fr = some (.v (T l))) (e1 : Ev.get [.d] fr = some (.v (.int .i64 (a : Int)))) (e2 : Ev.get [.c] fr = some (.v v)) (hk : (nextT l a).k ≠ 0 ∧ (nextT l a).k ≠ 6) :
    ∃ fr' h' v', evC call fuel c17_5 fr h = .norm fr' h' ∧ OutT h0 h' v' (acc ++ [rowA l a]) ∧ Since h0 h' ∧ Ev.get [] fr' = some (.v (T l)) ∧ Ev.get [.d] fr' = some (.v (.int .i64 ((nextM l a + (nextT l a).z : Nat) : Int))) ∧ Ev.get [.c] fr' = some (.v v') := by
  obtain ⟨t, ht⟩ : ∃ t, nextT l a = t := ⟨_, rfl⟩
  obtain ⟨M, hM⟩ : ∃ M, nextM l a = M := ⟨_, rfl⟩
  obtain ⟨bb, hbb⟩ : ∃ bb, (skipP (l.drop a)).2 = bb := ⟨_, rfl⟩
  have q := k21 a
  unfold rowA
  unfold nextA at q
  rw [ht, hM, hbb] at q ⊢
  rw [ht] at hk
  try rw [hM, ht]
  obtain ⟨E, hE⟩ : ∃ E, M + t.z = E := ⟨_, rfl⟩
  rw [hE] at q
  try rw [hE]
  have ho' : OutT h0 ⟨h.next, h.t, h.gen + 1⟩ v acc := ho
  have hs' : Since h0 ⟨h.next, h.t, h.gen + 1⟩ := hs
  obtain ⟨v', h', a1, a2, a3, a4, a5⟩ := outT_more ho' hs' [.int .i64 t.k, .str t.s, .int .i64 t.n, .int .i64 (M : Int), .bool bb] hacc
  have hmost : acc.length + 1 ≤ most := by unfold most; omega
  obtain ⟨k0, k6⟩ := hk
  have q := fun h => q h ha
  refine ⟨?fr, h', v', ?e, a3, a4, ?_, ?_, ?_⟩
  case e =>
    simp [-y_Hnew, -lenOf, c17_5, c17_10, c17_11, c17_6, c17_7, c17_8, c17_9, gs, e0, e1, e2, q, vExtract, k0, k6, hAppend, apOut, a1, a2, hmost]
    rfl
  all_goals simp [gs, e0, e1, e2]
theorem all_ret (fuel a : Nat) (h0 h : H) (v : AV) (acc : List (List AV)) (fr : FT) (k21 : ∀ a h, a ≤ l.length → call 21 [T l, .int .i64 (a : Int)] h = .ret (.tup [nextA l a, .int .i64 ((nextM l a + (nextT l a).z : Nat) : Int)]) h) (ha : a ≤ l.length) (ho : OutT h0 h v acc) (hs : Since h0 h) (hacc : acc.length ≤ 1000000) (e0 : Ev.get [] fr = some (.v (T l))) (e1 : Ev.get [.d] fr = some (.v (.int .i64 (a : Int)))) (e2 : Ev.get [.c] fr = some (.v v)) (hk : (nextT l a).k = 0 ∨ (nextT l a).k = 6) :
    ∃ fr' h' v', evC call fuel c17_5 fr h = .ret fr' h' ∧ OutT h0 h' v' (acc ++ [rowA l a]) ∧ Since h0 h' ∧ Ev.get [.b] fr' = some (.v v') := by
  obtain ⟨t, ht⟩ : ∃ t, nextT l a = t := ⟨_, rfl⟩
  obtain ⟨M, hM⟩ : ∃ M, nextM l a = M := ⟨_, rfl⟩
  obtain ⟨bb, hbb⟩ : ∃ bb, (skipP (l.drop a)).2 = bb := ⟨_, rfl⟩
  have q := k21 a
  unfold rowA
  unfold nextA at q
  rw [ht, hM, hbb] at q ⊢
  rw [ht] at hk
  try rw [hM, ht]
  obtain ⟨E, hE⟩ : ∃ E, M + t.z = E := ⟨_, rfl⟩
  rw [hE] at q
  try rw [hE]
  have ho' : OutT h0 ⟨h.next, h.t, h.gen + 1⟩ v acc := ho
  have hs' : Since h0 ⟨h.next, h.t, h.gen + 1⟩ := hs
  obtain ⟨v', h', a1, a2, a3, a4, a5⟩ := outT_more ho' hs' [.int .i64 t.k, .str t.s, .int .i64 t.n, .int .i64 (M : Int), .bool bb] hacc
  have hmost : acc.length + 1 ≤ most := by unfold most; omega
  have q := fun h => q h ha
  rcases hk with k0 | k6
  · rw [k0] at q a1 a3 ⊢
    refine ⟨?fr, h', v', ?e, a3, a4, ?_⟩
    case e =>
      simp [-y_Hnew, -lenOf, c17_5, c17_10, c17_11, c17_6, c17_7, c17_8, c17_9, gs, e0, e1, e2, q, vExtract, hAppend, apOut, a1, a2, hmost]
      rfl
    all_goals simp [gs, e0, e1, e2]
  · rw [k6] at q a1 a3 ⊢
    refine ⟨?fr2, h', v', ?e2, a3, a4, ?_⟩
    case e2 =>
      simp [-y_Hnew, -lenOf, c17_5, c17_10, c17_11, c17_6, c17_7, c17_8, c17_9, gs, e0, e1, e2, q, vExtract, hAppend, apOut, a1, a2, hmost]
      rfl
    all_goals simp [gs, e0, e1, e2]
end
end Go.Proofs.Lx
