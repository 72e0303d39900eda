import Derived.Test.YtlbooinipoaapaaDoorLxRB2
set_option linter.unusedSimpArgs false
set_option linter.unusedVariables false
set_option linter.unusedSectionVars false
namespace Go.Proofs.Lx
open Go.Ev
noncomputable def c16_3 : EC := (.seq (.steps [(.op Option.none (.pure 2 (vMove (.k (.bool Bool.false)))) (Option.some [.d]))]) .ret)
noncomputable def c16_2 : EC := (.cond (.sl [.b, .b]) c16_3 .skip)
noncomputable def c16_8 : EC := (.cond (.sl [.b, .c]) .skip (.exit 0))
noncomputable def c16_12 : EC := (.seq (.steps [(.op Option.none (.pure 2 (vMove (.k (.bool Bool.false)))) (Option.some [.d]))]) .ret)
noncomputable def c16_11 : EC := (.cond (.sl [.a, .b, .a]) c16_12 .skip)
noncomputable def c16_10 : EC := (.seq (.drawn [(.op Option.none (.pure 1 (vMove (.sl []))) (Option.some [.a, .d])), (.op Option.none (.pure 1 (vMove (.sl [.a, .a]))) (Option.some [.b, .d])), (.op Option.none (.pure 20 (vIndexAddr 5 (.sl [.a, .d]) (.sl [.b, .d]))) (Option.some [.c, .d])), (.op Option.none (.look 8 (lLoad (.sl [.c, .d]) 5 Bool.true)) (Option.some [.d, .d])), (.op Option.none (.pure 1 (vMove (.sl [.a]))) (Option.some [.a, .a, .a])), (.op Option.none (.pure 1 (vMove (.sl [.a, .a]))) (Option.some [.b, .a, .a])), (.op Option.none (.pure 20 (vIndexAddr 5 (.sl [.a, .a, .a]) (.sl [.b, .a, .a]))) (Option.some [.c, .a, .a])), (.op Option.none (.look 8 (lLoad (.sl [.c, .a, .a]) 5 Bool.true)) (Option.some [.d, .a, .a])), (.op Option.none (.pure 11 (vBin (.all [.int, .str, .int, .int, .bool]) .neq (.sl [.d, .d]) (.sl [.d, .a, .a]))) (Option.some [.a, .b, .a])), (.chk Option.none (.pure 1 (vMove (.sl []))) (Option.some [.a, .d])), (.chk Option.none (.pure 1 (vMove (.sl [.a, .a]))) (Option.some [.b, .d])), (.chk Option.none (.pure 20 (vIndexAddr 5 (.sl [.a, .d]) (.sl [.b, .d]))) (Option.some [.c, .d])), (.chk Option.none (.look 8 (lLoad (.sl [.c, .d]) 5 Bool.true)) (Option.some [.d, .d])), (.chk Option.none (.pure 1 (vMove (.sl [.a]))) (Option.some [.a, .a, .a])), (.chk Option.none (.pure 1 (vMove (.sl [.a, .a]))) (Option.some [.b, .a, .a])), (.chk Option.none (.pure 20 (vIndexAddr 5 (.sl [.a, .a, .a]) (.sl [.b, .a, .a]))) (Option.some [.c, .a, .a])), (.chk Option.none (.look 8 (lLoad (.sl [.c, .a, .a]) 5 Bool.true)) (Option.some [.d, .a, .a])), (.chk Option.none (.pure 11 (vBin (.all [.int, .str, .int, .int, .bool]) .neq (.sl [.d, .d]) (.sl [.d, .a, .a]))) (Option.some [.a, .b, .a]))] [[.a, .d], [.b, .d], [.c, .d], [.d, .d], [.a, .a, .a], [.b, .a, .a], [.c, .a, .a], [.d, .a, .a], [.a, .b, .a]]) c16_11)
noncomputable def c16_13 : EC := (.steps [(.op Option.none (.pure 1 (vMove (.sl [.a, .a]))) (Option.some [.c, .c])), (.op Option.none (.pure 11 (vBin .no .add (.sl [.c, .c]) (.k (.int .i64 (.ofNat 1))))) (Option.some [.d, .c])), (.op Option.none (.pure 2 (vMove (.sl [.d, .c]))) (Option.some [.a, .a]))])
noncomputable def c16_9 : EC := (.seq (.block 1 c16_10) c16_13)
noncomputable def c16_7 : EC := (.seq (.seq (.steps [(.op Option.none (.pure 1 (vMove (.sl [.a, .a]))) (Option.some [.c, .b])), (.op Option.none (.pure 1 (vMove (.sl []))) (Option.some [.d, .b])), (.op Option.none (.pure 23 (vLen (.sl [.d, .b]))) (Option.some [.a, .c])), (.op Option.none (.pure 11 (vBin .no .lss (.sl [.c, .b]) (.sl [.a, .c]))) (Option.some [.b, .c]))]) c16_8) c16_9)
noncomputable def c16_6 : EC := (.loop c16_7)
noncomputable def c16_5 : EC := (.block 0 c16_6)
noncomputable def c16_14 : EC := (.seq (.steps [(.op Option.none (.pure 2 (vMove (.k (.bool Bool.true)))) (Option.some [.d]))]) .ret)
noncomputable def c16_4 : EC := (.seq (.seq (.steps [(.op Option.none (.pure 2 (vMove (.k (.int .i64 (.ofNat 0))))) (Option.some [.a, .a]))]) c16_5) c16_14)
noncomputable def c16_1 : EC := (.seq (.seq (.steps [(.op Option.none (.pure 1 (vMove (.sl []))) (Option.some [.b, .a])), (.op Option.none (.pure 23 (vLen (.sl [.b, .a]))) (Option.some [.c, .a])), (.op Option.none (.pure 1 (vMove (.sl [.a]))) (Option.some [.d, .a])), (.op Option.none (.pure 23 (vLen (.sl [.d, .a]))) (Option.some [.a, .b])), (.op Option.none (.pure 11 (vBin .no .neq (.sl [.c, .a]) (.sl [.a, .b]))) (Option.some [.b, .b]))]) c16_2) c16_4)
noncomputable def c16 : EF := ⟨(.seq (.steps [(.op Option.none (.pure 2 (vMove (.k (.bool Bool.false)))) (Option.some [.d]))]) c16_1), [(.slot (.sl [.d]))], Bool.false⟩
theorem c16_ok : compF Tryd.prog 16 = some c16 := by kernel_rfl
noncomputable def LF16 : FuncId → Option EF := lookF [(16, c16)]
theorem FF16 : LF16 16 = some c16 := rfl

def toks (l : List UInt8) : List (List AV) := toksGo (l.length + 1) l 0 []
theorem t17 {call : Calls'} {l : List UInt8} (h : H) (hl : l.length ≤ 1000000) (k21 : ∀ a h, a ≤ l.length → call 21 [T l, .int .i64 (a : Int)] h = .ret (.tup [nextA l a, .int .i64 ((nextM l a + (nextT l a).z : Nat) : Int)]) h) :
    ∃ v' h', evFun LF17 call (l.length + 1) 17 [T l] h = .ret v' h' ∧ OutT h h' v' (toks l) ∧ Since h h' := by
  obtain ⟨fr', h', v', g1, g2, g3, g4⟩ := all_all (call := call) (l.length + 1) h k21 hl (l.length + 1) 0 h .nils [] (.node (some (.v (T l))) .nil (.node (some (.v .nils)) .nil .nil .nil .nil) (.node (some (.v .nils)) .nil .nil .nil .nil) (.node (some (.v (.int .i64 0))) .nil .nil .nil .nil)) 0 (by omega) (by omega) (Nat.le_refl _) (.inl ⟨rfl, rfl⟩) ⟨.refl _, Nat.le_refl _⟩ rfl rfl rfl
  refine ⟨v', h', ?_, g2, g3⟩
  rw [Nat.add_zero] at g1
  simp [evFun, FF17, c17, c17_1, c17_2, c17_3, c17_4, g1, gs, g4]
theorem t18 {call : Calls'} {l : List UInt8} {zf : Nat → Nat} (h : H) (hl : l.length ≤ 1000000) (k15 : ∀ a h, a ≤ l.length → call 15 [T l, .int .i64 (a : Int)] h = .ret (.agg (rowA l a ++ [.int .i64 (zf a : Int)])) h) (hz18 : ∀ a, a ≤ l.length → (nextT l a).k ≠ 0 → (nextT l a).k ≠ 6 → zf a = nextM l a + (nextT l a).z) :
    ∃ v' h', evFun LF18 call (l.length + 1) 18 [T l] h = .ret v' h' ∧ OutT h h' v' (toks l) ∧ Since h h' := by
  obtain ⟨fr', h', v', g1, g2, g3, g4⟩ := rall_all (call := call) (l.length + 1) h k15 hl hz18 (l.length + 1) 0 h .nils [] (.node (some (.v (T l))) .nil (.node (some (.v .nils)) .nil .nil .nil .nil) (.node (some (.v .nils)) .nil .nil .nil .nil) (.node (some (.v (.int .i64 0))) .nil .nil .nil .nil)) 0 (by omega) (by omega) (Nat.le_refl _) (.inl ⟨rfl, rfl⟩) ⟨.refl _, Nat.le_refl _⟩ rfl rfl rfl
  refine ⟨v', h', ?_, g2, g3⟩
  rw [Nat.add_zero] at g1
  simp [evFun, FF18, c18, c18_1, c18_2, c18_3, c18_4, g1, gs, g4]
/-- A row of a token. -/
def TokRow (r : List AV) : Prop := ∃ (k : Int) (s : ByteArray) (n m : Int) (b : Bool), r = [.int .i64 k, .str s, .int .i64 n, .int .i64 m, .bool b]
section
variable {call : Calls'} {p p' : Path} {B B' : Blk} {L : List (List AV)} {h : H} (hb : Ev.get p h.t = some B) (hm : B.map = false) (hk : B.k = 5) (hL : ∀ (j : Nat) (hj : j < L.length), Ev.get (pathOf j) B.rows = some L[j])
  (hb' : Ev.get p' h.t = some B') (hm' : B'.map = false) (hk' : B'.k = 5) (hL' : ∀ (j : Nat) (hj : j < L.length), Ev.get (pathOf j) B'.rows = some L[j]) (hl : L.length ≤ 2000000) (hr : ∀ r ∈ L, TokRow r)
include hb hm hk hL hb' hm' hk' hL' hl hr
theorem sm_one (fuel i : Nat) (fr : FT) (hi : i < L.length) (e : Ev.get [] fr = some (.v (.sl p 5 0 L.length)) ∧ Ev.get [.a] fr = some (.v (.sl p' 5 0 L.length))) (e2 : Ev.get [.a, .a] fr = some (.v (.int .i64 (i : Int)))) :
    ∃ fr', evC call fuel c16_7 fr h = .norm fr' h ∧ (Ev.get [] fr' = some (.v (.sl p 5 0 L.length)) ∧ Ev.get [.a] fr' = some (.v (.sl p' 5 0 L.length))) ∧ Ev.get [.a, .a] fr' = some (.v (.int .i64 ((i + 1 : Nat) : Int))) := by
  obtain ⟨e0, e1⟩ := e
  have w : wrapF .i64 ((i : Int) + 1) = (i : Int) + 1 := wrap64 (by omega) (by omega)
  have r1 := hL i hi
  have r2 := hL' i hi
  obtain ⟨k, s, n, m, b, er⟩ := hr _ (List.getElem_mem hi)
  rw [er] at r1 r2
  have d5 : i * 5 / 5 = i := Nat.mul_div_cancel i (by decide)
  have d5' : i * 5 % 5 = 0 := Nat.mul_mod_left i 5
  cases b
  · refine ⟨?fr, ?e, ⟨?_, ?_⟩, ?_⟩
    case e =>
      simp [c16_7, c16_10, c16_11, c16_12, c16_13, c16_8, c16_9, gs, e0, e1, e2, hi, hb, hm, hk, hb', hm', hk', r1, r2, w, clrOut, d5, d5']
      rfl
    all_goals simp [gs, e0, e1, e2]
  · refine ⟨?fr2, ?e2, ⟨?_, ?_⟩, ?_⟩
    case e2 =>
      simp [c16_7, c16_10, c16_11, c16_12, c16_13, c16_8, c16_9, gs, e0, e1, e2, hi, hb, hm, hk, hb', hm', hk', r1, r2, w, clrOut, d5, d5']
      rfl
    all_goals simp [gs, e0, e1, e2]
theorem sm_end (fuel i : Nat) (fr : FT) (hi : ¬ i < L.length) (e : Ev.get [] fr = some (.v (.sl p 5 0 L.length)) ∧ Ev.get [.a] fr = some (.v (.sl p' 5 0 L.length))) (e2 : Ev.get [.a, .a] fr = some (.v (.int .i64 (i : Int)))) :
    ∃ fr', evC call fuel c16_7 fr h = .exit 0 fr' h := by
  obtain ⟨e0, e1⟩ := e
  refine ⟨?fr, ?e⟩
  case e =>
    simp [c16_7, c16_10, c16_11, c16_12, c16_13, c16_8, c16_9, gs, e0, e1, e2, hi]
    rfl
theorem sm_all (fuel : Nat) : ∀ (k i : Nat) (fr : FT) (j : Nat), L.length = i + k → (Ev.get [] fr = some (.v (.sl p 5 0 L.length)) ∧ Ev.get [.a] fr = some (.v (.sl p' 5 0 L.length))) → Ev.get [.a, .a] fr = some (.v (.int .i64 (i : Int))) →
    ∃ fr', loopF call fuel c16_7 (k + 1 + j) fr h = .exit 0 fr' h
  | 0, i, fr, j, hk0, e, e2 => by
    obtain ⟨fr', h1⟩ := sm_end (call := call) hb hm hk hL hb' hm' hk' hL' hl hr fuel i fr (by omega) e e2
    exact ⟨fr', by rw [show 0 + 1 + j = j + 1 by omega, loopF_succ, h1]⟩
  | k + 1, i, fr, j, hk0, e, e2 => by
    rw [show k + 1 + 1 + j = (k + 1 + j) + 1 by omega, loopF_succ]
    obtain ⟨fr1, h1, a0, a2⟩ := sm_one (call := call) hb hm hk hL hb' hm' hk' hL' hl hr fuel i fr (by omega) e e2
    obtain ⟨fr', h2⟩ := sm_all fuel k (i + 1) fr1 j (by omega) a0 a2
    exact ⟨fr', by rw [h1]; exact h2⟩
theorem t16 : evFun LF16 call (L.length + 1) 16 [.sl p 5 0 L.length, .sl p' 5 0 L.length] h = .ret (.bool true) h := by
  obtain ⟨fr', h1⟩ := sm_all (call := call) hb hm hk hL hb' hm' hk' hL' hl hr (L.length + 1) L.length 0 (.node (some (.v (.sl p 5 0 L.length))) (.node (some (.v (.sl p' 5 0 L.length))) (.node (some (.v (.int .i64 0))) .nil .nil .nil .nil) (.node (some (.v (.int .i64 (L.length : Int)))) .nil .nil .nil .nil) .nil .nil) (.node none (.node (some (.v (.sl p 5 0 L.length))) .nil .nil .nil .nil) (.node (some (.v (.bool false))) .nil .nil .nil .nil) .nil .nil) (.node none (.node (some (.v (.int .i64 (L.length : Int)))) .nil .nil .nil .nil) .nil .nil .nil) (.node (some (.v (.bool false))) (.node (some (.v (.sl p' 5 0 L.length))) .nil .nil .nil .nil) .nil .nil .nil)) 0 (by omega) ⟨rfl, rfl⟩ rfl
  rw [Nat.add_zero] at h1
  simp [evFun, FF16, c16, c16_1, c16_2, c16_3, c16_4, c16_5, c16_6, c16_14, h1, gs]
end
end Go.Proofs.Lx
