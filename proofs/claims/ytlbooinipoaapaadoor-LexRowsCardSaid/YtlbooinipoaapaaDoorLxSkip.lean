import Derived.Test.YtlbooinipoaapaaDoorLxSmall
set_option linter.unusedSimpArgs false
set_option linter.unusedVariables false
set_option linter.unusedSectionVars false
namespace Go.Proofs.Lx
open Go.Ev
noncomputable def c33_4 : EC := (.cond (.sl [.c, .a]) .skip (.exit 0))
noncomputable def c33_10 : EC := (.steps [(.op Option.none (.pure 1 (vMove (.sl [.b]))) (Option.some [.c, .a, .a])), (.op Option.none (.pure 11 (vBin .no .add (.sl [.c, .a, .a]) (.k (.int .i64 (.ofNat 1))))) (Option.some [.d, .a, .a])), (.op Option.none (.pure 2 (vMove (.sl [.d, .a, .a]))) (Option.some [.b]))])
noncomputable def c33_9 : EC := (.seq (.steps [(.op Option.none (.pure 1 (vMove (.sl [.c]))) (Option.some [.d, .c])), (.op Option.none (.pure 1 (vMove (.sl [.d, .c]))) (Option.some [.a, .d])), (.op (Option.some ([.a, .d], Bool.false)) (.pure 1 (vMove (.sl []))) (Option.some [.b, .d])), (.op (Option.some ([.a, .d], Bool.false)) (.pure 1 (vMove (.sl [.b]))) (Option.some [.c, .d])), (.op (Option.some ([.a, .d], Bool.false)) (.pure 21 (vIndex (.sl [.b, .d]) (.sl [.c, .d]))) (Option.some [.d, .d])), (.op (Option.some ([.a, .d], Bool.false)) (.pure 11 (vBin .no .eql (.sl [.d, .d]) (.k (.int .u8 (.ofNat 10))))) (Option.some [.a, .a, .a])), (.op Option.none (.pure 3 (vPick (.sl [.a, .d]) (.k (.bool Bool.true)) (.sl [.a, .a, .a]))) (Option.some [.b, .a, .a])), (.op Option.none (.pure 2 (vMove (.sl [.b, .a, .a]))) (Option.some [.c]))]) c33_10)
noncomputable def c33_13 : EC := (.steps [(.op Option.none (.pure 1 (vMove (.sl [.b]))) (Option.some [.b, .c, .a])), (.op Option.none (.pure 1 (vMove (.sl []))) (Option.some [.c, .c, .a])), (.op Option.none (.pure 1 (vMove (.sl [.b]))) (Option.some [.d, .c, .a])), (.op Option.none (.pure 17 (vSliceS (.sl [.c, .c, .a]) (Option.some (.sl [.d, .c, .a])) Option.none)) (Option.some [.a, .d, .a])), (.op Option.none (.eff (hCall (.k (.fn 43 [] [])) [(.sl [.a, .d, .a]), (.k (.fn 44 [] []))])) (Option.some [.b, .d, .a])), (.op Option.none (.pure 11 (vBin .no .add (.sl [.b, .c, .a]) (.sl [.b, .d, .a]))) (Option.some [.c, .d, .a])), (.op Option.none (.pure 2 (vMove (.sl [.c, .d, .a]))) (Option.some [.b]))])
noncomputable def c33_14 : EC := (.seq (.steps [(.op Option.none (.pure 1 (vMove (.sl [.b]))) (Option.some [.d, .a])), (.op Option.none (.pure 1 (vMove (.sl [.c]))) (Option.some [.a, .b])), (.op Option.none (.pure 2 (vMove (.sl [.d, .a]))) (Option.some [.b])), (.op Option.none (.pure 2 (vMove (.sl [.a, .b]))) (Option.some [.c]))]) .ret)
noncomputable def c33_12 : EC := (.cond (.sl [.a, .b, .a]) c33_13 c33_14)
noncomputable def c33_11 : EC := (.seq (.steps [(.op Option.none (.pure 1 (vMove (.sl []))) (Option.some [.b, .b, .a])), (.op Option.none (.pure 1 (vMove (.sl [.b]))) (Option.some [.c, .b, .a])), (.op Option.none (.pure 17 (vSliceS (.sl [.b, .b, .a]) (Option.some (.sl [.c, .b, .a])) Option.none)) (Option.some [.d, .b, .a])), (.op Option.none (.eff (hCall (.k (.fn 42 [] [])) [(.sl [.d, .b, .a]), (.k (.str ⟨#[47, 47]⟩))])) (Option.some [.a, .c, .a])), (.op Option.none (.pure 2 (vMove (.sl [.a, .c, .a]))) (Option.some [.a, .b, .a]))]) c33_12)
noncomputable def c33_8 : EC := (.cond (.sl [.b, .b]) c33_9 c33_11)
noncomputable def c33_7 : EC := (.seq (.steps [(.op Option.none (.pure 1 (vMove (.sl []))) (Option.some [.c, .b])), (.op Option.none (.pure 1 (vMove (.sl [.b]))) (Option.some [.d, .b])), (.op Option.none (.pure 21 (vIndex (.sl [.c, .b]) (.sl [.d, .b]))) (Option.some [.a, .c])), (.op Option.none (.eff (hCall (.k (.fn 41 [] [])) [(.k (.str ⟨#[9, 10, 13, 32]⟩)), (.sl [.a, .c])])) (Option.some [.b, .c])), (.op Option.none (.pure 11 (vBin .no .geq (.sl [.b, .c]) (.k (.int .i64 (.ofNat 0))))) (Option.some [.c, .c])), (.op Option.none (.pure 2 (vMove (.sl [.c, .c]))) (Option.some [.b, .b]))]) c33_8)
noncomputable def c33_6 : EC := (.block 2 c33_7)
noncomputable def c33_5 : EC := (.block 1 c33_6)
noncomputable def c33_3 : EC := (.seq (.seq (.steps [(.op Option.none (.pure 1 (vMove (.sl [.b]))) (Option.some [.d])), (.op Option.none (.pure 1 (vMove (.sl []))) (Option.some [.a, .a])), (.op Option.none (.pure 23 (vLenS (.sl [.a, .a]))) (Option.some [.b, .a])), (.op Option.none (.pure 11 (vBin .no .lss (.sl [.d]) (.sl [.b, .a]))) (Option.some [.c, .a]))]) c33_4) c33_5)
noncomputable def c33_2 : EC := (.loop c33_3)
noncomputable def c33_15 : EC := (.seq (.steps [(.op Option.none (.pure 1 (vMove (.sl [.b]))) (Option.some [.d, .d, .a])), (.op Option.none (.pure 1 (vMove (.sl [.c]))) (Option.some [.a, .a, .b])), (.op Option.none (.pure 2 (vMove (.sl [.d, .d, .a]))) (Option.some [.b])), (.op Option.none (.pure 2 (vMove (.sl [.a, .a, .b]))) (Option.some [.c]))]) .ret)
noncomputable def c33_1 : EC := (.seq (.block 0 c33_2) c33_15)
noncomputable def c33 : EF := ⟨(.seq (.steps [(.op Option.none (.pure 2 (vMove (.k (.int .i64 (.ofNat 0))))) (Option.some [.b])), (.op Option.none (.pure 2 (vMove (.k (.bool Bool.false)))) (Option.some [.c]))]) c33_1), [(.slot (.sl [.b])), (.slot (.sl [.c]))], Bool.false⟩
theorem c33_ok : compF Tryd.prog 33 = some c33 := by kernel_rfl
noncomputable def LF33 : FuncId → Option EF := lookF [(33, c33)]
theorem FF33 : LF33 33 = some c33 := rfl

def blankB (c : UInt8) : Bool := !decide (Lib.indexByte [9, 10, 13, 32] c < 0)
/-- How many bytes are blanks and comments, and whether a line ends among them. -/
def skipGo : Nat → List UInt8 → Nat × Bool
  | 0, _ => (0, false)
  | f + 1, l => match l with
    | [] => (0, false)
    | c :: r => if blankB c then ((skipGo f r).1 + 1, eqI c 10 || (skipGo f r).2)
      else if preB l [47, 47] then ((l.takeWhile lineB).length + (skipGo f (l.drop (l.takeWhile lineB).length)).1, (skipGo f (l.drop (l.takeWhile lineB).length)).2)
      else (0, false)
theorem skipGo_cons (f : Nat) (c : UInt8) (r : List UInt8) : skipGo (f + 1) (c :: r) = if blankB c then ((skipGo f r).1 + 1, eqI c 10 || (skipGo f r).2)
      else if preB (c :: r) [47, 47] then (((c :: r).takeWhile lineB).length + (skipGo f ((c :: r).drop ((c :: r).takeWhile lineB).length)).1, (skipGo f ((c :: r).drop ((c :: r).takeWhile lineB).length)).2)
      else (0, false) := rfl
def skipP (l : List UInt8) : Nat × Bool := skipGo (l.length + 1) l
section
variable {call : Calls'} (k41 : ∀ c h, call 41 [.str ⟨#[9, 10, 13, 32]⟩, .int .u8 (UInt8.toNat c : Int)] h = .ret (.int .i64 (Lib.indexByte [9, 10, 13, 32] c)) h) (k42 : ∀ l p h, call 42 [T l, T p] h = .ret (.bool (preB l p)) h)
  (k43 : ∀ l h, List.length l ≤ 1000000 → call 43 [T l, .fn 44 [] []] h = .ret (.int .i64 ((l.takeWhile lineB).length : Nat)) h)
include k41 k42 k43
theorem skip_end (l : List UInt8) (fuel n : Nat) (b : Bool) (fr : FT) (h : H) (hn : ¬ n < l.length)
    (e0 : Ev.get [] fr = some (.v (T l))) (e1 : Ev.get [.b] fr = some (.v (.int .i64 (n : Int)))) (e2 : Ev.get [.c] fr = some (.v (.bool b))) :
    ∃ fr', evC call fuel c33_3 fr h = .exit 0 fr' h ∧ Ev.get [.b] fr' = some (.v (.int .i64 (n : Int))) ∧ Ev.get [.c] fr' = some (.v (.bool b)) := by
  refine ⟨?fr, ?e, ?_, ?_⟩
  case e =>
    simp [c33_3, c33_10, c33_11, c33_12, c33_13, c33_14, c33_4, c33_5, c33_6, c33_7, c33_8, c33_9, gs, e0, e1, e2, hn]
    rfl
  all_goals simp [gs, e0, e1, e2]
theorem skip_blank (l : List UInt8) (fuel n : Nat) (b : Bool) (fr : FT) (h : H) (hn : n < l.length) (hl : l.length ≤ 1000000) (hb : blankB l[n] = true)
    (e0 : Ev.get [] fr = some (.v (T l))) (e1 : Ev.get [.b] fr = some (.v (.int .i64 (n : Int)))) (e2 : Ev.get [.c] fr = some (.v (.bool b))) :
    ∃ fr', evC call fuel c33_3 fr h = .norm fr' h ∧ Ev.get [] fr' = some (.v (T l)) ∧ Ev.get [.b] fr' = some (.v (.int .i64 ((n + 1 : Nat) : Int))) ∧ Ev.get [.c] fr' = some (.v (.bool (b || eqI l[n] 10))) := by
  have w : wrapF .i64 ((n : Int) + 1) = (n : Int) + 1 := wrap64 (by omega) (by omega)
  have hb : ¬ Lib.indexByte [9, 10, 13, 32] l[n] < 0 := by simpa [blankB] using hb
  cases b
  · refine ⟨?fr, ?e, ?_, ?_, ?_⟩
    case e =>
      simp [c33_3, c33_10, c33_11, c33_12, c33_13, c33_14, c33_4, c33_5, c33_6, c33_7, c33_8, c33_9, gs, e0, e1, e2, hn, k41, hb, w]
      rfl
    all_goals simp [gs, e0, e1, e2, eqI]
  · refine ⟨?fr1, ?e1, ?_, ?_, ?_⟩
    case e1 =>
      simp [c33_3, c33_10, c33_11, c33_12, c33_13, c33_14, c33_4, c33_5, c33_6, c33_7, c33_8, c33_9, gs, e0, e1, e2, hn, k41, hb, w]
      rfl
    all_goals simp [gs, e0, e1, e2]
theorem skip_note (l : List UInt8) (fuel n : Nat) (b : Bool) (fr : FT) (h : H) (hn : n < l.length) (hl : l.length ≤ 1000000) (hb : blankB l[n] = false) (hp : preB (l.drop n) [47, 47] = true)
    (e0 : Ev.get [] fr = some (.v (T l))) (e1 : Ev.get [.b] fr = some (.v (.int .i64 (n : Int)))) (e2 : Ev.get [.c] fr = some (.v (.bool b))) :
    ∃ fr', evC call fuel c33_3 fr h = .norm fr' h ∧ Ev.get [] fr' = some (.v (T l)) ∧ Ev.get [.b] fr' = some (.v (.int .i64 ((n + ((l.drop n).takeWhile lineB).length : Nat) : Int))) ∧ Ev.get [.c] fr' = some (.v (.bool b)) := by
  have hq : ((l.drop n).takeWhile lineB).length ≤ l.length := Nat.le_trans (List.takeWhile_sublist _).length_le (by simp)
  have w : wrapF .i64 ((n : Int) + (((l.drop n).takeWhile lineB).length : Int)) = (n : Int) + (((l.drop n).takeWhile lineB).length : Int) := wrap64 (by omega) (by omega)
  have hb : Lib.indexByte [9, 10, 13, 32] l[n] < 0 := by simpa [blankB] using hb
  have q42 : ∀ h, call 42 [T (l.drop n), .str ⟨#[47, 47]⟩] h = .ret (.bool true) h := fun h => (k42 (l.drop n) [47, 47] h).trans (by rw [hp])
  have q43 : ∀ h, call 43 [T (l.drop n), .fn 44 [] []] h = .ret (.int .i64 (((l.drop n).takeWhile lineB).length : Nat)) h := fun h => k43 (l.drop n) h (by simp; omega)
  have tk : (l.drop n).take (l.length - n) = l.drop n := List.take_of_length_le (by simp)
  refine ⟨?fr, ?e, ?_, ?_, ?_⟩
  case e =>
    simp [c33_3, c33_10, c33_11, c33_12, c33_13, c33_14, c33_4, c33_5, c33_6, c33_7, c33_8, c33_9, gs, e0, e1, e2, hn, Nat.le_of_lt hn, k41, hb, w, q42, q43, vSliceS, gvo, sliceS, bnd, tk]
    rfl
  all_goals simp [gs, e0, e1, e2]
theorem skip_out (l : List UInt8) (fuel n : Nat) (b : Bool) (fr : FT) (h : H) (hn : n < l.length) (hl : l.length ≤ 1000000) (hb : blankB l[n] = false) (hp : preB (l.drop n) [47, 47] = false)
    (e0 : Ev.get [] fr = some (.v (T l))) (e1 : Ev.get [.b] fr = some (.v (.int .i64 (n : Int)))) (e2 : Ev.get [.c] fr = some (.v (.bool b))) :
    ∃ fr', evC call fuel c33_3 fr h = .ret fr' h ∧ Ev.get [.b] fr' = some (.v (.int .i64 (n : Int))) ∧ Ev.get [.c] fr' = some (.v (.bool b)) := by
  have hb : Lib.indexByte [9, 10, 13, 32] l[n] < 0 := by simpa [blankB] using hb
  have q42 : ∀ h, call 42 [T (l.drop n), .str ⟨#[47, 47]⟩] h = .ret (.bool false) h := fun h => (k42 (l.drop n) [47, 47] h).trans (by rw [hp])
  have tk : (l.drop n).take (l.length - n) = l.drop n := List.take_of_length_le (by simp)
  refine ⟨?fr, ?e, ?_, ?_⟩
  case e =>
    simp [c33_3, c33_10, c33_11, c33_12, c33_13, c33_14, c33_4, c33_5, c33_6, c33_7, c33_8, c33_9, gs, e0, e1, e2, hn, Nat.le_of_lt hn, k41, hb, q42, vSliceS, gvo, sliceS, bnd, tk]
    rfl
  all_goals simp [gs, e0, e1, e2]
theorem skip_all (l : List UInt8) (fuel : Nat) (h : H) (hl : l.length ≤ 1000000) : ∀ (f n : Nat) (b : Bool) (fr : FT) (j : Nat), n ≤ l.length → l.length < n + f →
    Ev.get [] fr = some (.v (T l)) → Ev.get [.b] fr = some (.v (.int .i64 (n : Int))) → Ev.get [.c] fr = some (.v (.bool b)) →
    ∃ fr', (loopF call fuel c33_3 (f + j) fr h = .exit 0 fr' h ∨ loopF call fuel c33_3 (f + j) fr h = .ret fr' h) ∧ Ev.get [.b] fr' = some (.v (.int .i64 ((n + (skipGo f (l.drop n)).1 : Nat) : Int))) ∧ Ev.get [.c] fr' = some (.v (.bool (b || (skipGo f (l.drop n)).2)))
  | 0, n, b, fr, j, h1, h2, _, _, _ => by omega
  | f + 1, n, b, fr, j, h1, h2, e0, e1, e2 => by
    rw [show f + 1 + j = (f + j) + 1 by omega, loopF_succ]
    by_cases hn : n < l.length
    · have hd : l.drop n = l[n] :: l.drop (n + 1) := List.drop_eq_getElem_cons hn
      cases hb : blankB l[n]
      · cases hp : preB (l.drop n) [47, 47]
        · obtain ⟨fr', g1, g2, g3⟩ := skip_out k41 k42 k43 l fuel n b fr h hn hl hb hp e0 e1 e2
          have hs : skipGo (f + 1) (l.drop n) = (0, false) := by
            have hp' := hp
            rw [hd] at hp'
            rw [hd, skipGo_cons, hb, hp']
            rfl
          exact ⟨fr', .inr (by rw [g1]), by rw [hs]; exact g2, by rw [hs]; simpa using g3⟩
        · obtain ⟨fr1, g1, a0, a1, a2⟩ := skip_note k41 k42 k43 l fuel n b fr h hn hl hb hp e0 e1 e2
          have hpos : 0 < ((l.drop n).takeWhile lineB).length := by
            have : l[n] = 47 := by
              have hp' := hp
              rw [hd] at hp'
              simp only [preB, Bool.and_eq_true, bytesEq_iff, beq_iff_eq] at hp'
              have hq : l[n] :: List.take 1 (l.drop (n + 1)) = [47, 47] := hp'.2
              exact (List.cons.inj hq).1
            rw [hd, List.takeWhile_cons, this]
            simp [lineB, eqI]
          have hle : ((l.drop n).takeWhile lineB).length ≤ l.length - n := Nat.le_trans (List.takeWhile_sublist _).length_le (by simp)
          obtain ⟨fr', g2, g3, g4⟩ := skip_all l fuel h hl f (n + ((l.drop n).takeWhile lineB).length) b fr1 j (by omega) (by omega) a0 a1 a2
          have hs : skipGo (f + 1) (l.drop n) = (((l.drop n).takeWhile lineB).length + (skipGo f ((l.drop n).drop ((l.drop n).takeWhile lineB).length)).1, (skipGo f ((l.drop n).drop ((l.drop n).takeWhile lineB).length)).2) := by
            have hp' := hp
            rw [hd] at hp'
            rw [hd, skipGo_cons, hb, hp', ← hd]
            rfl
          rw [List.drop_drop] at hs
          refine ⟨fr', by rw [g1]; exact g2, ?_, ?_⟩
          · rw [hs, g3]; simp only; congr 3; omega
          · rw [hs]; exact g4
      · obtain ⟨fr1, g1, a0, a1, a2⟩ := skip_blank k41 k42 k43 l fuel n b fr h hn hl hb e0 e1 e2
        obtain ⟨fr', g2, g3, g4⟩ := skip_all l fuel h hl f (n + 1) (b || eqI l[n] 10) fr1 j (by omega) (by omega) a0 a1 a2
        have hs : skipGo (f + 1) (l.drop n) = ((skipGo f (l.drop (n + 1))).1 + 1, eqI l[n] 10 || (skipGo f (l.drop (n + 1))).2) := by
          rw [hd, skipGo_cons, hb]; rfl
        refine ⟨fr', by rw [g1]; exact g2, ?_, ?_⟩
        · rw [hs, g3]; simp only; congr 3; omega
        · rw [hs, g4, Bool.or_assoc]
    · obtain ⟨fr', g1, g2, g3⟩ := skip_end k41 k42 k43 l fuel n b fr h hn e0 e1 e2
      have hs : skipGo (f + 1) (l.drop n) = (0, false) := by rw [List.drop_eq_nil_of_le (by omega)]; rfl
      exact ⟨fr', .inl (by rw [g1]), by rw [hs]; exact g2, by rw [hs]; simpa using g3⟩
theorem t33 (l : List UInt8) (h : H) (hl : l.length ≤ 1000000) :
    evFun LF33 call (l.length + 1) 33 [T l] h = .ret (.tup [.int .i64 ((skipP l).1 : Nat), .bool (skipP l).2]) h := by
  obtain ⟨fr', h1, h2, h3⟩ := skip_all k41 k42 k43 l (l.length + 1) h hl (l.length + 1) 0 false (.node (some (.v (T l))) .nil (.node (some (.v (.int .i64 0))) .nil .nil .nil .nil) (.node (some (.v (.bool false))) .nil .nil .nil .nil) .nil) 0 (by omega) (by omega) rfl rfl rfl
  simp only [Nat.zero_add, List.drop_zero, Bool.false_or, Nat.add_zero] at h1 h2 h3
  rcases h1 with h1 | h1 <;> simp [evFun, FF33, c33, c33_1, c33_2, c33_15, h1, h2, h3, gs, skipP]
end
end Go.Proofs.Lx
