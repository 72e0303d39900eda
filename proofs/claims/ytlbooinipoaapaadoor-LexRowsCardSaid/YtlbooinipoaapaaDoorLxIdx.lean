import Derived.Test.YtlbooinipoaapaaDoorLxSkip
set_option linter.unusedSimpArgs false
set_option linter.unusedVariables false
set_option linter.unusedSectionVars false
namespace Go.Proofs.Lx
open Go.Ev
noncomputable def c38_10 : EC := (.seq (.steps [(.op Option.none (.pure 1 (vMove (.sl [.a, .a]))) (Option.some [.a, .d])), (.op Option.none (.pure 2 (vMove (.sl [.a, .d]))) (Option.some [.d]))]) .ret)
noncomputable def c38_9 : EC := (.cond (.sl [.d, .c]) c38_10 .skip)
noncomputable def c38_8 : EC := (.seq (.steps [(.op Option.none (.pure 1 (vMove (.sl [.a]))) (Option.some [.c, .b])), (.op Option.none (.pure 1 (vMove (.sl []))) (Option.some [.d, .b])), (.op Option.none (.pure 1 (vMove (.sl [.a, .a]))) (Option.some [.a, .c])), (.op Option.none (.pure 20 (vIndexAddr 1 (.sl [.d, .b]) (.sl [.a, .c]))) (Option.some [.b, .c])), (.op Option.none (.look 8 (lLoad (.sl [.b, .c]) 1 Bool.false)) (Option.some [.c, .c])), (.op Option.none (.pure 11 (vBin .no .eql (.sl [.c, .b]) (.sl [.c, .c]))) (Option.some [.d, .c]))]) c38_9)
noncomputable def c38_7 : EC := (.seq (.steps [(.op Option.none (.pure 1 (vMove (.sl [.d, .a]))) (Option.some [.b, .b])), (.op Option.none (.pure 2 (vMove (.sl [.b, .b]))) (Option.some [.a, .a]))]) c38_8)
noncomputable def c38_11 : EC := (.steps [(.op Option.none (.pure 11 (vBin .no .add (.sl [.d, .a]) (.k (.int .i64 (.ofNat 1))))) (Option.some [.b, .d])), (.op Option.none (.pure 1 (vMove (.sl [.b, .d]))) (Option.some [.d, .a]))])
noncomputable def c38_6 : EC := (.seq (.block 1 c38_7) c38_11)
noncomputable def c38_5 : EC := (.seq (.cond (.sl [.a, .b]) .skip (.exit 0)) c38_6)
noncomputable def c38_4 : EC := (.seq (.steps [(.op Option.none (.pure 11 (vBin .no .lss (.sl [.d, .a]) (.sl [.c, .a]))) (Option.some [.a, .b]))]) c38_5)
noncomputable def c38_3 : EC := (.loop c38_4)
noncomputable def c38_2 : EC := (.block 0 c38_3)
noncomputable def c38_12 : EC := (.seq (.steps [(.op Option.none (.pure 2 (vMove (.k (.int .i64 (.negSucc 0))))) (Option.some [.d]))]) .ret)
noncomputable def c38_1 : EC := (.seq (.seq (.steps [(.op Option.none (.pure 1 (vMove (.sl []))) (Option.some [.b, .a])), (.op Option.none (.pure 23 (vLen (.sl [.b, .a]))) (Option.some [.c, .a])), (.op Option.none (.pure 1 (vMove (.k (.int .i64 (.ofNat 0))))) (Option.some [.d, .a]))]) c38_2) c38_12)
noncomputable def c38 : EF := ⟨(.seq (.steps [(.op Option.none (.pure 2 (vMove (.k (.int .i64 (.ofNat 0))))) (Option.some [.d]))]) c38_1), [(.slot (.sl [.d]))], Bool.false⟩
theorem c38_ok : compF Tryd.prog 38 = some c38 := by kernel_rfl
noncomputable def LF38 : FuncId → Option EF := lookF [(38, c38)]
theorem FF38 : LF38 38 = some c38 := rfl
noncomputable def c29_1 : EC := (.seq (.steps [(.op Option.none (.pure 1 (vMove (.sl []))) (Option.some [.a, .a])), (.op Option.none (.pure 1 (vMove (.sl [.a]))) (Option.some [.b, .a])), (.op Option.none (.eff (hCall (.k (.fn 38 [] [])) [(.sl [.a, .a]), (.sl [.b, .a])])) (Option.some [.c, .a])), (.op Option.none (.pure 11 (vBin .no .geq (.sl [.c, .a]) (.k (.int .i64 (.ofNat 0))))) (Option.some [.d, .a])), (.op Option.none (.pure 2 (vMove (.sl [.d, .a]))) (Option.some [.d]))]) .ret)
noncomputable def c29 : EF := ⟨(.seq (.steps [(.op Option.none (.pure 2 (vMove (.k (.bool Bool.false)))) (Option.some [.d]))]) c29_1), [(.slot (.sl [.d]))], Bool.false⟩
theorem c29_ok : compF Tryd.prog 29 = some c29 := by kernel_rfl
noncomputable def LF29 : FuncId → Option EF := lookF [(29, c29)]
theorem FF29 : LF29 29 = some c29 := rfl
noncomputable def c19_1 : EC := (.seq (.steps [(.op Option.none (.eff (hCall (.k (.fn 30 [] [])) [(.k (.str ⟨#[108, 101, 116, 32, 99, 111, 110, 115, 116, 32, 102, 117, 110, 99, 116, 105, 111, 110, 32, 114, 101, 116, 117, 114, 110, 32, 105, 102, 32, 101, 108, 115, 101, 32, 119, 104, 105, 108, 101, 32, 98, 114, 101, 97, 107, 32, 99, 111, 110, 116, 105, 110, 117, 101, 32, 116, 104, 114, 111, 119, 32, 116, 114, 121, 32, 99, 97, 116, 99, 104, 32, 116, 114, 117, 101, 32, 102, 97, 108, 115, 101, 32, 110, 117, 108, 108, 32, 117, 110, 100, 101, 102, 105, 110, 101, 100, 32, 116, 104, 105, 115, 32, 116, 121, 112, 101, 111, 102, 32, 121, 105, 101, 108, 100]⟩))])) (Option.some [.c])), (.op Option.none (.pure 1 (vMove (.sl []))) (Option.some [.d])), (.op Option.none (.eff (hCall (.k (.fn 29 [] [])) [(.sl [.c]), (.sl [.d])])) (Option.some [.a, .a])), (.op Option.none (.pure 2 (vMove (.sl [.a, .a]))) (Option.some [.b]))]) .ret)
noncomputable def c19 : EF := ⟨(.seq (.steps [(.op Option.none (.pure 2 (vMove (.k (.bool Bool.false)))) (Option.some [.b]))]) c19_1), [(.slot (.sl [.b]))], Bool.false⟩
theorem c19_ok : compF Tryd.prog 19 = some c19 := by kernel_rfl
noncomputable def LF19 : FuncId → Option EF := lookF [(19, c19)]
theorem FF19 : LF19 19 = some c19 := rfl

/-- The texts of rows. -/
noncomputable def strsIn (rows : Tr (List AV)) : Nat → Nat → Option (List ByteArray)
  | 0, _ => some []
  | n + 1, i => match Ev.get (pathOf i) rows with
    | some [.str s] => (match strsIn rows n (i + 1) with | some l => some (s :: l) | none => none)
    | _ => none
theorem strsIn_at {rows : Tr (List AV)} : ∀ {n i : Nat} {L : List ByteArray}, strsIn rows n i = some L → L.length = n ∧ ∀ (j : Nat) (hj : j < L.length), Ev.get (pathOf (i + j)) rows = some [.str L[j]]
  | 0, i, L, h => by
    cases h
    exact ⟨rfl, fun j hj => absurd hj (Nat.not_lt_zero _)⟩
  | n + 1, i, L, h => by
    unfold strsIn at h
    split at h
    · rename_i s hs
      split at h
      · rename_i l hl
        cases h
        obtain ⟨h1, h2⟩ := strsIn_at hl
        refine ⟨by simp [h1], fun j hj => ?_⟩
        cases j with
        | zero => simpa using hs
        | succ j =>
          have := h2 j (by simpa using hj)
          rw [show i + (j + 1) = i + 1 + j by omega, this]
          simp
      · cases h
    · cases h
def idxS (s : ByteArray) : List ByteArray → Nat → Int
  | [], _ => -1
  | x :: l, i => if sEq s x then (i : Int) else idxS s l (i + 1)
theorem idxS_cons (s x : ByteArray) (l : List ByteArray) (i : Nat) : idxS s (x :: l) i = if sEq s x then (i : Int) else idxS s l (i + 1) := rfl
section
variable {call : Calls'} {p : Path} {b : Blk} {L : List ByteArray} {s : ByteArray} {h : H} (hb : Ev.get p h.t = some b) (hm : b.map = false) (hk : b.k = 1) (hL : ∀ (j : Nat) (hj : j < L.length), Ev.get (pathOf j) b.rows = some [.str L[j]]) (hl : L.length ≤ 1000000)
include hb hm hk hL hl
theorem idx_one (fuel i : Nat) (fr : FT) (hi : i < L.length) (he : sEq s L[i] = false)
    (e0 : Ev.get [] fr = some (.v (.sl p 1 0 L.length))) (e1 : Ev.get [.a] fr = some (.v (.str s))) (e2 : Ev.get [.d, .a] fr = some (.v (.int .i64 (i : Int)))) (e3 : Ev.get [.c, .a] fr = some (.v (.int .i64 (L.length : Int)))) :
    ∃ fr', evC call fuel c38_4 fr h = .norm fr' h ∧ Ev.get [] fr' = some (.v (.sl p 1 0 L.length)) ∧ Ev.get [.a] fr' = some (.v (.str s)) ∧ Ev.get [.d, .a] fr' = some (.v (.int .i64 ((i + 1 : Nat) : Int))) ∧ Ev.get [.c, .a] fr' = some (.v (.int .i64 (L.length : Int))) := by
  have w : wrapF .i64 ((i : Int) + 1) = (i : Int) + 1 := wrap64 (by omega) (by omega)
  have hr := hL i hi
  refine ⟨?fr, ?e, ?_, ?_, ?_, ?_⟩
  case e =>
    simp [c38_4, c38_10, c38_11, c38_5, c38_6, c38_7, c38_8, c38_9, gs, e0, e1, e2, e3, hi, hb, hm, hk, hr, he, w]
    rfl
  all_goals simp [gs, e0, e1, e2, e3]
theorem idx_hit (fuel i : Nat) (fr : FT) (hi : i < L.length) (he : sEq s L[i] = true)
    (e0 : Ev.get [] fr = some (.v (.sl p 1 0 L.length))) (e1 : Ev.get [.a] fr = some (.v (.str s))) (e2 : Ev.get [.d, .a] fr = some (.v (.int .i64 (i : Int)))) (e3 : Ev.get [.c, .a] fr = some (.v (.int .i64 (L.length : Int)))) :
    ∃ fr', evC call fuel c38_4 fr h = .ret fr' h ∧ Ev.get [.d] fr' = some (.v (.int .i64 (i : Int))) := by
  have hr := hL i hi
  refine ⟨?fr, ?e, ?_⟩
  case e =>
    simp [c38_4, c38_10, c38_11, c38_5, c38_6, c38_7, c38_8, c38_9, gs, e0, e1, e2, e3, hi, hb, hm, hk, hr, he]
    rfl
  all_goals simp [gs, e0, e1, e2, e3]
theorem idx_end (fuel i : Nat) (fr : FT) (hi : ¬ i < L.length)
    (e2 : Ev.get [.d, .a] fr = some (.v (.int .i64 (i : Int)))) (e3 : Ev.get [.c, .a] fr = some (.v (.int .i64 (L.length : Int)))) :
    ∃ fr', evC call fuel c38_4 fr h = .exit 0 fr' h := by
  refine ⟨?fr, ?e⟩
  case e =>
    simp [c38_4, c38_10, c38_11, c38_5, c38_6, c38_7, c38_8, c38_9, gs, e2, e3, hi]
    rfl
theorem idx_all (fuel : Nat) : ∀ (k i : Nat) (fr : FT) (j : Nat), L.length = i + k → Ev.get [] fr = some (.v (.sl p 1 0 L.length)) → Ev.get [.a] fr = some (.v (.str s)) → Ev.get [.d, .a] fr = some (.v (.int .i64 (i : Int))) → Ev.get [.c, .a] fr = some (.v (.int .i64 (L.length : Int))) →
    ∃ fr', (loopF call fuel c38_4 (k + 1 + j) fr h = .exit 0 fr' h ∧ idxS s (L.drop i) i = -1) ∨ (loopF call fuel c38_4 (k + 1 + j) fr h = .ret fr' h ∧ Ev.get [.d] fr' = some (.v (.int .i64 (idxS s (L.drop i) i))))
  | 0, i, fr, j, hk', e0, e1, e2, e3 => by
    obtain ⟨fr', h1⟩ := idx_end (call := call) hb hm hk hL hl fuel i fr (by omega) e2 e3
    refine ⟨fr', .inl ⟨by rw [show 0 + 1 + j = j + 1 by omega, loopF_succ, h1], ?_⟩⟩
    rw [List.drop_eq_nil_of_le (by omega)]; rfl
  | k + 1, i, fr, j, hk', e0, e1, e2, e3 => by
    have hi : i < L.length := by omega
    have hd : L.drop i = L[i] :: L.drop (i + 1) := List.drop_eq_getElem_cons hi
    rw [show k + 1 + 1 + j = (k + 1 + j) + 1 by omega, loopF_succ]
    cases he : sEq s L[i]
    · obtain ⟨fr1, h1, a0, a1, a2, a3⟩ := idx_one (call := call) hb hm hk hL hl fuel i fr hi he e0 e1 e2 e3
      obtain ⟨fr', h2⟩ := idx_all fuel k (i + 1) fr1 j (by omega) a0 a1 a2 a3
      have hs : idxS s (L.drop i) i = idxS s (L.drop (i + 1)) (i + 1) := by rw [hd, idxS_cons, he]; rfl
      rw [hs, h1]
      exact ⟨fr', h2⟩
    · obtain ⟨fr', h1, h2⟩ := idx_hit (call := call) hb hm hk hL hl fuel i fr hi he e0 e1 e2 e3
      have hs : idxS s (L.drop i) i = (i : Int) := by rw [hd, idxS_cons, he]; rfl
      exact ⟨fr', .inr ⟨by rw [h1], by rw [hs]; exact h2⟩⟩
theorem t38 : evFun LF38 call (L.length + 1) 38 [.sl p 1 0 L.length, .str s] h = .ret (.int .i64 (idxS s L 0)) h := by
  obtain ⟨fr', h1⟩ := idx_all (call := call) (s := s) hb hm hk hL hl (L.length + 1) L.length 0 (.node (some (.v (.sl p 1 0 L.length))) (.node (some (.v (.str s))) .nil .nil .nil .nil) (.node none (.node (some (.v (.sl p 1 0 L.length))) .nil .nil .nil .nil) .nil .nil .nil) (.node none (.node (some (.v (.int .i64 (L.length : Int)))) .nil .nil .nil .nil) .nil .nil .nil) (.node (some (.v (.int .i64 0))) (.node (some (.v (.int .i64 0))) .nil .nil .nil .nil) .nil .nil .nil)) 0 (by omega) rfl rfl rfl rfl
  simp only [List.drop_zero, Nat.add_zero] at h1
  rcases h1 with ⟨h1, h2⟩ | ⟨h1, h2⟩ <;> simp [evFun, FF38, c38, c38_1, c38_2, c38_3, c38_12, h1, h2, gs]
end
theorem t29 {call : Calls'} {p : Path} {n : Nat} {s : ByteArray} {h : H} {z : Int} (k38 : call 38 [.sl p 1 0 n, .str s] h = .ret (.int .i64 z) h) : evFun LF29 call 1 29 [.sl p 1 0 n, .str s] h = .ret (.bool (!decide (z < 0))) h := by
  simp [evFun, FF29, c29, c29_1, k38]
end Go.Proofs.Lx
