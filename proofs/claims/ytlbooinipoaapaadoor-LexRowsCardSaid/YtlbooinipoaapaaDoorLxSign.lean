import Derived.Test.YtlbooinipoaapaaDoorLxIdx
set_option linter.unusedSimpArgs false
set_option linter.unusedVariables false
set_option linter.unusedSectionVars false
namespace Go.Proofs.Lx
open Go.Ev
noncomputable def c37_10 : EC := (.seq (.steps [(.op Option.none (.pure 1 (vMove (.sl [.a, .a]))) (Option.some [.c, .c])), (.op Option.none (.pure 6 (vBuild [(.int .i64 (.ofNat 0)), (.str ⟨#[]⟩), (.int .i64 (.ofNat 0)), (.int .i64 (.ofNat 0)), (.bool Bool.false)] [(0, (1, (.k (.int .i64 (.ofNat 5))))), (1, (1, (.sl [.c, .c])))])) (Option.some [.d, .c])), (.op Option.none (.pure 1 (vMove (.sl [.a, .a]))) (Option.some [.a, .d])), (.op Option.none (.pure 23 (vLenS (.sl [.a, .d]))) (Option.some [.b, .d])), (.op Option.none (.eff (hStore (.sl [.b]) (.sl [.d, .c]) 5)) Option.none), (.op Option.none (.pure 2 (vMove (.sl [.b, .d]))) (Option.some [.c]))]) .ret)
noncomputable def c37_9 : EC := (.cond (.sl [.b, .c]) c37_10 .skip)
noncomputable def c37_8 : EC := (.seq (.steps [(.op Option.none (.pure 1 (vMove (.sl []))) (Option.some [.d, .b])), (.op Option.none (.pure 1 (vMove (.sl [.a, .a]))) (Option.some [.a, .c])), (.op Option.none (.eff (hCall (.k (.fn 42 [] [])) [(.sl [.d, .b]), (.sl [.a, .c])])) (Option.some [.b, .c]))]) c37_9)
noncomputable def c37_7 : EC := (.seq (.steps [(.op Option.none (.pure 20 (vIndexAddr 1 (.sl [.b, .a]) (.sl [.d, .a]))) (Option.some [.b, .b])), (.op Option.none (.look 8 (lLoad (.sl [.b, .b]) 1 Bool.false)) (Option.some [.c, .b])), (.op Option.none (.pure 2 (vMove (.sl [.c, .b]))) (Option.some [.a, .a]))]) c37_8)
noncomputable def c37_11 : EC := (.steps [(.op Option.none (.pure 11 (vBin .no .add (.sl [.d, .a]) (.k (.int .i64 (.ofNat 1))))) (Option.some [.c, .d])), (.op Option.none (.pure 1 (vMove (.sl [.c, .d]))) (Option.some [.d, .a]))])
noncomputable def c37_6 : EC := (.seq (.block 1 c37_7) c37_11)
noncomputable def c37_5 : EC := (.seq (.cond (.sl [.a, .b]) .skip (.exit 0)) c37_6)
noncomputable def c37_4 : EC := (.seq (.steps [(.op Option.none (.pure 11 (vBin .no .lss (.sl [.d, .a]) (.sl [.c, .a]))) (Option.some [.a, .b]))]) c37_5)
noncomputable def c37_3 : EC := (.loop c37_4)
noncomputable def c37_2 : EC := (.block 0 c37_3)
noncomputable def c37_12 : EC := (.seq (.steps [(.op Option.none (.pure 6 (vBuild [(.int .i64 (.ofNat 0)), (.str ⟨#[]⟩), (.int .i64 (.ofNat 0)), (.int .i64 (.ofNat 0)), (.bool Bool.false)] [])) (Option.some [.d, .d])), (.op Option.none (.eff (hStore (.sl [.b]) (.sl [.d, .d]) 5)) Option.none), (.op Option.none (.pure 2 (vMove (.k (.int .i64 (.ofNat 0))))) (Option.some [.c]))]) .ret)
noncomputable def c37_1 : EC := (.seq (.seq (.steps [(.op Option.none (.eff (hCall (.k (.fn 30 [] [])) [(.k (.str ⟨#[61, 61, 61, 32, 33, 61, 61, 32, 60, 61, 32, 62, 61, 32, 38, 38, 32, 124, 124, 32, 123, 32, 125, 32, 40, 32, 41, 32, 91, 32, 93, 32, 59, 32, 44, 32, 46, 32, 63, 32, 58, 32, 61, 32, 60, 32, 62, 32, 43, 32, 45, 32, 42, 32, 47, 32, 37, 32, 33]⟩))])) (Option.some [.b, .a])), (.op Option.none (.pure 23 (vLen (.sl [.b, .a]))) (Option.some [.c, .a])), (.op Option.none (.pure 1 (vMove (.k (.int .i64 (.ofNat 0))))) (Option.some [.d, .a]))]) c37_2) c37_12)
noncomputable def c37 : EF := ⟨(.seq (.steps [(.op Option.none (.eff (bLoc [(.int .i64 (.ofNat 0)), (.str ⟨#[]⟩), (.int .i64 (.ofNat 0)), (.int .i64 (.ofNat 0)), (.bool Bool.false)] [.b])) (Option.some [.b])), (.op Option.none (.pure 2 (vMove (.k (.int .i64 (.ofNat 0))))) (Option.some [.c]))]) c37_1), [(.cell (.sl [.b]) 5 Bool.true), (.slot (.sl [.c]))], Bool.false⟩
theorem c37_ok : compF Tryd.prog 37 = some c37 := by kernel_rfl
noncomputable def LF37 : FuncId → Option EF := lookF [(37, c37)]
theorem FF37 : LF37 37 = some c37 := rfl

/-- A token. -/
abbrev Tok (k : Int) (s : ByteArray) (n at' : Int) (b : Bool) : AV := .agg [.int .i64 k, .str s, .int .i64 n, .int .i64 at', .bool b]
/-- The first one of some that stands ahead. -/
def firstS (l : List UInt8) : List (List UInt8) → Option (List UInt8)
  | [] => none
  | x :: r => if preB l x then some x else firstS l r
theorem firstS_cons (l x : List UInt8) (r : List (List UInt8)) : firstS l (x :: r) = if preB l x then some x else firstS l r := rfl
section
variable {call : Calls'} (k42 : ∀ l p h, call 42 [T l, T p] h = .ret (.bool (preB l p)) h) {p : Path} {b : Blk} {L : List (List UInt8)} {l : List UInt8} {h : H} {g : Nat} (hb : Ev.get p h.t = some b) (hm : b.map = false) (hk : b.k = 1) (hL : ∀ (j : Nat) (hj : j < L.length), Ev.get (pathOf j) b.rows = some [T L[j]]) (hl : L.length ≤ 1000000)
include k42 hb hm hk hL hl
theorem sign_one (fuel i : Nat) (fr : FT) (hi : i < L.length) (he : preB l L[i] = false)
    (e0 : Ev.get [] fr = some (.v (T l))) (e1 : Ev.get [.b, .a] fr = some (.v (.sl p 1 0 L.length))) (e2 : Ev.get [.d, .a] fr = some (.v (.int .i64 (i : Int)))) (e3 : Ev.get [.c, .a] fr = some (.v (.int .i64 (L.length : Int)))) (e4 : Ev.get [.b] fr = some (.box g [.int .i64 0, .str ⟨#[]⟩, .int .i64 0, .int .i64 0, .bool false])) :
    ∃ fr', evC call fuel c37_4 fr h = .norm fr' h ∧ Ev.get [] fr' = some (.v (T l)) ∧ Ev.get [.b, .a] fr' = some (.v (.sl p 1 0 L.length)) ∧ Ev.get [.d, .a] fr' = some (.v (.int .i64 ((i + 1 : Nat) : Int))) ∧ Ev.get [.c, .a] fr' = some (.v (.int .i64 (L.length : Int))) ∧ Ev.get [.b] fr' = some (.box g [.int .i64 0, .str ⟨#[]⟩, .int .i64 0, .int .i64 0, .bool false]) := by
  have w : wrapF .i64 ((i : Int) + 1) = (i : Int) + 1 := wrap64 (by omega) (by omega)
  have hr := hL i hi
  have q : ∀ h, call 42 [T l, T L[i]] h = .ret (.bool false) h := fun h => (k42 l L[i] h).trans (by rw [he])
  refine ⟨?fr, ?e, ?_, ?_, ?_, ?_, ?_⟩
  case e =>
    simp [c37_4, c37_10, c37_11, c37_5, c37_6, c37_7, c37_8, c37_9, gs, e0, e1, e2, e3, e4, hi, hb, hm, hk, hr, q, w]
    rfl
  all_goals simp [gs, e0, e1, e2, e3, e4]
theorem sign_hit (fuel i : Nat) (fr : FT) (hi : i < L.length) (he : preB l L[i] = true)
    (e0 : Ev.get [] fr = some (.v (T l))) (e1 : Ev.get [.b, .a] fr = some (.v (.sl p 1 0 L.length))) (e2 : Ev.get [.d, .a] fr = some (.v (.int .i64 (i : Int)))) (e3 : Ev.get [.c, .a] fr = some (.v (.int .i64 (L.length : Int)))) (e4 : Ev.get [.b] fr = some (.box g [.int .i64 0, .str ⟨#[]⟩, .int .i64 0, .int .i64 0, .bool false])) :
    ∃ fr', evC call fuel c37_4 fr h = .ret fr' h ∧ Ev.get [.b] fr' = some (.box g [.int .i64 5, T L[i], .int .i64 0, .int .i64 0, .bool false]) ∧ Ev.get [.c] fr' = some (.v (.int .i64 (L[i].length : Int))) := by
  have hr := hL i hi
  have q : ∀ h, call 42 [T l, T L[i]] h = .ret (.bool true) h := fun h => (k42 l L[i] h).trans (by rw [he])
  refine ⟨?fr, ?e, ?_, ?_⟩
  case e =>
    simp [c37_4, c37_10, c37_11, c37_5, c37_6, c37_7, c37_8, c37_9, gs, e0, e1, e2, e3, e4, hi, hb, hm, hk, hr, q]
    rfl
  all_goals simp [gs, e0, e1, e2, e3, e4]
theorem sign_end (fuel i : Nat) (fr : FT) (hi : ¬ i < L.length)
    (e2 : Ev.get [.d, .a] fr = some (.v (.int .i64 (i : Int)))) (e3 : Ev.get [.c, .a] fr = some (.v (.int .i64 (L.length : Int)))) (e4 : Ev.get [.b] fr = some (.box g [.int .i64 0, .str ⟨#[]⟩, .int .i64 0, .int .i64 0, .bool false])) :
    ∃ fr', evC call fuel c37_4 fr h = .exit 0 fr' h ∧ Ev.get [.b] fr' = some (.box g [.int .i64 0, .str ⟨#[]⟩, .int .i64 0, .int .i64 0, .bool false]) := by
  refine ⟨?fr, ?e, ?_⟩
  case e =>
    simp [c37_4, c37_10, c37_11, c37_5, c37_6, c37_7, c37_8, c37_9, gs, e2, e3, hi]
    rfl
  all_goals simp [gs, e4]
theorem sign_all (fuel : Nat) : ∀ (k i : Nat) (fr : FT) (j : Nat), L.length = i + k → Ev.get [] fr = some (.v (T l)) → Ev.get [.b, .a] fr = some (.v (.sl p 1 0 L.length)) → Ev.get [.d, .a] fr = some (.v (.int .i64 (i : Int))) → Ev.get [.c, .a] fr = some (.v (.int .i64 (L.length : Int))) → Ev.get [.b] fr = some (.box g [.int .i64 0, .str ⟨#[]⟩, .int .i64 0, .int .i64 0, .bool false]) →
    ∃ fr', (loopF call fuel c37_4 (k + 1 + j) fr h = .exit 0 fr' h ∧ firstS l (L.drop i) = none ∧ Ev.get [.b] fr' = some (.box g [.int .i64 0, .str ⟨#[]⟩, .int .i64 0, .int .i64 0, .bool false])) ∨ (∃ x, loopF call fuel c37_4 (k + 1 + j) fr h = .ret fr' h ∧ firstS l (L.drop i) = some x ∧ Ev.get [.b] fr' = some (.box g [.int .i64 5, T x, .int .i64 0, .int .i64 0, .bool false]) ∧ Ev.get [.c] fr' = some (.v (.int .i64 (x.length : Int))))
  | 0, i, fr, j, hk', e0, e1, e2, e3, e4 => by
    obtain ⟨fr', h1, h2⟩ := sign_end (call := call) k42 hb hm hk hL hl fuel i fr (by omega) e2 e3 e4
    refine ⟨fr', .inl ⟨by rw [show 0 + 1 + j = j + 1 by omega, loopF_succ, h1], ?_, h2⟩⟩
    rw [List.drop_eq_nil_of_le (by omega)]; rfl
  | k + 1, i, fr, j, hk', e0, e1, e2, e3, e4 => by
    have hi : i < L.length := by omega
    have hd : L.drop i = L[i] :: L.drop (i + 1) := List.drop_eq_getElem_cons hi
    rw [show k + 1 + 1 + j = (k + 1 + j) + 1 by omega, loopF_succ]
    cases he : preB l L[i]
    · obtain ⟨fr1, h1, a0, a1, a2, a3, a4⟩ := sign_one (call := call) k42 hb hm hk hL hl fuel i fr hi he e0 e1 e2 e3 e4
      obtain ⟨fr', h2⟩ := sign_all fuel k (i + 1) fr1 j (by omega) a0 a1 a2 a3 a4
      have hs : firstS l (L.drop i) = firstS l (L.drop (i + 1)) := by rw [hd, firstS_cons, he]; rfl
      rw [hs, h1]
      exact ⟨fr', h2⟩
    · obtain ⟨fr', h1, h2, h3⟩ := sign_hit (call := call) k42 hb hm hk hL hl fuel i fr hi he e0 e1 e2 e3 e4
      have hs : firstS l (L.drop i) = some L[i] := by rw [hd, firstS_cons, he]; rfl
      exact ⟨fr', .inr ⟨L[i], by rw [h1], hs, h2, h3⟩⟩
end
/-- A sign's token, and how many bytes it takes. -/
def signP (l : List UInt8) : AV := match firstS l signsL with
  | some x => .tup [Tok 5 ⟨x.toArray⟩ 0 0 false, .int .i64 (x.length : Int)]
  | none => .tup [Tok 0 ⟨#[]⟩ 0 0 false, .int .i64 0]
theorem strBlk_at (L : List (List UInt8)) (j : Nat) (hj : j < L.length) : Ev.get (pathOf j) (strBlk L).rows = some [T L[j]] := by
  unfold strBlk
  rw [rowsOf_get, if_pos (by omega)]
  have hd : (L.map fun x => AV.str ⟨x.toArray⟩).drop j = AV.str ⟨(L[j]).toArray⟩ :: (L.map fun x => AV.str ⟨x.toArray⟩).drop (j + 1) := by
    rw [List.drop_eq_getElem_cons (by simpa using hj)]; simp
  simp only [Nat.sub_zero, Nat.mul_one]
  rw [hd]
  rfl
theorem t37 {call : Calls'} (k30 : ∀ h, call 30 [.str signsS] h = retStrs signsL h) (k42 : ∀ l p h, call 42 [T l, T p] h = .ret (.bool (preB l p)) h) (l : List UInt8) (h : H) :
    Tells (evFun LF37 call 40 37 [T l] h) h (signP l) := by
  have hl : signsL.length = 26 := by decide
  have hb : Ev.get h.next (H.new ⟨h.next, h.t, h.gen + 1⟩ (strBlk signsL)).t = some (strBlk signsL) := by
    unfold H.new; simp only; rw [get_set, if_pos rfl]
  obtain ⟨fr', h1⟩ := sign_all (call := call) (l := l) (g := h.gen) k42 (h := H.new ⟨h.next, h.t, h.gen + 1⟩ (strBlk signsL)) hb rfl rfl (strBlk_at signsL) (by omega) 40 signsL.length 0 (.node (some (.v (T l))) .nil (.node (some (.box h.gen [.int .i64 0, .str ⟨#[]⟩, .int .i64 0, .int .i64 0, .bool false])) (.node (some (.v (.sl h.next 1 0 26))) .nil .nil .nil .nil) .nil .nil .nil) (.node (some (.v (.int .i64 0))) (.node (some (.v (.int .i64 26))) .nil .nil .nil .nil) .nil .nil .nil) (.node none (.node (some (.v (.int .i64 0))) .nil .nil .nil .nil) .nil .nil .nil)) 13 (by omega) rfl rfl rfl rfl rfl
  have ks := k30
  unfold signsS at ks
  unfold retStrs at ks
  rw [hl] at ks h1
  have k30' := fun h => ks h
  simp only [List.drop_zero] at h1
  unfold signP
  rcases h1 with ⟨h1, h2, h3⟩ | ⟨x, h1, h2, h3, h4⟩
  · have h1 : loopF call 40 c37_4 40 _ _ = _ := h1
    rw [h2]
    simp [-y_Hnew, Tells, evFun, FF37, c37, c37_1, c37_2, c37_3, c37_12, k30', h1, h3, gs]
  · have h1 : loopF call 40 c37_4 40 _ _ = _ := h1
    rw [h2]
    simp [-y_Hnew, Tells, evFun, FF37, c37, c37_1, c37_2, c37_3, c37_12, k30', h1, h3, h4, gs]
end Go.Proofs.Lx
