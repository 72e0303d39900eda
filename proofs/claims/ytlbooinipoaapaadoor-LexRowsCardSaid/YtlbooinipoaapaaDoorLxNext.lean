import Derived.Test.YtlbooinipoaapaaDoorLxNum
set_option linter.unusedSimpArgs false
set_option linter.unusedVariables false
set_option linter.unusedSectionVars false
namespace Go.Proofs.Lx
open Go.Ev
noncomputable def c21_6 : EC := (.steps [(.op Option.none (.pure 18 (vFieldAddr (.sl [.d, .a]) 0)) (Option.some [.a, .c, .a])), (.op Option.none (.eff (hStore (.sl [.a, .c, .a]) (.k (.int .i64 (.ofNat 6))) 1)) Option.none)])
noncomputable def c21_5 : EC := (.cond (.sl [.d, .b, .a]) c21_6 .skip)
noncomputable def c21_17 : EC := (.steps [(.op Option.none (.look 8 (lLoad (.sl [.d, .b]) 5 Bool.true)) (Option.some [.b, .c, .b])), (.op Option.none (.pure 1 (vMove (.sl [.a, .c]))) (Option.some [.c, .c, .b])), (.op Option.none (.eff (hStore (.sl [.d, .a]) (.sl [.b, .c, .b]) 5)) Option.none), (.op Option.none (.pure 2 (vMove (.sl [.c, .c, .b]))) (Option.some [.a, .b]))])
noncomputable def c21_16 : EC := (.cond (.sl [.a, .c, .b]) c21_17 .skip)
noncomputable def c21_15 : EC := (.seq (.steps [(.op Option.none (.pure 1 (vMove (.sl [.a, .c]))) (Option.some [.d, .b, .b])), (.op Option.none (.pure 11 (vBin .no .gtr (.sl [.d, .b, .b]) (.k (.int .i64 (.ofNat 0))))) (Option.some [.a, .c, .b]))]) c21_16)
noncomputable def c21_14 : EC := (.seq (.steps [(.op Option.none (.pure 1 (vMove (.sl [.c, .b]))) (Option.some [.a, .a, .b])), (.op Option.none (.pure 1 (vMove (.sl []))) (Option.some [.b, .a, .b])), (.op Option.none (.pure 1 (vMove (.sl [.a]))) (Option.some [.c, .a, .b])), (.op Option.none (.pure 17 (vSliceS (.sl [.b, .a, .b]) (Option.some (.sl [.c, .a, .b])) Option.none)) (Option.some [.d, .a, .b])), (.op Option.none (.eff (hCall (.sl [.a, .a, .b]) [(.sl [.d, .a, .b])])) (Option.some [.a, .b, .b])), (.op Option.none (.pure 1 (vMove (.sl [.a, .b, .b]))) (Option.some [.d, .d, .a])), (.op Option.none (.pure 22 (vExtract (.sl [.d, .d, .a]) 0)) (Option.some [.b, .b, .b])), (.op Option.none (.pure 22 (vExtract (.sl [.d, .d, .a]) 1)) (Option.some [.c, .b, .b])), (.op Option.none (.eff (bLoc [(.int .i64 (.ofNat 0)), (.str ⟨#[]⟩), (.int .i64 (.ofNat 0)), (.int .i64 (.ofNat 0)), (.bool Bool.false)] [.d, .b])) (Option.some [.d, .b])), (.op Option.none (.eff (hStore (.sl [.d, .b]) (.sl [.b, .b, .b]) 5)) Option.none), (.op Option.none (.pure 2 (vMove (.sl [.c, .b, .b]))) (Option.some [.a, .c]))]) c21_15)
noncomputable def c21_13 : EC := (.seq (.steps [(.op Option.none (.pure 20 (vIndexAddr 1 (.sl [.b, .c, .a]) (.sl [.d, .c, .a]))) (Option.some [.b, .d, .a])), (.op Option.none (.look 8 (lLoad (.sl [.b, .d, .a]) 1 Bool.false)) (Option.some [.c, .d, .a])), (.op Option.none (.pure 2 (vMove (.sl [.c, .d, .a]))) (Option.some [.c, .b]))]) c21_14)
noncomputable def c21_18 : EC := (.steps [(.op Option.none (.pure 11 (vBin .no .add (.sl [.d, .c, .a]) (.k (.int .i64 (.ofNat 1))))) (Option.some [.d, .c, .b])), (.op Option.none (.pure 1 (vMove (.sl [.d, .c, .b]))) (Option.some [.d, .c, .a]))])
noncomputable def c21_12 : EC := (.seq (.block 1 c21_13) c21_18)
noncomputable def c21_11 : EC := (.seq (.cond (.sl [.a, .d, .a]) .skip (.exit 0)) c21_12)
noncomputable def c21_10 : EC := (.seq (.steps [(.op Option.none (.pure 11 (vBin .no .lss (.sl [.d, .c, .a]) (.sl [.c, .c, .a]))) (Option.some [.a, .d, .a]))]) c21_11)
noncomputable def c21_9 : EC := (.loop c21_10)
noncomputable def c21_8 : EC := (.block 0 c21_9)
noncomputable def c21_20 : EC := (.seq (.steps [(.op Option.none (.look 8 (lLoad (.sl [.d, .a]) 5 Bool.true)) (Option.some [.a, .a, .c])), (.op Option.none (.pure 1 (vMove (.sl [.a]))) (Option.some [.b, .a, .c])), (.op Option.none (.pure 1 (vMove (.sl [.a, .b]))) (Option.some [.c, .a, .c])), (.op Option.none (.pure 11 (vBin .no .add (.sl [.b, .a, .c]) (.sl [.c, .a, .c]))) (Option.some [.d, .a, .c])), (.op Option.none (.eff (hStore (.sl [.d]) (.sl [.a, .a, .c]) 5)) Option.none), (.op Option.none (.pure 2 (vMove (.sl [.d, .a, .c]))) (Option.some [.a, .a]))]) .ret)
noncomputable def c21_19 : EC := (.seq (.steps [(.op Option.none (.pure 1 (vMove (.sl [.a]))) (Option.some [.a, .d, .b])), (.op Option.none (.pure 1 (vMove (.sl [.c, .a]))) (Option.some [.b, .d, .b])), (.op Option.none (.pure 18 (vFieldAddr (.sl [.d, .a]) 3)) (Option.some [.c, .d, .b])), (.op Option.none (.eff (hStore (.sl [.c, .d, .b]) (.sl [.a, .d, .b]) 1)) Option.none), (.op Option.none (.pure 18 (vFieldAddr (.sl [.d, .a]) 4)) (Option.some [.d, .d, .b])), (.op Option.none (.eff (hStore (.sl [.d, .d, .b]) (.sl [.b, .d, .b]) 1)) Option.none)]) c21_20)
noncomputable def c21_7 : EC := (.seq (.seq (.steps [(.op Option.none (.new 7 (nSlice 1 4 [.nilfn, .nilfn, .nilfn, .nilfn] [(0, (1, (.k (.fn 34 [] [])))), (1, (1, (.k (.fn 35 [] [])))), (2, (1, (.k (.fn 36 [] [])))), (3, (1, (.k (.fn 37 [] []))))])) (Option.some [.b, .c, .a])), (.op Option.none (.pure 23 (vLen (.sl [.b, .c, .a]))) (Option.some [.c, .c, .a])), (.op Option.none (.pure 1 (vMove (.k (.int .i64 (.ofNat 0))))) (Option.some [.d, .c, .a]))]) c21_8) c21_19)
noncomputable def c21_4 : EC := (.seq (.seq (.steps [(.op Option.none (.pure 1 (vMove (.sl [.a]))) (Option.some [.a, .b, .a])), (.op Option.none (.pure 1 (vMove (.sl []))) (Option.some [.b, .b, .a])), (.op Option.none (.pure 23 (vLenS (.sl [.b, .b, .a]))) (Option.some [.c, .b, .a])), (.op Option.none (.pure 11 (vBin .no .lss (.sl [.a, .b, .a]) (.sl [.c, .b, .a]))) (Option.some [.d, .b, .a]))]) c21_5) c21_7)
noncomputable def c21_3 : EC := (.seq (.steps [(.op Option.none (.pure 6 (vBuild [(.int .i64 (.ofNat 0)), (.str ⟨#[]⟩), (.int .i64 (.ofNat 0)), (.int .i64 (.ofNat 0)), (.bool Bool.false)] [(0, (1, (.k (.int .i64 (.ofNat 0)))))])) (Option.some [.d, .a, .a])), (.op Option.none (.eff (bLoc [(.int .i64 (.ofNat 0)), (.str ⟨#[]⟩), (.int .i64 (.ofNat 0)), (.int .i64 (.ofNat 0)), (.bool Bool.false)] [.d, .a])) (Option.some [.d, .a])), (.op Option.none (.eff (hStore (.sl [.d, .a]) (.sl [.d, .a, .a]) 5)) Option.none), (.op Option.none (.pure 2 (vMove (.k (.int .i64 (.ofNat 0))))) (Option.some [.a, .b]))]) c21_4)
noncomputable def c21_2 : EC := (.seq (.steps [(.op Option.none (.pure 1 (vMove (.sl [.a]))) (Option.some [.a, .a, .a])), (.op Option.none (.pure 1 (vMove (.sl [.b, .a]))) (Option.some [.b, .a, .a])), (.op Option.none (.pure 11 (vBin .no .add (.sl [.a, .a, .a]) (.sl [.b, .a, .a]))) (Option.some [.c, .a, .a])), (.op Option.none (.pure 2 (vMove (.sl [.c, .a, .a]))) (Option.some [.a]))]) c21_3)
noncomputable def c21_1 : EC := (.seq (.steps [(.op Option.none (.pure 1 (vMove (.sl []))) (Option.some [.c, .c])), (.op Option.none (.pure 1 (vMove (.sl [.a]))) (Option.some [.d, .c])), (.op Option.none (.pure 17 (vSliceS (.sl [.c, .c]) (Option.some (.sl [.d, .c])) Option.none)) (Option.some [.a, .d])), (.op Option.none (.eff (hCall (.k (.fn 33 [] [])) [(.sl [.a, .d])])) (Option.some [.b, .d])), (.op Option.none (.pure 1 (vMove (.sl [.b, .d]))) (Option.some [.b, .c])), (.op Option.none (.pure 22 (vExtract (.sl [.b, .c]) 0)) (Option.some [.c, .d])), (.op Option.none (.pure 22 (vExtract (.sl [.b, .c]) 1)) (Option.some [.d, .d])), (.op Option.none (.pure 2 (vMove (.sl [.c, .d]))) (Option.some [.b, .a])), (.op Option.none (.pure 2 (vMove (.sl [.d, .d]))) (Option.some [.c, .a]))]) c21_2)
noncomputable def c21 : EF := ⟨(.seq (.steps [(.op Option.none (.eff (bLoc [(.int .i64 (.ofNat 0)), (.str ⟨#[]⟩), (.int .i64 (.ofNat 0)), (.int .i64 (.ofNat 0)), (.bool Bool.false)] [.d])) (Option.some [.d])), (.op Option.none (.pure 2 (vMove (.k (.int .i64 (.ofNat 0))))) (Option.some [.a, .a]))]) c21_1), [(.cell (.sl [.d]) 5 Bool.true), (.slot (.sl [.a, .a]))], Bool.false⟩
theorem c21_ok : compF Tryd.prog 21 = some c21 := by kernel_rfl
noncomputable def LF21 : FuncId → Option EF := lookF [(21, c21)]
theorem FF21 : LF21 21 = some c21 := rfl

/-- A token as it is taken up: what it is, its text, its number, how many bytes it takes. -/
structure Tk where
  k : Int
  s : ByteArray
  n : Int
  z : Nat
abbrev Tk.box (x : Tk) : List AV := [.int .i64 x.k, .str x.s, .int .i64 x.n, .int .i64 0, .bool false]
abbrev Tk.res (x : Tk) : AV := .tup [.agg x.box, .int .i64 (x.z : Int)]
def Tk.or (x y : Tk) : Tk := if 0 < y.z then y else x
section
variable {call : Calls'} {p : Path} {b : Blk} {l : List UInt8} {h : H} {m g0 g1 : Nat} {line : Bool} (hb : Ev.get p h.t = some b) (hm : b.map = false) (hk : b.k = 1) (hl : l.length ≤ 1000000) (hml : m ≤ l.length)
include hb hm hk hl hml
theorem next_one (fuel i : Nat) (f : FuncId) (x y : Tk) (fr : FT) (hi : i < 4) (hr : Ev.get (pathOf i) b.rows = some [.fn f [] []]) (q : ∀ h, call f [T (l.drop m)] h = .ret y.res h) (e0 : Ev.get [] fr = some (.v (T l))) (e1 : Ev.get [.a] fr = some (.v (.int .i64 (m : Int)))) (e2 : Ev.get [.d] fr = some (.box g0 Z5)) (e3 : Ev.get [.c, .a] fr = some (.v (.bool line))) (e4 : Ev.get [.b, .c, .a] fr = some (.v (.sl p 1 0 4))) (e5 : Ev.get [.c, .c, .a] fr = some (.v (.int .i64 4)))
    (f0 : Ev.get [.d, .c, .a] fr = some (.v (.int .i64 (i : Int)))) (f1 : Ev.get [.d, .a] fr = some (.box g1 x.box)) (f2 : Ev.get [.a, .b] fr = some (.v (.int .i64 (x.z : Int)))) :
    ∃ fr', evC call fuel c21_10 fr h = .norm fr' ⟨h.next, h.t, h.gen + 1⟩ ∧ (Ev.get [] fr' = some (.v (T l)) ∧ Ev.get [.a] fr' = some (.v (.int .i64 (m : Int))) ∧ Ev.get [.d] fr' = some (.box g0 Z5) ∧ Ev.get [.c, .a] fr' = some (.v (.bool line)) ∧ Ev.get [.b, .c, .a] fr' = some (.v (.sl p 1 0 4)) ∧ Ev.get [.c, .c, .a] fr' = some (.v (.int .i64 4))) ∧ Ev.get [.d, .c, .a] fr' = some (.v (.int .i64 ((i + 1 : Nat) : Int))) ∧ Ev.get [.d, .a] fr' = some (.box g1 (x.or y).box) ∧ Ev.get [.a, .b] fr' = some (.v (.int .i64 ((x.or y).z : Int))) := by
  have w : wrapF .i64 ((i : Int) + 1) = (i : Int) + 1 := wrap64 (by omega) (by omega)
  have hi' : (i : Int) < 4 := by omega
  have tk : (l.drop m).take (l.length - m) = l.drop m := List.take_of_length_le (by simp)
  rcases Decidable.em (0 < y.z) with hz | hz
  · have hz' : (0 : Int) < (y.z : Int) := by omega
    have hor : x.or y = y := by unfold Tk.or; rw [if_pos hz]
    rw [hor]
    refine ⟨?fr, ?e, ⟨?_, ?_, ?_, ?_, ?_, ?_⟩, ?_, ?_, ?_⟩
    case e =>
      simp [c21_10, c21_11, c21_12, c21_13, c21_14, c21_15, c21_16, c21_17, c21_18, gs, e0, e1, e2, e3, e4, e5, f0, f1, f2, hi, hi', hb, hm, hk, hr, q, w, hz, hz', tk, hml, vSliceS, gvo, sliceS, bnd]
      rfl
    all_goals simp [gs, e0, e1, e2, e3, e4, e5, f0, f1, f2]
  · have hz' : ¬ (0 : Int) < (y.z : Int) := by omega
    have hor : x.or y = x := by unfold Tk.or; rw [if_neg hz]
    rw [hor]
    refine ⟨?fr1, ?e1, ⟨?_, ?_, ?_, ?_, ?_, ?_⟩, ?_, ?_, ?_⟩
    case e1 =>
      simp [c21_10, c21_11, c21_12, c21_13, c21_14, c21_15, c21_16, c21_17, c21_18, gs, e0, e1, e2, e3, e4, e5, f0, f1, f2, hi, hi', hb, hm, hk, hr, q, w, hz, hz', tk, hml, vSliceS, gvo, sliceS, bnd]
      rfl
    all_goals simp [gs, e0, e1, e2, e3, e4, e5, f0, f1, f2]
theorem next_end (fuel : Nat) (x : Tk) (fr : FT) (e0 : Ev.get [] fr = some (.v (T l))) (e1 : Ev.get [.a] fr = some (.v (.int .i64 (m : Int)))) (e2 : Ev.get [.d] fr = some (.box g0 Z5)) (e3 : Ev.get [.c, .a] fr = some (.v (.bool line))) (e4 : Ev.get [.b, .c, .a] fr = some (.v (.sl p 1 0 4))) (e5 : Ev.get [.c, .c, .a] fr = some (.v (.int .i64 4)))
    (f0 : Ev.get [.d, .c, .a] fr = some (.v (.int .i64 4))) (f1 : Ev.get [.d, .a] fr = some (.box g1 x.box)) (f2 : Ev.get [.a, .b] fr = some (.v (.int .i64 (x.z : Int)))) :
    ∃ fr', evC call fuel c21_10 fr h = .exit 0 fr' h ∧ (Ev.get [] fr' = some (.v (T l)) ∧ Ev.get [.a] fr' = some (.v (.int .i64 (m : Int))) ∧ Ev.get [.d] fr' = some (.box g0 Z5) ∧ Ev.get [.c, .a] fr' = some (.v (.bool line)) ∧ Ev.get [.b, .c, .a] fr' = some (.v (.sl p 1 0 4)) ∧ Ev.get [.c, .c, .a] fr' = some (.v (.int .i64 4))) ∧ Ev.get [.d, .a] fr' = some (.box g1 x.box) ∧ Ev.get [.a, .b] fr' = some (.v (.int .i64 (x.z : Int))) := by
  refine ⟨?fr, ?e, ⟨?_, ?_, ?_, ?_, ?_, ?_⟩, ?_, ?_⟩
  case e =>
    simp [c21_10, c21_11, c21_12, c21_13, c21_14, c21_15, c21_16, c21_17, c21_18, gs, e0, e1, e2, e3, e4, e5, f0]
    rfl
  all_goals simp [gs, e0, e1, e2, e3, e4, e5, f0, f1, f2]
end

section
variable {call : Calls'} {p : Path} {b : Blk} {l : List UInt8} {h : H} {m g0 g1 : Nat} {line : Bool} (hb : Ev.get p h.t = some b) (hm : b.map = false) (hk : b.k = 1) (hl : l.length ≤ 1000000) (hml : m ≤ l.length)
include hb hm hk hl hml
theorem next_all (y1 y2 y3 y4 : Tk) (r1 : Ev.get (pathOf 0) b.rows = some [.fn 34 [] []]) (r2 : Ev.get (pathOf 1) b.rows = some [.fn 35 [] []]) (r3 : Ev.get (pathOf 2) b.rows = some [.fn 36 [] []]) (r4 : Ev.get (pathOf 3) b.rows = some [.fn 37 [] []])
    (q1 : ∀ h, call 34 [T (l.drop m)] h = .ret y1.res h) (q2 : ∀ h, call 35 [T (l.drop m)] h = .ret y2.res h) (q3 : ∀ h, call 36 [T (l.drop m)] h = .ret y3.res h) (q4 : ∀ h, call 37 [T (l.drop m)] h = .ret y4.res h) (x : Tk) (fr : FT)
    (e : Ev.get [] fr = some (.v (T l)) ∧ Ev.get [.a] fr = some (.v (.int .i64 (m : Int))) ∧ Ev.get [.d] fr = some (.box g0 Z5) ∧ Ev.get [.c, .a] fr = some (.v (.bool line)) ∧ Ev.get [.b, .c, .a] fr = some (.v (.sl p 1 0 4)) ∧ Ev.get [.c, .c, .a] fr = some (.v (.int .i64 4))) (f0 : Ev.get [.d, .c, .a] fr = some (.v (.int .i64 0))) (f1 : Ev.get [.d, .a] fr = some (.box g1 x.box)) (f2 : Ev.get [.a, .b] fr = some (.v (.int .i64 (x.z : Int)))) :
    ∃ fr', loopF call 10 c21_10 10 fr h = .exit 0 fr' ⟨h.next, h.t, h.gen + 4⟩ ∧ (Ev.get [] fr' = some (.v (T l)) ∧ Ev.get [.a] fr' = some (.v (.int .i64 (m : Int))) ∧ Ev.get [.d] fr' = some (.box g0 Z5) ∧ Ev.get [.c, .a] fr' = some (.v (.bool line)) ∧ Ev.get [.b, .c, .a] fr' = some (.v (.sl p 1 0 4)) ∧ Ev.get [.c, .c, .a] fr' = some (.v (.int .i64 4))) ∧ Ev.get [.d, .a] fr' = some (.box g1 ((((x.or y1).or y2).or y3).or y4).box) ∧ Ev.get [.a, .b] fr' = some (.v (.int .i64 (((((x.or y1).or y2).or y3).or y4).z : Int))) := by
  obtain ⟨e0, e1, e2, e3, e4, e5⟩ := e
  obtain ⟨a1, s1, ⟨b0, b1, b2, b3, b4, b5⟩, b6, b7, b8⟩ := next_one (call := call) (l := l) (h := h) (g0 := g0) (g1 := g1) (line := line) hb hm hk hl hml 10 0 34 x y1 fr (by omega) r1 q1 e0 e1 e2 e3 e4 e5 f0 f1 f2
  obtain ⟨a2, s2, ⟨c0, c1, c2, c3, c4, c5⟩, c6, c7, c8⟩ := next_one (call := call) (l := l) (h := ⟨h.next, h.t, h.gen + 1⟩) (g0 := g0) (g1 := g1) (line := line) hb hm hk hl hml 10 1 35 _ y2 a1 (by omega) r2 q2 b0 b1 b2 b3 b4 b5 b6 b7 b8
  obtain ⟨a3, s3, ⟨d0, d1, d2, d3, d4, d5⟩, d6, d7, d8⟩ := next_one (call := call) (l := l) (h := ⟨h.next, h.t, h.gen + 2⟩) (g0 := g0) (g1 := g1) (line := line) hb hm hk hl hml 10 2 36 _ y3 a2 (by omega) r3 q3 c0 c1 c2 c3 c4 c5 c6 c7 c8
  obtain ⟨a4, s4, ⟨i0, i1, i2, i3, i4, i5⟩, i6, i7, i8⟩ := next_one (call := call) (l := l) (h := ⟨h.next, h.t, h.gen + 3⟩) (g0 := g0) (g1 := g1) (line := line) hb hm hk hl hml 10 3 37 _ y4 a3 (by omega) r4 q4 d0 d1 d2 d3 d4 d5 d6 d7 d8
  obtain ⟨a5, s5, j0, j1, j2⟩ := next_end (call := call) (l := l) (h := ⟨h.next, h.t, h.gen + 4⟩) (g0 := g0) (g1 := g1) (line := line) hb hm hk hl hml 10 _ a4 i0 i1 i2 i3 i4 i5 i6 i7 i8
  refine ⟨a5, ?_, j0, j1, j2⟩
  rw [show (10 : Nat) = 9 + 1 from rfl, loopF_succ]
  have s1 : evC call (9 + 1) c21_10 fr h = _ := s1
  rw [s1]
  show loopF call 10 c21_10 9 a1 _ = _
  rw [show loopF call 10 c21_10 9 a1 ⟨h.next, h.t, h.gen + 1⟩ = (match evC call 10 c21_10 a1 ⟨h.next, h.t, h.gen + 1⟩ with | .norm fr h => loopF call 10 c21_10 8 fr h | x => x) from rfl, s2]
  show loopF call 10 c21_10 8 a2 _ = _
  rw [show loopF call 10 c21_10 8 a2 ⟨h.next, h.t, h.gen + 1 + 1⟩ = (match evC call 10 c21_10 a2 ⟨h.next, h.t, h.gen + 2⟩ with | .norm fr h => loopF call 10 c21_10 7 fr h | x => x) from rfl, s3]
  show loopF call 10 c21_10 7 a3 _ = _
  rw [show loopF call 10 c21_10 7 a3 ⟨h.next, h.t, h.gen + 2 + 1⟩ = (match evC call 10 c21_10 a3 ⟨h.next, h.t, h.gen + 3⟩ with | .norm fr h => loopF call 10 c21_10 6 fr h | x => x) from rfl, s4]
  show loopF call 10 c21_10 6 a4 _ = _
  rw [show loopF call 10 c21_10 6 a4 ⟨h.next, h.t, h.gen + 3 + 1⟩ = (match evC call 10 c21_10 a4 ⟨h.next, h.t, h.gen + 4⟩ with | .norm fr h => loopF call 10 c21_10 5 fr h | x => x) from rfl, s5]
end
abbrev fblk : Blk := ⟨1, 4, (.node (some [.fn 34 [] []]) (.node (some [.fn 35 [] []]) .nil .nil .nil .nil) (.node (some [.fn 36 [] []]) .nil .nil .nil .nil) (.node (some [.fn 37 [] []]) .nil .nil .nil .nil) .nil), false, false, false⟩
theorem t21 {call : Calls'} {l : List UInt8} {h : H} {a n m : Nat} {line : Bool} (hl : l.length ≤ 1000000) (hmn : m = a + n) (hml : m ≤ l.length) (q33 : ∀ h, call 33 [T (l.drop a)] h = .ret (.tup [.int .i64 (n : Int), .bool line]) h) (y1 y2 y3 y4 t : Tk)
    (q1 : ∀ h, call 34 [T (l.drop m)] h = .ret y1.res h) (q2 : ∀ h, call 35 [T (l.drop m)] h = .ret y2.res h) (q3 : ∀ h, call 36 [T (l.drop m)] h = .ret y3.res h) (q4 : ∀ h, call 37 [T (l.drop m)] h = .ret y4.res h)
    (ht : t = (((Tk.or ⟨if m < l.length then 6 else 0, ⟨#[]⟩, 0, 0⟩ y1).or y2).or y3).or y4) (hz : t.z ≤ 2000000) :
    Tells (evFun LF21 call 10 21 [T l, .int .i64 (a : Int)] h) h (.tup [.agg [.int .i64 t.k, .str t.s, .int .i64 t.n, .int .i64 (m : Int), .bool line], .int .i64 ((m + t.z : Nat) : Int)]) := by
  have ha : a ≤ l.length := by omega
  have hw : wrapF .i64 ((a : Int) + (n : Int)) = (m : Int) := by rw [wrap64 (by omega) (by omega)]; omega
  have tk : (l.drop a).take (l.length - a) = l.drop a := List.take_of_length_le (by simp)
  have hb : Ev.get h.next (H.new ⟨h.next, h.t, h.gen + 1 + 1⟩ fblk).t = some fblk := by
    unfold H.new; simp only; rw [get_set, if_pos rfl]
  have hzw : wrapF .i64 ((m : Int) + (t.z : Int)) = (m : Int) + (t.z : Int) := wrap64 (by omega) (by omega)
  rcases Decidable.em (m < l.length) with hlt | hlt
  · have hlt' : (m : Int) < (l.length : Int) := by omega
    rw [if_pos hlt] at ht
    obtain ⟨fr', g0, ⟨g1, g2, g3, g4, g5, g6⟩, g7, g8⟩ := next_all (call := call) (h := H.new ⟨h.next, h.t, h.gen + 1 + 1⟩ fblk) (p := h.next) (b := fblk) (l := l) (m := m) (g0 := h.gen) (g1 := h.gen + 1) (line := line) hb rfl rfl hl hml y1 y2 y3 y4 rfl rfl rfl rfl q1 q2 q3 q4 ⟨6, ⟨#[]⟩, 0, 0⟩ (.node (some (.v (T l))) (.node (some (.v (.int .i64 (m : Int)))) (.node (some (.v (.int .i64 0))) (.node (some (.v (.int .i64 (a : Int)))) .nil .nil .nil .nil) .nil .nil .nil) (.node (some (.v (.int .i64 0))) (.node (some (.v (.int .i64 (m : Int)))) .nil .nil .nil .nil) .nil .nil .nil) (.node none (.node (some (.lp [.d, .a] (h.gen + 1) 0)) .nil .nil .nil .nil) .nil .nil .nil) (.node (some (.v (T (l.drop a)))) .nil .nil .nil .nil)) (.node none (.node (some (.v (.int .i64 (n : Int)))) (.node (some (.v (.int .i64 (n : Int)))) .nil .nil .nil .nil) .nil .nil .nil) (.node none (.node (some (.v (T l))) .nil .nil .nil .nil) .nil .nil .nil) (.node (some (.v (.tup [.int .i64 (n : Int), .bool line]))) (.node (some (.v (.sl h.next 1 0 4))) .nil .nil .nil .nil) .nil .nil .nil) (.node (some (.v (.tup [.int .i64 (n : Int), .bool line]))) .nil .nil .nil .nil)) (.node none (.node (some (.v (.bool line))) (.node (some (.v (.int .i64 (m : Int)))) .nil .nil .nil .nil) .nil .nil .nil) (.node none (.node (some (.v (.int .i64 (l.length : Int)))) .nil .nil .nil .nil) .nil .nil .nil) (.node (some (.v (T l))) (.node (some (.v (.int .i64 4))) .nil .nil .nil .nil) .nil .nil .nil) (.node (some (.v (.int .i64 (n : Int)))) .nil .nil .nil .nil)) (.node (some (.box h.gen Z5)) (.node (some (.box (h.gen + 1) [.int .i64 6, .str ⟨#[]⟩, .int .i64 0, .int .i64 0, .bool false])) (.node (some (.v (.agg Z5))) .nil .nil .nil .nil) .nil .nil .nil) (.node none (.node (some (.v (.bool true))) .nil .nil .nil .nil) .nil .nil .nil) (.node (some (.v (.int .i64 (a : Int)))) (.node (some (.v (.int .i64 0))) .nil .nil .nil .nil) .nil .nil .nil) (.node (some (.v (.bool line))) .nil .nil .nil .nil))) ⟨rfl, rfl, rfl, rfl, rfl, rfl⟩ rfl rfl rfl
    rw [← ht] at g7 g8
    simp [-y_Hnew, Tells, evFun, FF21, c21]
    (try (conv in (evC call _ c21_1 _ _) => unfold c21_1; simp [-y_Hnew, gs, q33, hw, ha, hlt, hlt', tk, vSliceS, gvo, sliceS, bnd, q33]); try dsimp only)
    (try (conv in (evC call _ c21_2 _ _) => unfold c21_2; simp [-y_Hnew, gs, q33, hw, ha, hlt, hlt', tk, vSliceS, gvo, sliceS, bnd, q33]); try dsimp only)
    (try (conv in (evC call _ c21_3 _ _) => unfold c21_3; simp [-y_Hnew, gs, q33, hw, ha, hlt, hlt', tk, vSliceS, gvo, sliceS, bnd, q33]); try dsimp only)
    (try (conv in (evC call _ c21_4 _ _) => unfold c21_4; simp [-y_Hnew, gs, q33, hw, ha, hlt, hlt', tk, vSliceS, gvo, sliceS, bnd, q33]); try dsimp only)
    (try (conv in (evC call _ c21_5 _ _) => unfold c21_5; simp [-y_Hnew, gs, q33, hw, ha, hlt, hlt', tk, vSliceS, gvo, sliceS, bnd, q33]); try dsimp only)
    (try (conv in (evC call _ c21_6 _ _) => unfold c21_6; simp [-y_Hnew, gs, q33, hw, ha, hlt, hlt', tk, vSliceS, gvo, sliceS, bnd, q33]); try dsimp only)
    (try (conv in (evC call _ c21_7 _ _) => unfold c21_7; simp [-y_Hnew, gs, q33, hw, ha, hlt, hlt', tk, vSliceS, gvo, sliceS, bnd, q33]); try dsimp only)
    (try (conv in (evC call _ c21_8 _ _) => unfold c21_8; simp [-y_Hnew, gs, q33, hw, ha, hlt, hlt', tk, vSliceS, gvo, sliceS, bnd, q33]); try dsimp only)
    (try (conv in (evC call _ c21_9 _ _) => unfold c21_9; simp [-y_Hnew, gs, q33, hw, ha, hlt, hlt', tk, vSliceS, gvo, sliceS, bnd, q33]); try dsimp only)
    rw [g0]
    try dsimp only
    (try (conv in (decide ((0 : Nat) = 0)) => simp)); try dsimp only
    (try (conv in (evC call _ c21_19 _ _) => unfold c21_19; simp [-y_Hnew, gs, g1, g2, g3, g4, g5, g6, g7, g8, hzw]); try dsimp only)
    (try (conv in (evC call _ c21_20 _ _) => unfold c21_20; simp [-y_Hnew, gs, g1, g2, g3, g4, g5, g6, g7, g8, hzw]); try dsimp only)
    simp [-y_Hnew, Tells, gs, g1, g2, g3, g4, g5, g6, g7, g8, hzw]
    exact y_ok1 h (h.gen + 1 + 1) fblk

  · have hlt' : ¬ (m : Int) < (l.length : Int) := by omega
    rw [if_neg hlt] at ht
    obtain ⟨fr', g0, ⟨g1, g2, g3, g4, g5, g6⟩, g7, g8⟩ := next_all (call := call) (h := H.new ⟨h.next, h.t, h.gen + 1 + 1⟩ fblk) (p := h.next) (b := fblk) (l := l) (m := m) (g0 := h.gen) (g1 := h.gen + 1) (line := line) hb rfl rfl hl hml y1 y2 y3 y4 rfl rfl rfl rfl q1 q2 q3 q4 ⟨0, ⟨#[]⟩, 0, 0⟩ (.node (some (.v (T l))) (.node (some (.v (.int .i64 (m : Int)))) (.node (some (.v (.int .i64 0))) (.node (some (.v (.int .i64 (a : Int)))) .nil .nil .nil .nil) .nil .nil .nil) (.node (some (.v (.int .i64 0))) (.node (some (.v (.int .i64 (m : Int)))) .nil .nil .nil .nil) .nil .nil .nil) .nil (.node (some (.v (T (l.drop a)))) .nil .nil .nil .nil)) (.node none (.node (some (.v (.int .i64 (n : Int)))) (.node (some (.v (.int .i64 (n : Int)))) .nil .nil .nil .nil) .nil .nil .nil) (.node none (.node (some (.v (T l))) .nil .nil .nil .nil) .nil .nil .nil) (.node (some (.v (.tup [.int .i64 (n : Int), .bool line]))) (.node (some (.v (.sl h.next 1 0 4))) .nil .nil .nil .nil) .nil .nil .nil) (.node (some (.v (.tup [.int .i64 (n : Int), .bool line]))) .nil .nil .nil .nil)) (.node none (.node (some (.v (.bool line))) (.node (some (.v (.int .i64 (m : Int)))) .nil .nil .nil .nil) .nil .nil .nil) (.node none (.node (some (.v (.int .i64 (l.length : Int)))) .nil .nil .nil .nil) .nil .nil .nil) (.node (some (.v (T l))) (.node (some (.v (.int .i64 4))) .nil .nil .nil .nil) .nil .nil .nil) (.node (some (.v (.int .i64 (n : Int)))) .nil .nil .nil .nil)) (.node (some (.box h.gen Z5)) (.node (some (.box (h.gen + 1) [.int .i64 0, .str ⟨#[]⟩, .int .i64 0, .int .i64 0, .bool false])) (.node (some (.v (.agg Z5))) .nil .nil .nil .nil) .nil .nil .nil) (.node none (.node (some (.v (.bool false))) .nil .nil .nil .nil) .nil .nil .nil) (.node (some (.v (.int .i64 (a : Int)))) (.node (some (.v (.int .i64 0))) .nil .nil .nil .nil) .nil .nil .nil) (.node (some (.v (.bool line))) .nil .nil .nil .nil))) ⟨rfl, rfl, rfl, rfl, rfl, rfl⟩ rfl rfl rfl
    rw [← ht] at g7 g8
    simp [-y_Hnew, Tells, evFun, FF21, c21]
    (try (conv in (evC call _ c21_1 _ _) => unfold c21_1; simp [-y_Hnew, gs, q33, hw, ha, hlt, hlt', tk, vSliceS, gvo, sliceS, bnd, q33]); try dsimp only)
    (try (conv in (evC call _ c21_2 _ _) => unfold c21_2; simp [-y_Hnew, gs, q33, hw, ha, hlt, hlt', tk, vSliceS, gvo, sliceS, bnd, q33]); try dsimp only)
    (try (conv in (evC call _ c21_3 _ _) => unfold c21_3; simp [-y_Hnew, gs, q33, hw, ha, hlt, hlt', tk, vSliceS, gvo, sliceS, bnd, q33]); try dsimp only)
    (try (conv in (evC call _ c21_4 _ _) => unfold c21_4; simp [-y_Hnew, gs, q33, hw, ha, hlt, hlt', tk, vSliceS, gvo, sliceS, bnd, q33]); try dsimp only)
    (try (conv in (evC call _ c21_5 _ _) => unfold c21_5; simp [-y_Hnew, gs, q33, hw, ha, hlt, hlt', tk, vSliceS, gvo, sliceS, bnd, q33]); try dsimp only)
    (try (conv in (evC call _ c21_6 _ _) => unfold c21_6; simp [-y_Hnew, gs, q33, hw, ha, hlt, hlt', tk, vSliceS, gvo, sliceS, bnd, q33]); try dsimp only)
    (try (conv in (evC call _ c21_7 _ _) => unfold c21_7; simp [-y_Hnew, gs, q33, hw, ha, hlt, hlt', tk, vSliceS, gvo, sliceS, bnd, q33]); try dsimp only)
    (try (conv in (evC call _ c21_8 _ _) => unfold c21_8; simp [-y_Hnew, gs, q33, hw, ha, hlt, hlt', tk, vSliceS, gvo, sliceS, bnd, q33]); try dsimp only)
    (try (conv in (evC call _ c21_9 _ _) => unfold c21_9; simp [-y_Hnew, gs, q33, hw, ha, hlt, hlt', tk, vSliceS, gvo, sliceS, bnd, q33]); try dsimp only)
    rw [g0]
    try dsimp only
    (try (conv in (decide ((0 : Nat) = 0)) => simp)); try dsimp only
    (try (conv in (evC call _ c21_19 _ _) => unfold c21_19; simp [-y_Hnew, gs, g1, g2, g3, g4, g5, g6, g7, g8, hzw]); try dsimp only)
    (try (conv in (evC call _ c21_20 _ _) => unfold c21_20; simp [-y_Hnew, gs, g1, g2, g3, g4, g5, g6, g7, g8, hzw]); try dsimp only)
    simp [-y_Hnew, Tells, gs, g1, g2, g3, g4, g5, g6, g7, g8, hzw]
    exact y_ok1 h (h.gen + 1 + 1) fblk

end Go.Proofs.Lx
