import Derived.Test.YtlbooinipoaapaaDoorLxRN
set_option linter.unusedSimpArgs false
set_option linter.unusedVariables false
set_option linter.unusedSectionVars false
namespace Go.Proofs.Lx
open Go.Ev
noncomputable def c31_5 : EC := (.cond (.sl [.a, .b]) .skip (.exit 0))
noncomputable def c31_9 : EC := (.seq (.steps [(.op Option.none (.pure 2 (vMove (.k (.bool Bool.true)))) (Option.some [.d]))]) .ret)
noncomputable def c31_8 : EC := (.cond (.sl [.a, .d]) c31_9 .skip)
noncomputable def c31_7 : EC := (.seq (.steps [(.op Option.none (.pure 1 (vMove (.sl []))) (Option.some [.d, .b])), (.op Option.none (.pure 1 (vMove (.sl [.a, .a]))) (Option.some [.a, .c])), (.op Option.none (.pure 20 (vIndexAddr 1 (.sl [.d, .b]) (.sl [.a, .c]))) (Option.some [.b, .c])), (.op Option.none (.look 8 (lLoad (.sl [.b, .c]) 1 Bool.false)) (Option.some [.c, .c])), (.op Option.none (.pure 1 (vMove (.sl [.a]))) (Option.some [.d, .c])), (.op Option.none (.pure 11 (vBin .no .eql (.sl [.c, .c]) (.sl [.d, .c]))) (Option.some [.a, .d]))]) c31_8)
noncomputable def c31_10 : EC := (.steps [(.op Option.none (.pure 1 (vMove (.sl [.a, .a]))) (Option.some [.b, .b])), (.op Option.none (.pure 11 (vBin .no .add (.sl [.b, .b]) (.k (.int .i64 (.ofNat 1))))) (Option.some [.c, .b])), (.op Option.none (.pure 2 (vMove (.sl [.c, .b]))) (Option.some [.a, .a]))])
noncomputable def c31_6 : EC := (.seq (.block 1 c31_7) c31_10)
noncomputable def c31_4 : EC := (.seq (.seq (.steps [(.op Option.none (.pure 1 (vMove (.sl [.a, .a]))) (Option.some [.b, .a])), (.op Option.none (.pure 1 (vMove (.sl []))) (Option.some [.c, .a])), (.op Option.none (.pure 23 (vLen (.sl [.c, .a]))) (Option.some [.d, .a])), (.op Option.none (.pure 11 (vBin .no .lss (.sl [.b, .a]) (.sl [.d, .a]))) (Option.some [.a, .b]))]) c31_5) c31_6)
noncomputable def c31_3 : EC := (.loop c31_4)
noncomputable def c31_2 : EC := (.block 0 c31_3)
noncomputable def c31_11 : EC := (.seq (.steps [(.op Option.none (.pure 2 (vMove (.k (.bool Bool.false)))) (Option.some [.d]))]) .ret)
noncomputable def c31_1 : EC := (.seq (.seq (.steps [(.op Option.none (.pure 2 (vMove (.k (.int .i64 (.ofNat 0))))) (Option.some [.a, .a]))]) c31_2) c31_11)
noncomputable def c31 : EF := ⟨(.seq (.steps [(.op Option.none (.pure 2 (vMove (.k (.bool Bool.false)))) (Option.some [.d]))]) c31_1), [(.slot (.sl [.d]))], Bool.false⟩
theorem c31_ok : compF Tryd.prog 31 = some c31 := by kernel_rfl
noncomputable def LF31 : FuncId → Option EF := lookF [(31, c31)]
theorem FF31 : LF31 31 = some c31 := rfl
noncomputable def c32_1 : EC := (.seq (.steps [(.op Option.none (.new 7 (nSlice 1 19 [(.str ⟨#[]⟩), (.str ⟨#[]⟩), (.str ⟨#[]⟩), (.str ⟨#[]⟩), (.str ⟨#[]⟩), (.str ⟨#[]⟩), (.str ⟨#[]⟩), (.str ⟨#[]⟩), (.str ⟨#[]⟩), (.str ⟨#[]⟩), (.str ⟨#[]⟩), (.str ⟨#[]⟩), (.str ⟨#[]⟩), (.str ⟨#[]⟩), (.str ⟨#[]⟩), (.str ⟨#[]⟩), (.str ⟨#[]⟩), (.str ⟨#[]⟩), (.str ⟨#[]⟩)] [(0, (1, (.k (.str ⟨#[108, 101, 116]⟩)))), (1, (1, (.k (.str ⟨#[99, 111, 110, 115, 116]⟩)))), (2, (1, (.k (.str ⟨#[102, 117, 110, 99, 116, 105, 111, 110]⟩)))), (3, (1, (.k (.str ⟨#[114, 101, 116, 117, 114, 110]⟩)))), (4, (1, (.k (.str ⟨#[105, 102]⟩)))), (5, (1, (.k (.str ⟨#[101, 108, 115, 101]⟩)))), (6, (1, (.k (.str ⟨#[119, 104, 105, 108, 101]⟩)))), (7, (1, (.k (.str ⟨#[98, 114, 101, 97, 107]⟩)))), (8, (1, (.k (.str ⟨#[99, 111, 110, 116, 105, 110, 117, 101]⟩)))), (9, (1, (.k (.str ⟨#[116, 104, 114, 111, 119]⟩)))), (10, (1, (.k (.str ⟨#[116, 114, 121]⟩)))), (11, (1, (.k (.str ⟨#[99, 97, 116, 99, 104]⟩)))), (12, (1, (.k (.str ⟨#[116, 114, 117, 101]⟩)))), (13, (1, (.k (.str ⟨#[102, 97, 108, 115, 101]⟩)))), (14, (1, (.k (.str ⟨#[110, 117, 108, 108]⟩)))), (15, (1, (.k (.str ⟨#[117, 110, 100, 101, 102, 105, 110, 101, 100]⟩)))), (16, (1, (.k (.str ⟨#[116, 104, 105, 115]⟩)))), (17, (1, (.k (.str ⟨#[116, 121, 112, 101, 111, 102]⟩)))), (18, (1, (.k (.str ⟨#[121, 105, 101, 108, 100]⟩))))])) (Option.some [.a])), (.op Option.none (.pure 2 (vMove (.sl [.a]))) (Option.some []))]) .ret)
noncomputable def c32 : EF := ⟨(.seq (.steps [(.op Option.none (.pure 2 (vMove (.k .nils))) (Option.some []))]) c32_1), [(.slot (.sl []))], Bool.false⟩
theorem c32_ok : compF Tryd.prog 32 = some c32 := by kernel_rfl
noncomputable def LF32 : FuncId → Option EF := lookF [(32, c32)]
theorem FF32 : LF32 32 = some c32 := rfl
noncomputable def c20_1 : EC := (.seq (.steps [(.op Option.none (.eff (hCall (.k (.fn 32 [] [])) [])) (Option.some [.c])), (.op Option.none (.pure 1 (vMove (.sl []))) (Option.some [.d])), (.op Option.none (.eff (hCall (.k (.fn 31 [] [])) [(.sl [.c]), (.sl [.d])])) (Option.some [.a, .a])), (.op Option.none (.pure 2 (vMove (.sl [.a, .a]))) (Option.some [.b]))]) .ret)
noncomputable def c20 : EF := ⟨(.seq (.steps [(.op Option.none (.pure 2 (vMove (.k (.bool Bool.false)))) (Option.some [.b]))]) c20_1), [(.slot (.sl [.b]))], Bool.false⟩
theorem c20_ok : compF Tryd.prog 20 = some c20 := by kernel_rfl
noncomputable def LF20 : FuncId → Option EF := lookF [(20, c20)]
theorem FF20 : LF20 20 = some c20 := rfl
noncomputable def c28_1 : EC := (.seq (.steps [(.op Option.none (.new 7 (nSlice 1 26 [(.str ⟨#[]⟩), (.str ⟨#[]⟩), (.str ⟨#[]⟩), (.str ⟨#[]⟩), (.str ⟨#[]⟩), (.str ⟨#[]⟩), (.str ⟨#[]⟩), (.str ⟨#[]⟩), (.str ⟨#[]⟩), (.str ⟨#[]⟩), (.str ⟨#[]⟩), (.str ⟨#[]⟩), (.str ⟨#[]⟩), (.str ⟨#[]⟩), (.str ⟨#[]⟩), (.str ⟨#[]⟩), (.str ⟨#[]⟩), (.str ⟨#[]⟩), (.str ⟨#[]⟩), (.str ⟨#[]⟩), (.str ⟨#[]⟩), (.str ⟨#[]⟩), (.str ⟨#[]⟩), (.str ⟨#[]⟩), (.str ⟨#[]⟩), (.str ⟨#[]⟩)] [(0, (1, (.k (.str ⟨#[61, 61, 61]⟩)))), (1, (1, (.k (.str ⟨#[33, 61, 61]⟩)))), (2, (1, (.k (.str ⟨#[60, 61]⟩)))), (3, (1, (.k (.str ⟨#[62, 61]⟩)))), (4, (1, (.k (.str ⟨#[38, 38]⟩)))), (5, (1, (.k (.str ⟨#[124, 124]⟩)))), (6, (1, (.k (.str ⟨#[123]⟩)))), (7, (1, (.k (.str ⟨#[125]⟩)))), (8, (1, (.k (.str ⟨#[40]⟩)))), (9, (1, (.k (.str ⟨#[41]⟩)))), (10, (1, (.k (.str ⟨#[91]⟩)))), (11, (1, (.k (.str ⟨#[93]⟩)))), (12, (1, (.k (.str ⟨#[59]⟩)))), (13, (1, (.k (.str ⟨#[44]⟩)))), (14, (1, (.k (.str ⟨#[46]⟩)))), (15, (1, (.k (.str ⟨#[63]⟩)))), (16, (1, (.k (.str ⟨#[58]⟩)))), (17, (1, (.k (.str ⟨#[61]⟩)))), (18, (1, (.k (.str ⟨#[60]⟩)))), (19, (1, (.k (.str ⟨#[62]⟩)))), (20, (1, (.k (.str ⟨#[43]⟩)))), (21, (1, (.k (.str ⟨#[45]⟩)))), (22, (1, (.k (.str ⟨#[42]⟩)))), (23, (1, (.k (.str ⟨#[47]⟩)))), (24, (1, (.k (.str ⟨#[37]⟩)))), (25, (1, (.k (.str ⟨#[33]⟩))))])) (Option.some [.a])), (.op Option.none (.pure 2 (vMove (.sl [.a]))) (Option.some []))]) .ret)
noncomputable def c28 : EF := ⟨(.seq (.steps [(.op Option.none (.pure 2 (vMove (.k .nils))) (Option.some []))]) c28_1), [(.slot (.sl []))], Bool.false⟩
theorem c28_ok : compF Tryd.prog 28 = some c28 := by kernel_rfl
noncomputable def LF28 : FuncId → Option EF := lookF [(28, c28)]
theorem FF28 : LF28 28 = some c28 := rfl

section
variable {call : Calls'} {p : Path} {b : Blk} {L : List ByteArray} {s : ByteArray} {h : H} (hb : Ev.get p h.t = some b) (hm : b.map = false) (hk : b.k = 1) (hL : ∀ (j : Nat) (hj : j < L.length), Ev.get (pathOf j) b.rows = some [.str L[j]]) (hl : L.length ≤ 1000000)
include hb hm hk hL hl
theorem in_one (fuel i : Nat) (fr : FT) (hi : i < L.length) (he : sEq L[i] s = false) (e : Ev.get [] fr = some (.v (.sl p 1 0 L.length)) ∧ Ev.get [.a] fr = some (.v (.str s))) (e2 : Ev.get [.a, .a] fr = some (.v (.int .i64 (i : Int)))) :
    ∃ fr', evC call fuel c31_4 fr h = .norm fr' h ∧ (Ev.get [] fr' = some (.v (.sl p 1 0 L.length)) ∧ Ev.get [.a] fr' = some (.v (.str s))) ∧ Ev.get [.a, .a] fr' = some (.v (.int .i64 ((i + 1 : Nat) : Int))) := by
  obtain ⟨e0, e1⟩ := e
  have w : wrapF .i64 ((i : Int) + 1) = (i : Int) + 1 := wrap64 (by omega) (by omega)
  have hr := hL i hi
  refine ⟨?fr, ?e, ⟨?_, ?_⟩, ?_⟩
  case e =>
    simp [c31_4, c31_10, c31_5, c31_6, c31_7, c31_8, c31_9, gs, e0, e1, e2, hi, hb, hm, hk, hr, he, w]
    rfl
  all_goals simp [gs, e0, e1, e2]
theorem in_hit (fuel i : Nat) (fr : FT) (hi : i < L.length) (he : sEq L[i] s = true) (e : Ev.get [] fr = some (.v (.sl p 1 0 L.length)) ∧ Ev.get [.a] fr = some (.v (.str s))) (e2 : Ev.get [.a, .a] fr = some (.v (.int .i64 (i : Int)))) :
    ∃ fr', evC call fuel c31_4 fr h = .ret fr' h ∧ Ev.get [.d] fr' = some (.v (.bool true)) := by
  obtain ⟨e0, e1⟩ := e
  have hr := hL i hi
  refine ⟨?fr, ?e, ?_⟩
  case e =>
    simp [c31_4, c31_10, c31_5, c31_6, c31_7, c31_8, c31_9, gs, e0, e1, e2, hi, hb, hm, hk, hr, he]
    rfl
  all_goals simp [gs, e0, e1, e2]
theorem in_end (fuel i : Nat) (fr : FT) (hi : ¬ i < L.length) (e : Ev.get [] fr = some (.v (.sl p 1 0 L.length)) ∧ Ev.get [.a] fr = some (.v (.str s))) (e2 : Ev.get [.a, .a] fr = some (.v (.int .i64 (i : Int)))) :
    ∃ fr', evC call fuel c31_4 fr h = .exit 0 fr' h := by
  obtain ⟨e0, e1⟩ := e
  refine ⟨?fr, ?e⟩
  case e =>
    simp [c31_4, c31_10, c31_5, c31_6, c31_7, c31_8, c31_9, gs, e0, e1, e2, hi]
    rfl
theorem in_all (fuel : Nat) : ∀ (k i : Nat) (fr : FT) (j : Nat), L.length = i + k → (Ev.get [] fr = some (.v (.sl p 1 0 L.length)) ∧ Ev.get [.a] fr = some (.v (.str s))) → Ev.get [.a, .a] fr = some (.v (.int .i64 (i : Int))) →
    ∃ fr', (loopF call fuel c31_4 (k + 1 + j) fr h = .exit 0 fr' h ∧ idxS s (L.drop i) i = -1) ∨ (loopF call fuel c31_4 (k + 1 + j) fr h = .ret fr' h ∧ Ev.get [.d] fr' = some (.v (.bool true)) ∧ ¬ idxS s (L.drop i) i < 0)
  | 0, i, fr, j, hk', e, e2 => by
    obtain ⟨fr', h1⟩ := in_end (call := call) hb hm hk hL hl fuel i fr (by omega) e e2
    refine ⟨fr', .inl ⟨by rw [show 0 + 1 + j = j + 1 by omega, loopF_succ, h1], ?_⟩⟩
    rw [List.drop_eq_nil_of_le (by omega)]; rfl
  | k + 1, i, fr, j, hk', e, e2 => by
    have hi : i < L.length := by omega
    have hd : L.drop i = L[i] :: L.drop (i + 1) := List.drop_eq_getElem_cons hi
    rw [show k + 1 + 1 + j = (k + 1 + j) + 1 by omega, loopF_succ]
    cases he : sEq L[i] s
    · obtain ⟨fr1, h1, a0, a2⟩ := in_one (call := call) hb hm hk hL hl fuel i fr hi he e e2
      obtain ⟨fr', h2⟩ := in_all fuel k (i + 1) fr1 j (by omega) a0 a2
      have hs : idxS s (L.drop i) i = idxS s (L.drop (i + 1)) (i + 1) := by rw [hd, idxS_cons, sEq_comm, he]; rfl
      rw [hs, h1]
      exact ⟨fr', h2⟩
    · obtain ⟨fr', h1, h2⟩ := in_hit (call := call) hb hm hk hL hl fuel i fr hi he e e2
      have hs : idxS s (L.drop i) i = (i : Int) := by rw [hd, idxS_cons, sEq_comm, he]; rfl
      exact ⟨fr', .inr ⟨by rw [h1], h2, by rw [hs]; omega⟩⟩
theorem t31 : evFun LF31 call (L.length + 1) 31 [.sl p 1 0 L.length, .str s] h = .ret (.bool (!decide (idxS s L 0 < 0))) h := by
  obtain ⟨fr', h1⟩ := in_all (call := call) (s := s) hb hm hk hL hl (L.length + 1) L.length 0 (.node (some (.v (.sl p 1 0 L.length))) (.node (some (.v (.str s))) (.node (some (.v (.int .i64 0))) .nil .nil .nil .nil) .nil .nil .nil) .nil .nil (.node (some (.v (.bool false))) .nil .nil .nil .nil)) 0 (by omega) ⟨rfl, rfl⟩ rfl
  simp only [List.drop_zero, Nat.add_zero] at h1
  rcases h1 with ⟨h1, h2⟩ | ⟨h1, h2, h3⟩
  · simp [evFun, FF31, c31, c31_1, c31_2, c31_3, c31_11, h1, h2, gs]
  · simp [evFun, FF31, c31, c31_1, c31_2, c31_3, c31_11, h1, h2, h3, gs]
end
theorem t32 : ∃ B : Blk, (∀ (call : Calls') (h : H), evFun LF32 call 1 32 [] h = .ret (.sl h.next 1 0 19) (h.new B)) ∧ B.map = false ∧ B.k = 1 ∧ ∀ (j : Nat) (hj : j < wordsL.length), Ev.get (pathOf j) B.rows = some [T wordsL[j]] := by
  refine ⟨?B, ?e, ?_, ?_, ?_⟩
  case e =>
    intro call h
    simp [-y_Hnew, evFun, FF32, c32, c32_1]
    rfl
  · rfl
  · rfl
  · intro j hj
    match j, hj with
    | 0, _ => exact rfl
    | 1, _ => exact rfl
    | 2, _ => exact rfl
    | 3, _ => exact rfl
    | 4, _ => exact rfl
    | 5, _ => exact rfl
    | 6, _ => exact rfl
    | 7, _ => exact rfl
    | 8, _ => exact rfl
    | 9, _ => exact rfl
    | 10, _ => exact rfl
    | 11, _ => exact rfl
    | 12, _ => exact rfl
    | 13, _ => exact rfl
    | 14, _ => exact rfl
    | 15, _ => exact rfl
    | 16, _ => exact rfl
    | 17, _ => exact rfl
    | 18, _ => exact rfl
    | n + 19, h => exact absurd h (Nat.not_lt.2 (Nat.le_add_left 19 n))
theorem t28 : ∃ B : Blk, (∀ (call : Calls') (h : H), evFun LF28 call 1 28 [] h = .ret (.sl h.next 1 0 26) (h.new B)) ∧ B.map = false ∧ B.k = 1 ∧ ∀ (j : Nat) (hj : j < signsL.length), Ev.get (pathOf j) B.rows = some [T signsL[j]] := by
  refine ⟨?B, ?e, ?_, ?_, ?_⟩
  case e =>
    intro call h
    simp [-y_Hnew, evFun, FF28, c28, c28_1]
    rfl
  · rfl
  · rfl
  · intro j hj
    match j, hj with
    | 0, _ => exact rfl
    | 1, _ => exact rfl
    | 2, _ => exact rfl
    | 3, _ => exact rfl
    | 4, _ => exact rfl
    | 5, _ => exact rfl
    | 6, _ => exact rfl
    | 7, _ => exact rfl
    | 8, _ => exact rfl
    | 9, _ => exact rfl
    | 10, _ => exact rfl
    | 11, _ => exact rfl
    | 12, _ => exact rfl
    | 13, _ => exact rfl
    | 14, _ => exact rfl
    | 15, _ => exact rfl
    | 16, _ => exact rfl
    | 17, _ => exact rfl
    | 18, _ => exact rfl
    | 19, _ => exact rfl
    | 20, _ => exact rfl
    | 21, _ => exact rfl
    | 22, _ => exact rfl
    | 23, _ => exact rfl
    | 24, _ => exact rfl
    | 25, _ => exact rfl
    | n + 26, h => exact absurd h (Nat.not_lt.2 (Nat.le_add_left 26 n))
noncomputable def wB : Blk := Classical.choose t32
noncomputable def sB : Blk := Classical.choose t28
theorem t20 {call : Calls'} (s : ByteArray) (h : H) (k32 : ∀ h, call 32 [] h = .ret (.sl h.next 1 0 19) (h.new wB)) (k31 : ∀ (p : Path) (h : H), Ev.get p h.t = some wB → call 31 [.sl p 1 0 19, .str s] h = .ret (.bool (isW s)) h) :
    Tells (evFun LF20 call 1 20 [.str s] h) h (.bool (isW s)) := by
  have hb : Ev.get h.next (h.new wB).t = some wB := by
    unfold H.new; simp only; rw [get_set, if_pos rfl]
  have kb := k31 h.next (h.new wB) hb
  simp [-y_Hnew, Tells, evFun, FF20, c20, c20_1, k32, kb]
end Go.Proofs.Lx
