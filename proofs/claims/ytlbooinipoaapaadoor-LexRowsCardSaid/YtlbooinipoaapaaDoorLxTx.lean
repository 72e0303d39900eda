/- Texts by numbers: what Text tells. -/
import Derived.Test.YtlbooinipoaapaaDoorLxL7
import Derived.Test.YtlbooinipoaapaaDoorEvMc
set_option linter.unusedSimpArgs false
set_option linter.unusedVariables false
set_option linter.unusedSectionVars false
namespace Go.Proofs.Lx
open Go.Ev
noncomputable def c22_1 : EC := (.seq (.steps [(.op Option.none (.new 7 (nSlice 1 62 [(.str ⟨#[]⟩), (.str ⟨#[]⟩), (.str ⟨#[]⟩), (.str ⟨#[]⟩), (.str ⟨#[]⟩), (.str ⟨#[]⟩), (.str ⟨#[]⟩), (.str ⟨#[]⟩), (.str ⟨#[]⟩), (.str ⟨#[]⟩), (.str ⟨#[]⟩), (.str ⟨#[]⟩), (.str ⟨#[]⟩), (.str ⟨#[]⟩), (.str ⟨#[]⟩), (.str ⟨#[]⟩), (.str ⟨#[]⟩), (.str ⟨#[]⟩), (.str ⟨#[]⟩), (.str ⟨#[]⟩), (.str ⟨#[]⟩), (.str ⟨#[]⟩), (.str ⟨#[]⟩), (.str ⟨#[]⟩), (.str ⟨#[]⟩), (.str ⟨#[]⟩), (.str ⟨#[]⟩), (.str ⟨#[]⟩), (.str ⟨#[]⟩), (.str ⟨#[]⟩), (.str ⟨#[]⟩), (.str ⟨#[]⟩), (.str ⟨#[]⟩), (.str ⟨#[]⟩), (.str ⟨#[]⟩), (.str ⟨#[]⟩), (.str ⟨#[]⟩), (.str ⟨#[]⟩), (.str ⟨#[]⟩), (.str ⟨#[]⟩), (.str ⟨#[]⟩), (.str ⟨#[]⟩), (.str ⟨#[]⟩), (.str ⟨#[]⟩), (.str ⟨#[]⟩), (.str ⟨#[]⟩), (.str ⟨#[]⟩), (.str ⟨#[]⟩), (.str ⟨#[]⟩), (.str ⟨#[]⟩), (.str ⟨#[]⟩), (.str ⟨#[]⟩), (.str ⟨#[]⟩), (.str ⟨#[]⟩), (.str ⟨#[]⟩), (.str ⟨#[]⟩), (.str ⟨#[]⟩), (.str ⟨#[]⟩), (.str ⟨#[]⟩), (.str ⟨#[]⟩), (.str ⟨#[]⟩), (.str ⟨#[]⟩)] [(0, (1, (.k (.str ⟨#[97]⟩)))), (1, (1, (.k (.str ⟨#[98, 49]⟩)))), (2, (1, (.k (.str ⟨#[36]⟩)))), (3, (1, (.k (.str ⟨#[95, 120]⟩)))), (4, (1, (.k (.str ⟨#[108, 101, 116]⟩)))), (5, (1, (.k (.str ⟨#[99, 111, 110, 115, 116]⟩)))), (6, (1, (.k (.str ⟨#[102, 117, 110, 99, 116, 105, 111, 110]⟩)))), (7, (1, (.k (.str ⟨#[48]⟩)))), (8, (1, (.k (.str ⟨#[55]⟩)))), (9, (1, (.k (.str ⟨#[52, 50]⟩)))), (10, (1, (.k (.str ⟨#[48, 48, 55]⟩)))), (11, (1, (.k (.str ⟨#[50, 49, 52, 55, 52, 56, 51, 54, 52, 55]⟩)))), (12, (1, (.k (.str ⟨#[50, 49, 52, 55, 52, 56, 51, 54, 52, 56]⟩)))), (13, (1, (.k (.str ⟨#[51, 120]⟩)))), (14, (1, (.k (.str ⟨#[34, 34]⟩)))), (15, (1, (.k (.str ⟨#[34, 97, 32, 98, 34]⟩)))), (16, (1, (.k (.str ⟨#[34, 92, 110, 92, 34, 34]⟩)))), (17, (1, (.k (.str ⟨#[34, 92, 113, 34]⟩)))), (18, (1, (.k (.str ⟨#[34]⟩)))), (19, (1, (.k (.str ⟨#[40]⟩)))), (20, (1, (.k (.str ⟨#[41]⟩)))), (21, (1, (.k (.str ⟨#[123]⟩)))), (22, (1, (.k (.str ⟨#[125]⟩)))), (23, (1, (.k (.str ⟨#[91]⟩)))), (24, (1, (.k (.str ⟨#[93]⟩)))), (25, (1, (.k (.str ⟨#[59]⟩)))), (26, (1, (.k (.str ⟨#[44]⟩)))), (27, (1, (.k (.str ⟨#[46]⟩)))), (28, (1, (.k (.str ⟨#[63]⟩)))), (29, (1, (.k (.str ⟨#[58]⟩)))), (30, (1, (.k (.str ⟨#[61]⟩)))), (31, (1, (.k (.str ⟨#[61, 61]⟩)))), (32, (1, (.k (.str ⟨#[61, 61, 61]⟩)))), (33, (1, (.k (.str ⟨#[33]⟩)))), (34, (1, (.k (.str ⟨#[33, 61]⟩)))), (35, (1, (.k (.str ⟨#[33, 61, 61]⟩)))), (36, (1, (.k (.str ⟨#[60]⟩)))), (37, (1, (.k (.str ⟨#[60, 61]⟩)))), (38, (1, (.k (.str ⟨#[62]⟩)))), (39, (1, (.k (.str ⟨#[62, 61]⟩)))), (40, (1, (.k (.str ⟨#[43]⟩)))), (41, (1, (.k (.str ⟨#[45]⟩)))), (42, (1, (.k (.str ⟨#[42]⟩)))), (43, (1, (.k (.str ⟨#[47]⟩)))), (44, (1, (.k (.str ⟨#[37]⟩)))), (45, (1, (.k (.str ⟨#[38]⟩)))), (46, (1, (.k (.str ⟨#[38, 38]⟩)))), (47, (1, (.k (.str ⟨#[124]⟩)))), (48, (1, (.k (.str ⟨#[124, 124]⟩)))), (49, (1, (.k (.str ⟨#[47, 47]⟩)))), (50, (1, (.k (.str ⟨#[47, 47, 32, 110, 111, 116, 101, 10]⟩)))), (51, (1, (.k (.str ⟨#[32]⟩)))), (52, (1, (.k (.str ⟨#[10]⟩)))), (53, (1, (.k (.str ⟨#[9]⟩)))), (54, (1, (.k (.str ⟨#[35]⟩)))), (55, (1, (.k (.str ⟨#[128]⟩)))), (56, (1, (.k (.str ⟨#[116, 114, 117, 101]⟩)))), (57, (1, (.k (.str ⟨#[110, 117, 108, 108]⟩)))), (58, (1, (.k (.str ⟨#[116, 104, 105, 115]⟩)))), (59, (1, (.k (.str ⟨#[116, 121, 112, 101, 111, 102]⟩)))), (60, (1, (.k (.str ⟨#[105, 102]⟩)))), (61, (1, (.k (.str ⟨#[101, 108, 115, 101]⟩))))])) (Option.some [.a])), (.op Option.none (.pure 2 (vMove (.sl [.a]))) (Option.some []))]) .ret)
noncomputable def c22 : EF := ⟨(.seq (.steps [(.op Option.none (.pure 2 (vMove (.k .nils))) (Option.some []))]) c22_1), [(.slot (.sl []))], Bool.false⟩
theorem c22_ok : compF Tryd.prog 22 = some c22 := by kernel_rfl
noncomputable def LF22 : FuncId → Option EF := lookF [(22, c22)]
theorem FF22 : LF22 22 = some c22 := rfl
noncomputable def c14_7 : EC := (.cond (.sl [.b, .c]) .skip (.exit 0))
noncomputable def c14_12 : EC := (.steps [(.op Option.none (.pure 1 (vMove (.sl [.d]))) (Option.some [.c, .d, .a])), (.op Option.none (.pure 11 (vBin .no .add (.sl [.c, .d, .a]) (.k (.str ⟨#[32]⟩)))) (Option.some [.d, .d, .a])), (.op Option.none (.pure 2 (vMove (.sl [.d, .d, .a]))) (Option.some [.d]))])
noncomputable def c14_11 : EC := (.cond (.sl [.b, .d, .a]) c14_12 .skip)
noncomputable def c14_10 : EC := (.seq (.steps [(.op Option.none (.pure 1 (vMove (.sl []))) (Option.some [.b, .c, .a])), (.op Option.none (.pure 1 (vMove (.sl [.a, .a]))) (Option.some [.c, .c, .a])), (.op Option.none (.pure 20 (vIndexAddr 1 (.sl [.b, .c, .a]) (.sl [.c, .c, .a]))) (Option.some [.d, .c, .a])), (.op Option.none (.look 8 (lLoad (.sl [.d, .c, .a]) 1 Bool.false)) (Option.some [.a, .d, .a])), (.op Option.none (.pure 11 (vBin .no .geq (.sl [.a, .d, .a]) (.k (.int .u8 (.ofNat 128))))) (Option.some [.b, .d, .a]))]) c14_11)
noncomputable def c14_9 : EC := (.seq (.steps [(.op Option.none (.pure 1 (vMove (.sl [.d]))) (Option.some [.a, .d])), (.op Option.none (.pure 1 (vMove (.sl [.c]))) (Option.some [.b, .d])), (.op Option.none (.pure 1 (vMove (.sl []))) (Option.some [.c, .d])), (.op Option.none (.pure 1 (vMove (.sl [.a, .a]))) (Option.some [.d, .d])), (.op Option.none (.pure 20 (vIndexAddr 1 (.sl [.c, .d]) (.sl [.d, .d]))) (Option.some [.a, .a, .a])), (.op Option.none (.look 8 (lLoad (.sl [.a, .a, .a]) 1 Bool.false)) (Option.some [.b, .a, .a])), (.op Option.none (.pure 13 (vConvInt .i64 (.sl [.b, .a, .a]))) (Option.some [.c, .a, .a])), (.op Option.none (.pure 1 (vMove (.sl [.c]))) (Option.some [.d, .a, .a])), (.op Option.none (.pure 23 (vLen (.sl [.d, .a, .a]))) (Option.some [.a, .b, .a])), (.op Option.none (.pure 11 (vBin .no .rem (.sl [.c, .a, .a]) (.sl [.a, .b, .a]))) (Option.some [.b, .b, .a])), (.op Option.none (.pure 20 (vIndexAddr 1 (.sl [.b, .d]) (.sl [.b, .b, .a]))) (Option.some [.c, .b, .a])), (.op Option.none (.look 8 (lLoad (.sl [.c, .b, .a]) 1 Bool.false)) (Option.some [.d, .b, .a])), (.op Option.none (.pure 11 (vBin .no .add (.sl [.a, .d]) (.sl [.d, .b, .a]))) (Option.some [.a, .c, .a])), (.op Option.none (.pure 2 (vMove (.sl [.a, .c, .a]))) (Option.some [.d]))]) c14_10)
noncomputable def c14_13 : EC := (.steps [(.op Option.none (.pure 1 (vMove (.sl [.a, .a]))) (Option.some [.c, .c])), (.op Option.none (.pure 11 (vBin .no .add (.sl [.c, .c]) (.k (.int .i64 (.ofNat 1))))) (Option.some [.d, .c])), (.op Option.none (.pure 2 (vMove (.sl [.d, .c]))) (Option.some [.a, .a]))])
noncomputable def c14_8 : EC := (.seq (.block 1 c14_9) c14_13)
noncomputable def c14_6 : EC := (.seq (.seq (.steps [(.op Option.none (.pure 1 (vMove (.sl [.a, .a]))) (Option.some [.c, .a])), (.op Option.none (.pure 1 (vMove (.sl []))) (Option.some [.d, .a])), (.op Option.none (.pure 23 (vLen (.sl [.d, .a]))) (Option.some [.a, .b])), (.op Option.none (.pure 11 (vBin .no .lss (.sl [.c, .a]) (.sl [.a, .b]))) (Option.some [.b, .b])), (.op Option.none (.pure 1 (vMove (.sl [.b, .b]))) (Option.some [.c, .b])), (.op (Option.some ([.c, .b], Bool.true)) (.pure 1 (vMove (.sl [.a, .a]))) (Option.some [.d, .b])), (.op (Option.some ([.c, .b], Bool.true)) (.pure 11 (vBin .no .lss (.sl [.d, .b]) (.k (.int .i64 (.ofNat 60))))) (Option.some [.a, .c])), (.op Option.none (.pure 3 (vPick (.sl [.c, .b]) (.sl [.a, .c]) (.k (.bool Bool.false)))) (Option.some [.b, .c]))]) c14_7) c14_8)
noncomputable def c14_5 : EC := (.loop c14_6)
noncomputable def c14_4 : EC := (.block 0 c14_5)
noncomputable def c14_14 : EC := (.seq (.steps [(.op Option.none (.pure 1 (vMove (.sl [.d]))) (Option.some [.a, .a, .b])), (.op Option.none (.pure 2 (vMove (.sl [.a, .a, .b]))) (Option.some [.b]))]) .ret)
noncomputable def c14_3 : EC := (.seq (.seq (.steps [(.op Option.none (.pure 2 (vMove (.k (.int .i64 (.ofNat 0))))) (Option.some [.a, .a]))]) c14_4) c14_14)
noncomputable def c14_2 : EC := (.seq (.steps [(.op Option.none (.pure 2 (vMove (.k (.str ⟨#[]⟩)))) (Option.some [.d]))]) c14_3)
noncomputable def c14_1 : EC := (.seq (.steps [(.op Option.none (.eff (hCall (.k (.fn 22 [] [])) [])) (Option.some [.b, .a])), (.op Option.none (.pure 2 (vMove (.sl [.b, .a]))) (Option.some [.c]))]) c14_2)
noncomputable def c14 : EF := ⟨(.seq (.steps [(.op Option.none (.pure 2 (vMove (.k (.str ⟨#[]⟩)))) (Option.some [.b]))]) c14_1), [(.slot (.sl [.b]))], Bool.false⟩
theorem c14_ok : compF Tryd.prog 14 = some c14 := by kernel_rfl
noncomputable def LF14 : FuncId → Option EF := lookF [(14, c14)]
theorem FF14 : LF14 14 = some c14 := rfl

def bitsL : List (List UInt8) := [[97], [98, 49], [36], [95, 120], [108, 101, 116], [99, 111, 110, 115, 116], [102, 117, 110, 99, 116, 105, 111, 110], [48], [55], [52, 50], [48, 48, 55], [50, 49, 52, 55, 52, 56, 51, 54, 52, 55], [50, 49, 52, 55, 52, 56, 51, 54, 52, 56], [51, 120], [34, 34], [34, 97, 32, 98, 34], [34, 92, 110, 92, 34, 34], [34, 92, 113, 34], [34], [40], [41], [123], [125], [91], [93], [59], [44], [46], [63], [58], [61], [61, 61], [61, 61, 61], [33], [33, 61], [33, 61, 61], [60], [60, 61], [62], [62, 61], [43], [45], [42], [47], [37], [38], [38, 38], [124], [124, 124], [47, 47], [47, 47, 32, 110, 111, 116, 101, 10], [32], [10], [9], [35], [128], [116, 114, 117, 101], [110, 117, 108, 108], [116, 104, 105, 115], [116, 121, 112, 101, 111, 102], [105, 102], [101, 108, 115, 101]]
noncomputable def bitsB : Blk := ⟨1, 62, rowsOf 1 62 0 (bitsL.map T) .nil, false, false, false⟩
theorem tb22 {call : Calls'} (h : H) : evFun LF22 call 1 22 [] h = .ret (.sl h.next 1 0 62) (h.new bitsB) := by kernel_rfl
theorem bits_len : bitsL.length = 62 := rfl
theorem bits_row (j : Nat) (hj : j < 62) : Ev.get (pathOf j) bitsB.rows = some [T (bitsL[j]'(by rw [bits_len]; exact hj))] := by
  show Ev.get (pathOf j) (rowsOf 1 62 0 (bitsL.map T) .nil) = _
  rw [rowsOf_get, if_pos (by omega)]
  simp only [Nat.sub_zero, Nat.mul_one]
  rw [List.drop_eq_getElem_cons (by simpa [bits_len] using hj)]
  simp
/-- What a number tells. -/
def bitOf (c : UInt8) : List UInt8 := bitsL[c.toNat % 62]'(by rw [bits_len]; omega) ++ (if 128 ≤ c.toNat then [32] else [])
theorem bits_short : ∀ x ∈ bitsL, x.length ≤ 11 := by decide +kernel
theorem bitOf_len (c : UInt8) : (bitOf c).length ≤ 12 := by
  unfold bitOf
  have := bits_short _ (List.getElem_mem (l := bitsL) (n := c.toNat % 62) (by rw [bits_len]; omega))
  split <;> simp <;> omega
def textOf (l : List UInt8) : List UInt8 := (l.take 60).flatMap bitOf
theorem bflat_len (l : List UInt8) : (l.flatMap bitOf).length ≤ 12 * l.length := by
  induction l with
  | nil => simp
  | cons c l ih =>
    have := bitOf_len c
    simp only [List.flatMap_cons, List.length_append, List.length_cons]
    omega
theorem textOf_len (l : List UInt8) : (textOf l).length ≤ 720 := by
  have := bflat_len (l.take 60)
  unfold textOf
  have h2 : (l.take 60).length ≤ 60 := by simp; omega
  omega
/-- A byte, as a value. -/
abbrev b8 (c : UInt8) : AV := .int .u8 (c.toNat : Int)
section
variable {call : Calls'} {l : List UInt8} {h : H} {v : AV} {p : Path} (hv : InS h v (l.map b8)) (hp : Ev.get p h.t = some bitsB)
include hv hp
theorem tx_one (fuel i : Nat) (fr : FT) (hi : i < l.length) (h6 : i < 60) (acc : List UInt8) (ha : acc.length ≤ 12 * i) (e0 : Ev.get [] fr = some (.v v)) (e1 : Ev.get [.c] fr = some (.v (.sl p 1 0 62))) (e2 : Ev.get [.a, .a] fr = some (.v (.int .i64 (i : Int)))) (e3 : Ev.get [.d] fr = some (.v (T acc))) :
    ∃ fr', evC call fuel c14_6 fr h = .norm fr' h ∧ Ev.get [] fr' = some (.v v) ∧ Ev.get [.c] fr' = some (.v (.sl p 1 0 62)) ∧ Ev.get [.a, .a] fr' = some (.v (.int .i64 ((i + 1 : Nat) : Int))) ∧ Ev.get [.d] fr' = some (.v (T (acc ++ bitOf l[i]))) := by
  rcases hv with ⟨_, e⟩ | ⟨_, e⟩ | ⟨q, b, rfl, hb0, hb1, hb2, hb3, hb4, hb5, hb6, hb7⟩
  · rw [List.map_eq_nil_iff] at e; subst e; exact absurd hi (Nat.not_lt_zero _)
  · rw [List.map_eq_nil_iff] at e; subst e; exact absurd hi (Nat.not_lt_zero _)
  rw [List.length_map] at e0
  have hr := hb7 i (by rw [List.length_map]; exact hi)
  rw [List.getElem_map] at hr
  have w : wrapF .i64 ((i : Int) + 1) = (i : Int) + 1 := wrap64 (by omega) (by omega)
  have w2 : wrapF .i64 ((l[i].toNat : Nat) : Int) = ((l[i].toNat : Nat) : Int) := wrap64 (by omega) (by have := l[i].toNat_lt; omega)
  have hm : l[i].toNat % 62 < 62 := Nat.mod_lt _ (by decide)
  have w3 : ((l[i].toNat : Nat) : Int).tmod 62 = ((l[i].toNat % 62 : Nat) : Int) := by rw [Int.tmod_eq_emod_of_nonneg (by omega)]; rfl
  have h6i : (i : Int) < 60 := by omega
  have hr2 := bits_row (l[i].toNat % 62) hm
  have hbm : bitsB.map = false := rfl
  have hbk : bitsB.k = 1 := rfl
  have hs := bits_short _ (List.getElem_mem (l := bitsL) (n := l[i].toNat % 62) (by rw [bits_len]; omega))
  have ho : acc ++ bitOf l[i] = (acc ++ bitsL[l[i].toNat % 62]'(by rw [bits_len]; omega)) ++ (if 128 ≤ l[i].toNat then [32] else []) := by unfold bitOf; rw [List.append_assoc]
  rw [ho]
  have n1 : (bitsL[l[i].toNat % 62]'(by rw [bits_len]; omega)).length + acc.length ≤ 9223372036854775807 := by omega
  generalize (bitsL[l[i].toNat % 62]'(by rw [bits_len]; omega)) = bt at *
  generalize l[i].toNat % 62 = m at *
  have n2 : acc.length + bt.length ≤ 9223372036854775807 := by omega
  have n3 : acc.length + (bt.length + 1) ≤ 9223372036854775807 := by omega
  have n4 : acc.length + bt.length + 1 ≤ 9223372036854775807 := by omega
  by_cases h8 : 128 ≤ l[i].toNat
  · have h8' : ¬ ((l[i].toNat : Nat) : Int) < 128 := by omega
    have h8'' : ¬ l[i].toNat < 128 := by omega
    rw [if_pos h8]
    refine ⟨?fr, ?e, ?_, ?_, ?_, ?_⟩
    case e =>
      simp [c14_6, c14_10, c14_11, c14_12, c14_13, c14_7, c14_8, c14_9, gs, e0, e1, e2, e3, hi, h6, h6i, hr, hb2, hb3, hb4, hb5, hb6, hp, hbm, hbk, hr2, hm, w, w2, w3, binStr, h8, h8', h8'', n1, n2, n3, n4]
      rfl
    all_goals simp [gs, e0, e1, e2, e3]
  · have h8' : ((l[i].toNat : Nat) : Int) < 128 := by omega
    have h8'' : l[i].toNat < 128 := by omega
    rw [if_neg h8]
    refine ⟨?fr2, ?e2, ?_, ?_, ?_, ?_⟩
    case e2 =>
      simp [c14_6, c14_10, c14_11, c14_12, c14_13, c14_7, c14_8, c14_9, gs, e0, e1, e2, e3, hi, h6, h6i, hr, hb2, hb3, hb4, hb5, hb6, hp, hbm, hbk, hr2, hm, w, w2, w3, binStr, h8, h8', h8'', n1, n2, n3, n4]
      rfl
    all_goals simp [gs, e0, e1, e2, e3]
theorem tx_end (fuel i : Nat) (fr : FT) (hi : ¬ (i < l.length ∧ i < 60)) (e0 : Ev.get [] fr = some (.v v)) (acc : List UInt8) (e2 : Ev.get [.a, .a] fr = some (.v (.int .i64 (i : Int)))) (e3 : Ev.get [.d] fr = some (.v (T acc))) :
    ∃ fr', evC call fuel c14_6 fr h = .exit 0 fr' h ∧ Ev.get [.d] fr' = some (.v (T acc)) := by
  have key : ∃ n : Nat, lenOf v = some n ∧ n = l.length := by
    rcases hv with ⟨rfl, e⟩ | ⟨rfl, e⟩ | ⟨q, b, rfl, _⟩
    · rw [List.map_eq_nil_iff] at e; subst e; exact ⟨0, rfl, rfl⟩
    · rw [List.map_eq_nil_iff] at e; subst e; exact ⟨0, rfl, rfl⟩
    · exact ⟨_, rfl, by simp⟩
  obtain ⟨n, hn, hnl⟩ := key
  by_cases h1 : i < l.length
  · have h6 : ¬ i < 60 := fun h => hi ⟨h1, h⟩
    have h6' : ¬ (i : Int) < 60 := by omega
    refine ⟨?fr, ?e, ?_⟩
    case e =>
      simp [c14_6, c14_10, c14_11, c14_12, c14_13, c14_7, c14_8, c14_9, -lenOf, gs, e0, e2, e3, hn, hnl, h1, h6, h6']
      rfl
    all_goals simp [gs, e3]
  · refine ⟨?fr2, ?e2, ?_⟩
    case e2 =>
      simp [c14_6, c14_10, c14_11, c14_12, c14_13, c14_7, c14_8, c14_9, -lenOf, gs, e0, e2, e3, hn, hnl, h1]
      rfl
    all_goals simp [gs, e3]
theorem tx_all (fuel : Nat) : ∀ (k i : Nat) (fr : FT) (j : Nat) (acc : List UInt8), min l.length 60 = i + k → acc.length ≤ 12 * i → Ev.get [] fr = some (.v v) → Ev.get [.c] fr = some (.v (.sl p 1 0 62)) → Ev.get [.a, .a] fr = some (.v (.int .i64 (i : Int))) → Ev.get [.d] fr = some (.v (T acc)) →
    ∃ fr', loopF call fuel c14_6 (k + 1 + j) fr h = .exit 0 fr' h ∧ Ev.get [.d] fr' = some (.v (T (acc ++ ((l.take 60).drop i).flatMap bitOf)))
  | 0, i, fr, j, acc, hk0, ha, e0, e1, e2, e3 => by
    obtain ⟨fr', h1, h2⟩ := tx_end (call := call) hv hp fuel i fr (by omega) e0 acc e2 e3
    refine ⟨fr', by rw [show 0 + 1 + j = j + 1 by omega, loopF_succ, h1], ?_⟩
    rw [h2, List.drop_of_length_le (by simp; omega)]
    simp
  | k + 1, i, fr, j, acc, hk0, ha, e0, e1, e2, e3 => by
    rw [show k + 1 + 1 + j = (k + 1 + j) + 1 by omega, loopF_succ]
    have hi : i < l.length := by omega
    obtain ⟨fr1, h1, a0, a1, a2, a3⟩ := tx_one (call := call) hv hp fuel i fr hi (by omega) acc ha e0 e1 e2 e3
    rw [h1]
    have := bitOf_len l[i]
    obtain ⟨fr', h2, h3⟩ := tx_all fuel k (i + 1) fr1 j (acc ++ bitOf l[i]) (by omega) (by simp only [List.length_append]; omega) a0 a1 a2 a3
    refine ⟨fr', h2, ?_⟩
    rw [h3, List.drop_eq_getElem_cons (l := l.take 60) (i := i) (by simp; omega), List.flatMap_cons, List.getElem_take, List.append_assoc]
end
theorem t14 {call : Calls'} {l : List UInt8} {h : H} {v : AV} (hv : InS h v (l.map b8)) (k22 : ∀ h, call 22 [] h = .ret (.sl h.next 1 0 62) (h.new bitsB)) :
    evFun LF14 call 61 14 [v] h = .ret (T (textOf l)) (h.new bitsB) := by
  have hv' : InS (h.new bitsB) v (l.map b8) := hv.kept (.new (.refl h) (Nat.le_refl _) _) (by rw [num_new]; omega)
  have hp : Ev.get h.next (h.new bitsB).t = some bitsB := get_new
  obtain ⟨fr', h2, h3⟩ := tx_all (call := call) hv' hp 61 (min l.length 60) 0 (.node (some (.v v)) .nil (.node (some (.v (T []))) .nil .nil .nil .nil) (.node (some (.v (.sl h.next 1 0 62))) .nil .nil .nil .nil) (.node (some (.v (T []))) .nil .nil .nil .nil) |> Ev.set [.a, .a] (some (.v (.int .i64 0))) |> Ev.set [.b, .a] (some (.v (.sl h.next 1 0 62)))) (60 - min l.length 60) [] (by omega) (by simp) rfl rfl rfl rfl
  rw [show min l.length 60 + 1 + (60 - min l.length 60) = 61 by omega] at h2
  simp at h2
  simp [evFun, FF14, c14, c14_1, c14_2, c14_3, c14_4, c14_5, c14_14, -y_Hnew, gs, k22, h2, h3, textOf]
end Go.Proofs.Lx
