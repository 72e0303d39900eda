import Derived.Test.YtlbooinipoaapaaDoorLxName
import Derived.Test.YtlbooinipoaapaaDoorEvMb
set_option linter.unusedSimpArgs false
set_option linter.unusedVariables false
set_option linter.unusedSectionVars false
namespace Go.Proofs.Lx
open Go.Ev
noncomputable def c34_4 : EC := (.seq (.steps [(.op Option.none (.pure 6 (vBuild [(.int .i64 (.ofNat 0)), (.str ⟨#[]⟩), (.int .i64 (.ofNat 0)), (.int .i64 (.ofNat 0)), (.bool Bool.false)] [])) (Option.some [.d, .b])), (.op Option.none (.eff (hStore (.sl [.b]) (.sl [.d, .b]) 5)) Option.none), (.op Option.none (.pure 2 (vMove (.k (.int .i64 (.ofNat 0))))) (Option.some [.c]))]) .ret)
noncomputable def c34_3 : EC := (.cond (.sl [.c, .b]) c34_4 .skip)
noncomputable def c34_13 : EC := (.steps [(.op Option.none (.pure 1 (vMove (.sl [.a, .a]))) (Option.some [.b, .a, .a])), (.op Option.none (.pure 11 (vBin .no .mul (.sl [.b, .a, .a]) (.k (.int .i64 (.ofNat 10))))) (Option.some [.c, .a, .a])), (.op Option.none (.pure 1 (vMove (.sl [.c, .a]))) (Option.some [.d, .a, .a])), (.op Option.none (.pure 11 (vBin .no .sub (.sl [.d, .a, .a]) (.k (.int .u8 (.ofNat 48))))) (Option.some [.a, .b, .a])), (.op Option.none (.pure 13 (vConvInt .i64 (.sl [.a, .b, .a]))) (Option.some [.b, .b, .a])), (.op Option.none (.pure 11 (vBin .no .add (.sl [.c, .a, .a]) (.sl [.b, .b, .a]))) (Option.some [.c, .b, .a])), (.op Option.none (.pure 25 (vMinMax Bool.false (.sl [.c, .b, .a]) (.k (.int .i64 (.ofNat 2147483648))))) (Option.some [.d, .b, .a])), (.op Option.none (.pure 2 (vMove (.sl [.d, .b, .a]))) (Option.some [.a, .a]))])
noncomputable def c34_12 : EC := (.seq (.steps [(.op Option.none (.pure 20 (vIndexAddr 1 (.sl [.d, .c]) (.sl [.b, .d]))) (Option.some [.d, .d])), (.op Option.none (.look 8 (lLoad (.sl [.d, .d]) 1 Bool.false)) (Option.some [.a, .a, .a])), (.op Option.none (.pure 2 (vMove (.sl [.a, .a, .a]))) (Option.some [.c, .a]))]) c34_13)
noncomputable def c34_14 : EC := (.steps [(.op Option.none (.pure 11 (vBin .no .add (.sl [.b, .d]) (.k (.int .i64 (.ofNat 1))))) (Option.some [.a, .c, .a])), (.op Option.none (.pure 1 (vMove (.sl [.a, .c, .a]))) (Option.some [.b, .d]))])
noncomputable def c34_11 : EC := (.seq (.block 1 c34_12) c34_14)
noncomputable def c34_10 : EC := (.seq (.cond (.sl [.c, .d]) .skip (.exit 0)) c34_11)
noncomputable def c34_9 : EC := (.seq (.steps [(.op Option.none (.pure 11 (vBin .no .lss (.sl [.b, .d]) (.sl [.a, .d]))) (Option.some [.c, .d]))]) c34_10)
noncomputable def c34_8 : EC := (.loop c34_9)
noncomputable def c34_7 : EC := (.block 0 c34_8)
noncomputable def c34_17 : EC := (.seq (.steps [(.op Option.none (.pure 6 (vBuild [(.int .i64 (.ofNat 0)), (.str ⟨#[]⟩), (.int .i64 (.ofNat 0)), (.int .i64 (.ofNat 0)), (.bool Bool.false)] [(0, (1, (.k (.int .i64 (.ofNat 6)))))])) (Option.some [.a, .a, .c])), (.op Option.none (.pure 1 (vMove (.sl [.d]))) (Option.some [.b, .a, .c])), (.op Option.none (.eff (hStore (.sl [.b]) (.sl [.a, .a, .c]) 5)) Option.none), (.op Option.none (.pure 2 (vMove (.sl [.b, .a, .c]))) (Option.some [.c]))]) .ret)
noncomputable def c34_16 : EC := (.cond (.sl [.d, .d, .b]) c34_17 .skip)
noncomputable def c34_18 : EC := (.seq (.steps [(.op Option.none (.pure 1 (vMove (.sl []))) (Option.some [.c, .a, .c])), (.op Option.none (.pure 1 (vMove (.sl [.d]))) (Option.some [.d, .a, .c])), (.op Option.none (.pure 17 (vSliceS (.sl [.c, .a, .c]) Option.none (Option.some (.sl [.d, .a, .c])))) (Option.some [.a, .b, .c])), (.op Option.none (.pure 1 (vMove (.sl [.a, .a]))) (Option.some [.b, .b, .c])), (.op Option.none (.pure 6 (vBuild [(.int .i64 (.ofNat 0)), (.str ⟨#[]⟩), (.int .i64 (.ofNat 0)), (.int .i64 (.ofNat 0)), (.bool Bool.false)] [(0, (1, (.k (.int .i64 (.ofNat 1))))), (1, (1, (.sl [.a, .b, .c]))), (2, (1, (.sl [.b, .b, .c])))])) (Option.some [.c, .b, .c])), (.op Option.none (.pure 1 (vMove (.sl [.d]))) (Option.some [.d, .b, .c])), (.op Option.none (.eff (hStore (.sl [.b]) (.sl [.c, .b, .c]) 5)) Option.none), (.op Option.none (.pure 2 (vMove (.sl [.d, .b, .c]))) (Option.some [.c]))]) .ret)
noncomputable def c34_15 : EC := (.seq (.seq (.steps [(.op Option.none (.pure 1 (vMove (.sl [.a, .a]))) (Option.some [.b, .c, .a])), (.op Option.none (.pure 11 (vBin .no .gtr (.sl [.b, .c, .a]) (.k (.int .i64 (.ofNat 2147483647))))) (Option.some [.c, .c, .a])), (.op Option.none (.pure 1 (vMove (.sl [.c, .c, .a]))) (Option.some [.d, .c, .a])), (.op (Option.some ([.d, .c, .a], Bool.false)) (.pure 1 (vMove (.sl [.d]))) (Option.some [.a, .d, .a])), (.op (Option.some ([.d, .c, .a], Bool.false)) (.pure 11 (vBin .no .gtr (.sl [.a, .d, .a]) (.k (.int .i64 (.ofNat 1))))) (Option.some [.b, .d, .a])), (.op (Option.some ([.d, .c, .a], Bool.false)) (.pure 1 (vMove (.sl [.b, .d, .a]))) (Option.some [.c, .d, .a])), (.op (Option.some ([.c, .d, .a], Bool.true)) (.pure 1 (vMove (.sl []))) (Option.some [.d, .d, .a])), (.op (Option.some ([.c, .d, .a], Bool.true)) (.pure 21 (vIndex (.sl [.d, .d, .a]) (.k (.int .i64 (.ofNat 0))))) (Option.some [.a, .a, .b])), (.op (Option.some ([.c, .d, .a], Bool.true)) (.pure 11 (vBin .no .eql (.sl [.a, .a, .b]) (.k (.int .u8 (.ofNat 48))))) (Option.some [.b, .a, .b])), (.op (Option.some ([.d, .c, .a], Bool.false)) (.pure 3 (vPick (.sl [.c, .d, .a]) (.sl [.b, .a, .b]) (.k (.bool Bool.false)))) (Option.some [.c, .a, .b])), (.op Option.none (.pure 3 (vPick (.sl [.d, .c, .a]) (.k (.bool Bool.true)) (.sl [.c, .a, .b]))) (Option.some [.d, .a, .b])), (.op Option.none (.pure 1 (vMove (.sl [.d, .a, .b]))) (Option.some [.a, .b, .b])), (.op (Option.some ([.a, .b, .b], Bool.false)) (.pure 1 (vMove (.sl [.d]))) (Option.some [.b, .b, .b])), (.op (Option.some ([.a, .b, .b], Bool.false)) (.pure 1 (vMove (.sl []))) (Option.some [.c, .b, .b])), (.op (Option.some ([.a, .b, .b], Bool.false)) (.pure 23 (vLenS (.sl [.c, .b, .b]))) (Option.some [.d, .b, .b])), (.op (Option.some ([.a, .b, .b], Bool.false)) (.pure 11 (vBin .no .lss (.sl [.b, .b, .b]) (.sl [.d, .b, .b]))) (Option.some [.a, .c, .b])), (.op (Option.some ([.a, .b, .b], Bool.false)) (.pure 1 (vMove (.sl [.a, .c, .b]))) (Option.some [.b, .c, .b])), (.op (Option.some ([.b, .c, .b], Bool.true)) (.pure 1 (vMove (.sl []))) (Option.some [.c, .c, .b])), (.op (Option.some ([.b, .c, .b], Bool.true)) (.pure 1 (vMove (.sl [.d]))) (Option.some [.d, .c, .b])), (.op (Option.some ([.b, .c, .b], Bool.true)) (.pure 21 (vIndex (.sl [.c, .c, .b]) (.sl [.d, .c, .b]))) (Option.some [.a, .d, .b])), (.op (Option.some ([.b, .c, .b], Bool.true)) (.eff (hCall (.k (.fn 46 [] [])) [(.sl [.a, .d, .b])])) (Option.some [.b, .d, .b])), (.op (Option.some ([.a, .b, .b], Bool.false)) (.pure 3 (vPick (.sl [.b, .c, .b]) (.sl [.b, .d, .b]) (.k (.bool Bool.false)))) (Option.some [.c, .d, .b])), (.op Option.none (.pure 3 (vPick (.sl [.a, .b, .b]) (.k (.bool Bool.true)) (.sl [.c, .d, .b]))) (Option.some [.d, .d, .b]))]) c34_16) c34_18)
noncomputable def c34_6 : EC := (.seq (.seq (.steps [(.op Option.none (.pure 1 (vMove (.sl []))) (Option.some [.a, .c])), (.op Option.none (.pure 1 (vMove (.sl [.d]))) (Option.some [.b, .c])), (.op Option.none (.pure 17 (vSliceS (.sl [.a, .c]) Option.none (Option.some (.sl [.b, .c])))) (Option.some [.c, .c])), (.op Option.none (.new 13 (nBytes (.sl [.c, .c]))) (Option.some [.d, .c])), (.op Option.none (.pure 23 (vLen (.sl [.d, .c]))) (Option.some [.a, .d])), (.op Option.none (.pure 1 (vMove (.k (.int .i64 (.ofNat 0))))) (Option.some [.b, .d]))]) c34_7) c34_15)
noncomputable def c34_5 : EC := (.seq (.steps [(.op Option.none (.pure 2 (vMove (.k (.int .i64 (.ofNat 0))))) (Option.some [.a, .a]))]) c34_6)
noncomputable def c34_2 : EC := (.seq (.seq (.steps [(.op Option.none (.pure 1 (vMove (.sl [.d]))) (Option.some [.b, .b])), (.op Option.none (.pure 11 (vBin .no .eql (.sl [.b, .b]) (.k (.int .i64 (.ofNat 0))))) (Option.some [.c, .b]))]) c34_3) c34_5)
noncomputable def c34_1 : EC := (.seq (.steps [(.op Option.none (.pure 1 (vMove (.sl []))) (Option.some [.d, .a])), (.op Option.none (.eff (hCall (.k (.fn 43 [] [])) [(.sl [.d, .a]), (.k (.fn 45 [] []))])) (Option.some [.a, .b])), (.op Option.none (.pure 2 (vMove (.sl [.a, .b]))) (Option.some [.d]))]) c34_2)
noncomputable def c34 : EF := ⟨(.seq (.steps [(.op Option.none (.eff (bLoc [(.int .i64 (.ofNat 0)), (.str ⟨#[]⟩), (.int .i64 (.ofNat 0)), (.int .i64 (.ofNat 0)), (.bool Bool.false)] [.b])) (Option.some [.b])), (.op Option.none (.pure 2 (vMove (.k (.int .i64 (.ofNat 0))))) (Option.some [.c]))]) c34_1), [(.cell (.sl [.b]) 5 Bool.true), (.slot (.sl [.c]))], Bool.false⟩
theorem c34_ok : compF Tryd.prog 34 = some c34 := by kernel_rfl
noncomputable def LF34 : FuncId → Option EF := lookF [(34, c34)]
theorem FF34 : LF34 34 = some c34 := rfl

abbrev Z5 : List AV := [.int .i64 0, .str ⟨#[]⟩, .int .i64 0, .int .i64 0, .bool false]
def minB (a : Int) : Int := if 2147483648 < a then 2147483648 else a
theorem y_minB (x : Rd) (fr : FT) : vMinMax false x (.k (.int .i64 2147483648)) fr = match gv x fr with | some (.int j a) => (match keq j .i64 with | true => some (.v (.int .i64 (minB a))) | false => none) | _ => none := by
  unfold vMinMax minB
  cases gv x fr with
  | none => rfl
  | some a =>
    cases a with
    | int j n => by_cases h : (2147483648 : Int) < n <;> simp [h] <;> cases keq j .i64 <;> rfl
    | _ => rfl
def digV (n : Nat) (c : UInt8) : Nat := min (n * 10 + (c.toNat - 48)) 2147483648
def numV (ds : List UInt8) (n : Nat) : Nat := ds.foldl digV n
theorem digV_le (n : Nat) (c : UInt8) : digV n c ≤ 2147483648 := Nat.min_le_right _ _
section
variable {call : Calls'} {p : Path} {b : Blk} {l ds : List UInt8} {h : H} {g : Nat} (hb : Ev.get p h.t = some b) (hm : b.map = false) (hk : b.k = 1) (hL : ∀ (j : Nat) (hj : j < ds.length), Ev.get (pathOf j) b.rows = some [.int .u8 ((ds[j]).toNat : Int)]) (hl : ds.length ≤ 1000000) (hd : ∀ c ∈ ds, digB c = true)
include hb hm hk hL hl hd
theorem num_one (fuel i n : Nat) (fr : FT) (hi : i < ds.length) (hn : n ≤ 2147483648) (e0 : Ev.get [] fr = some (.v (T l))) (e1 : Ev.get [.d] fr = some (.v (.int .i64 (ds.length : Int)))) (e2 : Ev.get [.b] fr = some (.box g Z5)) (e3 : Ev.get [.d, .c] fr = some (.v (.sl p 1 0 ds.length))) (e4 : Ev.get [.a, .d] fr = some (.v (.int .i64 (ds.length : Int))))
    (f0 : Ev.get [.b, .d] fr = some (.v (.int .i64 (i : Int)))) (f1 : Ev.get [.a, .a] fr = some (.v (.int .i64 (n : Int)))) :
    ∃ fr', evC call fuel c34_9 fr h = .norm fr' h ∧ (Ev.get [] fr' = some (.v (T l)) ∧ Ev.get [.d] fr' = some (.v (.int .i64 (ds.length : Int))) ∧ Ev.get [.b] fr' = some (.box g Z5) ∧ Ev.get [.d, .c] fr' = some (.v (.sl p 1 0 ds.length)) ∧ Ev.get [.a, .d] fr' = some (.v (.int .i64 (ds.length : Int)))) ∧ Ev.get [.b, .d] fr' = some (.v (.int .i64 ((i + 1 : Nat) : Int))) ∧ Ev.get [.a, .a] fr' = some (.v (.int .i64 ((digV n ds[i] : Nat) : Int))) := by
  have w : wrapF .i64 ((i : Int) + 1) = (i : Int) + 1 := wrap64 (by omega) (by omega)
  have hr := hL i hi
  have hc := hd _ (List.getElem_mem hi)
  simp [digB, leI, geI] at hc
  have hc1 : 48 ≤ ds[i].toNat := by omega
  have hc2 : ds[i].toNat ≤ 57 := by omega
  have w1 : wrapF .u8 ((ds[i].toNat : Int) - 48) = (ds[i].toNat : Int) - 48 := wrap8 (by omega) (by omega)
  have w2 : wrapF .i64 ((ds[i].toNat : Int) - 48) = (ds[i].toNat : Int) - 48 := wrap64 (by omega) (by omega)
  have w3 : wrapF .i64 ((n : Int) * 10) = (n : Int) * 10 := wrap64 (by omega) (by omega)
  have w4 : wrapF .i64 ((n : Int) * 10 + ((ds[i].toNat : Int) - 48)) = (n : Int) * 10 + ((ds[i].toNat : Int) - 48) := wrap64 (by omega) (by omega)
  have w5 : minB ((n : Int) * 10 + ((ds[i].toNat : Int) - 48)) = ((digV n ds[i] : Nat) : Int) := by
    unfold minB digV
    split <;> omega
  refine ⟨?fr, ?e, ⟨?_, ?_, ?_, ?_, ?_⟩, ?_, ?_⟩
  case e =>
    simp [c34_9, c34_10, c34_11, c34_12, c34_13, c34_14, gs, e0, e1, e2, e3, e4, f0, f1, hi, hb, hm, hk, hr, w, w1, w2, w3, w4, w5, y_minB]
    rfl
  all_goals simp [gs, e0, e1, e2, e3, e4, f0, f1]
theorem num_end (fuel i n : Nat) (fr : FT) (hi : ¬ i < ds.length) (e0 : Ev.get [] fr = some (.v (T l))) (e1 : Ev.get [.d] fr = some (.v (.int .i64 (ds.length : Int)))) (e2 : Ev.get [.b] fr = some (.box g Z5)) (e3 : Ev.get [.d, .c] fr = some (.v (.sl p 1 0 ds.length))) (e4 : Ev.get [.a, .d] fr = some (.v (.int .i64 (ds.length : Int))))
    (f0 : Ev.get [.b, .d] fr = some (.v (.int .i64 (i : Int)))) (f1 : Ev.get [.a, .a] fr = some (.v (.int .i64 (n : Int)))) :
    ∃ fr', evC call fuel c34_9 fr h = .exit 0 fr' h ∧ (Ev.get [] fr' = some (.v (T l)) ∧ Ev.get [.d] fr' = some (.v (.int .i64 (ds.length : Int))) ∧ Ev.get [.b] fr' = some (.box g Z5) ∧ Ev.get [.d, .c] fr' = some (.v (.sl p 1 0 ds.length)) ∧ Ev.get [.a, .d] fr' = some (.v (.int .i64 (ds.length : Int)))) ∧ Ev.get [.a, .a] fr' = some (.v (.int .i64 (n : Int))) := by
  refine ⟨?fr, ?e, ⟨?_, ?_, ?_, ?_, ?_⟩, ?_⟩
  case e =>
    simp [c34_9, c34_10, c34_11, c34_12, c34_13, c34_14, gs, e0, e1, e2, e3, e4, f0, f1, hi]
    rfl
  all_goals simp [gs, e0, e1, e2, e3, e4, f0, f1]
theorem num_all (fuel : Nat) : ∀ (k i n : Nat) (fr : FT) (j : Nat), ds.length = i + k → n ≤ 2147483648 → (Ev.get [] fr = some (.v (T l)) ∧ Ev.get [.d] fr = some (.v (.int .i64 (ds.length : Int))) ∧ Ev.get [.b] fr = some (.box g Z5) ∧ Ev.get [.d, .c] fr = some (.v (.sl p 1 0 ds.length)) ∧ Ev.get [.a, .d] fr = some (.v (.int .i64 (ds.length : Int)))) → Ev.get [.b, .d] fr = some (.v (.int .i64 (i : Int))) → Ev.get [.a, .a] fr = some (.v (.int .i64 (n : Int))) →
    ∃ fr', loopF call fuel c34_9 (k + 1 + j) fr h = .exit 0 fr' h ∧ (Ev.get [] fr' = some (.v (T l)) ∧ Ev.get [.d] fr' = some (.v (.int .i64 (ds.length : Int))) ∧ Ev.get [.b] fr' = some (.box g Z5) ∧ Ev.get [.d, .c] fr' = some (.v (.sl p 1 0 ds.length)) ∧ Ev.get [.a, .d] fr' = some (.v (.int .i64 (ds.length : Int)))) ∧ Ev.get [.a, .a] fr' = some (.v (.int .i64 ((numV (ds.drop i) n : Nat) : Int)))
  | 0, i, n, fr, j, hk', hn, ⟨e0, e1, e2, e3, e4⟩, f0, f1 => by
    obtain ⟨fr', h1, h2, h3⟩ := num_end (call := call) (l := l) (g := g) hb hm hk hL hl hd fuel i n fr (by omega) e0 e1 e2 e3 e4 f0 f1
    refine ⟨fr', by rw [show 0 + 1 + j = j + 1 by omega, loopF_succ, h1], h2, ?_⟩
    rw [List.drop_eq_nil_of_le (by omega)]; exact h3
  | k + 1, i, n, fr, j, hk', hn, ⟨e0, e1, e2, e3, e4⟩, f0, f1 => by
    have hi : i < ds.length := by omega
    have hd' : ds.drop i = ds[i] :: ds.drop (i + 1) := List.drop_eq_getElem_cons hi
    obtain ⟨fr1, h1, h2, h3, h4⟩ := num_one (call := call) (l := l) (g := g) hb hm hk hL hl hd fuel i n fr hi hn e0 e1 e2 e3 e4 f0 f1
    obtain ⟨fr', h5, h6, h7⟩ := num_all fuel k (i + 1) (digV n ds[i]) fr1 j (by omega) (digV_le _ _) h2 h3 h4
    refine ⟨fr', by rw [show k + 1 + 1 + j = (k + 1 + j) + 1 by omega, loopF_succ, h1]; exact h5, h6, ?_⟩
    rw [hd']
    exact h7
end
/-- A number's token, and how many bytes it takes. -/
def numBad (l : List UInt8) (k v : Nat) : Bool := decide (2147483647 < v) || (decide (1 < k) && (match l with | c :: _ => eqI c 48 | [] => false)) || (match l[k]? with | some c => letB c | none => false)
def numP (l : List UInt8) : AV :=
  let k := (l.takeWhile digB).length
  if k = 0 then .tup [Tok 0 ⟨#[]⟩ 0 0 false, .int .i64 0]
  else if numBad l k (numV (l.take k) 0) then .tup [Tok 6 ⟨#[]⟩ 0 0 false, .int .i64 (k : Int)]
  else .tup [Tok 1 ⟨(l.take k).toArray⟩ ((numV (l.take k) 0 : Nat) : Int) 0 false, .int .i64 (k : Int)]

theorem takeWhile_all {P : UInt8 → Bool} : ∀ (l : List UInt8), ∀ c ∈ l.take (l.takeWhile P).length, P c = true
  | [], c, h => by simp at h
  | x :: r, c, h => by
    cases hx : P x
    · simp [List.takeWhile_cons, hx] at h
    · simp [List.takeWhile_cons, hx] at h
      rcases h with rfl | h
      · exact hx
      · exact takeWhile_all r c h
set_option maxHeartbeats 4000000 in
theorem t34 {call : Calls'} (k46 : ∀ c h, call 46 [.int .u8 (UInt8.toNat c : Int)] h = .ret (.bool (letB c)) h) (k43 : ∀ l h, List.length l ≤ 1000000 → call 43 [T l, .fn 45 [] []] h = .ret (.int .i64 ((l.takeWhile digB).length : Nat)) h) (l : List UInt8) (h : H) (hl : l.length ≤ 1000000) :
    Tells (evFun LF34 call (l.length + 1) 34 [T l] h) h (numP l) := by
  match l, hl with
  | [], _ =>
    have q43 := fun h => k43 [] h (by decide)
    have q43 : ∀ h, call 43 [T [], .fn 45 [] []] h = .ret (.int .i64 0) h := q43
    simp [Tells, evFun, FF34, c34, c34_1, c34_2, c34_3, c34_4, c34_5, c34_6, c34_7, c34_8, c34_15, c34_16, c34_17, c34_18, numP, q43]
  | c :: r, hl =>
    have q43 := fun h => k43 (c :: r) h hl
    have hle : ((c :: r).takeWhile digB).length ≤ (c :: r).length := (List.takeWhile_sublist _).length_le
    have hall := takeWhile_all (P := digB) (c :: r)
    unfold numP
    obtain ⟨k, hk⟩ : ∃ k, ((c :: r).takeWhile digB).length = k := ⟨_, rfl⟩
    simp only [hk] at q43 hle hall ⊢
    have hle' : k ≤ r.length + 1 := by simpa using hle
    by_cases k0 : k = 0
    · subst k0
      simp [Tells, evFun, FF34, c34, c34_1, c34_2, c34_3, c34_4, c34_5, c34_6, c34_7, c34_8, c34_15, c34_16, c34_17, c34_18, q43]
    · rw [if_neg k0]
      have k0' : ¬ (k : Int) = 0 := by omega
      have hds : ((c :: r).take k).length = k := by simp; omega
      have hb : Ev.get h.next (H.new ⟨h.next, h.t, h.gen + 1⟩ ⟨1, k, byteRows ((c :: r).take k) 0 .nil, true, true, false⟩).t = some ⟨1, k, byteRows ((c :: r).take k) 0 .nil, true, true, false⟩ := by
        unfold H.new; simp only; rw [get_set, if_pos rfl]
      have hrow : ∀ (j : Nat) (hj : j < ((c :: r).take k).length), Ev.get (pathOf j) (byteRows ((c :: r).take k) 0 .nil) = some [.int .u8 ((((c :: r).take k)[j]).toNat : Int)] := by
        intro j hj
        rw [get_byteRows, if_pos (by omega), Nat.sub_zero, List.getElem?_eq_getElem hj]
        rfl
      obtain ⟨fr', h1, ⟨h2, h3, h4, _, _⟩, h5⟩ := num_all (call := call) (l := c :: r) (g := h.gen) hb rfl rfl hrow (by omega) hall (r.length + 1 + 1) k 0 0 (.node (some (.v (T (c :: r)))) (.node none (.node (some (.v (.int .i64 0))) .nil .nil .nil .nil) (.node (some (.v (.int .i64 (k : Int)))) .nil .nil .nil .nil) (.node (some (.v (T (c :: r)))) .nil .nil .nil .nil) (.node (some (.v (.int .i64 (k : Int)))) .nil .nil .nil .nil)) (.node (some (.box h.gen Z5)) .nil (.node (some (.v (.int .i64 (k : Int)))) .nil .nil .nil .nil) (.node (some (.v (.int .i64 (k : Int)))) .nil .nil .nil .nil) (.node (some (.v (.int .i64 0))) .nil .nil .nil .nil)) (.node (some (.v (.int .i64 0))) .nil (.node (some (.v (.bool false))) .nil .nil .nil .nil) (.node (some (.v (T ((c :: r).take k)))) .nil .nil .nil .nil) .nil) (.node (some (.v (.int .i64 (k : Int)))) (.node (some (.v (T (c :: r)))) .nil .nil .nil .nil) .nil (.node (some (.v (.sl h.next 1 0 k))) .nil .nil .nil .nil) .nil)) (r.length + 1 - k) (by omega) (by omega) ⟨rfl, by rw [hds]; rfl, rfl, by rw [hds]; rfl, by rw [hds]; rfl⟩ rfl rfl
      rw [show k + 1 + (r.length + 1 - k) = r.length + 1 + 1 by omega] at h1
      rw [hds] at h3
      simp only [List.drop_zero] at h5
      generalize numV ((c :: r).take k) 0 = v at h5 ⊢
      have hmin : min k (r.length + 1) = k := by omega
      have k46c := k46 c
      unfold numBad
      simp [-y_Hnew, Tells, evFun, FF34, c34]
      (try (conv in (evC call _ c34_1 _ _) => unfold c34_1; simp [-y_Hnew, q43, k0, k0', h2, h3, h4, h5, gs, nBytes, hmin, hle', vSliceS, gvo, sliceS, bnd]); try dsimp only)
      (try (conv in (evC call _ c34_2 _ _) => unfold c34_2; simp [-y_Hnew, q43, k0, k0', h2, h3, h4, h5, gs, nBytes, hmin, hle', vSliceS, gvo, sliceS, bnd]); try dsimp only)
      (try (conv in (evC call _ c34_3 _ _) => unfold c34_3; simp [-y_Hnew, q43, k0, k0', h2, h3, h4, h5, gs, nBytes, hmin, hle', vSliceS, gvo, sliceS, bnd]); try dsimp only)
      (try (conv in (evC call _ c34_4 _ _) => unfold c34_4; simp [-y_Hnew, q43, k0, k0', h2, h3, h4, h5, gs, nBytes, hmin, hle', vSliceS, gvo, sliceS, bnd]); try dsimp only)
      (try (conv in (evC call _ c34_5 _ _) => unfold c34_5; simp [-y_Hnew, q43, k0, k0', h2, h3, h4, h5, gs, nBytes, hmin, hle', vSliceS, gvo, sliceS, bnd]); try dsimp only)
      (try (conv in (evC call _ c34_6 _ _) => unfold c34_6; simp [-y_Hnew, q43, k0, k0', h2, h3, h4, h5, gs, nBytes, hmin, hle', vSliceS, gvo, sliceS, bnd]); try dsimp only)
      (try (conv in (evC call _ c34_7 _ _) => unfold c34_7; simp [-y_Hnew, q43, k0, k0', h2, h3, h4, h5, gs, nBytes, hmin, hle', vSliceS, gvo, sliceS, bnd]); try dsimp only)
      (try (conv in (evC call _ c34_8 _ _) => unfold c34_8; simp [-y_Hnew, q43, k0, k0', h2, h3, h4, h5, gs, nBytes, hmin, hle', vSliceS, gvo, sliceS, bnd]); try dsimp only)
      rw [h1]
      try dsimp only
      (try (conv in (decide ((0 : Nat) = 0)) => simp)); try dsimp only
      have k46c := k46 c
      rcases Decidable.em (2147483647 < v) with hv | hv
      · have hv' : (2147483647 : Int) < (v : Int) := by omega
        have hnb : numBad (c :: r) k v = true := by simp [numBad, hv]
        (try (conv in (evC call _ c34_15 _ _) => unfold c34_15; simp [-y_Hnew, q43, k0, k0', h2, h3, h4, h5, gs, nBytes, hmin, hle', vSliceS, gvo, sliceS, bnd, hv, hv']); try dsimp only)
        (try (conv in (evC call _ c34_16 _ _) => unfold c34_16; simp [-y_Hnew, q43, k0, k0', h2, h3, h4, h5, gs, nBytes, hmin, hle', vSliceS, gvo, sliceS, bnd, hv, hv']); try dsimp only)
        (try (conv in (evC call _ c34_17 _ _) => unfold c34_17; simp [-y_Hnew, q43, k0, k0', h2, h3, h4, h5, gs, nBytes, hmin, hle', vSliceS, gvo, sliceS, bnd, hv, hv']); try dsimp only)
        (try (conv in (evC call _ c34_18 _ _) => unfold c34_18; simp [-y_Hnew, q43, k0, k0', h2, h3, h4, h5, gs, nBytes, hmin, hle', vSliceS, gvo, sliceS, bnd, hv, hv']); try dsimp only)
        simp [-y_Hnew, q43, k0, k0', h2, h3, h4, h5, gs, nBytes, hmin, hle', vSliceS, gvo, sliceS, bnd, hv, hv', hnb, Tells]
      have hv' : ¬ (2147483647 : Int) < (v : Int) := by omega
      rcases Decidable.em (1 < k) with h1k | h1k
      all_goals first | (have h1k' : (1 : Int) < (k : Int) := by omega) | (have h1k' : ¬ (1 : Int) < (k : Int) := by omega)
      all_goals rcases Decidable.em ((c.toNat : Int) = 48) with hc | hc
      all_goals rcases Decidable.em (k < r.length + 1) with hkl | hkl
      all_goals first | (have hkl' : (k : Int) < (r.length : Int) + 1 := by omega) | (have hkl' : ¬ (k : Int) < (r.length : Int) + 1 := by omega)
      all_goals first
        | (have hkk : k < (c :: r).length := by simpa using hkl
           cases hlet : letB ((c :: r)[k]'hkk)
           all_goals (
             have hnb := Eq.refl (numBad (c :: r) k v)
             conv at hnb => rhs; simp [numBad, hv, h1k, hc, eqI, hkk, hlet]
             (try (conv in (evC call _ c34_15 _ _) => unfold c34_15; simp [-y_Hnew, q43, k0, k0', h2, h3, h4, h5, gs, nBytes, hmin, hle', vSliceS, gvo, sliceS, bnd, hv, hv', h1k, h1k', hc, hkl, hkl', eqI, k46, hlet]); try dsimp only)
             (try (conv in (evC call _ c34_16 _ _) => unfold c34_16; simp [-y_Hnew, q43, k0, k0', h2, h3, h4, h5, gs, nBytes, hmin, hle', vSliceS, gvo, sliceS, bnd, hv, hv', h1k, h1k', hc, hkl, hkl', eqI, k46, hlet]); try dsimp only)
             (try (conv in (evC call _ c34_17 _ _) => unfold c34_17; simp [-y_Hnew, q43, k0, k0', h2, h3, h4, h5, gs, nBytes, hmin, hle', vSliceS, gvo, sliceS, bnd, hv, hv', h1k, h1k', hc, hkl, hkl', eqI, k46, hlet]); try dsimp only)
             (try (conv in (evC call _ c34_18 _ _) => unfold c34_18; simp [-y_Hnew, q43, k0, k0', h2, h3, h4, h5, gs, nBytes, hmin, hle', vSliceS, gvo, sliceS, bnd, hv, hv', h1k, h1k', hc, hkl, hkl', eqI, k46, hlet]); try dsimp only)
             simp [-y_Hnew, q43, k0, k0', h2, h3, h4, h5, gs, nBytes, hmin, hle', vSliceS, gvo, sliceS, bnd, hv, hv', h1k, h1k', hc, hkl, hkl', eqI, k46, hlet, hnb, Tells]))
        | (have hkk : (c :: r)[k]? = none := List.getElem?_eq_none (by simp; omega)
           have hnb := Eq.refl (numBad (c :: r) k v)
           conv at hnb => rhs; simp [numBad, hv, h1k, hc, eqI, hkk]
           (try (conv in (evC call _ c34_15 _ _) => unfold c34_15; simp [-y_Hnew, q43, k0, k0', h2, h3, h4, h5, gs, nBytes, hmin, hle', vSliceS, gvo, sliceS, bnd, hv, hv', h1k, h1k', hc, hkl, hkl', eqI, hkk]); try dsimp only)
           (try (conv in (evC call _ c34_16 _ _) => unfold c34_16; simp [-y_Hnew, q43, k0, k0', h2, h3, h4, h5, gs, nBytes, hmin, hle', vSliceS, gvo, sliceS, bnd, hv, hv', h1k, h1k', hc, hkl, hkl', eqI, hkk]); try dsimp only)
           (try (conv in (evC call _ c34_17 _ _) => unfold c34_17; simp [-y_Hnew, q43, k0, k0', h2, h3, h4, h5, gs, nBytes, hmin, hle', vSliceS, gvo, sliceS, bnd, hv, hv', h1k, h1k', hc, hkl, hkl', eqI, hkk]); try dsimp only)
           (try (conv in (evC call _ c34_18 _ _) => unfold c34_18; simp [-y_Hnew, q43, k0, k0', h2, h3, h4, h5, gs, nBytes, hmin, hle', vSliceS, gvo, sliceS, bnd, hv, hv', h1k, h1k', hc, hkl, hkl', eqI, hkk]); try dsimp only)
           simp [-y_Hnew, q43, k0, k0', h2, h3, h4, h5, gs, nBytes, hmin, hle', vSliceS, gvo, sliceS, bnd, hv, hv', h1k, h1k', hc, hkl, hkl', eqI, hkk, hnb, Tells])

end Go.Proofs.Lx
