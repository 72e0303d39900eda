import Derived.Test.YtlbooinipoaapaaDoorLxBase
import Derived.Test.YtlbooinipoaapaaDoorEvMc
set_option linter.unusedSimpArgs false
set_option linter.unusedVariables false
namespace Go.Proofs.Lx
open Go.Ev
noncomputable def c43_5 : EC := (.cond (.sl [.d, .c]) .skip (.exit 0))
noncomputable def c43_7 : EC := (.steps [(.op Option.none (.pure 1 (vMove (.sl [.a, .a]))) (Option.some [.a, .d])), (.op Option.none (.pure 11 (vBin .no .add (.sl [.a, .d]) (.k (.int .i64 (.ofNat 1))))) (Option.some [.b, .d])), (.op Option.none (.pure 2 (vMove (.sl [.b, .d]))) (Option.some [.a, .a]))])
noncomputable def c43_6 : EC := (.block 1 c43_7)
noncomputable def c43_4 : EC := (.seq (.seq (.steps [(.op Option.none (.pure 1 (vMove (.sl [.a, .a]))) (Option.some [.b, .a])), (.op Option.none (.pure 1 (vMove (.sl []))) (Option.some [.c, .a])), (.op Option.none (.pure 23 (vLenS (.sl [.c, .a]))) (Option.some [.d, .a])), (.op Option.none (.pure 11 (vBin .no .lss (.sl [.b, .a]) (.sl [.d, .a]))) (Option.some [.a, .b])), (.op Option.none (.pure 1 (vMove (.sl [.a, .b]))) (Option.some [.b, .b])), (.op (Option.some ([.b, .b], Bool.true)) (.pure 1 (vMove (.sl [.a]))) (Option.some [.c, .b])), (.op (Option.some ([.b, .b], Bool.true)) (.pure 1 (vMove (.sl []))) (Option.some [.d, .b])), (.op (Option.some ([.b, .b], Bool.true)) (.pure 1 (vMove (.sl [.a, .a]))) (Option.some [.a, .c])), (.op (Option.some ([.b, .b], Bool.true)) (.pure 21 (vIndex (.sl [.d, .b]) (.sl [.a, .c]))) (Option.some [.b, .c])), (.op (Option.some ([.b, .b], Bool.true)) (.eff (hCall (.sl [.c, .b]) [(.sl [.b, .c])])) (Option.some [.c, .c])), (.op Option.none (.pure 3 (vPick (.sl [.b, .b]) (.sl [.c, .c]) (.k (.bool Bool.false)))) (Option.some [.d, .c]))]) c43_5) c43_6)
noncomputable def c43_3 : EC := (.loop c43_4)
noncomputable def c43_8 : EC := (.seq (.steps [(.op Option.none (.pure 1 (vMove (.sl [.a, .a]))) (Option.some [.c, .d])), (.op Option.none (.pure 2 (vMove (.sl [.c, .d]))) (Option.some [.d]))]) .ret)
noncomputable def c43_2 : EC := (.seq (.block 0 c43_3) c43_8)
noncomputable def c43_1 : EC := (.seq (.steps [(.op Option.none (.pure 2 (vMove (.k (.int .i64 (.ofNat 0))))) (Option.some [.a, .a]))]) c43_2)
noncomputable def c43 : EF := ⟨(.seq (.steps [(.op Option.none (.pure 2 (vMove (.k (.int .i64 (.ofNat 0))))) (Option.some [.d]))]) c43_1), [(.slot (.sl [.d]))], Bool.false⟩
theorem c43_ok : compF Tryd.prog 43 = some c43 := by kernel_rfl

theorem gs {α : Type} (p q : Path) (v : Option α) (t : Tr α) : Ev.get p (Ev.set q v t) = if p = q then v else Ev.get p t := by
  by_cases h : p = q
  · subst h; rw [if_pos rfl, get_set, if_pos rfl]
  · rw [if_neg h, get_set, if_neg h]
/-- A text, by its bytes. -/
abbrev T (l : List UInt8) : AV := .str ⟨l.toArray⟩
theorem while_one {call : Calls'} {g : FuncId} {P : UInt8 → Bool} (hc : ∀ c h, call g [.int .u8 (c.toNat : Int)] h = .ret (.bool (P c)) h) (l : List UInt8) (fuel n : Nat) (fr : FT) (h : H) (hn : n < l.length) (hl : l.length ≤ 1000000)
    (e0 : Ev.get [] fr = some (.v (T l))) (e1 : Ev.get [.a] fr = some (.v (.fn g [] []))) (e2 : Ev.get [.a, .a] fr = some (.v (.int .i64 (n : Int)))) (hp : P l[n] = true) :
    ∃ fr', evC call fuel c43_4 fr h = .norm fr' h ∧ Ev.get [] fr' = some (.v (T l)) ∧ Ev.get [.a] fr' = some (.v (.fn g [] [])) ∧ Ev.get [.a, .a] fr' = some (.v (.int .i64 ((n + 1 : Nat) : Int))) := by
  have w : wrapF .i64 ((n : Int) + 1) = (n : Int) + 1 := wrap64 (by omega) (by omega)
  refine ⟨?fr, ?e, ?_, ?_, ?_⟩
  case e =>
    simp [c43_4, c43_5, c43_6, c43_7, c43_8, gs, e0, e1, e2, hn, hc, hp, w]
    rfl
  all_goals simp [gs, e0, e1, e2]
theorem while_end {call : Calls'} {g : FuncId} {P : UInt8 → Bool} (hc : ∀ c h, call g [.int .u8 (c.toNat : Int)] h = .ret (.bool (P c)) h) (l : List UInt8) (fuel n : Nat) (fr : FT) (h : H) (hp : ∀ hn : n < l.length, P l[n] = false)
    (e0 : Ev.get [] fr = some (.v (T l))) (e1 : Ev.get [.a] fr = some (.v (.fn g [] []))) (e2 : Ev.get [.a, .a] fr = some (.v (.int .i64 (n : Int)))) :
    ∃ fr', evC call fuel c43_4 fr h = .exit 0 fr' h ∧ Ev.get [.a, .a] fr' = some (.v (.int .i64 (n : Int))) := by
  by_cases hn : n < l.length
  · have hp := hp hn
    refine ⟨?fr, ?e, ?_⟩
    case e =>
      simp [c43_4, c43_5, c43_6, c43_7, c43_8, gs, e0, e1, e2, hn, hc, hp]
      rfl
    all_goals simp [gs, e0, e1, e2]
  · refine ⟨?fr2, ?e2, ?_⟩
    case e2 =>
      simp [c43_4, c43_5, c43_6, c43_7, c43_8, gs, e0, e1, e2, hn, hc]
      rfl
    all_goals simp [gs, e0, e1, e2]
theorem while_all {call : Calls'} {g : FuncId} {P : UInt8 → Bool} (hc : ∀ c h, call g [.int .u8 (c.toNat : Int)] h = .ret (.bool (P c)) h) (l : List UInt8) (fuel : Nat) (h : H) (hl : l.length ≤ 1000000) : ∀ (k n : Nat) (fr : FT) (j : Nat), l.length = n + k →
    Ev.get [] fr = some (.v (T l)) → Ev.get [.a] fr = some (.v (.fn g [] [])) → Ev.get [.a, .a] fr = some (.v (.int .i64 (n : Int))) →
    ∃ fr', loopF call fuel c43_4 (k + 1 + j) fr h = .exit 0 fr' h ∧ Ev.get [.a, .a] fr' = some (.v (.int .i64 ((n + ((l.drop n).takeWhile P).length : Nat) : Int)))
  | 0, n, fr, j, hk, e0, e1, e2 => by
    obtain ⟨fr', h1, h2⟩ := while_end hc l fuel n fr h (fun hn => by omega) e0 e1 e2
    refine ⟨fr', ?_, ?_⟩
    · rw [show 0 + 1 + j = j + 1 by omega, loopF_succ, h1]
    · rw [List.drop_eq_nil_of_le (by omega)]; exact h2
  | k + 1, n, fr, j, hk, e0, e1, e2 => by
    have hn : n < l.length := by omega
    have hd : l.drop n = l[n] :: l.drop (n + 1) := List.drop_eq_getElem_cons hn
    cases hp : P l[n]
    · obtain ⟨fr', h1, h2⟩ := while_end hc l fuel n fr h (fun _ => hp) e0 e1 e2
      refine ⟨fr', ?_, ?_⟩
      · rw [show k + 1 + 1 + j = (k + 1 + j) + 1 by omega, loopF_succ, h1]
      · rw [hd, List.takeWhile_cons, hp]; exact h2
    · obtain ⟨fr1, h1, a0, a1, a2⟩ := while_one hc l fuel n fr h hn hl e0 e1 e2 hp
      obtain ⟨fr', h2, h3⟩ := while_all hc l fuel h hl k (n + 1) fr1 j (by omega) a0 a1 a2
      refine ⟨fr', ?_, ?_⟩
      · rw [show k + 1 + 1 + j = (k + 1 + j) + 1 by omega, loopF_succ, h1]; exact h2
      · rw [hd, List.takeWhile_cons, hp, h3]
        simp only [if_true, List.length_cons]
        congr 4
        omega
noncomputable def LF43 : FuncId → Option EF := lookF [(43, c43)]
theorem FF43 : LF43 43 = some c43 := rfl
theorem t43 {call : Calls'} {g : FuncId} {P : UInt8 → Bool} (hc : ∀ c h, call g [.int .u8 (c.toNat : Int)] h = .ret (.bool (P c)) h) (l : List UInt8) (h : H) (hl : l.length ≤ 1000000) :
    evFun LF43 call (l.length + 1) 43 [T l, .fn g [] []] h = .ret (.int .i64 ((l.takeWhile P).length : Nat)) h := by
  have key := fun fr e0 e1 e2 => while_all hc l (l.length + 1) h hl l.length 0 fr 0 (by omega) e0 e1 e2
  simp [evFun, FF43, c43, c43_1, c43_2, c43_3, c43_8]
  obtain ⟨fr', h1, h2⟩ := key (.node (some (.v (T l))) (.node (some (.v (.fn g [] []))) (.node (some (.v (.int .i64 0))) .nil .nil .nil .nil) .nil .nil .nil) .nil .nil (.node (some (.v (.int .i64 0))) .nil .nil .nil .nil)) rfl rfl rfl
  simp only [Nat.zero_add, List.drop_zero] at h2
  have h1 : loopF call (l.length + 1) c43_4 (l.length + 1) _ h = _ := h1
  simp [h1, h2, gs]
end Go.Proofs.Lx
