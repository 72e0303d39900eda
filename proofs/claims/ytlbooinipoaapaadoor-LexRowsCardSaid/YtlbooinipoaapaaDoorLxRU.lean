import Derived.Test.YtlbooinipoaapaaDoorLxRT
import Derived.Test.YtlbooinipoaapaaDoorLxTop
set_option linter.unusedSimpArgs false
set_option linter.unusedVariables false
set_option linter.unusedSectionVars false
namespace Go.Proofs.Lx
open Go.Ev

abbrev Tk.found (t : Tk) (m : Nat) (b : Bool) : List AV := [.int .i64 t.k, .str t.s, .int .i64 t.n, .int .i64 (m : Int), .bool b, .int .i64 (t.z : Int)]
def Tk.sh (a : Nat) (t : Tk) : Tk := ⟨t.k, t.s, t.n, a + t.z⟩
/-- The reference's token where it begins; z: the place behind. -/
def refT (l : List UInt8) (a : Nat) : Tk := match l[a]? with
  | none => ⟨0, ⟨#[]⟩, 0, a⟩
  | some c => if digB c then (numT (l.drop a)).sh a else if eqI c 34 then rqT l a else if letB c then (nameT (l.drop a)).sh a else
    match firstS (l.drop a) signsL with | some x => ⟨5, ⟨x.toArray⟩, 0, a + x.length⟩ | none => ⟨6, ⟨#[]⟩, 0, a⟩
section
variable {call : Calls'} (k24 : ∀ c h, call 24 [.int .u8 (UInt8.toNat c : Int)] h = .ret (.bool (digB c)) h) (k27 : ∀ c h, call 27 [.int .u8 (UInt8.toNat c : Int)] h = .ret (.bool (letB c)) h) (k20 : ∀ s h, call 20 [.str s] h = .ret (.bool (isW s)) h)
  {l : List UInt8} {a m g g' : Nat} {b : Bool} (hl : l.length ≤ 1000000) (ha : a < l.length) {fuel : Nat} (hf : l.length + 30 ≤ fuel)
include k24 k27 k20 hl ha hf
theorem tk_name (h : H) (fr : FT) (hc : letB l[a] = true) (e : Ev.get [] fr = some (.v (T l)) ∧ Ev.get [.a] fr = some (.v (.int .i64 (a : Int))) ∧ Ev.get [.b, .a] fr = some (.box g [.int .i64 0, .str ⟨#[]⟩, .int .i64 0, .int .i64 (m : Int), .bool b]) ∧ Ev.get [.d] fr = some (.box g' Z6)) (e2 : Ev.get [.d, .a] fr = some (.v (.int .i64 (a : Int)))) :
    ∃ fr', evC call fuel c15_19 fr h = .ret fr' h ∧ Ev.get [.d] fr' = some (.box g' (((nameT (l.drop a)).sh a).found m b)) := by
  obtain ⟨fr1, h1, ⟨g1, g2, g3, g4⟩, g5⟩ := lt_all (call := call) k24 k27 hl fuel h (l.length - a) a fr (fuel - (l.length - a + 1)) (by omega) e e2
  rw [show l.length - a + 1 + (fuel - (l.length - a + 1)) = fuel by omega] at h1
  have hdr : l.drop a = l[a] :: l.drop (a + 1) := List.drop_eq_getElem_cons ha
  have hkl : ((l.drop a).takeWhile wordB).length ≤ l.length - a := Nat.le_trans (List.takeWhile_sublist _).length_le (by simp)
  have hn : nameT (l.drop a) = ⟨if isW ⟨((l.drop a).take ((l.drop a).takeWhile wordB).length).toArray⟩ then 4 else 3, ⟨((l.drop a).take ((l.drop a).takeWhile wordB).length).toArray⟩, 0, ((l.drop a).takeWhile wordB).length⟩ := by
    rw [hdr]
    unfold nameT
    simp only
    rw [if_pos hc]
  rw [hn]
  generalize ((l.drop a).takeWhile wordB).length = k at *
  obtain ⟨E, hE⟩ : ∃ E, E = a + k := ⟨_, rfl⟩
  have hE' : E ≤ l.length := by omega
  have hEa : a ≤ E := by omega
  have hk : k = E - a := by omega
  rw [← hE] at g5
  rw [hk]
  unfold Tk.sh Tk.found
  simp only
  rw [show a + (E - a) = E by omega]
  cases hw : isW ⟨((l.drop a).take (E - a)).toArray⟩
  · refine ⟨?fr, ?e, ?_⟩
    case e =>
      simp [c15_19, c15_20, h1, c15_25, c15_26, c15_27, c15_28, c15_29, c15_30, gs, g1, g2, g3, g4, g5, k20, hw, vSliceS, gvo, sliceS, bnd, hE', hEa]
      rfl
    simp [gs, g4]
  · refine ⟨?fr2, ?e2, ?_⟩
    case e2 =>
      simp [c15_19, c15_20, h1, c15_25, c15_26, c15_27, c15_28, c15_29, c15_30, gs, g1, g2, g3, g4, g5, k20, hw, vSliceS, gvo, sliceS, bnd, hE', hEa]
      rfl
    simp [gs, g4]
end
theorem tk_sign {call : Calls'} {l : List UInt8} {a m g g' : Nat} {b : Bool} (hl : l.length ≤ 1000000) (ha : a < l.length) {fuel : Nat} (hf : l.length + 30 ≤ fuel) (p : Path) (h : H) (hb : Ev.get p h.t = some sB) (fr : FT) (e : Ev.get [] fr = some (.v (T l)) ∧ Ev.get [.a] fr = some (.v (.int .i64 (a : Int))) ∧ Ev.get [.b, .a] fr = some (.box g [.int .i64 0, .str ⟨#[]⟩, .int .i64 0, .int .i64 (m : Int), .bool b]) ∧ Ev.get [.d] fr = some (.box g' Z6)) (e2 : Ev.get [.a, .b] fr = some (.v (.sl p 1 0 26))) :
    ∃ fr', evC call fuel c15_32 fr h = .ret fr' h ∧ Ev.get [.d] fr' = some (.box g' ((match firstS (l.drop a) signsL with | some x => (⟨5, ⟨x.toArray⟩, 0, a + x.length⟩ : Tk) | none => ⟨6, ⟨#[]⟩, 0, a⟩).found m b)) := by
  obtain ⟨_, q2, q3, q4⟩ := Classical.choose_spec t28
  have hL : signsL.length = 26 := by decide
  have hx : ∀ x ∈ signsL, x.length ≤ 1000 := by decide
  obtain ⟨e0, e1, e3, e4⟩ := e
  obtain ⟨F, hF⟩ : ∃ F, F = Ev.set [.b, .b] (some (.v (.int .i64 0))) fr := ⟨_, rfl⟩
  have s1 := sg_all (call := call) (m := m) (g := g) (g' := g') (b := b) (a := a) hb q2 q3 q4 (by rw [hL]; decide) hx (Nat.le_of_lt ha) hl fuel signsL.length 0 F (fuel - 27) (by omega) (by subst hF; simp [gs, e0, e1, e3, e4]) (by subst hF; rw [hL]; simp [gs, e2]) (by subst hF; simp [gs])
  rw [hL, show 26 + 1 + (fuel - 27) = fuel by omega] at s1
  rcases s1 with ⟨fr1, ⟨h1, ⟨g1, g2, g3, g4⟩, h3⟩ | ⟨x, h1, h3, h4⟩⟩
  · rw [List.drop_zero] at h3
    rw [h3]
    refine ⟨?fr, ?e, ?_⟩
    case e =>
      simp [c15_32, c15_33, c15_34]
      rw [← hF, h1]
      simp [c15_44, c15_45, gs, g1, g2, g3, g4]
      rfl
    simp [gs, g4, Tk.found]
  · rw [List.drop_zero] at h3
    rw [h3]
    refine ⟨fr1, ?_, h4⟩
    simp [c15_32, c15_33, c15_34]
    rw [← hF, h1]
section
variable {call : Calls'} (k24 : ∀ c h, call 24 [.int .u8 (UInt8.toNat c : Int)] h = .ret (.bool (digB c)) h) (k27 : ∀ c h, call 27 [.int .u8 (UInt8.toNat c : Int)] h = .ret (.bool (letB c)) h) (k20 : ∀ s h, call 20 [.str s] h = .ret (.bool (isW s)) h)
  (k25 : ∀ (l : List UInt8) (a m : Nat) (b : Bool) h (hl : l.length ≤ 1000000) (ha : a < l.length), digB l[a] = true → call 25 [T l, .int .i64 (a : Int), .agg [.int .i64 0, .str ⟨#[]⟩, .int .i64 0, .int .i64 (m : Int), .bool b]] h = .ret (.agg (((numT (l.drop a)).sh a).found m b)) h)
  (k26 : ∀ (l : List UInt8) (a m : Nat) (b : Bool) h (hl : l.length ≤ 1000000) (ha : a < l.length), call 26 [T l, .int .i64 (a : Int), .agg [.int .i64 0, .str ⟨#[]⟩, .int .i64 0, .int .i64 (m : Int), .bool b]] h = .ret (.agg ((rqT l a).found m b)) h)
  (k28 : ∀ h, call 28 [] h = .ret (.sl h.next 1 0 26) (h.new sB))
  {l : List UInt8} {a m g g' : Nat} {b : Bool} (hl : l.length ≤ 1000000) (ha : a ≤ l.length) {fuel : Nat} (hf : l.length + 30 ≤ fuel)
include k24 k27 k20 k25 k26 k28 hl ha hf
theorem tk_body (h : H) (fr : FT) (e : Ev.get [] fr = some (.v (T l)) ∧ Ev.get [.a] fr = some (.v (.int .i64 (a : Int))) ∧ Ev.get [.b, .a] fr = some (.box g [.int .i64 0, .str ⟨#[]⟩, .int .i64 0, .int .i64 (m : Int), .bool b]) ∧ Ev.get [.d] fr = some (.box g' Z6)) :
    ∃ fr' h', evC call fuel c15_4 fr h = .ret fr' h' ∧ (h' = h ∨ h' = h.new sB) ∧ Ev.get [.d] fr' = some (.box g' ((refT l a).found m b)) := by
  have e' := e
  obtain ⟨e0, e1, e3, e4⟩ := e'
  by_cases hn : a < l.length
  · have hn' : ¬ (l.length : Int) ≤ (a : Int) := by omega
    have hr : refT l a = if digB l[a] then (numT (l.drop a)).sh a else if eqI l[a] 34 then rqT l a else if letB l[a] then (nameT (l.drop a)).sh a else match firstS (l.drop a) signsL with | some x => ⟨5, ⟨x.toArray⟩, 0, a + x.length⟩ | none => ⟨6, ⟨#[]⟩, 0, a⟩ := by
      unfold refT; rw [List.getElem?_eq_getElem hn]
    rw [hr]
    cases hd : digB l[a]
    · rcases Decidable.em (((l[a]).toNat : Int) = 34) with hq | hq
      · have hq' : eqI l[a] 34 = true := by simp [eqI, hq]
        have k := k26 l a m b
        rw [hq']
        refine ⟨?fr, h, ?e, .inl rfl, ?_⟩
        case e =>
          have k24' := k24 l[a]
          rw [hd, hq] at k24'
          have k := fun h => k h hl hn
          simp [-y_Hnew, c15_4, c15_5, c15_8, c15_9, c15_10, c15_11, c15_13, c15_14, c15_15, gs, e0, e1, e3, e4, hn, hn', k24', k24, hd, hq, k]
          rfl
        simp [gs, e4]
      · have hq' : eqI l[a] 34 = false := by simp [eqI, hq]
        rw [hq']
        cases hc : letB l[a]
        · have ex : ∀ F : FT, ∃ fr' : FT, (Ev.get [] F = some (.v (T l)) ∧ Ev.get [.a] F = some (.v (.int .i64 (a : Int))) ∧ Ev.get [.b, .a] F = some (.box g [.int .i64 0, .str ⟨#[]⟩, .int .i64 0, .int .i64 (m : Int), .bool b]) ∧ Ev.get [.d] F = some (.box g' Z6)) → Ev.get [.a, .b] F = some (.v (.sl h.next 1 0 26)) → evC call fuel c15_32 F (h.new sB) = .ret fr' (h.new sB) ∧ Ev.get [.d] fr' = some (.box g' ((match firstS (l.drop a) signsL with | some x => (⟨5, ⟨x.toArray⟩, 0, a + x.length⟩ : Tk) | none => ⟨6, ⟨#[]⟩, 0, a⟩).found m b)) := by
            intro F
            rcases Classical.em ((Ev.get [] F = some (.v (T l)) ∧ Ev.get [.a] F = some (.v (.int .i64 (a : Int))) ∧ Ev.get [.b, .a] F = some (.box g [.int .i64 0, .str ⟨#[]⟩, .int .i64 0, .int .i64 (m : Int), .bool b]) ∧ Ev.get [.d] F = some (.box g' Z6)) ∧ Ev.get [.a, .b] F = some (.v (.sl h.next 1 0 26))) with ⟨q1, q2⟩ | q
            · have hb : Ev.get h.next (h.new sB).t = some sB := by
                unfold H.new; simp only; rw [get_set, if_pos rfl]
              obtain ⟨fr', k⟩ := tk_sign (call := call) hl hn hf h.next (h.new sB) hb F q1 q2
              exact ⟨fr', fun _ _ => k⟩
            · exact ⟨F, fun q1 q2 => absurd ⟨q1, q2⟩ q⟩
          obtain ⟨N, kN⟩ := Classical.axiomOfChoice ex
          have kS := fun F q1 q2 => (kN F q1 q2).1
          refine ⟨?fr2, h.new sB, ?e2, .inr rfl, ?_⟩
          case e2 =>
            simp [-y_Hnew, c15_4, c15_5, c15_8, c15_9, c15_10, c15_11, c15_13, c15_14, c15_16, c15_17, c15_31, gs, e0, e1, e3, e4, hn, hn', k24, k27, k28, hd, hq, hc]
            rw [kS _ (by simp [gs, e0, e1, e3, e4]) (by simp [gs])]
          exact (kN _ (by simp [gs, e0, e1, e3, e4]) (by simp [gs])).2
        · have ex : ∀ F : FT, ∃ fr' : FT, (Ev.get [] F = some (.v (T l)) ∧ Ev.get [.a] F = some (.v (.int .i64 (a : Int))) ∧ Ev.get [.b, .a] F = some (.box g [.int .i64 0, .str ⟨#[]⟩, .int .i64 0, .int .i64 (m : Int), .bool b]) ∧ Ev.get [.d] F = some (.box g' Z6)) → Ev.get [.d, .a] F = some (.v (.int .i64 (a : Int))) → evC call fuel c15_19 F h = .ret fr' h ∧ Ev.get [.d] fr' = some (.box g' (((nameT (l.drop a)).sh a).found m b)) := by
            intro F
            rcases Classical.em ((Ev.get [] F = some (.v (T l)) ∧ Ev.get [.a] F = some (.v (.int .i64 (a : Int))) ∧ Ev.get [.b, .a] F = some (.box g [.int .i64 0, .str ⟨#[]⟩, .int .i64 0, .int .i64 (m : Int), .bool b]) ∧ Ev.get [.d] F = some (.box g' Z6)) ∧ Ev.get [.d, .a] F = some (.v (.int .i64 (a : Int)))) with ⟨q1, q2⟩ | q
            · obtain ⟨fr', k⟩ := tk_name (call := call) k24 k27 k20 hl hn hf h F hc q1 q2
              exact ⟨fr', fun _ _ => k⟩
            · exact ⟨F, fun q1 q2 => absurd ⟨q1, q2⟩ q⟩
          obtain ⟨N, kN⟩ := Classical.axiomOfChoice ex
          have kS := fun F q1 q2 => (kN F q1 q2).1
          refine ⟨?fr3, h, ?e3, .inl rfl, ?_⟩
          case e3 =>
            simp [-y_Hnew, c15_4, c15_5, c15_8, c15_9, c15_10, c15_11, c15_13, c15_14, c15_16, c15_17, c15_18, gs, e0, e1, e3, e4, hn, hn', k24, k27, hd, hq, hc]
            rw [kS _ (by simp [gs, e0, e1, e3, e4]) (by simp [gs])]
          exact (kN _ (by simp [gs, e0, e1, e3, e4]) (by simp [gs])).2
    · have k := fun h => k25 l a m b h hl hn hd
      refine ⟨?fr4, h, ?e4, .inl rfl, ?_⟩
      case e4 =>
        simp [-y_Hnew, c15_4, c15_5, c15_8, c15_9, c15_10, c15_11, c15_12, gs, e0, e1, e3, e4, hn, hn', k24, hd, k]
        rfl
      simp [gs, e4]
  · have hn' : (l.length : Int) ≤ (a : Int) := by omega
    have hr : refT l a = ⟨0, ⟨#[]⟩, 0, a⟩ := by
      unfold refT; rw [List.getElem?_eq_none (by omega)]
    rw [hr]
    refine ⟨?fr5, h, ?e5, .inl rfl, ?_⟩
    case e5 =>
      simp [-y_Hnew, c15_4, c15_5, c15_6, c15_7, gs, e0, e1, e3, e4, hn, hn']
      rfl
    simp [gs, e4, Tk.found]
end
end Go.Proofs.Lx
