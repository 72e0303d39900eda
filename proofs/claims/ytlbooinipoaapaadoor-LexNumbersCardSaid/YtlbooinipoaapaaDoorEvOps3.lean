/- Operations of slots alone, each of them. -/
import Derived.Test.YtlbooinipoaapaaDoorEvOps2
namespace Go.Ev
variable {P : Program} {A : Asg} {n : Nat} {ok : Path → Prop} {fr : FT} {act : Act} {w : World} {h : H}

theorem gvo_R (F : FrR A n ok fr act.tmps w) {x : Option Operand} (hx : ∀ y, x = some y → OkO ok y) {r : Option AV} (hg : gvo (rdo x) fr = some r) :
    (x = none ∧ r = none) ∨ ∃ y a, x = some y ∧ r = some a ∧ VR A.s a (act.eval y) := by
  cases x with
  | none => simp [rdo, gvo] at hg; exact .inl ⟨rfl, hg.symm⟩
  | some y =>
    simp only [rdo, gvo] at hg
    split at hg
    · rename_i a ha; cases hg; exact .inr ⟨y, a, rfl, rfl, gv_VR F (hx y rfl) ha⟩
    · cases hg
theorem extract_eq (s : ByteArray) (l r : Nat) : s.extract l r = ⟨((s.data.toList.drop l).take (r - l)).toArray⟩ := by
  have := ByteArray.extract_mk s.data.toList l r
  simpa using this
theorem byte_at {s : ByteArray} {j : Nat} {c : UInt8} (h : s.data.toList[j]? = some c) : s[j]? = some c := by
  have hj : j < s.data.toList.length := by rcases Nat.lt_or_ge j s.data.toList.length with h' | h'; exact h'; rw [List.getElem?_eq_none h'] at h; cases h
  have hj' : j < s.size := by rw [Array.length_toList] at hj; exact hj
  rw [getElem?_pos s j hj']
  rw [List.getElem?_eq_getElem hj] at h
  cases h
  rfl

/-- The bounds of a slice expression, as numbers. -/
theorem bound_lo {lo : Option Operand} {l : Option AV} (hl : (lo = none ∧ l = none) ∨ ∃ y a, lo = some y ∧ l = some a ∧ VR A.s a (act.eval y)) {m : Nat}
    (e : bnd 0 l = some m) : (lo = none ∧ m = 0) ∨ ∃ y k, lo = some y ∧ act.eval y = .int k (m : Int) := by
  rcases hl with ⟨rfl, rfl⟩ | ⟨y, a, rfl, rfl, hv⟩
  · cases e; exact .inl ⟨rfl, rfl⟩
  · obtain ⟨k, rfl⟩ := natOf_int e
    exact .inr ⟨y, k, rfl, hv⟩
theorem bound_hi {hi : Option Operand} {l : Option AV} (hl : (hi = none ∧ l = none) ∨ ∃ y a, hi = some y ∧ l = some a ∧ VR A.s a (act.eval y)) {d m : Nat}
    (e : bnd d l = some m) : (hi = none ∧ m = d) ∨ ∃ y k, hi = some y ∧ act.eval y = .int k (m : Int) := by
  rcases hl with ⟨rfl, rfl⟩ | ⟨y, a, rfl, rfl, hv⟩
  · cases e; exact .inl ⟨rfl, rfl⟩
  · obtain ⟨k, rfl⟩ := natOf_int e
    exact .inr ⟨y, k, rfl, hv⟩
theorem run_bounds (lo hi : Option Operand) (isS : Bool) (len cap l r : Nat) (hlr : l ≤ r) (hrc : r ≤ cap)
    (h1 : (lo = none ∧ l = 0) ∨ ∃ y k, lo = some y ∧ act.eval y = .int k (l : Int)) (h2 : (hi = none ∧ r = len) ∨ ∃ y k, hi = some y ∧ act.eval y = .int k (r : Int)) :
    (Instr.sliceBounds isS len cap (lo.map act.eval) (hi.map act.eval) none).run P w = .ok (l, r, cap) w := by
  rcases h1 with ⟨rfl, rfl⟩ | ⟨y, k, rfl, e1⟩ <;> rcases h2 with ⟨rfl, rfl⟩ | ⟨z, k', rfl, e2⟩
  · simp [Instr.sliceBounds]
  · simp only [Instr.sliceBounds, Option.map_none, Option.map_some, e2, Sem.run_bind, Sem.run_pure, Result.andThen_ok]
    rw [run_sliceBound w k' _ cap _ (by omega) (by omega)]
    simp
  · simp only [Instr.sliceBounds, Option.map_none, Option.map_some, e1, Sem.run_bind, Sem.run_pure, Result.andThen_ok]
    rw [run_sliceBound w k _ _ _ (by omega) (by omega)]
    simp
  · simp only [Instr.sliceBounds, Option.map_some, e1, e2, Sem.run_bind, Sem.run_pure, Result.andThen_ok]
    rw [run_sliceBound w k' _ cap _ (by omega) (by omega)]
    simp only [Result.andThen_ok]
    rw [run_sliceBound w k _ _ _ (by omega) (by omega)]
    simp
theorem sliceS_R {t : TypeId} {a r : AV} {lo hi : Option Operand} {l u : Option AV} (hr : sliceS a l u = some r) {x : Value} (hx : VR A.s a x)
    (hl : (lo = none ∧ l = none) ∨ ∃ y a, lo = some y ∧ l = some a ∧ VR A.s a (act.eval y)) (hu : (hi = none ∧ u = none) ∨ ∃ y a, hi = some y ∧ u = some a ∧ VR A.s a (act.eval y))
    (ht : P.underlying t = some .string) :
    ∃ v, (Instr.sliceAt t x (lo.map act.eval) (hi.map act.eval) none).run P w = .ok v w ∧ VR A.s r v := by
  unfold sliceS at hr
  split at hr
  · rename_i s
    simp only [VR] at hx; subst hx
    split at hr
    · rename_i i j hi' hj'
      split at hr
      · rename_i h1 h2
        have h1 := Nat.le_of_ble_eq_true h1
        have h2 := Nat.le_of_ble_eq_true h2
        cases hr
        have hb := run_bounds (P := P) (w := w) lo hi false s.size s.size i j h1 (by rw [Array.length_toList] at h2; exact h2) (bound_lo hl hi') (by
          have := bound_hi hu hj'
          rwa [Array.length_toList] at this)
        refine ⟨.string (s.extract i j), ?_, by rw [extract_eq]; rfl⟩
        rw [run_sliceAt_string w t _ _ _ _ ht]
        simp [Instr.slice, run_underlying ht, hb]
      · cases hr
    · cases hr
  · cases hr
theorem slice_R {t : TypeId} {z : Nat} {a r : AV} {lo hi : Option Operand} {l u : Option AV} (hr : sliceV z a l u = some r) {x : Value} (hx : VR A.s a x)
    (hl : (lo = none ∧ l = none) ∨ ∃ y a, lo = some y ∧ l = some a ∧ VR A.s a (act.eval y)) (hu : (hi = none ∧ u = none) ∨ ∃ y a, hi = some y ∧ u = some a ∧ VR A.s a (act.eval y))
    {e : TypeId} (ht : P.underlying t = some (.slice e)) (hz : sizeT P e = some z) :
    ∃ v, (Instr.sliceAt t x (lo.map act.eval) (hi.map act.eval) none).run P w = .ok v w ∧ VR A.s r v := by
  have hte : P.underlying t = some (.slice (P.elem t)) := by rw [P_elem ht]; exact ht
  have run : ∀ (b : Option Addr) (len cap i j : Nat), i ≤ j → j ≤ cap → ((lo = none ∧ i = 0) ∨ ∃ y k, lo = some y ∧ act.eval y = .int k (i : Int)) → ((hi = none ∧ j = len) ∨ ∃ y k, hi = some y ∧ act.eval y = .int k (j : Int)) →
      (Instr.sliceAt t (.slice b len cap) (lo.map act.eval) (hi.map act.eval) none).run P w = .ok (.slice (if cap = i then b else b.map (·.add (i * z))) (j - i) (cap - i)) w := by
    intro b len cap i j h1 h2 h3 h4
    rw [run_sliceAt_slice w t _ _ _ _ hte, run_slice_any w t b len cap hte, run_bounds lo hi true len cap i j h1 h2 h3 h4]
    simp only [Result.andThen_ok, P_elem ht, run_size hz, sliced]
  unfold sliceV at hr
  split at hr
  · rename_i b k i0 n
    obtain ⟨q, hq, hk, hc, rfl⟩ := hx
    split at hr
    · rename_i i j hi' hj'
      split at hr
      · rename_i h1 h2 h3
        have h1 := Nat.le_of_ble_eq_true h1
        have h2 := Nat.le_of_ble_eq_true h2
        have h3 := Nat.eq_of_beq_eq_true h3
        subst h3
        have hb := run (some ⟨q.blk, q.off + i0 * q.k, none⟩) n (q.cap - i0) i j h1 (by omega) (bound_lo hl hi') (bound_hi hu hj')
        refine ⟨_, hb, ?_⟩
        split at hr
        · cases hr
          refine ⟨q, hq, hk, by omega, ?_⟩
          have : (if q.cap - i0 = 0 then some (⟨q.blk, q.off + i0 * q.k, none⟩ : Addr) else (some (⟨q.blk, q.off + i0 * q.k, none⟩ : Addr)).map (·.add (0 * k))) = some ⟨q.blk, q.off + i0 * q.k, none⟩ := by
            split
            · rfl
            · simp [add_none]
          rw [this]
          rfl
        · rename_i hm
          split at hr
          · rename_i hn
            have hn := Nat.eq_of_beq_eq_true hn
            cases hr
            have e : j - i = 0 := by omega
            rw [e]
            by_cases h0 : q.cap - i0 = i
            · exact ⟨_, _, by rw [if_pos h0]⟩
            · exact ⟨_, _, by rw [if_neg h0]; rfl⟩
          · rename_i hn
            rw [natBeq] at hn
            have hn := of_decide_eq_false hn
            cases hr
            refine ⟨q, hq, hk, by omega, ?_⟩
            rw [if_neg (by omega)]
            simp only [Option.map_some, add_none]
            rw [show q.off + i0 * q.k + i * k = q.off + (i0 + i) * q.k by rw [hk, Nat.add_mul]; omega, show q.cap - i0 - i = q.cap - (i0 + i) by omega]
      · cases hr
    · cases hr
  · obtain ⟨a, c, rfl⟩ := hx
    split at hr
    · rename_i hi' hj'
      cases hr
      have hb := run (some a) 0 c 0 0 (Nat.le_refl _) (Nat.zero_le _) (bound_lo hl hi') (bound_hi hu hj')
      refine ⟨_, hb, ?_⟩
      by_cases h0 : c = 0
      · exact ⟨a, c - 0, by rw [if_pos h0]⟩
      · exact ⟨a.add (0 * z), c - 0, by rw [if_neg h0]; rfl⟩
    · cases hr
  · simp only [VR] at hx; subst hx
    split at hr
    · rename_i hi' hj'
      cases hr
      have hb := run none 0 0 0 0 (Nat.le_refl _) (Nat.le_refl _) (bound_lo hl hi') (bound_hi hu hj')
      exact ⟨_, hb, by simp [VR]⟩
    · cases hr
  · cases hr
end Go.Ev
