/- The evaluator, part 2: its operations. -/
import Derived.Test.YtanjjmgoangmdaaGreatDoorEvMa
import Derived.MapKept
noncomputable section
namespace Go.Ev
set_option linter.unusedSectionVars false
variable [Unk]
variable {P : Program} {A : Asg} {n : Nat} {ok : Path → Prop} {fr : FT} {act : Act} {w : World} {h : H}

theorem gvo_R (F : FrR A n ok fr act.tmps w) {x : Option Operand} (hx : ∀ y, x = some y → OkO ok y) {r : Option AV} (hg : gvo (rdo x) fr = some r) :
    (x = none ∧ r = none) ∨ ∃ y a, x = some y ∧ r = some a ∧ VR A.s a (act.eval y) := by
  cases x with
  | none => simp [rdo, gvo] at hg; exact .inl ⟨rfl, hg.symm⟩
  | some y =>
    simp only [rdo, gvo] at hg
    split at hg
    · rename_i a ha; cases hg; exact .inr ⟨y, a, rfl, rfl, gv_VR F (hx y rfl) ha⟩
    · cases hg
theorem extract_eq (s : ByteArray) (l r : Nat) : s.extract l r = ⟨((s.data.toList.drop l).take (r - l)).toArray⟩ := by
  have := ByteArray.extract_mk s.data.toList l r
  simpa using this
theorem byte_at {s : ByteArray} {j : Nat} {c : UInt8} (h : s.data.toList[j]? = some c) : s[j]? = some c := by
  have hj : j < s.data.toList.length := by rcases Nat.lt_or_ge j s.data.toList.length with h' | h'; exact h'; rw [List.getElem?_eq_none h'] at h; cases h
  have hj' : j < s.size := by rw [Array.length_toList] at hj; exact hj
  rw [getElem?_pos s j hj']
  rw [List.getElem?_eq_getElem hj] at h
  cases h
  rfl

theorem bound_lo {lo : Option Operand} {l : Option AV} (hl : (lo = none ∧ l = none) ∨ ∃ y a, lo = some y ∧ l = some a ∧ VR A.s a (act.eval y)) {m : Nat}
    (e : bnd 0 l = some m) : (lo = none ∧ m = 0) ∨ ∃ y k, lo = some y ∧ act.eval y = .int k (m : Int) := by
  rcases hl with ⟨rfl, rfl⟩ | ⟨y, a, rfl, rfl, hv⟩
  · cases e; exact .inl ⟨rfl, rfl⟩
  · obtain ⟨k, rfl⟩ := natOf_int e
    exact .inr ⟨y, k, rfl, hv⟩
theorem bound_hi {hi : Option Operand} {l : Option AV} (hl : (hi = none ∧ l = none) ∨ ∃ y a, hi = some y ∧ l = some a ∧ VR A.s a (act.eval y)) {d m : Nat}
    (e : bnd d l = some m) : (hi = none ∧ m = d) ∨ ∃ y k, hi = some y ∧ act.eval y = .int k (m : Int) := by
  rcases hl with ⟨rfl, rfl⟩ | ⟨y, a, rfl, rfl, hv⟩
  · cases e; exact .inl ⟨rfl, rfl⟩
  · obtain ⟨k, rfl⟩ := natOf_int e
    exact .inr ⟨y, k, rfl, hv⟩
theorem run_bounds (lo hi : Option Operand) (isS : Bool) (len cap l r : Nat) (hlr : l ≤ r) (hrc : r ≤ cap)
    (h1 : (lo = none ∧ l = 0) ∨ ∃ y k, lo = some y ∧ act.eval y = .int k (l : Int)) (h2 : (hi = none ∧ r = len) ∨ ∃ y k, hi = some y ∧ act.eval y = .int k (r : Int)) :
    (Instr.sliceBounds isS len cap (lo.map act.eval) (hi.map act.eval) none).run P w = .ok (l, r, cap) w := by
  rcases h1 with ⟨rfl, rfl⟩ | ⟨y, k, rfl, e1⟩ <;> rcases h2 with ⟨rfl, rfl⟩ | ⟨z, k', rfl, e2⟩
  · simp [Instr.sliceBounds]
  · simp only [Instr.sliceBounds, Option.map_none, Option.map_some, e2, Sem.run_bind, Sem.run_pure, Result.andThen_ok]
    rw [run_sliceBound w k' _ cap _ (by omega) (by omega)]
    simp
  · simp only [Instr.sliceBounds, Option.map_none, Option.map_some, e1, Sem.run_bind, Sem.run_pure, Result.andThen_ok]
    rw [run_sliceBound w k _ _ _ (by omega) (by omega)]
    simp
  · simp only [Instr.sliceBounds, Option.map_some, e1, e2, Sem.run_bind, Sem.run_pure, Result.andThen_ok]
    rw [run_sliceBound w k' _ cap _ (by omega) (by omega)]
    simp only [Result.andThen_ok]
    rw [run_sliceBound w k _ _ _ (by omega) (by omega)]
    simp
theorem sliceS_R {t : TypeId} {a r : AV} {lo hi : Option Operand} {l u : Option AV} (hr : sliceS a l u = some r) {x : Value} (hx : VR A.s a x)
    (hl : (lo = none ∧ l = none) ∨ ∃ y a, lo = some y ∧ l = some a ∧ VR A.s a (act.eval y)) (hu : (hi = none ∧ u = none) ∨ ∃ y a, hi = some y ∧ u = some a ∧ VR A.s a (act.eval y))
    (ht : P.underlying t = some .string) :
    ∃ v, (Instr.sliceAt t x (lo.map act.eval) (hi.map act.eval) none).run P w = .ok v w ∧ VR A.s r v := by
  unfold sliceS at hr
  split at hr
  · rename_i s
    simp only [VR] at hx; subst hx
    split at hr
    · rename_i i j hi' hj'
      split at hr
      · rename_i h1 h2
        have h1 := Nat.le_of_ble_eq_true h1
        have h2 := Nat.le_of_ble_eq_true h2
        cases hr
        have hb := run_bounds (P := P) (w := w) lo hi false s.size s.size i j h1 (by rw [Array.length_toList] at h2; exact h2) (bound_lo hl hi') (by
          have := bound_hi hu hj'
          rwa [Array.length_toList] at this)
        refine ⟨.string (s.extract i j), ?_, by rw [extract_eq]; rfl⟩
        rw [run_sliceAt_string w t _ _ _ _ ht]
        simp [Instr.slice, run_underlying ht, hb]
      · cases hr
    · cases hr
  · rename_i s
    obtain ⟨rfl, hok⟩ := hx
    split at hr
    · rename_i i j hi' hj'
      split at hr
      · rename_i h1 h2
        have h1 := Nat.le_of_ble_eq_true h1
        have h2 := Nat.le_of_ble_eq_true h2
        cases hr
        have hsz : (⟨(s.map SB.byte).toArray⟩ : ByteArray).size = s.length := by simp [ByteArray.size]
        have hb := run_bounds (P := P) (w := w) lo hi false s.length s.length i j h1 h2 (bound_lo hl hi') (bound_hi hu hj')
        refine ⟨.string ((⟨(s.map SB.byte).toArray⟩ : ByteArray).extract i j), ?_, ?_⟩
        · rw [run_sliceAt_string w t _ _ _ _ ht]
          simp [Instr.slice, run_underlying ht, hsz, hb]
        · rw [extract_eq]
          have := mkS_R (s := A.s) (l := (s.drop i).take (j - i)) (fun p hp => hok p (List.mem_of_mem_drop (List.mem_of_mem_take hp)))
          simpa [List.map_take, List.map_drop] using this
      · cases hr
    · cases hr
  · cases hr
theorem slice_R {t : TypeId} {z : Nat} {a r : AV} {lo hi : Option Operand} {l u : Option AV} (hr : sliceV z a l u = some r) {x : Value} (hx : VR A.s a x)
    (hl : (lo = none ∧ l = none) ∨ ∃ y a, lo = some y ∧ l = some a ∧ VR A.s a (act.eval y)) (hu : (hi = none ∧ u = none) ∨ ∃ y a, hi = some y ∧ u = some a ∧ VR A.s a (act.eval y))
    {e : TypeId} (ht : P.underlying t = some (.slice e)) (hz : sizeT P e = some z) :
    ∃ v, (Instr.sliceAt t x (lo.map act.eval) (hi.map act.eval) none).run P w = .ok v w ∧ VR A.s r v := by
  have hte : P.underlying t = some (.slice (P.elem t)) := by rw [P_elem ht]; exact ht
  have run : ∀ (b : Option Addr) (len cap i j : Nat), i ≤ j → j ≤ cap → ((lo = none ∧ i = 0) ∨ ∃ y k, lo = some y ∧ act.eval y = .int k (i : Int)) → ((hi = none ∧ j = len) ∨ ∃ y k, hi = some y ∧ act.eval y = .int k (j : Int)) →
      (Instr.sliceAt t (.slice b len cap) (lo.map act.eval) (hi.map act.eval) none).run P w = .ok (.slice (if cap = i then b else b.map (·.add (i * z))) (j - i) (cap - i)) w := by
    intro b len cap i j h1 h2 h3 h4
    rw [run_sliceAt_slice w t _ _ _ _ hte, run_slice_any w t b len cap hte, run_bounds lo hi true len cap i j h1 h2 h3 h4]
    simp only [Result.andThen_ok, P_elem ht, run_size hz, sliced]
  unfold sliceV at hr
  split at hr
  · rename_i b k i0 n
    obtain ⟨q, hq, hk, hc, rfl⟩ := hx
    split at hr
    · rename_i i j hi' hj'
      split at hr
      · rename_i h1 h2 h3
        have h1 := Nat.le_of_ble_eq_true h1
        have h2 := Nat.le_of_ble_eq_true h2
        have h3 := Nat.eq_of_beq_eq_true h3
        subst h3
        have hb := run (some ⟨q.blk, q.off + i0 * q.k, none⟩) n (q.cap - i0) i j h1 (by omega) (bound_lo hl hi') (bound_hi hu hj')
        refine ⟨_, hb, ?_⟩
        split at hr
        · cases hr
          refine ⟨q, hq, hk, by omega, ?_⟩
          have : (if q.cap - i0 = 0 then some (⟨q.blk, q.off + i0 * q.k, none⟩ : Addr) else (some (⟨q.blk, q.off + i0 * q.k, none⟩ : Addr)).map (·.add (0 * k))) = some ⟨q.blk, q.off + i0 * q.k, none⟩ := by
            split
            · rfl
            · simp [add_none]
          rw [this]
          rfl
        · rename_i hm
          split at hr
          · rename_i hn
            have hn := Nat.eq_of_beq_eq_true hn
            cases hr
            have e : j - i = 0 := by omega
            rw [e]
            by_cases h0 : q.cap - i0 = i
            · exact ⟨_, _, by rw [if_pos h0]⟩
            · exact ⟨_, _, by rw [if_neg h0]; rfl⟩
          · rename_i hn
            rw [natBeq] at hn
            have hn := of_decide_eq_false hn
            cases hr
            refine ⟨q, hq, hk, by omega, ?_⟩
            rw [if_neg (by omega)]
            simp only [Option.map_some, add_none]
            rw [show q.off + i0 * q.k + i * k = q.off + (i0 + i) * q.k by rw [hk, Nat.add_mul]; omega, show q.cap - i0 - i = q.cap - (i0 + i) by omega]
      · cases hr
    · cases hr
  · obtain ⟨a, c, rfl⟩ := hx
    split at hr
    · rename_i hi' hj'
      cases hr
      have hb := run (some a) 0 c 0 0 (Nat.le_refl _) (Nat.zero_le _) (bound_lo hl hi') (bound_hi hu hj')
      refine ⟨_, hb, ?_⟩
      by_cases h0 : c = 0
      · exact ⟨a, c - 0, by rw [if_pos h0]⟩
      · exact ⟨a.add (0 * z), c - 0, by rw [if_neg h0]; rfl⟩
    · cases hr
  · simp only [VR] at hx; subst hx
    split at hr
    · rename_i hi' hj'
      cases hr
      have hb := run none 0 0 0 0 (Nat.le_refl _) (Nat.le_refl _) (bound_lo hl hi') (bound_hi hu hj')
      exact ⟨_, hb, by simp [VR]⟩
    · cases hr
  · cases hr
end Go.Ev
namespace Go.Ev
set_option linter.unusedSectionVars false
variable [Unk]
variable {P : Program} {A : Asg} {n : Nat} {ok : Path → Prop} {fr : FT} {act : Act} {w : World} {h : H}

theorem ofCells_zero {t : TypeId} {z : List AV} (hz : zeroT P t = some z) : ∃ i v, P.info? t = some i ∧ i.zero = some v ∧ ∀ (s : Path → Option Ref), VRs s z v.cells.toList ∧ z.all sc = true := by
  unfold zeroT at hz
  split at hz
  · rename_i i hi
    split at hz
    · rename_i v hv
      exact ⟨i, v, hi, hv, fun s => ofCells_VR hz⟩
    · cases hz
  · cases hz
theorem partsL_spec {places : List (Nat × Nat)} : ∀ {ps : List (Nat × Operand)} {qs : List (Nat × Nat × Rd)}, partsL places ps = some qs →
    ps.length = qs.length ∧ ∀ (i : Nat) p q, ps[i]? = some p → qs[i]? = some q → places[p.1]? = some (q.1, q.2.1) ∧ q.2.2 = rd p.2
  | [], qs, h => by simp [partsL] at h; subst h; exact ⟨rfl, fun i p q hp => by simp at hp⟩
  | (i, x) :: ps, qs, h => by
    simp only [partsL] at h
    split at h
    · rename_i off m r ho hr
      cases h
      obtain ⟨h1, h2⟩ := partsL_spec hr
      refine ⟨by simp [h1], fun j p q hp hq => ?_⟩
      cases j with
      | zero => simp at hp hq; subst hp; subst hq; exact ⟨ho, rfl⟩
      | succ j => exact h2 j p q (by simpa using hp) (by simpa using hq)
    · cases h
theorem fieldT_eq {t : TypeId} {i off m : Nat} {g : Bool} (hf : fieldT P t i = some (off, m, g)) :
    ∃ fs f, P.underlying t = some (.struct fs) ∧ fs[i]? = some f ∧ f.offset = off ∧ sizeT P f.type = some m ∧ isAggT P f.type = some g := by
  unfold fieldT at hf
  split at hf
  · rename_i fs hu
    split at hf
    · rename_i f hfi
      split at hf
      · rename_i m' g' h1 h2
        cases hf
        exact ⟨fs, f, hu, hfi, rfl, h1, h2⟩
      · cases hf
    · cases hf
  · cases hf
theorem run_zero {t : TypeId} {i : TypeInfo} {v : Value} (hi : P.info? t = some i) (hv : i.zero = some v) : (zeroValue t).run P w = .ok v w := by
  simp [zeroValue, typeInfo, hi, hv]
theorem place_on {p : Place} {x : Value} (hp : PlR A x p) : ∃ a, x = .pointer (some a) ∧ a.spot = none ∧ ∀ k, PlR A (.pointer (some (a.add k))) (match p with | .loc d g o => .loc d g (o + k) | .mem b o => .mem b (o + k)) := by
  cases p with
  | loc d g o => obtain ⟨blk, h1, rfl⟩ := hp; exact ⟨_, rfl, rfl, fun k => ⟨blk, h1, by rw [add_none]⟩⟩
  | mem b o => obtain ⟨r, h1, rfl⟩ := hp; exact ⟨_, rfl, rfl, fun k => ⟨r, h1, by rw [add_none, Nat.add_assoc]⟩⟩

theorem zeroV_eq {s : Path → Option Ref} {t : TypeId} {z : AV} (h : zeroV P t = some z) : ∃ v, (∀ w, (zeroValue t).run P w = .ok v w) ∧ VR s z v := by
  unfold zeroV at h
  split at h
  · rename_i i hi
    split at h
    · rename_i v hv
      exact ⟨v, fun w => run_zero hi hv, ofValue_VR h⟩
    · cases h
  · cases h
theorem ivl_R {s : Path → Option Ref} {a : AV} {k : IntKind} {l u : Int} {e : SE} {x : Value} (h : ivl a = some (k, l, u, e)) (hx : VR s a x) : x = .int k e.val ∧ l ≤ e.val ∧ e.val ≤ u := by
  unfold ivl at h
  split at h
  · cases h; exact ⟨hx, Int.le_refl _, Int.le_refl _⟩
  · cases h; exact ⟨hx.1, hx.2.1, hx.2.2.1⟩
  · cases h
theorem mmSym_R {s : Path → Option Ref} {mx : Bool} {a b r : AV} {x y : Value} (h : mmSym mx a b = some r) (hx : VR s a x) (hy : VR s b y) : ∃ (k : IntKind) (m : Int × Int), x = .int k m.1 ∧ y = .int k m.2 ∧ VR s r (.int k (match mx with | true => if m.1 < m.2 then m.2 else m.1 | false => if m.2 < m.1 then m.2 else m.1)) := by
  unfold mmSym at h
  split at h
  · rename_i j l u e k l' u' e' h1 h2
    obtain ⟨x1, x2, x3⟩ := ivl_R h1 hx
    obtain ⟨y1, y2, y3⟩ := ivl_R h2 hy
    split at h
    · rename_i hk
      have hk := keq_eq hk
      subst hk
      refine ⟨j, (e.val, e'.val), x1, y1, ?_⟩
      split at h
      · rename_i hlt
        cases h
        cases mx with
        | true => have := symLt_spec hlt ⟨x2, x3⟩ ⟨y2, y3⟩; have hl : e.val < e'.val := by simpa using this.symm
                  simp only [if_pos hl]; rw [← y1]; exact hy
        | false => have := symLt_spec hlt ⟨y2, y3⟩ ⟨x2, x3⟩; have hl : e'.val < e.val := by simpa using this.symm
                   simp only [if_pos hl]; rw [← y1]; exact hy
      · rename_i hlt
        cases h
        cases mx with
        | true => have := symLt_spec hlt ⟨x2, x3⟩ ⟨y2, y3⟩; have hl : ¬ e.val < e'.val := by simpa using this.symm
                  simp only [if_neg hl]; rw [← x1]; exact hx
        | false => have := symLt_spec hlt ⟨y2, y3⟩ ⟨x2, x3⟩; have hl : ¬ e'.val < e.val := by simpa using this.symm
                   simp only [if_neg hl]; rw [← x1]; exact hx
      · cases h
    · cases h
  · cases h
theorem pure_sound {loc : List Tmp} {o : Oper} {why : Nat} {f : FT → Option Sl} (hc : comp P loc o = some (.pure why f)) (F : FrR A n ok fr act.tmps w) (hok : ∀ x ∈ o.op.operands, OkO ok x)
    {s : Sl} (hv : f fr = some s) : Does P A act w o s := by
  obtain ⟨dst, op, type, pos, after, guard⟩ := o
  unfold comp at hc
  cases op <;> simp only at hc
  all_goals try (cases hc; done)
  case move x =>
    cases hc
    obtain ⟨a, ha, rfl⟩ := retV_some hv
    exact .v rfl (gv_VR F (hok x (by simp [Op.operands])) ha)
  case assign x =>
    cases hc
    obtain ⟨a, ha, rfl⟩ := retV_some hv
    exact .v rfl (gv_VR F (hok x (by simp [Op.operands])) ha)
  case pick c x y =>
    cases hc
    unfold vPick at hv
    split at hv
    · rename_i hcv
      have h1 := gv_VR F (hok c (by simp [Op.operands])) hcv
      simp only [VR] at h1
      obtain ⟨a, ha, rfl⟩ := retV_some hv
      exact .v (by simp [execOp, h1, asBool]) (gv_VR F (hok x (by simp [Op.operands])) ha)
    · rename_i hcv
      have h1 := gv_VR F (hok c (by simp [Op.operands])) hcv
      simp only [VR] at h1
      obtain ⟨a, ha, rfl⟩ := retV_some hv
      exact .v (by simp [execOp, h1, asBool]) (gv_VR F (hok y (by simp [Op.operands])) ha)
    · cases hv
  case alloc t =>
    split at hc
    · split at hc
      · split at hc <;> cases hc
      · cases hc
    · cases hc
  case box t x =>
    split at hc
    · split at hc
      · split at hc <;> cases hc
      · cases hc
    · cases hc
  case build t ps =>
    split at hc
    · rename_i fs z hu hz
      split at hc
      · rename_i places hpl
        split at hc
        · rename_i qs hq
          cases hc
          unfold vBuild at hv
          split at hv
          · rename_i l hl
            cases hv
            obtain ⟨i, v, hi, hzv, hzr⟩ := ofCells_zero hz
            obtain ⟨h1, h2⟩ := hzr A.s
            have hop : ∀ x ∈ ps.toList.map (·.2), OkO ok x := fun x hx => hok x (by
              simp only [Op.operands]
              exact List.mem_toArray.2 hx)
            obtain ⟨cs', e1, e2, e3⟩ := fill_R F (fun i => places.toArray[i]?) ps.toList qs ⟨(partsL_spec hq).1, fun i p q hp hq' => by simpa using (partsL_spec hq).2 i p q hp hq'⟩ hop z l v.cells hl h1 h2
            have hb : P.built t (ps.toList.map fun x => (x.1, act.eval x.2)) = some cs' := by
              simp only [Program.built, hi, hu, hzv]
              unfold placesT at hpl
              rw [hpl]
              exact e1
            refine .v (v := .agg cs') ?_ ⟨cs', rfl, e2, e3⟩
            have hr := run_build (P := P) w t (ps.map fun (i, x) => (i, act.eval x)) cs' (by simpa using hb)
            simp only [execOp, Sem.run_bind, hr, Result.andThen_ok]
            rfl
          · cases hv
        · cases hc
      · cases hc
    · cases hc
  case buildSlice t m ps =>
    split at hc
    · split at hc
      · split at hc <;> cases hc
      · cases hc
    · cases hc
  case load t x =>
    split at hc
    · split at hc <;> cases hc
    · cases hc
  case store t x y =>
    split at hc
    · split at hc <;> cases hc
    · cases hc
  case nilCheck x =>
    cases hc
    unfold vNilCheck at hv
    split at hv
    · rename_i hp
      cases hv
      have := place_R F (hok x (by simp [Op.operands])) hp
      obtain ⟨blk, h1, h2⟩ := this
      exact ⟨_, by simp only [execOp, h2]; rfl, ⟨blk, h1, rfl⟩, fun _ _ => by simp⟩
    · rename_i hp
      cases hv
      have := place_R F (hok x (by simp [Op.operands])) hp
      obtain ⟨r, h1, h2⟩ := this
      exact .v (by simp only [execOp, h2]; rfl) ⟨r, h1, rfl⟩
    · split at hv
      · rename_i ha
        cases hv
        have h1 := gv_VR F (hok x (by simp [Op.operands])) ha
        have h1' := h1
        obtain ⟨xs, ys, h2, h3, h4⟩ := h1
        exact .v (by simp only [execOp, h2]; rfl) (h2 ▸ h1')
      · cases hv
  case binOp op t x y yt =>
    have hop : op ≠ .shl ∧ op ≠ .shr := by constructor <;> (rintro rfl; simp at hc)
    have hc' : f = vBin (eqOf P t x y) op (rd x) (rd y) := by
      split at hc <;> first | cases hc | skip
      rfl
    subst hc'
    unfold vBin at hv
    split at hv
    · rename_i a ha
      split at hv
      · rename_i b hb
        obtain ⟨r, hr, rfl⟩ := retV_some hv
        obtain ⟨v, h1, h2⟩ := bin_R (P := P) (w := w) (xo := x) (yo := y) hop hr (gv_VR F (hok x (by simp [Op.operands])) ha) (gv_VR F (hok y (by simp [Op.operands])) hb)
        refine .v (v := v) ?_ h2
        simp only [execOp]
        rw [Sem.run_bind, h1]
        rfl
      · cases hv
    · cases hv
  case unOp op t x =>
    cases hc
    unfold vUn at hv
    split at hv
    · rename_i a ha
      obtain ⟨r, hr, rfl⟩ := retV_some hv
      have h1 := gv_VR F (hok x (by simp [Op.operands])) ha
      unfold un at hr
      split at hr
      · cases hr; simp only [VR] at h1; exact .v (v := .bool _) (by simp [execOp, h1, Op.unary]) rfl
      · cases hr; simp only [VR] at h1
        exact .v (v := .int _ _) (by simp only [execOp, h1, Op.unary, Op.intArith]; rfl) (by simp only [VR, wrapF_eq])
      · rename_i k l u e
        obtain ⟨h1, y1, y2, y3⟩ := h1
        obtain ⟨h2, hw⟩ := symV_R (s := A.s) hr (n := 0 - e.val) (by rw [mkSub_val]; rfl) (by omega) (by omega) (mkSub_ok (a := .lit 0) trivial y3)
        exact .v (v := .int _ _) (by simp only [execOp, h1, Op.unary, Op.intArith]; rfl) (by rw [hw]; exact h2)
      · cases hr
    · cases hv
  case convert s0 t x =>
    split at hc
    · rename_i k0 k hs ht
      cases hc
      unfold vConvInt at hv
      split at hv
      · rename_i a ha
        obtain ⟨r, hr, rfl⟩ := retV_some hv
        have h1 := gv_VR F (hok x (by simp [Op.operands])) ha
        have run : ∀ kk m, act.eval x = .int kk m → (execOp act.eval ⟨dst, .convert s0 t x, type, pos, after, guard⟩).run P w = .ok (.value (.int k (k.wrap m))) w := fun kk m e => by
          simp [execOp, e, convert, run_underlying hs, run_underlying ht, Conv.intToInt]
        unfold conv at hr
        split at hr
        · cases hr; simp only [VR] at h1
          exact .v (run _ _ h1) (by simp only [VR, wrapF_eq])
        · split at hr
          · cases hr
            obtain ⟨n0, h2, h3, h4⟩ := h1
            refine .v (run _ _ h2) ⟨n0, ?_, h3, h4⟩
            have : IntKind.i64.wrap (Int.ofNat n0) = Int.ofNat n0 := by
              rw [IntKind.wrap_i64]
              simp only [Int.ofNat_eq_natCast]
              omega
            rw [this]
          · cases hr
        · obtain ⟨h1, y1, y2, y3⟩ := h1
          obtain ⟨h2, hw⟩ := symV_R (s := A.s) hr rfl y1 y2 y3
          exact .v (run _ _ h1) (by rw [hw]; exact h2)
        · cases hr
      · cases hv
    · rename_i hs ht
      cases hc
      unfold vConvStr at hv
      split at hv
      · rename_i a ha
        cases hv
        have h1 := gv_VR F (hok x (by simp [Op.operands])) ha
        simp only [VR] at h1
        exact .v (v := .string a) (by simp [execOp, h1, convert, run_underlying hs, run_underlying ht]) rfl
      · rename_i l ha
        cases hv
        obtain ⟨h1, h2⟩ := gv_VR F (hok x (by simp [Op.operands])) ha
        exact .v (v := .string ⟨(l.map SB.byte).toArray⟩) (by simp [execOp, h1, convert, run_underlying hs, run_underlying ht]) ⟨rfl, h2⟩
      · cases hv
    · split at hc <;> cases hc
    · split at hc <;> cases hc
    · cases hc
  case makeInterface t x =>
    split at hc
    · cases hc
    · rename_i d hni hu
      cases hc
      unfold vIface at hv
      split at hv
      · rename_i a ha
        cases hv
        have h1 := gv_VR F (hok x (by simp [Op.operands])) ha
        refine .v (v := .iface t (act.eval x)) ?_ ⟨_, rfl, h1⟩
        have hcn : P.concrete t = true := by
          unfold Program.concrete
          rw [hu]
          cases d <;> first | rfl | exact absurd rfl (hni _)
        simp [execOp, run_makeInterface w t (act.eval x) hcn]
      · cases hv
    · cases hc
  case makeFunc g a c =>
    cases g <;> simp only at hc
    all_goals try (cases hc; done)
    cases hc
    unfold vFunc at hv
    split at hv
    · rename_i a' ha
      split at hv
      · rename_i c' hc'
        cases hv
        have h1 := gvs_VR F (xs := a.toList) (fun x hx => hok x (by simp only [Op.operands, Array.mem_append]; exact .inl (by simpa using hx))) ha
        have h2 := gvs_VR F (xs := c.toList) (fun x hx => hok x (by simp only [Op.operands, Array.mem_append]; exact .inr (by simpa using hx))) hc'
        refine .v (v := .func (.func _) (a.map act.eval) (c.map act.eval)) (by simp [execOp, Instr.makeFunc]) ⟨_, _, rfl, ?_, ?_⟩
        · simpa using h1
        · simpa using h2
      · cases hv
    · cases hv
  case makeSlice t l c =>
    split at hc
    · split at hc <;> cases hc
    · cases hc
  case slice t x lo hi mx =>
    cases mx with
    | some _ => simp only at hc; cases hc
    | none =>
      simp only at hc
      have hlo : ∀ y, lo = some y → OkO ok y := fun y e => hok y (by subst e; cases hi <;> simp [Op.operands])
      have hhi : ∀ y, hi = some y → OkO ok y := fun y e => hok y (by subst e; cases lo <;> simp [Op.operands])
      split at hc
      · rename_i ht
        cases hc
        unfold vSliceS at hv
        split at hv
        · rename_i a ha
          split at hv
          · rename_i l hl
            split at hv
            · rename_i r hr
              obtain ⟨b, hb, rfl⟩ := retV_some hv
              obtain ⟨v, h1, h2⟩ := sliceS_R (P := P) (w := w) (t := t) hb (gv_VR F (hok x (by simp [Op.operands])) ha) (gvo_R F hlo hl) (gvo_R F hhi hr) ht
              refine .v (v := v) ?_ h2
              simp only [execOp, Option.map_none, Sem.run_bind, h1]
              rfl
            · cases hv
          · cases hv
        · cases hv
      · rename_i e ht
        split at hc
        · rename_i z hz
          split at hc
          · cases hc
            unfold vSlice at hv
            split at hv
            · rename_i a ha
              split at hv
              · rename_i l hl
                split at hv
                · rename_i r hr
                  obtain ⟨b, hb, rfl⟩ := retV_some hv
                  obtain ⟨v, h1, h2⟩ := slice_R (P := P) (w := w) (t := t) hb (gv_VR F (hok x (by simp [Op.operands])) ha) (gvo_R F hlo hl) (gvo_R F hhi hr) ht hz
                  refine .v (v := v) ?_ h2
                  simp only [execOp, Option.map_none, Sem.run_bind, h1]
                  rfl
                · cases hv
              · cases hv
            · cases hv
          · cases hc
        · cases hc
      · cases hc
  case fieldAddr t x i =>
    split at hc
    · rename_i off m g hf
      split at hc
      · rename_i hpos
        rw [natBlt] at hpos
        have hpos := of_decide_eq_true hpos
        cases hc
        obtain ⟨fs, fld, hu, hfi, hoff, hsz, _⟩ := fieldT_eq hf
        subst hoff
        have run : ∀ a : Addr, act.eval x = .pointer (some a) → (execOp act.eval ⟨dst, .fieldAddr t x i, type, pos, after, guard⟩).run P w = .ok (.value (.pointer (some (a.add fld.offset)))) w := fun a e => by
          simp [execOp, e, Instr.fieldAt, run_underlying hu, hfi, Instr.sureAddr, fieldPlace, run_size hsz, show m ≠ 0 by omega]
        unfold vFieldAddr at hv
        split at hv
        · rename_i hp
          cases hv
          obtain ⟨a, e, _, h2⟩ := place_on (place_R F (hok x (by simp [Op.operands])) hp)
          exact ⟨_, run a e, h2 fld.offset, fun _ _ => by simp⟩
        · rename_i hp
          cases hv
          obtain ⟨a, e, _, h2⟩ := place_on (place_R F (hok x (by simp [Op.operands])) hp)
          exact .v (run a e) (h2 fld.offset)
        · cases hv
      · cases hc
    · cases hc
  case field t x i =>
    split at hc
    · rename_i off m g hf
      have hc' : f = vField (rd x) off m g := by
        split at hc <;> first | cases hc | skip
        rfl
      have hg1 : g = true ∨ m = 1 := by
        cases g
        · right
          cases hb : Nat.beq m 1 with
          | true => exact Nat.eq_of_beq_eq_true hb
          | false => simp [hb] at hc
        · exact .inl rfl
      subst hc'
      obtain ⟨fs, fld, hu, hfi, hoff, hsz, hag⟩ := fieldT_eq hf
      subst hoff
      unfold vField at hv
      split at hv
      · rename_i l ha
        split at hv
        · rename_i r hr
          obtain ⟨b, hb, rfl⟩ := retV_some hv
          have h1 := gv_VR F (hok x (by simp [Op.operands])) ha
          obtain ⟨xs, h2, h3, h4⟩ := h1
          obtain ⟨h5, rfl⟩ := cut_eq hr
          have h6 : VRs A.s ((l.drop fld.offset).take m) ((xs.toList.drop fld.offset).take m) := (h3.drop _).take m
          have hxl := h3.length
          rcases val_R hb h6 (all_take (all_drop h4 _) m) with ⟨rfl, rfl, hvr⟩ | ⟨rfl, v, e1, e2, hvr⟩
          · refine .v (v := .agg ((xs.toList.drop fld.offset).take m).toArray) ?_ hvr
            simp only [execOp, Instr.field, h2, asAgg, Sem.run_bind, run_underlying hu, Result.andThen_ok, hfi, Sem.run_pure, part, run_isAgg hag, run_size hsz, if_true]
            congr 2
            congr 1
            apply Array.toList_inj.1
            simp [Array.toList_extract, List.extract_eq_take_drop]
          · refine .v (v := v) ?_ hvr
            have hx0 : xs[fld.offset]? = some v := by
              have h7 : ((xs.toList.drop fld.offset).take m)[0]? = some v := by rw [e2]; rfl
              rw [List.getElem?_take] at h7
              split at h7
              · rw [List.getElem?_drop] at h7; simpa using h7
              · cases h7
            simp only [execOp, Instr.field, h2, asAgg, Sem.run_bind, run_underlying hu, Result.andThen_ok, hfi, Sem.run_pure, part, run_isAgg hag, Bool.false_eq_true, if_false, hx0]
        · cases hv
      · cases hv
    · cases hc
  case indexAddr t x ix =>
    split at hc
    · rename_i e he
      split at hc
      · rename_i k hk
        cases hc
        have ht := elemT_eq he
        have hte : P.underlying t = some (.slice (P.elem t)) := by rw [P_elem ht]; exact ht
        unfold vIndexAddr at hv
        split at hv
        · rename_i b z i m ha
          split at hv
          · rename_i c hcx
            split at hv
            · rename_i j hj
              split at hv
              · rename_i hlt hz
                rw [natBlt] at hlt
                have hlt := of_decide_eq_true hlt
                have hz := Nat.eq_of_beq_eq_true hz
                subst hz
                cases hv
                obtain ⟨q, hq, hqk, hqc, h2⟩ := gv_VR F (hok x (by simp [Op.operands])) ha
                obtain ⟨kk, rfl⟩ := natOf_int hj
                have h3 := gv_VR F (hok ix (by simp [Op.operands])) hcx
                simp only [VR] at h3
                refine .v (v := .pointer (some ⟨q.blk, q.off + (i + j) * z, none⟩)) ?_ ⟨q, hq, rfl⟩
                have hr := run_indexAt_slice (P := P) w t ⟨q.blk, q.off + i * q.k, none⟩ m (q.cap - i) kk (Int.ofNat j) hte
                simp only [execOp, h2, h3, Sem.run_bind, hr]
                rw [if_pos ⟨by simp, by simpa using hlt⟩, P_elem ht, run_size hk]
                have e0 : q.off + i * q.k + (Int.ofNat j).toNat * z = q.off + (i + j) * z := by
                  subst hqk
                  simp only [Int.ofNat_eq_natCast, Int.toNat_natCast, Nat.add_mul]
                  omega
                simp only [Result.andThen_ok, add_none, e0]
                rfl
              · cases hv
            · cases hv
          · cases hv
        · cases hv
      · cases hc
    · split at hc
      · rename_i m e he
        split at hc
        · rename_i k hk
          cases hc
          have hta : P.underlying t = some (.array m e) := by
            unfold arrT at he
            split at he
            · rename_i hu; cases he; exact hu
            · cases he
          have hlen : P.arrayLen t = m := by simp [Program.arrayLen, hta]
          have hel : P.elem t = e := by simp [Program.elem, hta]
          have hte : P.underlying t = some (.array (P.arrayLen t) (P.elem t)) := by rw [hlen, hel]; exact hta
          unfold vIndexArr at hv
          split at hv
          · rename_i b o ha
            split at hv
            · rename_i c hcx
              split at hv
              · rename_i j hj
                split at hv
                · rename_i hlt
                  rw [natBlt] at hlt
                  have hlt := of_decide_eq_true hlt
                  cases hv
                  obtain ⟨q, hq, h2⟩ := gv_VR F (hok x (by simp [Op.operands])) ha
                  obtain ⟨kk, rfl⟩ := natOf_int hj
                  have h3 := gv_VR F (hok ix (by simp [Op.operands])) hcx
                  simp only [VR] at h3
                  refine .v (v := .pointer (some ⟨q.blk, q.off + (o + j * k), none⟩)) ?_ ⟨q, hq, rfl⟩
                  have hr := run_indexAt_array (P := P) w t ⟨q.blk, q.off + o, none⟩ kk (Int.ofNat j) hte
                  simp only [execOp, h2, h3, Sem.run_bind, hr]
                  rw [if_pos ⟨by simp, by rw [hlen]; simpa using hlt⟩, hel, run_size hk]
                  have e0 : q.off + o + (Int.ofNat j).toNat * k = q.off + (o + j * k) := by
                    simp only [Int.ofNat_eq_natCast, Int.toNat_natCast]
                    omega
                  simp only [Result.andThen_ok, add_none, e0]
                  rfl
                · cases hv
              · cases hv
            · cases hv
          · cases hv
        · cases hc
      · cases hc
  case index t x ix =>
    split at hc
    · rename_i ht
      cases hc
      unfold vIndex at hv
      split at hv
      · rename_i s0 ha
        split at hv
        · rename_i c hcx
          split at hv
          · rename_i j hj
            split at hv
            · rename_i u hu
              cases hv
              have h1 := gv_VR F (hok x (by simp [Op.operands])) ha
              obtain ⟨kk, rfl⟩ := natOf_int hj
              have h3 := gv_VR F (hok ix (by simp [Op.operands])) hcx
              simp only [VR] at h1 h3
              refine .v (v := .int .u8 u.toNat) ?_ rfl
              have hb := byte_at hu
              simp only [execOp, h1, h3, Instr.index, asIntOf, Sem.run_bind, Sem.run_pure, Result.andThen_ok, run_underlying ht]
              rw [if_pos (by simp)]
              simp only [Int.ofNat_eq_natCast, Int.toNat_natCast, hb]
              rfl
            · cases hv
          · cases hv
        · cases hv
      · rename_i l ha
        split at hv
        · rename_i c hcx
          split at hv
          · rename_i j hj
            split at hv
            · rename_i u hu
              cases hv
              obtain ⟨h1, hok1⟩ := gv_VR F (hok x (by simp [Op.operands])) ha
              obtain ⟨kk, rfl⟩ := natOf_int hj
              have h3 := gv_VR F (hok ix (by simp [Op.operands])) hcx
              simp only [VR] at h3
              refine .v (v := .int .u8 u.byte.toNat) ?_ (byte_AV (hok1 u (List.mem_of_getElem? hu)))
              have hb := byte_at (s := ⟨(l.map SB.byte).toArray⟩) (j := j) (c := u.byte) (by simp [hu])
              simp only [execOp, h1, h3, Instr.index, asIntOf, Sem.run_bind, Sem.run_pure, Result.andThen_ok, run_underlying ht]
              rw [if_pos (by simp)]
              simp only [Int.ofNat_eq_natCast, Int.toNat_natCast, hb]
              rfl
            · cases hv
          · cases hv
        · cases hv
      · cases hv
    · cases hc
  case typeAssert x xt t ok =>
    cases ok <;> simp only at hc
    · cases hc
    · split at hc
      · cases hc
      · rename_i d hni hu
        split at hc
        · rename_i z hz
          cases hc
          obtain ⟨zv, hzr, hz'⟩ := zeroV_eq (s := A.s) hz
          unfold vAssert at hv
          have hund := run_underlying (w := w) hu
          split at hv
          · rename_i u a ha
            obtain ⟨y, h1, h2⟩ := gv_VR F (hok x (by simp [Op.operands])) ha
            split at hv
            · rename_i he
              cases hv
              have he := Nat.eq_of_beq_eq_true he
              subst he
              refine .v (v := .tuple #[y, .bool true]) ?_ ⟨_, rfl, .cons h2 (.cons (by simp [VR]) .nil)⟩
              cases d <;> first | exact (hni _ rfl).elim | simp [execOp, h1, Instr.typeAssert, hund, Result.andThen]
            · rename_i he
              cases hv
              have he : u ≠ t := fun e => by subst e; simp at he
              refine .v (v := .tuple #[zv, .bool false]) ?_ ⟨_, rfl, .cons hz' (.cons (by simp [VR]) .nil)⟩
              cases d <;> first | exact (hni _ rfl).elim | simp [execOp, h1, Instr.typeAssert, hund, Result.andThen, he, hzr]
          · rename_i ha
            cases hv
            have h1 := gv_VR F (hok x (by simp [Op.operands])) ha
            simp only [VR] at h1
            refine .v (v := .tuple #[zv, .bool false]) ?_ ⟨_, rfl, .cons hz' (.cons (by simp [VR]) .nil)⟩
            cases d <;> first | exact (hni _ rfl).elim | simp [execOp, h1, Instr.typeAssert, hund, Result.andThen, hzr]
          · cases hv
        · cases hc
      · cases hc
  case lookup t x k comma =>
    split at hc
    · split at hc <;> cases hc
    · cases hc
  case makeMap t r => cases r <;> simp only at hc <;> cases hc
  case insert t m k v =>
    split at hc
    · split at hc <;> cases hc
    · cases hc
  case mapUpdate t m k v =>
    split at hc
    · split at hc <;> cases hc
    · cases hc
  case extract x i =>
    cases hc
    unfold vExtract at hv
    split at hv
    · rename_i l ha
      obtain ⟨a, hla, rfl⟩ := retV_some hv
      obtain ⟨xs, h1, h2⟩ := gv_VR F (hok x (by simp [Op.operands])) ha
      obtain ⟨v, h3, h4⟩ := h2.get hla
      refine .v (v := v) ?_ h4
      have h5 : xs[i]? = some v := by simpa using h3
      simp [execOp, h1, Instr.extract, h5]
    · cases hv
  case call c =>
    obtain ⟨callee, args, argTypes⟩ := c
    cases callee <;> simp only at hc
    case value g => cases hc
    case invoke r m => cases hc
    case builtin b =>
      cases b <;> simp only at hc
      all_goals try (cases hc; done)
      case append =>
        split at hc
        · split at hc
          · split at hc <;> cases hc
          · split at hc <;> cases hc
          · cases hc
        · cases hc
      case copy =>
        split at hc
        · split at hc
          · split at hc <;> cases hc
          · cases hc
        · cases hc
      case len =>
        split at hc
        · rename_i x t ha ht0
          have ha' : args = #[x] := by rw [← Array.toList_inj]; exact ha
          have ht' : argTypes = #[t] := by rw [← Array.toList_inj]; exact ht0
          subst ha'
          subst ht'
          split at hc
          · rename_i ht
            cases hc
            unfold vLenS at hv
            split at hv
            · rename_i a hax
              split at hv
              · rename_i m hm
                cases hv
                unfold lenS at hm
                split at hm
                · cases hm
                  have h1 := gv_VR F (hok x (by simp [Op.operands, Call.operands])) hax
                  simp only [VR] at h1
                  refine .v (v := goInt _) ?_ rfl
                  simp [execOp, resolve, invoke, builtin, h1, Builtin.len_, run_underlying ht]
                · rename_i l
                  cases hm
                  obtain ⟨h1, _⟩ := gv_VR F (hok x (by simp [Op.operands, Call.operands])) hax
                  refine .v (v := goInt l.length) ?_ rfl
                  have hsz : (⟨(l.map SB.byte).toArray⟩ : ByteArray).size = l.length := by show (l.map SB.byte).toArray.size = l.length; simp
                  simp [execOp, resolve, invoke, builtin, h1, Builtin.len_, run_underlying ht, hsz]
                · cases hm
              · cases hv
            · cases hv
          · rename_i e ht
            cases hc
            unfold vLen at hv
            split at hv
            · rename_i a hax
              split at hv
              · rename_i m hm
                cases hv
                have h1 := gv_VR F (hok x (by simp [Op.operands, Call.operands])) hax
                have run : ∀ b c0, act.eval x = .slice b m c0 → (execOp act.eval ⟨dst, .call ⟨.builtin .len, #[x], #[t]⟩, type, pos, after, guard⟩).run P w = .ok (.value (goInt m)) w := fun b c0 e1 => by
                  simp [execOp, resolve, invoke, builtin, e1, Builtin.len_, run_underlying ht]
                unfold lenOf at hm
                split at hm
                · cases hm
                  obtain ⟨q, _, _, _, h2⟩ := h1
                  exact .v (v := goInt _) (run _ _ h2) rfl
                · cases hm
                  obtain ⟨a, c0, h2⟩ := h1
                  exact .v (v := goInt _) (run _ _ h2) rfl
                · cases hm
                  simp only [VR] at h1
                  exact .v (v := goInt _) (run _ _ h1) rfl
                · cases hm
              · cases hv
            · cases hv
          · cases hc
        · cases hc
      case min =>
        split at hc
        · rename_i x y ha
          have ha' : args = #[x, y] := by rw [← Array.toList_inj]; exact ha
          subst ha'
          cases hc
          unfold vMinMax at hv
          split at hv
          · rename_i j a hax
            split at hv
            · rename_i k b hay
              split at hv
              · rename_i hk
                have h1 := gv_VR F (hok x (by simp [Op.operands, Call.operands])) hax
                have h2 := gv_VR F (hok y (by simp [Op.operands, Call.operands])) hay
                simp only [VR] at h1 h2
                have hk := keq_eq hk
                subst hk
                cases hv
                refine .v (v := .int j (if b < a then b else a)) ?_ ?_
                · simp [execOp, resolve, invoke, builtin, h1, h2, Builtin.min_, Builtin.min2]
                · show Value.int j _ = Value.int j _
                  simp only [ilt_iff]
                  by_cases hlt : b < a <;> simp [hlt]
              · cases hv
            · rename_i b _ hay
              obtain ⟨r, hr, rfl⟩ := retV_some hv
              obtain ⟨kk, ⟨m, n⟩, h1, h2, h3⟩ := mmSym_R (mx := false) hr (gv_VR F (hok x (by simp [Op.operands, Call.operands])) hax) (gv_VR F (hok y (by simp [Op.operands, Call.operands])) hay)
              refine .v (v := _) ?_ h3
              simp [execOp, resolve, invoke, builtin, h1, h2, Builtin.min_, Builtin.min2]
            · cases hv
          · rename_i a _ hax
            split at hv
            · rename_i b hay
              obtain ⟨r, hr, rfl⟩ := retV_some hv
              obtain ⟨kk, ⟨m, n⟩, h1, h2, h3⟩ := mmSym_R (mx := false) hr (gv_VR F (hok x (by simp [Op.operands, Call.operands])) hax) (gv_VR F (hok y (by simp [Op.operands, Call.operands])) hay)
              refine .v (v := _) ?_ h3
              simp [execOp, resolve, invoke, builtin, h1, h2, Builtin.min_, Builtin.min2]
            · cases hv
          · cases hv
        · cases hc
      case max =>
        split at hc
        · rename_i x y ha
          have ha' : args = #[x, y] := by rw [← Array.toList_inj]; exact ha
          subst ha'
          cases hc
          unfold vMinMax at hv
          split at hv
          · rename_i j a hax
            split at hv
            · rename_i k b hay
              split at hv
              · rename_i hk
                have h1 := gv_VR F (hok x (by simp [Op.operands, Call.operands])) hax
                have h2 := gv_VR F (hok y (by simp [Op.operands, Call.operands])) hay
                simp only [VR] at h1 h2
                have hk := keq_eq hk
                subst hk
                cases hv
                refine .v (v := .int j (if a < b then b else a)) ?_ ?_
                · simp [execOp, resolve, invoke, builtin, h1, h2, Builtin.max_, Builtin.max2]
                · show Value.int j _ = Value.int j _
                  simp only [ilt_iff]
                  by_cases hlt : a < b <;> simp [hlt]
              · cases hv
            · rename_i b _ hay
              obtain ⟨r, hr, rfl⟩ := retV_some hv
              obtain ⟨kk, ⟨m, n⟩, h1, h2, h3⟩ := mmSym_R (mx := true) hr (gv_VR F (hok x (by simp [Op.operands, Call.operands])) hax) (gv_VR F (hok y (by simp [Op.operands, Call.operands])) hay)
              refine .v (v := _) ?_ h3
              simp [execOp, resolve, invoke, builtin, h1, h2, Builtin.max_, Builtin.max2]
            · cases hv
          · rename_i a _ hax
            split at hv
            · rename_i b hay
              obtain ⟨r, hr, rfl⟩ := retV_some hv
              obtain ⟨kk, ⟨m, n⟩, h1, h2, h3⟩ := mmSym_R (mx := true) hr (gv_VR F (hok x (by simp [Op.operands, Call.operands])) hax) (gv_VR F (hok y (by simp [Op.operands, Call.operands])) hay)
              refine .v (v := _) ?_ h3
              simp [execOp, resolve, invoke, builtin, h1, h2, Builtin.max_, Builtin.max2]
            · cases hv
          · cases hv
        · cases hc
end Go.Ev
namespace Go.Ev
set_option linter.unusedSectionVars false
variable [Unk]
variable {P : Program} {A : Asg} {n : Nat} {ok : Path → Prop} {fr : FT} {act : Act} {w : World} {h : H}

def KT.desc : KT → TypeDesc
  | .int k => .int k
  | .str => .string
  | .bool => .bool
theorem keyT_eq {t : TypeId} {k : KT} (h : keyT P t = some k) : P.underlying t = some k.desc := by
  unfold keyT at h
  split at h <;> first | (cases h; assumption) | cases h
theorem isKey_R {s : Path → Option Ref} {k : KT} {a : AV} {x : Value} (h : isKey k a = true) (hx : VR s a x) : Go.MapKept.IsKey k.desc x := by
  cases k <;> cases a <;> simp only [isKey] at h <;> first | cases h | skip
  all_goals (simp only [VR] at hx; subst hx)
  · exact keq_eq h ▸ rfl
  · trivial
  · trivial
theorem keyEq_R {s : Path → Option Ref} {k : KT} {a b : AV} {x y : Value} {u : Bool} (hk : isKey k a = true) (hx : VR s a x) (hy : VR s b y) (h : keyEq a b = some u) : Instr.sameNow k.desc x y = some u := by
  cases k <;> cases a <;> simp only [isKey] at hk <;> first | cases hk | skip
  all_goals (cases b <;> simp only [keyEq] at h <;> first | cases h | skip)
  all_goals (simp only [VR] at hx hy; subst hx; subst hy)
  · split at h
    · rename_i he
      cases h
      have he := keq_eq he
      simp [Instr.sameNow, KT.desc, he, ieq_beq]
    · cases h
  · rename_i c d
    have hd : (c == d) = (c.data.toList == d.data.toList) := by
      rw [Bool.eq_iff_iff, Go.MapKept.bytes_beq, beq_iff_eq]
      constructor
      · intro e; rw [e]
      · intro e
        exact str_eq (by rw [bytesEq_iff, e]; exact beq_self_eq_true _)
    simp [Instr.sameNow, KT.desc, hd, bytesEq_iff]
  · rename_i c d
    cases c <;> cases d <;> rfl
theorem findRow_R {s : Path → Option Ref} {k : KT} {a : AV} {x : Value} (hk : isKey k a = true) (hx : VR s a x) {rows : Tr (List AV)} {es : Array MapEntry} (hes : ∀ (j : Nat) e, es[j]? = some e → EntR s rows j e) : ∀ (m i : Nat) (r : Option (Nat × AV)),
    i + m = es.size → findRow a rows m i = some r → match r with
      | none => Instr.findNow k.desc x (es.toList.drop i) i = some none
      | some (j, va) => ∃ e, es[j]? = some e ∧ Instr.findNow k.desc x (es.toList.drop i) i = some (some (j, e.val)) ∧ VR s va e.val ∧ ∃ ka, keyEq a ka = some true ∧ VR s ka e.key
  | 0, i, r, hm, h => by
    have h : (some none : Option (Option (Nat × AV))) = some r := h
    cases h
    have : es.toList.drop i = [] := by rw [List.drop_eq_nil_iff]; simp; omega
    rw [this]; rfl
  | m + 1, i, r, hm, h => by
    have h : (match get (pathOf i) rows with
      | some [ka, va] => match keyEq a ka with
        | some true => some (some (i, va))
        | some false => findRow a rows m (i + 1)
        | none => none
      | _ => none) = some r := h
    have hi : i < es.size := by omega
    have hdrop : es.toList.drop i = es[i] :: es.toList.drop (i + 1) := by
      rw [List.drop_eq_getElem_cons (by simpa using hi)]; simp
    obtain ⟨ka', va', g1, g2, g3⟩ := hes i es[i] (Array.getElem?_eq_getElem hi)
    split at h
    · rename_i ka va hrow
      rw [g1] at hrow; cases hrow
      split at h
      · rename_i he
        cases h
        have hs := keyEq_R hk hx g2 he
        refine ⟨es[i], Array.getElem?_eq_getElem hi, ?_, g3, _, he, g2⟩
        rw [hdrop]
        simp only [Instr.findNow, hs]
      · rename_i he
        have hs := keyEq_R hk hx g2 he
        have ih := findRow_R hk hx hes m (i + 1) r (by omega) h
        cases r with
        | none => simp only at ih ⊢; rw [hdrop]; simp only [Instr.findNow, hs]; exact ih
        | some jv =>
          obtain ⟨j, va1⟩ := jv
          obtain ⟨e, h1, h2, h3, h4⟩ := ih
          refine ⟨e, h1, ?_, h3, h4⟩
          rw [hdrop]; simp only [Instr.findNow, hs]; exact h2
      · cases h
    · cases h
theorem mapAt_eq {p : Path} {b : Blk} (e : mapAt p h = some b) : get p h.t = some b ∧ b.map = true := by
  unfold mapAt at e
  split at e
  · split at e
    · cases e; exact ⟨by assumption, by assumption⟩
    · cases e
  · cases e
theorem found_R {s : Path → Option Ref} {comma ok : Bool} {v : AV} {x : Value} (hv : VR s v x) : ∃ a, found comma v ok = .v a ∧ VR s a (if comma then .tuple #[x, .bool ok] else x) := by
  cases comma
  · exact ⟨v, rfl, hv⟩
  · exact ⟨_, rfl, _, rfl, .cons hv (.cons (by simp [VR]) .nil)⟩
theorem lookup_R (F : FrR A n ok fr act.tmps w) (hr : HR A h w) {t kt et : TypeId} {kk : KT} {z : AV} {comma : Bool} {x k : Operand} (hx : OkO ok x) (hk : OkO ok k) (hu : P.underlying t = some (.map kt et)) (hkt : keyT P kt = some kk) (hz : zeroV P et = some z)
    {s : Sl} (hv : lLookup kk z comma (rd x) (rd k) fr h = some s) : ∃ v a, s = .v a ∧ (Instr.lookup t (act.eval x) (act.eval k) comma).run P w = .ok v w ∧ VR A.s a v := by
  unfold lLookup at hv
  have hund := run_underlying (w := w) hu
  obtain ⟨zv, hzr, hz'⟩ := zeroV_eq (s := A.s) hz
  split at hv
  · rename_i ka hka
    have hkv := gv_VR F hk hka
    split at hv
    · rename_i hik
      have hkd := isKey_R hik hkv
      have hck := fun e n => Go.MapKept.run_checkKey (P := P) (w := w) (keyT_eq hkt) hkd e n
      split at hv
      · rename_i ha
        cases hv
        have h1 := gv_VR F hx ha
        simp only [VR] at h1
        obtain ⟨a, h2, h3⟩ := found_R (comma := comma) (ok := false) hz'
        refine ⟨_, a, h2, ?_, h3⟩
        have hf := Go.MapKept.run_findKey (P := P) (w := w) (k := act.eval k) (l := []) (a := none) (keyT_eq hkt) rfl
        simp only [Instr.lookup, Sem.run_bind, hund, Result.andThen_ok, h1, Sem.run_pure, hck, hf, hzr]
      · rename_i p ha
        obtain ⟨r, hr1, h1⟩ := gv_VR F hx ha
        split at hv
        · rename_i b hb
          obtain ⟨hb1, hb2⟩ := mapAt_eq hb
          obtain ⟨es, clock, e1, e2, e3⟩ := ((hr.blk p b r hb1 hr1).mapR hb2).map
          have hg := Go.MapKept.run_getObj_map (P := P) e1
          split at hv
          · rename_i j va hf
            cases hv
            obtain ⟨e, g1, g2, g3, _⟩ := findRow_R hik hkv e3 b.n 0 _ (by omega) hf
            have hf := Go.MapKept.run_findKey (P := P) (w := w) (keyT_eq hkt) g2
            obtain ⟨a, h2, h3⟩ := found_R (comma := comma) (ok := true) g3
            refine ⟨_, a, h2, ?_, h3⟩
            rw [List.drop_zero] at hf
            simp only [Instr.lookup, Sem.run_bind, hund, Result.andThen_ok, h1, Sem.run_pure, hck, hf, hg]
          · rename_i hf
            cases hv
            have g2 := findRow_R hik hkv e3 b.n 0 _ (by omega) hf
            have hf := Go.MapKept.run_findKey (P := P) (w := w) (keyT_eq hkt) g2
            obtain ⟨a, h2, h3⟩ := found_R (comma := comma) (ok := false) hz'
            refine ⟨_, a, h2, ?_, h3⟩
            rw [List.drop_zero] at hf
            simp only [Instr.lookup, Sem.run_bind, hund, Result.andThen_ok, h1, Sem.run_pure, hck, hf, hg, hzr]
          · cases hv
        · cases hv
      · cases hv
    · cases hv
  · cases hv
end Go.Ev
namespace Go.Ev
set_option linter.unusedSectionVars false
variable [Unk]

theorem get_rowsOf (k : Nat) : ∀ (n i : Nat) (l : List AV) (t : Tr (List AV)) (j : Nat),
    get (pathOf j) (rowsOf k n i l t) = if i ≤ j ∧ j < i + n then some ((l.drop ((j - i) * k)).take k) else get (pathOf j) t
  | 0, i, l, t, j => by
    show get (pathOf j) t = _
    rw [if_neg (by omega)]
  | n + 1, i, l, t, j => by
    show get (pathOf j) (rowsOf k n (i + 1) (l.drop k) (set (pathOf i) (some (l.take k)) t)) = _
    rw [get_rowsOf k n]
    by_cases h : j = i
    · subst h
      rw [if_neg (by omega), get_set, if_pos rfl, if_pos (by omega)]
      simp
    · by_cases h1 : i + 1 ≤ j ∧ j < i + 1 + n
      · rw [if_pos h1, if_pos (by omega), List.drop_drop]
        have : k + (j - (i + 1)) * k = (j - i) * k := by
          have e : j - i = (j - (i + 1)) + 1 := by omega
          rw [e, Nat.add_mul]; omega
        rw [this]
      · rw [if_neg h1, get_set, if_neg (fun e => h (pathOf_inj e)), if_neg (by omega)]
theorem get_repRows (z : List AV) : ∀ (n i : Nat) (t : Tr (List AV)) (j : Nat),
    get (pathOf j) (repRows z n i t) = if i ≤ j ∧ j < i + n then some z else get (pathOf j) t
  | 0, i, t, j => by
    show get (pathOf j) t = _
    rw [if_neg (by omega)]
  | n + 1, i, t, j => by
    show get (pathOf j) (repRows z n (i + 1) (set (pathOf i) (some z) t)) = _
    rw [get_repRows z n]
    by_cases h : j = i
    · subst h
      rw [if_neg (by omega), get_set, if_pos rfl, if_pos (by omega)]
    · by_cases h1 : i + 1 ≤ j ∧ j < i + 1 + n
      · rw [if_pos h1, if_pos (by omega)]
      · rw [if_neg h1, get_set, if_neg (fun e => h (pathOf_inj e)), if_neg (by omega)]
theorem get_byteRows : ∀ (l : List UInt8) (i : Nat) (t : Tr (List AV)) (j : Nat),
    get (pathOf j) (byteRows l i t) = if i ≤ j ∧ j < i + l.length then (l[j - i]?).map (fun c => [AV.int .u8 (.ofNat c.toNat)]) else get (pathOf j) t
  | [], i, t, j => by
    show get (pathOf j) t = _
    rw [if_neg (by simp)]
  | c :: l, i, t, j => by
    show get (pathOf j) (byteRows l (i + 1) (set (pathOf i) (some [AV.int .u8 (.ofNat c.toNat)]) t)) = _
    rw [get_byteRows l]
    by_cases h : j = i
    · subst h
      rw [if_neg (by omega), get_set, if_pos rfl, if_pos (by simp)]
      simp
    · by_cases h1 : i + 1 ≤ j ∧ j < i + 1 + l.length
      · rw [if_pos h1, if_pos (by simp; omega)]
        have e : j - i = (j - (i + 1)) + 1 := by omega
        rw [e]; simp
      · rw [if_neg h1, get_set, if_neg (fun e => h (pathOf_inj e)), if_neg (by simp; omega)]
theorem get_sbRows : ∀ (l : List SB) (i : Nat) (t : Tr (List AV)) (j : Nat),
    get (pathOf j) (sbRows l i t) = if i ≤ j ∧ j < i + l.length then (l[j - i]?).map (fun c => [sbAV c]) else get (pathOf j) t
  | [], i, t, j => by
    show get (pathOf j) t = _
    rw [if_neg (by simp)]
  | c :: l, i, t, j => by
    show get (pathOf j) (sbRows l (i + 1) (set (pathOf i) (some [sbAV c]) t)) = _
    rw [get_sbRows l]
    by_cases h : j = i
    · subst h
      rw [if_neg (by omega), get_set, if_pos rfl, if_pos (by simp)]
      simp
    · by_cases h1 : i + 1 ≤ j ∧ j < i + 1 + l.length
      · rw [if_pos h1, if_pos (by simp; omega)]
        have e : j - i = (j - (i + 1)) + 1 := by omega
        rw [e]; simp
      · rw [if_neg h1, get_set, if_neg (fun e => h (pathOf_inj e)), if_neg (by simp; omega)]
theorem sbIn_spec (rows : Tr (List AV)) : ∀ (n i : Nat) (l : List SB), sbIn rows n i = some l →
    l.length = n ∧ ∀ (j : Nat) c, l[j]? = some c → ∃ a, get (pathOf (i + j)) rows = some [a] ∧ avSB a = some c
  | 0, i, l, h => by
    have h : some [] = some l := h
    cases h
    exact ⟨rfl, fun j c h => by simp at h⟩
  | n + 1, i, l, h => by
    have h : (match get (pathOf i) rows with
      | some [a] => match avSB a, sbIn rows n (i + 1) with | some c, some l => some (c :: l) | _, _ => none
      | _ => none) = some l := h
    split at h
    · rename_i a ha
      split at h
      · rename_i c l' hc hl
        cases h
        obtain ⟨h1, h2⟩ := sbIn_spec rows n (i + 1) l' hl
        refine ⟨by simp [h1], fun j d hd => ?_⟩
        cases j with
        | zero => simp at hd; subst hd; exact ⟨a, ha, hc⟩
        | succ j => have := h2 j d (by simpa using hd); rwa [show i + 1 + j = i + (j + 1) by omega] at this
      · cases h
    · cases h
theorem copyRows_succ (src : Tr (List AV)) (n i j : Nat) (t : Tr (List AV)) :
    copyRows src (n + 1) i j t = match get (pathOf i) src with | none => none | some r => copyRows src n (i + 1) (j + 1) (set (pathOf j) (some r) t) := by
  show Option.casesOn (motive := fun _ => Option (Tr (List AV))) (get (pathOf i) src) none (fun r => copyRows src n (i + 1) (j + 1) (set (pathOf j) (some r) t)) = _
  cases get (pathOf i) src <;> rfl
theorem get_copyRows (src : Tr (List AV)) : ∀ (n i j0 : Nat) (t t' : Tr (List AV)), copyRows src n i j0 t = some t' →
    (∀ j, get (pathOf j) t' = if j0 ≤ j ∧ j < j0 + n then get (pathOf (i + (j - j0))) src else get (pathOf j) t) ∧ ∀ m, m < n → (get (pathOf (i + m)) src).isSome = true
  | 0, i, j0, t, t', h => by
    have h : some t = some t' := h
    cases h
    exact ⟨fun j => by rw [if_neg (by omega)], fun m hm => by omega⟩
  | n + 1, i, j0, t, t', h => by
    rw [copyRows_succ] at h
    split at h
    · cases h
    · rename_i r hr
      obtain ⟨h1, h2⟩ := get_copyRows src n (i + 1) (j0 + 1) _ t' h
      refine ⟨fun j => ?_, fun m hm => ?_⟩
      · rw [h1]
        by_cases e : j = j0
        · subst e
          rw [if_neg (by omega), get_set, if_pos rfl, if_pos (by omega)]
          simp [hr]
        · by_cases h3 : j0 + 1 ≤ j ∧ j < j0 + 1 + n
          · rw [if_pos h3, if_pos (by omega)]
            congr 2
            omega
          · rw [if_neg h3, get_set, if_neg (fun e' => e (pathOf_inj e')), if_neg (by omega)]
      · cases m with
        | zero => simp [hr]
        | succ m => have := h2 m (by omega); rwa [show i + 1 + m = i + (m + 1) by omega] at this
theorem bytesIn_spec (rows : Tr (List AV)) : ∀ (n i : Nat) (l : List UInt8), bytesIn rows n i = some l →
    ∃ ns : List Nat, ns.length = n ∧ l = ns.map UInt8.ofNat ∧ ∀ (j c : Nat), ns[j]? = some c → get (pathOf (i + j)) rows = some [.int .u8 (.ofNat c)]
  | 0, i, l, h => by
    have h : some [] = some l := h
    cases h
    exact ⟨[], rfl, rfl, fun j c h => by simp at h⟩
  | n + 1, i, l, h => by
    have h : (match get (pathOf i) rows with
      | some [.int .u8 (.ofNat c)] => match bytesIn rows n (i + 1) with | some l => some (UInt8.ofNat c :: l) | none => none
      | _ => none) = some l := h
    split at h
    · rename_i c hc
      split at h
      · rename_i l' hl
        cases h
        obtain ⟨ns, h1, h2, h3⟩ := bytesIn_spec rows n (i + 1) l' hl
        refine ⟨c :: ns, by simp [h1], by simp [h2], fun j d hd => ?_⟩
        cases j with
        | zero => simp at hd; subst hd; exact hc
        | succ j => have := h3 j d (by simpa using hd); rwa [show i + 1 + j = i + (j + 1) by omega] at this
      · cases h
    · cases h

theorem flatten_rep {α : Type} (z : List α) (k : Nat) (hk : z.length = k) : ∀ (n j : Nat), ((List.replicate n z).flatten)[j]? = if j < n * k then z[j % k]? else none
  | 0, j => by simp
  | n + 1, j => by
    rw [List.replicate_succ, List.flatten_cons, List.getElem?_append, hk]
    by_cases h : j < k
    · rw [if_pos h, if_pos (by rw [Nat.add_mul]; omega), Nat.mod_eq_of_lt h]
    · rw [if_neg h, flatten_rep z k hk n (j - k)]
      by_cases h1 : j - k < n * k
      · rw [if_pos h1, if_pos (by rw [Nat.add_mul]; omega), ← Nat.mod_eq_sub_mod (by omega)]
      · rw [if_neg h1, if_neg (by rw [Nat.add_mul]; omega)]
theorem flatten_len {α : Type} (z : List α) (k : Nat) (hk : z.length = k) (n : Nat) : ((List.replicate n z).flatten).length = n * k := by
  simp [List.length_flatten, hk]
theorem madeCells_at (z : Array Value) (m j : Nat) (hz : 0 < z.size) : (madeCells z m)[j]? = if j < m then z[j % z.size]? else none := by
  unfold madeCells
  by_cases h : j < m
  · rw [if_pos h, Array.getElem?_map, Array.getElem?_range, if_pos h]
    have : j % z.size < z.size := Nat.mod_lt _ hz
    simp [this]
  · rw [if_neg h, Array.getElem?_eq_none (by simp; omega)]
theorem VRs.rep {s : Path → Option Ref} {z : List AV} {zs : Array Value} (h : VRs s z zs.toList) {k : Nat} (hk : z.length = k) (h0 : 0 < k) (n : Nat) : VRs s ((List.replicate n z).flatten) (madeCells zs (n * k)).toList := by
  have hzs : zs.size = k := by have := h.length; simp at this; omega
  refine VRs.iff.2 ⟨by rw [flatten_len z k hk]; simp [size_madeCells], fun i a x ha hx => ?_⟩
  rw [flatten_rep z k hk] at ha
  split at ha
  · rename_i hi
    rw [Array.getElem?_toList, madeCells_at zs (n * k) i (by omega), if_pos hi, hzs] at hx
    exact (VRs.iff.1 h).2 (i % k) a x ha (by simpa using hx)
  · cases ha
end Go.Ev
namespace Go.Ev
set_option linter.unusedSectionVars false
variable [Unk]
variable {P : Program} {A : Asg} {n : Nat} {ok : Path → Prop} {fr : FT} {act : Act} {w : World} {h : H}

theorem loadVar_R (F : FrR A n ok fr act.tmps w) (hr : HR A h w) {t : TypeId} {m : Nat} {g : Bool} (hm : sizeT P t = some m) (hg : isAggT P t = some g) {x : Value} {p : Place} (hp : PlR A x p) {l : List AV} (hl : loadAt fr h p m = some l)
    {a : AV} (ha : val g l = some a) : ∃ ad v, x = .pointer (some ad) ∧ (loadVar t ad).run P w = .ok v w ∧ VR A.s a v := by
  obtain ⟨h1, h2, ad, xs, h3, h4, h5⟩ := loadAt_R F hr hp hl
  rcases val_R ha h4 h2 with ⟨rfl, rfl, hv⟩ | ⟨rfl, v, e1, e2, hv⟩
  · refine ⟨ad, .agg xs.toArray, h3, ?_, hv⟩
    have hlen : xs.length = m := by rw [h4.length]; exact h1
    have hc := run_loadCells_list (P := P) w ad xs h5
    rw [hlen] at hc
    simp only [loadVar, Sem.run_bind, run_isAgg hg, Result.andThen_ok, if_true, run_size hm, hc, Sem.run_pure]
  · refine ⟨ad, v, h3, ?_, hv⟩
    have hc := h5 0 v (by rw [e2]; rfl)
    rw [Addr.add_zero'] at hc
    simp only [loadVar, Sem.run_bind, run_isAgg hg, Result.andThen_ok, Bool.false_eq_true, if_false, run_load, hc]

theorem look_sound {loc : List Tmp} {o : Oper} {why : Nat} {f : FT → H → Option Sl} (hc : comp P loc o = some (.look why f)) (F : FrR A n ok fr act.tmps w) (hr : HR A h w) (hok : ∀ x ∈ o.op.operands, OkO ok x)
    {s : Sl} (hv : f fr h = some s) : Does P A act w o s := by
  obtain ⟨dst, op, type, pos, after, guard⟩ := o
  unfold comp at hc
  cases op <;> simp only at hc
  all_goals try (cases hc; done)
  case alloc t =>
    split at hc
    · split at hc
      · split at hc <;> cases hc
      · cases hc
    · cases hc
  case box t x =>
    split at hc
    · split at hc
      · split at hc <;> cases hc
      · cases hc
    · cases hc
  case build t ps =>
    split at hc
    · split at hc
      · split at hc <;> cases hc
      · cases hc
    · cases hc
  case buildSlice t m ps =>
    split at hc
    · split at hc
      · split at hc <;> cases hc
      · cases hc
    · cases hc
  case load t x =>
    split at hc
    · rename_i m g hm hg
      have hc' : f = lLoad (rd x) m g := by
        split at hc <;> first | cases hc | skip
        rfl
      subst hc'
      unfold lLoad at hv
      split at hv
      · rename_i p hp
        split at hv
        · rename_i l hl
          obtain ⟨a, ha, rfl⟩ := retV_some hv
          obtain ⟨ad, v, h1, h2, h3⟩ := loadVar_R F hr hm hg (place_R F (hok x (by simp [Op.operands])) hp) hl ha
          refine .v (v := v) ?_ h3
          simp only [execOp, Instr.loadAt, h1, Instr.sureAddr, Sem.run_bind, Sem.run_pure, Result.andThen_ok, h2]
        · cases hv
      · cases hv
    · cases hc
  case store t x y =>
    split at hc
    · split at hc <;> cases hc
    · cases hc
  case binOp op t x y yt =>
    split at hc <;> cases hc
  case convert s0 t x =>
    split at hc
    · cases hc
    · cases hc
    · rename_i e hs ht
      split at hc
      · rename_i he
        cases hc
        unfold lBytes at hv
        split at hv
        · rename_i ha
          cases hv
          have h1 := gv_VR F (hok x (by simp [Op.operands])) ha
          simp only [VR] at h1
          refine .v (v := .string ByteArray.empty) ?_ rfl
          simp only [execOp, h1, Sem.run_bind, run_convert_bytes_nil w s0 e hs he 0 0 t ht, Result.andThen_ok, Sem.run_pure]
        · rename_i b k i m ha
          split at hv
          · rename_i bl hbl
            split at hv
            · rename_i hk
              have hk := Nat.eq_of_beq_eq_true hk
              split at hv
              · rename_i l hl
                cases hv
                obtain ⟨q, hq, hqk, hqc, h2⟩ := gv_VR F (hok x (by simp [Op.operands])) ha
                have B := (hr.blk b bl q (getC_eq hbl).1 hq).blk (getC_eq hbl).2
                obtain ⟨cs, T, fz, e1, _, _, e4⟩ := B.cells
                obtain ⟨ns, g1, rfl, g3⟩ := bytesIn_spec _ _ _ _ hl
                have hq1 : q.k = 1 := by rw [B.k, hk]
                have hcell : ∀ j, j < m → w.cell? ⟨q.blk, q.off + i * q.k + j, none⟩ = some (.int .u8 ((ns.map (fun c : Nat => (Int.ofNat c))).getD j 0)) := by
                  intro j hj
                  have hj' : j < ns.length := by omega
                  obtain ⟨_, _, e7⟩ := e4 (i + j) _ (g3 j ns[j] (List.getElem?_eq_getElem hj'))
                  obtain ⟨v, hv, hvr⟩ := e7 0 _ rfl
                  simp only [VR] at hvr; subst hvr
                  rw [cell_of_row w q.blk _ cs T fz e1, show q.off + i * q.k + j = q.off + (i + j) * q.k + 0 by rw [hq1]; omega, hv]
                  simp [List.getD, List.getElem?_eq_getElem hj']
                have hcv := run_convert_bytes_arg (P := P) w s0 e hs he q.blk (q.off + i * q.k) m (q.cap - i) (ns.map (fun c : Nat => (Int.ofNat c))) (by simp [g1]) hcell t ht
                refine .v (v := .string (strOfNums (ns.map fun c : Nat => Int.ofNat c))) ?_ ?_
                · simp only [execOp, h2, Sem.run_bind, hcv, Result.andThen_ok, Sem.run_pure]
                · show Value.string _ = Value.string _
                  simp only [strOfNums, List.map_map]
                  rfl
              · split at hv
                · rename_i l hl
                  cases hv
                  obtain ⟨q, hq, hqk, hqc, h2⟩ := gv_VR F (hok x (by simp [Op.operands])) ha
                  have B := (hr.blk b bl q (getC_eq hbl).1 hq).blk (getC_eq hbl).2
                  obtain ⟨cs, T, fz, e1, _, _, e4⟩ := B.cells
                  obtain ⟨g1, g3⟩ := sbIn_spec _ _ _ _ hl
                  have hq1 : q.k = 1 := by rw [B.k, hk]
                  have each : ∀ (j : Nat) c, l[j]? = some c → cs[q.off + (i + j) * q.k + 0]? = some (.int .u8 c.byte.toNat) ∧ c.ok := by
                    intro j c hjc
                    obtain ⟨a, r1, r2⟩ := g3 j c hjc
                    obtain ⟨_, _, e7⟩ := e4 (i + j) _ r1
                    obtain ⟨v, hv, hvr⟩ := e7 0 _ rfl
                    obtain ⟨rfl, hc⟩ := avSB_R r2 hvr
                    exact ⟨hv, hc⟩
                  have hcell : ∀ j, j < m → w.cell? ⟨q.blk, q.off + i * q.k + j, none⟩ = some (.int .u8 ((l.map (fun c : SB => (Int.ofNat c.byte.toNat))).getD j 0)) := by
                    intro j hj
                    have hj' : j < l.length := by omega
                    obtain ⟨hv, _⟩ := each j _ (List.getElem?_eq_getElem hj')
                    rw [cell_of_row w q.blk _ cs T fz e1, show q.off + i * q.k + j = q.off + (i + j) * q.k + 0 by rw [hq1]; omega, hv]
                    simp [List.getD, List.getElem?_eq_getElem hj']
                  have hcv := run_convert_bytes_arg (P := P) w s0 e hs he q.blk (q.off + i * q.k) m (q.cap - i) (l.map (fun c : SB => (Int.ofNat c.byte.toNat))) (by simp [g1]) hcell t ht
                  refine .v (v := .string (strOfNums (l.map fun c : SB => Int.ofNat c.byte.toNat))) ?_ ⟨?_, fun p hp => ?_⟩
                  · simp only [execOp, h2, Sem.run_bind, hcv, Result.andThen_ok, Sem.run_pure]
                  · simp only [strOfNums, List.map_map]
                    congr 3
                    apply List.map_congr_left
                    intro c _
                    simp
                  · obtain ⟨j, hj⟩ := List.getElem?_of_mem hp
                    exact (each j p hj).2
                · cases hv
            · cases hv
          · cases hv
        · cases hv
      · cases hc
    · split at hc <;> cases hc
    · cases hc
  case makeInterface t x =>
    split at hc <;> cases hc
  case typeAssert x xt t ok =>
    cases ok <;> simp only at hc
    · cases hc
    · split at hc
      · cases hc
      · split at hc <;> cases hc
      · cases hc
  case lookup t x k comma =>
    split at hc
    · rename_i kt et hu
      split at hc
      · rename_i kk z hkt hz
        cases hc
        obtain ⟨v, a, rfl, h1, h2⟩ := lookup_R F hr (hok x (by simp [Op.operands])) (hok k (by simp [Op.operands])) hu hkt hz hv
        exact .v (v := v) (by simp [execOp, h1]) h2
      · cases hc
    · cases hc
  case makeMap t r => cases r <;> simp only at hc <;> cases hc
  case insert t m k v =>
    split at hc
    · split at hc <;> cases hc
    · cases hc
  case mapUpdate t m k v =>
    split at hc
    · split at hc <;> cases hc
    · cases hc
  case makeFunc g a c =>
    cases g <;> simp only at hc
    all_goals cases hc
  case makeSlice t l c =>
    split at hc
    · split at hc <;> cases hc
    · cases hc
  case slice t x lo hi mx =>
    cases mx with
    | some _ => simp only at hc; cases hc
    | none =>
      simp only at hc
      split at hc
      · cases hc
      · split at hc
        · split at hc <;> cases hc
        · cases hc
      · cases hc
  case fieldAddr t x i =>
    split at hc
    · split at hc <;> cases hc
    · cases hc
  case field t x i =>
    split at hc
    · split at hc <;> cases hc
    · cases hc
  case indexAddr t x ix =>
    split at hc
    · split at hc <;> cases hc
    · split at hc
      · split at hc <;> cases hc
      · cases hc
  case index t x ix =>
    split at hc <;> cases hc
  case call c =>
    obtain ⟨callee, args, argTypes⟩ := c
    cases callee <;> simp only at hc
    case value g => cases hc
    case invoke r m => cases hc
    case builtin b =>
      cases b <;> simp only at hc
      all_goals try (cases hc; done)
      case append =>
        split at hc
        · split at hc
          · split at hc <;> cases hc
          · split at hc <;> cases hc
          · cases hc
        · cases hc
      case copy =>
        split at hc
        · split at hc
          · split at hc <;> cases hc
          · cases hc
        · cases hc
      case len =>
        split at hc
        · split at hc <;> cases hc
        · cases hc
      case min =>
        split at hc <;> cases hc
      case max =>
        split at hc <;> cases hc
end Go.Ev
namespace Go.Ev
set_option linter.unusedSectionVars false
variable [Unk]
variable {P : Program} {A : Asg} {n : Nat} {ok : Path → Prop} {fr : FT} {act : Act} {w : World} {h : H}

def more (w : World) (o : Obj) (k : Nat) : World := { w with heap := w.heap.push o, drawn := k }
theorem more_heap (w : World) (o : Obj) (k : Nat) : (more w o k).heap[w.heap.size]? = some o := by
  show (w.heap.push o)[w.heap.size]? = some o
  rw [Array.getElem?_push, if_pos rfl]
def Makes (P : Program) (A : Asg) (act : Act) (w : World) (o : Oper) (p : Path) (b : Blk) (m : Option Nat) : Prop :=
  ∃ v ob k r, (execOp act.eval o).run P w = .ok (.value v) (more w ob k) ∧ r.blk = w.heap.size ∧ ObR (A.withS p r).s (more w ob k) b r ∧ VR (A.withS p r).s (match m with | some m => .sl p b.k 0 m | none => .ptr p 0) v
theorem withS_same (A : Asg) (p : Path) (r : Ref) : (A.withS p r).s p = some r := by
  show (if p = p then some r else A.s p) = some r
  rw [if_pos rfl]
theorem oneRow_R {p : Path} (hp : A.s p = none) {c : List AV} {cs : Array Value} (hc : VRs A.s c cs.toList) (hs : c.all sc = true) (h0 : 0 < c.length) (T : TypeId) (k : Nat) {ty : Nat} (hty : ty = 0 ∨ ty = T + 1) :
    BlkR (A.withS p ⟨w.heap.size, 0, c.length, 1⟩).s (more w (.cells cs T (0, 0)) k) (boxRow ty c) ⟨w.heap.size, 0, c.length, 1⟩ where
  k := rfl
  kpos := h0
  cap := Nat.le_refl _
  shut := fun _ => rfl
  top := fun j row hj => by
    have hj : get (pathOf j) (set [] (some c) .nil) = some row := hj
    rw [get_set] at hj
    split at hj
    · rename_i e
      have : j = 0 := pathOf_inj (by rw [e, pathOf_zero])
      subst this
      exact Nat.one_pos
    · rw [get_nil] at hj; cases hj
  ty := hty.imp id fun e => ⟨cs, T, (0, 0), more_heap _ _ _, e, rfl, fun _ => by have hl := hc.length; show cs.size = 1 * c.length; rw [← hl]; simp⟩
  cells := by
    have hl := hc.length
    refine ⟨cs, T, (0, 0), more_heap _ _ _, fun _ => rfl, by simp at hl; simp; omega, fun j row hj => ?_⟩
    have hj : get (pathOf j) (set [] (some c) .nil) = some row := hj
    rw [get_set] at hj
    split at hj
    · rename_i e
      cases hj
      have : j = 0 := pathOf_inj (by rw [e, pathOf_zero])
      subst this
      refine ⟨rfl, hs, fun i a ha => ?_⟩
      obtain ⟨x, hx, hv⟩ := (VRs.mono (withS_mono hp) _ _ hc).get ha
      exact ⟨x, by simpa using hx, hv⟩
    · rw [get_nil] at hj; cases hj
theorem box_makes {o : Oper} {p : Path} (hp : A.s p = none) {c : List AV} {v : Value} (hc : VRs A.s c v.cells.toList) (hs : c.all sc = true) (h0 : 0 < c.length) {T : TypeId}
    (hrun : (execOp act.eval o).run P w = .ok (.value (.pointer (some ⟨w.heap.size, 0, none⟩))) { w with heap := w.heap.push (.cells v.cells T) }) : Makes P A act w o p (boxRow (T + 1) c) none := by
  refine ⟨_, .cells v.cells T (0, 0), w.drawn, ⟨w.heap.size, 0, c.length, 1⟩, hrun, rfl, .of rfl (oneRow_R hp hc hs h0 T _ (.inr rfl)), ?_⟩
  exact ⟨_, withS_same _ _ _, rfl⟩
theorem rows_R {p : Path} (hp : A.s p = none) {k m : Nat} {l : List AV} {cs : Array Value} (hc : VRs A.s l cs.toList) (hs : l.all sc = true) (h0 : 0 < k) (hl : l.length = m * k) {rows : Tr (List AV)}
    (hrows : ∀ j row, get (pathOf j) rows = some row → j < m ∧ row = (l.drop (j * k)).take k) (T : TypeId) (d : Nat) :
    BlkR (A.withS p ⟨w.heap.size, 0, k, m⟩).s (more w (.cells cs T (0, 0)) d) ⟨k, m, rows, false, false, false, 0⟩ ⟨w.heap.size, 0, k, m⟩ where
  k := rfl
  kpos := h0
  cap := Nat.le_refl _
  shut := fun _ => rfl
  top := fun j row hj => (hrows j row hj).1
  ty := .inl rfl
  cells := by
    have hcl := hc.length
    refine ⟨cs, T, (0, 0), more_heap _ _ _, fun _ => rfl, by simp at hcl; simp; omega, fun j row hj => ?_⟩
    obtain ⟨h1, rfl⟩ := hrows j row hj
    have h2 : j * k + k ≤ m * k := by rw [← Nat.succ_mul]; exact Nat.mul_le_mul_right _ h1
    refine ⟨by simp; omega, all_take (all_drop hs _) k, fun i a ha => ?_⟩
    rw [List.getElem?_take] at ha
    split at ha
    · rw [List.getElem?_drop] at ha
      obtain ⟨x, hx, hv⟩ := (VRs.mono (withS_mono hp) _ _ hc).get ha
      exact ⟨x, by simpa using hx, hv⟩
    · cases ha

theorem elT_eq {e : TypeId} {k : Nat} {z : List AV} (he : elT P e = some (k, z)) : ∃ i v, P.info? e = some i ∧ i.zero = some v ∧ i.size = k ∧ 0 < k ∧ z.length = k ∧ v.cells.size = k ∧ i.bytes ≤ 8388608 ∧ (∀ s : Path → Option Ref, VRs s z v.cells.toList) ∧ z.all sc = true := by
  unfold elT at he
  split at he
  · rename_i k' z' hk hz hs
    split at he
    · rename_i h0 hl
      cases he
      obtain ⟨i, v, hi, hv, hzr⟩ := ofCells_zero hz
      obtain ⟨i', hi', hsz⟩ := sizeT_info hk
      rw [hi] at hi'; cases hi'
      rw [natBlt] at h0
      have hl := Nat.eq_of_beq_eq_true hl
      have hvl := (hzr (fun _ => none)).1.length
      refine ⟨i, v, hi, hv, hsz, of_decide_eq_true h0, hl, by simp at hvl; omega, ?_, fun s => (hzr s).1, (hzr (fun _ => none)).2⟩
      unfold smallT at hs
      rw [hi] at hs
      exact Nat.le_of_ble_eq_true hs
    · cases he
  · cases he
theorem sizeT_of {e : TypeId} {i : TypeInfo} (hi : P.info? e = some i) : sizeT P e = some i.size := by simp [sizeT, hi]

theorem modify_push {α : Type} (xs : Array α) (o : α) (f : α → α) : (xs.push o).modify xs.size f = xs.push (f o) := by
  apply Array.ext
  · simp
  · intro i h1 h2
    rw [Array.getElem_modify, Array.getElem_push, Array.getElem_push]
    by_cases h : i < xs.size
    · rw [if_neg (by omega), dif_pos h, dif_pos h]
    · rw [if_pos (by simp at h2; omega), dif_neg h, dif_neg h]
theorem run_bytesOf (e : TypeId) (s : ByteArray) : ∃ cap, s.size ≤ cap ∧ (Conv.stringToBytes e s).run P w =
    .ok (.slice (some ⟨w.heap.size, 0, none⟩) s.size cap) (more w (.cells (s.data.map (fun b => Value.int .u8 b.toNat) ++ Array.replicate (cap - s.size) (.int .u8 0)) e (cap, cap + 1)) (w.drawn + 1)) := by
  refine ⟨(Question.appendCap s.size 0 e).cut (w.tape w.drawn (.appendCap s.size 0 e)), by simp [Question.cut], ?_⟩
  generalize hcap : (Question.appendCap s.size 0 e).cut (w.tape w.drawn (.appendCap s.size 0 e)) = cap
  have hge : s.size ≤ cap := by rw [← hcap]; simp [Question.cut]
  have hsz : (s.data.map (fun b => Value.int .u8 (b.toNat : Int)) ++ Array.replicate (cap - s.size) (Value.int .u8 0)).size = cap := by
    simp only [Array.size_append, Array.size_map, Array.size_replicate]
    have : s.data.size = s.size := rfl
    omega
  unfold Conv.stringToBytes
  simp only [Sem.run_bind, run_choose, Question.forced, Bool.false_eq_true, if_false, Result.andThen_ok, hcap, newRow, run_newObj, Sem.run_pure, markStringish, run_shape]
  have hshape : World.shape? { heap := w.heap.push (Obj.cells (s.data.map (fun b => Value.int .u8 (b.toNat : Int)) ++ Array.replicate (cap - s.size) (Value.int .u8 0)) e (0, 0)), tape := w.tape, drawn := w.drawn + 1, os := w.os, output := w.output } w.heap.size = some (e, cap) := by
    simp only [World.shape?, Array.getElem?_push, if_true, hsz]
  simp only [hshape, run_freeze, Result.andThen_ok, World.freeze, more]
  rw [if_neg (by omega)]
  congr 2
  rw [modify_push]
  simp

theorem new_sound {loc : List Tmp} {o : Oper} {why : Nat} {f : FT → Option (Blk × Option Nat)} (hc : comp P loc o = some (.new why f)) (F : FrR A n ok fr act.tmps w) (hok : ∀ x ∈ o.op.operands, OkO ok x)
    {p : Path} (hp : A.s p = none) {b : Blk} {m : Option Nat} (hv : f fr = some (b, m)) : Makes P A act w o p b m := by
  obtain ⟨dst, op, type, pos, after, guard⟩ := o
  unfold comp at hc
  cases op <;> simp only at hc
  all_goals try (cases hc; done)
  case alloc t =>
    split at hc
    · rename_i z m' d hz hm
      split at hc
      · rename_i hl h0
        have hl := Nat.eq_of_beq_eq_true hl
        rw [natBlt] at h0
        have h0 := of_decide_eq_true h0
        split at hc
        · cases hc
        · cases hc
          unfold nBox at hv
          cases hv
          obtain ⟨i, v, hi, hzv, hzr⟩ := ofCells_zero hz
          obtain ⟨h1, h2⟩ := hzr A.s
          refine box_makes hp h1 h2 (by omega) (T := t) ?_
          simp [execOp, Instr.alloc, run_zero hi hzv, newVar, newRow]
      · cases hc
    · cases hc
  case box t x =>
    split at hc
    · rename_i m' d hm
      split at hc
      · rename_i h0
        rw [natBlt] at h0
        have h0 := of_decide_eq_true h0
        split at hc
        · cases hc
        · cases hc
          unfold nBoxV at hv
          split at hv
          · rename_i a ha
            split at hv
            · rename_i c hca
              split at hv
              · rename_i hl
                have hl := Nat.eq_of_beq_eq_true hl
                cases hv
                obtain ⟨h1, h2⟩ := (gv_VR F (hok x (by simp [Op.operands])) ha).cells hca
                refine box_makes hp h1 h2 (by omega) (T := t) ?_
                simp [execOp, Instr.box, newVar, newRow]
              · cases hv
            · cases hv
          · cases hv
      · cases hc
    · cases hc
  case build t ps =>
    split at hc
    · split at hc
      · split at hc <;> cases hc
      · cases hc
    · cases hc
  case buildSlice t m' ps =>
    split at hc
    · rename_i e he
      split at hc
      · rename_i k z hel
        split at hc
        · rename_i hbig
          have hbig := Nat.le_of_ble_eq_true hbig
          cases hc
          have ht := elemT_eq he
          obtain ⟨i, v, hi, hzv, hsz, h0, hzl, hvs, _, hzr, hzs⟩ := elT_eq hel
          unfold nSlice at hv
          split at hv
          · rename_i l hl
            cases hv
            have hop : ∀ x ∈ ps.toList.map (·.2), OkO ok x := fun x hx => hok x (by
              simp only [Op.operands]
              exact List.mem_toArray.2 hx)
            have hz0 := VRs.rep (hzr A.s) hzl h0 m'
            obtain ⟨cs', e1, e2, e3⟩ := fill_R F (fun i => some (i * k, k)) ps.toList (ps.toList.map fun (i, x) => (i * k, k, rd x)) ⟨by simp, fun i p q hp hq' => by
                simp [hp] at hq'; subst hq'; exact ⟨rfl, rfl⟩⟩ hop _ l (madeCells v.cells (m' * k)) hl hz0 (by
                rw [List.all_eq_true]
                intro a ha
                obtain ⟨y, hy, hay⟩ := List.mem_flatten.1 ha
                rw [List.mem_replicate] at hy
                rw [List.all_eq_true] at hzs
                exact hzs a (hy.2 ▸ hay))
            have hll : l.length = m' * k := by
              have h1 : cs'.size = (madeCells v.cells (m' * k)).size := by
                have : ∀ (place : Nat → Option (Nat × Nat)) (parts : List (Nat × Value)) (cs cs' : Array Value), Instr.fill place cs parts = some cs' → cs'.size = cs.size := by
                  intro place parts
                  induction parts with
                  | nil => intro cs cs' h; simp [Instr.fill] at h; rw [h]
                  | cons q parts ih =>
                    intro cs cs' h
                    obtain ⟨i, v⟩ := q
                    simp only [Instr.fill] at h
                    split at h
                    · cases h
                    · rename_i off size ho
                      split at h
                      · cases h
                      · rename_i hcond
                        rw [ih _ _ h]
                        simp only [gt_iff_lt, Bool.or_eq_true, decide_eq_true_eq, not_or] at hcond
                        rw [← Array.foldl_toList, Array.toList_zipIdx]
                        have := congrArg List.length (foldl_put off v.cells.toList 0 cs (by simp; omega))
                        simp at this
                        rw [this]
                        omega
                exact this _ _ _ _ e1
              have h2 := e2.length
              rw [size_madeCells] at h1
              simp at h2
              omega
            have hrun : (execOp act.eval ⟨dst, .buildSlice t m' ps, type, pos, after, guard⟩).run P w = .ok (.value (.slice (some ⟨w.heap.size, 0, none⟩) m' m')) (more w (.cells cs' e (0, 0)) w.drawn) := by
              have e1' : Instr.fill (fun i => some (i * k, k)) (madeCells v.cells (m' * k)) (ps.map fun (i, x) => (i, act.eval x)).toList = some cs' := by simpa using e1
              have hk : sizeT P e = some k := by rw [sizeT_of hi, hsz]
              simp only [execOp, Instr.buildSlice, Sem.run_bind, run_underlying ht, Result.andThen_ok, run_size hk]
              rw [if_neg (by omega)]
              by_cases hz : m' * k = 0
              · have hmz : madeCells v.cells (m' * k) = (Array.range (m' * k)).map ((#[] : Array Value)[· % (#[] : Array Value).size]!) := by
                  rw [hz]; simp [madeCells]
                rw [hmz] at e1'
                simp only [if_pos hz, Sem.run_pure, Result.andThen_ok, e1', newRow, Sem.run_bind, run_newObj]
                rfl
              · have hmz : madeCells v.cells (m' * k) = (Array.range (m' * k)).map (v.cells[· % v.cells.size]!) := rfl
                rw [hmz] at e1'
                simp only [if_neg hz, Sem.run_pure, Sem.run_bind, run_zero hi hzv, Result.andThen_ok, e1', newRow, run_newObj]
                rfl
            refine ⟨_, _, _, ⟨w.heap.size, 0, k, m'⟩, hrun, rfl, .of rfl (rows_R hp e2 e3 h0 hll (fun j row hj => ?_) e w.drawn), ⟨_, withS_same _ _ _, rfl, by simp, by simp⟩⟩
            rw [get_rowsOf] at hj
            split at hj
            · rename_i hjm
              cases hj
              exact ⟨by omega, by simp⟩
            · rw [get_nil] at hj; cases hj
          · cases hv
        · cases hc
      · cases hc
    · cases hc
  case load t x =>
    split at hc
    · split at hc <;> cases hc
    · cases hc
  case store t x y =>
    split at hc
    · split at hc <;> cases hc
    · cases hc
  case binOp op t x y yt =>
    split at hc <;> cases hc
  case convert s0 t x =>
    split at hc
    · cases hc
    · cases hc
    · split at hc <;> cases hc
    · rename_i e hs ht
      split at hc
      · rename_i he
        cases hc
        unfold nBytes at hv
        split at hv
        · rename_i st ha
          cases hv
          have h1 := gv_VR F (hok x (by simp [Op.operands])) ha
          simp only [VR] at h1
          obtain ⟨cap, hcap, hrun⟩ := run_bytesOf (P := P) (w := w) e st
          have hlen : st.data.toList.length = st.size := Array.length_toList
          refine ⟨_, .cells (st.data.map (fun b => Value.int .u8 b.toNat) ++ Array.replicate (cap - st.size) (.int .u8 0)) e (cap, cap + 1), w.drawn + 1, ⟨w.heap.size, 0, 1, cap⟩, ?_, rfl, ?_, ⟨_, withS_same _ _ _, rfl, by simp only [hlen]; omega, by simp [hlen]; rfl⟩⟩
          · simp only [execOp, h1, convert, Sem.run_bind, run_underlying hs, run_underlying ht, Result.andThen_ok, run_underlying he, hrun, Sem.run_pure]
          · refine { k := rfl, kpos := Nat.one_pos, cap := by simp only [hlen]; exact hcap, shut := fun h => (by cases h), top := fun j row hj => ?_, ty := .inl rfl, cells := ⟨_, e, _, more_heap _ _ _, fun h => (by cases h), ?_, fun j row hj => ?_⟩ }
            · rw [get_byteRows] at hj
              split at hj
              · rename_i hjm; simp only; omega
              · rw [get_nil] at hj; cases hj
            · simp only [Array.size_append, Array.size_map, Array.size_replicate]
              have : st.data.size = st.size := rfl
              omega
            · rw [get_byteRows] at hj
              split at hj
              · rename_i hjm
                have hj' : j < st.data.toList.length := by omega
                rw [Nat.sub_zero, List.getElem?_eq_getElem hj'] at hj
                cases hj
                refine ⟨rfl, rfl, fun i a ha => ?_⟩
                cases i with
                | zero =>
                  simp at ha
                  subst ha
                  refine ⟨.int .u8 (st.data.toList[j].toNat : Int), ?_, rfl⟩
                  have hjs : j < st.data.size := by simpa using hj'
                  simp only [Nat.zero_add, Nat.mul_one, Nat.add_zero]
                  rw [Array.getElem?_append_left (by simpa using hjs), Array.getElem?_map, Array.getElem?_eq_getElem hjs]
                  simp
                | succ i => simp at ha
              · rw [get_nil] at hj; cases hj
        · rename_i l ha
          cases hv
          obtain ⟨h1, hok1⟩ := gv_VR F (hok x (by simp [Op.operands])) ha
          obtain ⟨st, hst⟩ : ∃ st : ByteArray, st = ⟨(l.map SB.byte).toArray⟩ := ⟨_, rfl⟩
          rw [← hst] at h1
          have hsl : st.size = l.length := by rw [hst]; simp [ByteArray.size]
          have hsd : ∀ (j : Nat) c, l[j]? = some c → st.data[j]? = some c.byte := fun j c hj => by rw [hst]; simp [hj]
          obtain ⟨cap, hcap, hrun⟩ := run_bytesOf (P := P) (w := w) e st
          refine ⟨_, .cells (st.data.map (fun b => Value.int .u8 b.toNat) ++ Array.replicate (cap - st.size) (.int .u8 0)) e (cap, cap + 1), w.drawn + 1, ⟨w.heap.size, 0, 1, cap⟩, ?_, rfl, ?_, ⟨_, withS_same _ _ _, rfl, by simp only; omega, by simp; rfl⟩⟩
          · simp only [execOp, h1, convert, Sem.run_bind, run_underlying hs, run_underlying ht, Result.andThen_ok, run_underlying he, hrun, Sem.run_pure, hsl]
          · refine { k := rfl, kpos := Nat.one_pos, cap := by simp only; omega, shut := fun h => (by cases h), top := fun j row hj => ?_, ty := .inl rfl, cells := ⟨_, e, _, more_heap _ _ _, fun h => (by cases h), ?_, fun j row hj => ?_⟩ }
            · rw [get_sbRows] at hj
              split at hj
              · rename_i hjm; simp only; omega
              · rw [get_nil] at hj; cases hj
            · simp only [Array.size_append, Array.size_map, Array.size_replicate]
              have : st.data.size = st.size := rfl
              omega
            · rw [get_sbRows] at hj
              split at hj
              · rename_i hjm
                have hj' : j < l.length := by omega
                have hjc := List.getElem?_eq_getElem hj'
                rw [Nat.sub_zero, hjc] at hj
                cases hj
                refine ⟨rfl, by cases l[j] <;> rfl, fun i a ha => ?_⟩
                cases i with
                | zero =>
                  simp at ha
                  subst ha
                  refine ⟨.int .u8 (l[j].byte.toNat : Int), ?_, byte_AV (hok1 _ (List.getElem_mem hj'))⟩
                  have hjs : j < st.data.size := by have : st.data.size = st.size := rfl; omega
                  simp only [Nat.zero_add, Nat.mul_one, Nat.add_zero]
                  rw [Array.getElem?_append_left (by simpa using hjs), Array.getElem?_map, hsd j _ hjc]
                  simp
                | succ i => simp at ha
              · rw [get_nil] at hj; cases hj
        · cases hv
      · cases hc
    · cases hc
  case makeInterface t x =>
    split at hc <;> cases hc
  case typeAssert x xt t ok =>
    cases ok <;> simp only at hc
    · cases hc
    · split at hc
      · cases hc
      · split at hc <;> cases hc
      · cases hc
  case lookup t x k comma =>
    split at hc
    · split at hc <;> cases hc
    · cases hc
  case makeMap t r => cases r <;> simp only at hc <;> cases hc
  case insert t m k v =>
    split at hc
    · split at hc <;> cases hc
    · cases hc
  case mapUpdate t m k v =>
    split at hc
    · split at hc <;> cases hc
    · cases hc
  case makeFunc g a c =>
    cases g <;> simp only at hc
    all_goals cases hc
  case makeSlice t l c =>
    split at hc
    · rename_i e he
      split at hc
      · rename_i k z hel
        cases hc
        have ht := elemT_eq he
        obtain ⟨i, v, hi, hzv, hsz, h0, hzl, hvs, hby, hzr, hzs⟩ := elT_eq hel
        unfold nMake at hv
        split at hv
        · rename_i a ha
          split at hv
          · rename_i b' hb
            split at hv
            · rename_i l' c' hl' hc'
              split at hv
              · rename_i h1 h2
                have h1 := Nat.le_of_ble_eq_true h1
                have h2 := Nat.le_of_ble_eq_true h2
                cases hv
                obtain ⟨kl, rfl⟩ := natOf_int hl'
                obtain ⟨kc, rfl⟩ := natOf_int hc'
                have g1 := gv_VR F (hok l (by simp [Op.operands])) ha
                have g2 := gv_VR F (hok c (by simp [Op.operands])) hb
                simp only [VR] at g1 g2
                have hmost : most = 16777216 := rfl
                rw [hmost] at h2
                have hbc : i.bytes * c' ≤ 8388608 * 16777216 := Nat.mul_le_mul hby h2
                have hrun := run_make (P := P) w t e i v ht hi hzv kl kc (Int.ofNat l') (Int.ofNat c') (by simp) (by simpa using h1) (by
                  have : ((i.bytes * c' : Nat) : Int) ≤ 281474976710656 := by omega
                  simpa [Int.natCast_mul] using this) (by simp; omega)
                simp only [Int.ofNat_eq_natCast, Int.toNat_natCast] at hrun
                refine ⟨_, _, w.drawn, ⟨w.heap.size, 0, k, c'⟩, ?_, rfl, rows_R hp (VRs.rep (hzr A.s) hzl h0 c') (by
                  rw [List.all_eq_true]
                  intro a ha
                  obtain ⟨y, hy, hay⟩ := List.mem_flatten.1 ha
                  rw [List.mem_replicate] at hy
                  rw [List.all_eq_true] at hzs
                  exact hzs a (hy.2 ▸ hay)) h0 (flatten_len z k hzl c') (fun j row hj => ?_) e w.drawn, ⟨_, withS_same _ _ _, rfl, by simpa using h1, by simp; rfl⟩⟩
                · simp only [execOp, g1, g2, Sem.run_bind, Int.ofNat_eq_natCast, hrun, Result.andThen_ok, hsz]
                  rfl
                · rw [get_repRows] at hj
                  split at hj
                  · rename_i hjm
                    cases hj
                    refine ⟨by omega, ?_⟩
                    apply List.ext_getElem?
                    intro q
                    rw [List.getElem?_take, List.getElem?_drop, flatten_rep z k hzl]
                    have hjk : j * k + k ≤ c' * k := by rw [← Nat.succ_mul]; exact Nat.mul_le_mul_right _ (by omega)
                    by_cases hq : q < k
                    · rw [if_pos hq, if_pos (by omega), Nat.mul_comm j k, Nat.mul_add_mod, Nat.mod_eq_of_lt hq]
                    · rw [if_neg hq, List.getElem?_eq_none (by omega)]
                  · rw [get_nil] at hj; cases hj
              · cases hv
            · cases hv
          · cases hv
        · cases hv
      · cases hc
    · cases hc
  case slice t x lo hi mx =>
    cases mx with
    | some _ => simp only at hc; cases hc
    | none =>
      simp only at hc
      split at hc
      · cases hc
      · split at hc
        · split at hc <;> cases hc
        · cases hc
      · cases hc
  case fieldAddr t x i =>
    split at hc
    · split at hc <;> cases hc
    · cases hc
  case field t x i =>
    split at hc
    · split at hc <;> cases hc
    · cases hc
  case indexAddr t x ix =>
    split at hc
    · split at hc <;> cases hc
    · split at hc
      · split at hc <;> cases hc
      · cases hc
  case index t x ix =>
    split at hc <;> cases hc
  case call c =>
    obtain ⟨callee, args, argTypes⟩ := c
    cases callee <;> simp only at hc
    case value g => cases hc
    case invoke r m => cases hc
    case builtin b =>
      cases b <;> simp only at hc
      all_goals try (cases hc; done)
      case append =>
        split at hc
        · split at hc
          · split at hc <;> cases hc
          · split at hc <;> cases hc
          · cases hc
        · cases hc
      case copy =>
        split at hc
        · split at hc
          · split at hc <;> cases hc
          · cases hc
        · cases hc
      case len =>
        split at hc
        · split at hc <;> cases hc
        · cases hc
      case min =>
        split at hc <;> cases hc
      case max =>
        split at hc <;> cases hc
end Go.Ev
namespace Go.Ev
set_option linter.unusedSectionVars false
variable [Unk]
variable {P : Program} {E : Ent} {A : Asg} {n : Nat} {ok : Path → Prop} {fr : FT} {act : Act} {w : World} {h : H}

structure Sta (E : Ent) (A : Asg) (n : Nat) (ok : Path → Prop) (fr : FT) (h : H) (tmps : Array Value) (w : World) : Prop where
  inv : Inv E A h w
  frr : FrR A n ok fr tmps w
  bge : ∀ p g l, get p fr = some (.box g l) → E.h.gen ≤ g
theorem setRow_wr {w : World} {g : Nat} {cur cs : Array Value} {T : TypeId} {fz : Nat × Nat} (hg : w.heap[g]? = some (.cells cur T fz)) : w.setRow g cs = wr w g (.cells cs T fz) := by
  have hlt : g < w.heap.size := (Array.getElem?_eq_some_iff.1 hg).1
  have hv : w.heap[g] = .cells cur T fz := (Array.getElem?_eq_some_iff.1 hg).2
  unfold World.setRow wr
  congr 1
  apply Array.ext
  · simp
  · intro k h1 h2
    rw [Array.getElem_modify, Array.getElem_setIfInBounds (by simpa using h1)]
    by_cases hk : g = k
    · subst hk; simp [hv]
    · rw [if_neg hk, if_neg hk]
theorem VRs.one {s : Path → Option Ref} {l : List AV} {xs : List Value} (h : VRs s l xs) (hs : l.all sc = true) : ∀ v ∈ xs, v.oneCell' = true := by
  intro v hv
  obtain ⟨i, hi, e⟩ := List.getElem_of_mem hv
  obtain ⟨h1, h2⟩ := VRs.iff.1 h
  have hi' : i < l.length := by omega
  have hvr := h2 i _ v (List.getElem?_eq_getElem hi') (by rw [List.getElem?_eq_getElem hi, e])
  rw [List.all_eq_true] at hs
  obtain ⟨h3, h4⟩ := hvr.one (hs _ (List.getElem_mem hi'))
  cases v <;> first | rfl | exact absurd rfl (h3 _) | exact absurd rfl (h4 _)
theorem BlkR.patched {s : Path → Option Ref} {w : World} {b : Blk} {r : Ref} (B : BlkR s w b r) (hro : b.ro = false) {j0 off : Nat} {row0 row1 c : List AV} (h0 : get (pathOf j0) b.rows = some row0) (hp : patch off c row0 = some row1)
    {vs : List Value} (hv : VRs s c vs) (hs : c.all sc = true) :
    ∃ cs T, w.heap[r.blk]? = some (.cells cs T (0, 0)) ∧ r.off + j0 * r.k + off + vs.length ≤ cs.size ∧
      BlkR s (wr w r.blk (.cells (cs.toList.take (r.off + j0 * r.k + off) ++ vs ++ cs.toList.drop (r.off + j0 * r.k + off + vs.length)).toArray T (0, 0))) { b with rows := set (pathOf j0) (some row1) b.rows } r := by
  obtain ⟨cs, T, fz, e1, e2, e3, e4⟩ := B.cells
  have hfz := e2 hro
  subst hfz
  obtain ⟨f1, f2, f3⟩ := e4 j0 row0 h0
  obtain ⟨g1, g2⟩ := patch_eq hp
  have hvl := hv.length
  have hk := B.k
  have hkp := B.kpos
  -- the last cell of the row is there
  have hin : r.off + j0 * r.k + b.k ≤ cs.size := by
    obtain ⟨x, hx, _⟩ := f3 (b.k - 1) _ (List.getElem?_eq_getElem (by omega))
    have := (Array.getElem?_eq_some_iff.1 hx).1
    omega
  have hlt0 : r.blk < w.heap.size := (Array.getElem?_eq_some_iff.1 e1).1
  refine ⟨cs, T, e1, by omega, { k := B.k, kpos := B.kpos, cap := B.cap, shut := B.shut, top := fun j row hj => ?_, ty := B.ty.imp id fun ⟨cs2, T2, fz2, x1, x2⟩ => ⟨_, T, (0, 0), wr_same hlt0, by rw [e1] at x1; cases x1; exact x2.1, x2.2.1, fun hg => by rw [e1] at x1; cases x1; rw [← x2.2.2 hg]; simp only [List.size_toArray, List.length_append, List.length_take, List.length_drop, Array.length_toList]; omega⟩, cells := ?_ }⟩
  · have hj : get (pathOf j) (set (pathOf j0) (some row1) b.rows) = some row := hj
    rw [get_set] at hj
    split at hj
    · rename_i e; have e := pathOf_inj e; subst e; exact B.top _ _ h0
    · exact B.top _ _ hj
  have hlt : r.blk < w.heap.size := (Array.getElem?_eq_some_iff.1 e1).1
  refine ⟨_, T, (0, 0), wr_same hlt, fun _ => rfl, ?_, fun j row hj => ?_⟩
  · simp only [List.size_toArray, List.length_append, List.length_take, List.length_drop, Array.length_toList]
    omega
  · have hj : get (pathOf j) (set (pathOf j0) (some row1) b.rows) = some row := hj
    rw [get_set] at hj
    split at hj
    · rename_i e
      cases hj
      have := pathOf_inj e
      subst this
      have hl1 : row1.length = b.k := by rw [g2]; simp; omega
      refine ⟨hl1, patch_all hp hs f2, fun i a ha => ?_⟩
      rw [g2] at ha
      by_cases h1 : i < off
      · rw [List.getElem?_append_left (by simp; omega), List.getElem?_take, if_pos h1] at ha
        obtain ⟨x, hx, hxr⟩ := f3 i a ha
        refine ⟨x, ?_, hxr⟩
        rw [List.getElem?_toArray, List.append_assoc, List.getElem?_append_left (by simp; omega), List.getElem?_take, if_pos (by omega)]
        simpa using hx
      · by_cases h2 : i < off + c.length
        · rw [List.getElem?_append_right (by simp; omega), List.getElem?_append_left (by simp; omega)] at ha
          simp only [List.length_take] at ha
          rw [show i - min off row0.length = i - off by omega] at ha
          obtain ⟨x, hx, hxr⟩ := hv.get ha
          refine ⟨x, ?_, hxr⟩
          rw [List.getElem?_toArray, List.append_assoc, List.getElem?_append_right (by simp; omega), List.getElem?_append_left (by simp; omega)]
          simp only [List.length_take, Array.length_toList]
          rw [show r.off + j * r.k + i - min (r.off + j * r.k + off) cs.size = i - off by omega]
          exact hx
        · rw [List.getElem?_append_right (by simp; omega), List.getElem?_append_right (by simp; omega), List.getElem?_drop] at ha
          simp only [List.length_take] at ha
          rw [show off + c.length + (i - min off row0.length - c.length) = i by omega] at ha
          obtain ⟨x, hx, hxr⟩ := f3 i a ha
          refine ⟨x, ?_, hxr⟩
          rw [List.getElem?_toArray, List.getElem?_append_right (by simp; omega), List.getElem?_drop]
          simp only [List.length_append, List.length_take, Array.length_toList]
          rw [show r.off + j * r.k + off + vs.length + (r.off + j * r.k + i - (min (r.off + j * r.k + off) cs.size + vs.length)) = r.off + j * r.k + i by omega]
          simpa using hx
    · rename_i e
      have hne : j ≠ j0 := fun e' => e (by rw [e'])
      obtain ⟨k1, k2, k3⟩ := e4 j row hj
      refine ⟨k1, k2, fun i a ha => ?_⟩
      obtain ⟨x, hx, hxr⟩ := k3 i a ha
      refine ⟨x, ?_, hxr⟩
      have hi : i < b.k := by rcases Nat.lt_or_ge i row.length with h | h; omega; rw [List.getElem?_eq_none h] at ha; cases ha
      rcases Nat.lt_or_gt_of_ne hne with hlt' | hgt
      · have : (j + 1) * r.k ≤ j0 * r.k := Nat.mul_le_mul_right _ hlt'
        rw [Nat.succ_mul] at this
        rw [List.getElem?_toArray, List.append_assoc, List.getElem?_append_left (by simp; omega), List.getElem?_take, if_pos (by omega)]
        simpa using hx
      · have : (j0 + 1) * r.k ≤ j * r.k := Nat.mul_le_mul_right _ hgt
        rw [Nat.succ_mul] at this
        rw [List.getElem?_toArray, List.getElem?_append_right (by simp; omega), List.getElem?_drop]
        simp only [List.length_append, List.length_take, Array.length_toList]
        rw [show r.off + j0 * r.k + off + vs.length + (r.off + j * r.k + i - (min (r.off + j0 * r.k + off) cs.size + vs.length)) = r.off + j * r.k + i by omega]
        simpa using hx

theorem store_R (S : Sta E A n ok fr h act.tmps w) {x : Value} {p : Place} (hp : PlR A x p) {c : List AV} {vs : List Value} (hv : VRs A.s c vs) (hs : c.all sc = true) {fr' : FT} {h' : H} (hst : storeAt fr h p c = some (fr', h')) :
    ∃ ad w', x = .pointer (some ad) ∧ (storeCells ad vs).run P w = .ok () w' ∧ Sta E A n ok fr' h' act.tmps w' := by
  have hvl := hv.length
  cases p with
  | loc d g o =>
    simp only [storeAt] at hst
    split at hst
    · rename_i g' l hd
      split at hst
      · rename_i hg
        have hg := Nat.eq_of_beq_eq_true hg
        subst hg
        split at hst
        · rename_i l' hl'
          cases hst
          obtain ⟨blk, h1, rfl⟩ := hp
          obtain ⟨blk', h2, _, cs, T, h3, h4, h5⟩ := S.frr.slot (num d) _ (by rw [pathOf_num]; exact S.frr.bok d _ _ hd) (by rw [pathOf_num]; exact hd)
          rw [h1] at h2; cases h2
          obtain ⟨h6, _⟩ := patch_eq hl'
          have h7 := h4.length
          have hrun := run_storeCells_at P blk o T vs 0 cs w h3 (by simp at h7; omega) (hv.one hs)
          rw [Nat.add_zero, setRow_wr h3] at hrun
          refine ⟨_, _, rfl, hrun, ⟨S.inv.writeB h1 (S.bge d _ _ hd), S.frr.wroteB S.inv.hr hd h1 (by simpa using patch_VRs hl' hv h4) (patch_all hl' hs h5), fun q g1 l1 hq => ?_⟩⟩
          rw [get_set] at hq
          split at hq
          · cases hq; exact S.bge d _ _ hd
          · exact S.bge q _ _ hq
        · cases hst
      · cases hst
    · cases hst
  | mem b o =>
    simp only [storeAt] at hst
    split at hst
    · rename_i k hk
      split at hst
      · cases hst
      · rename_i hro
        split at hst
        · rename_i row hrow
          split at hst
          · rename_i row' hrow'
            cases hst
            obtain ⟨r, h1, rfl⟩ := hp
            have B := (S.inv.hr.blk b k r (getC_eq hk).1 h1).blk (getC_eq hk).2
            obtain ⟨cs, T, e1, e2, e3⟩ := B.patched hro hrow hrow' hv hs
            have hmod : o = o / k.k * r.k + o % k.k := by rw [B.k, Nat.mul_comm]; exact (Nat.div_add_mod o k.k).symm
            have hoff : r.off + o / k.k * r.k + o % k.k = r.off + o := by omega
            rw [hoff] at e2 e3
            have hrun := run_storeCells_at P r.blk (r.off + o) T vs 0 cs w e1 (by omega) (hv.one hs)
            rw [Nat.add_zero, setRow_wr e1] at hrun
            exact ⟨_, _, rfl, hrun, ⟨S.inv.write (getC_eq hk).1 h1 hro hro (.of (getC_eq hk).2 e3), S.frr.wrote S.inv.hr h1, S.bge⟩⟩
          · cases hst
        · cases hst
    · cases hst
end Go.Ev
namespace Go.Ev
set_option linter.unusedSectionVars false
variable [Unk]
variable {P : Program} {E : Ent} {A : Asg} {n : Nat} {ok : Path → Prop} {fr : FT} {act : Act} {w : World} {h : H}

def RowsR (s : Path → Option Ref) (k : Nat) (rows : Tr (List AV)) (i m : Nat) (xs : List Value) : Prop :=
  xs.length = m * k ∧ ∀ j, j < m → ∀ row, get (pathOf (i + j)) rows = some row → row.length = k ∧ row.all sc = true ∧ ∀ (q : Nat) a, row[q]? = some a → ∃ x, xs[j * k + q]? = some x ∧ VR s a x
theorem RowsR.mono {s s' : Path → Option Ref} (hm : ∀ p r, s p = some r → s' p = some r) {k : Nat} {rows : Tr (List AV)} {i m : Nat} {xs : List Value} (h : RowsR s k rows i m xs) : RowsR s' k rows i m xs :=
  ⟨h.1, fun j hj row hr => let ⟨h1, h2, h3⟩ := h.2 j hj row hr; ⟨h1, h2, fun q a ha => let ⟨x, hx, hv⟩ := h3 q a ha; ⟨x, hx, VR.mono hm _ _ hv⟩⟩⟩
theorem RowsR.one {s : Path → Option Ref} {k : Nat} {rows : Tr (List AV)} {i m : Nat} {xs : List Value} (h : RowsR s k rows i m xs) (hk : 0 < k) (hp : ∀ j, j < m → (get (pathOf (i + j)) rows).isSome = true) : ∀ v ∈ xs, v.oneCell' = true := by
  intro v hv
  obtain ⟨c, hc, e⟩ := List.getElem_of_mem hv
  have hcm : c < m * k := by rw [← h.1]; exact hc
  have hj : c / k < m := Nat.div_lt_of_lt_mul (by rw [Nat.mul_comm]; exact hcm)
  obtain ⟨row, hrow⟩ := Option.isSome_iff_exists.1 (hp (c / k) hj)
  obtain ⟨h1, h2, h3⟩ := h.2 (c / k) hj row hrow
  have hq : c % k < row.length := by rw [h1]; exact Nat.mod_lt _ hk
  obtain ⟨x, hx, hvr⟩ := h3 (c % k) _ (List.getElem?_eq_getElem hq)
  have hcc : c / k * k + c % k = c := by rw [Nat.mul_comm]; exact Nat.div_add_mod c k
  rw [hcc, List.getElem?_eq_getElem hc, e] at hx
  cases hx
  rw [List.all_eq_true] at h2
  obtain ⟨h4, h5⟩ := hvr.one (h2 _ (List.getElem_mem hq))
  cases v <;> first | rfl | exact absurd rfl (h4 _) | exact absurd rfl (h5 _)
theorem BlkR.seg {s : Path → Option Ref} {b : Blk} {r : Ref} (B : BlkR s w b r) {i m : Nat} (hi : i + m ≤ r.cap) :
    ∃ xs : List Value, (∀ j v, xs[j]? = some v → w.cell? ((⟨r.blk, r.off + i * r.k, none⟩ : Addr).add j) = some v) ∧ RowsR s b.k b.rows i m xs := by
  obtain ⟨cs, T, fz, e1, e2, e3, e4⟩ := B.cells
  have hk := B.k
  have hmul : (i + m) * r.k ≤ r.cap * r.k := Nat.mul_le_mul_right _ hi
  rw [Nat.add_mul] at hmul
  refine ⟨(cs.toList.drop (r.off + i * r.k)).take (m * r.k), fun j v hv => ?_, ?_, fun j hj row hrow => ?_⟩
  · rw [add_none, cell_of_row w r.blk _ cs T fz e1]
    rw [List.getElem?_take] at hv
    split at hv
    · rw [List.getElem?_drop] at hv; simpa using hv
    · cases hv
  · simp only [List.length_take, List.length_drop, Array.length_toList, hk] at *
    omega
  · obtain ⟨h1, h2, h3⟩ := e4 (i + j) row hrow
    refine ⟨h1, h2, fun q a ha => ?_⟩
    obtain ⟨x, hx, hv⟩ := h3 q a ha
    have hq : q < b.k := by rcases Nat.lt_or_ge q row.length with h | h; omega; rw [List.getElem?_eq_none h] at ha; cases ha
    have hjm : (j + 1) * b.k ≤ m * b.k := Nat.mul_le_mul_right _ hj
    rw [Nat.succ_mul] at hjm
    refine ⟨x, ?_, hv⟩
    rw [List.getElem?_take, if_pos (by rw [hk]; omega), List.getElem?_drop]
    rw [show r.off + i * r.k + (j * b.k + q) = r.off + (i + j) * r.k + q by rw [hk, Nat.add_mul]; omega]
    simpa using hx

structure Tail (P : Program) (w : World) (size m : Nat) (x : Value) (news : List Value) : Prop where
  len : ∀ w', (Builtin.lenOf x).run P w' = .ok m w'
  first : ∀ w', w'.heap = w.heap → (Builtin.firstCells size m x).run P w' = .ok news.toArray w'
  size : news.length = m * size
section
variable {t u ty e : TypeId} {i : TypeInfo} {z : Value} (ht : P.underlying t = some (.slice e)) (hu : (∃ e', P.underlying u = some (.slice e')) ∨ P.underlying u = some .string) (hi : P.info? e = some i) (hz : i.zero = some z)
include ht hu hi
theorem run_append_in {base : Option Addr} {sLen sCap m : Nat} {x : Value} {news : List Value} (hx : Tail P w i.size m x news) (hroom : sLen + m ≤ sCap) {w' : World}
    (hst : ∀ a, base = some a → (storeCells (a.add (sLen * i.size)) news).run P w = .ok () w') (hno : base = none → w' = w) :
    (Builtin.append_ #[t, u] ty #[.slice base sLen sCap, x]).run P w = .ok (.slice base (sLen + m) sCap) w' := by
  have hf := hx.first w rfl
  have hl := hx.len
  rcases hu with ⟨e', hu⟩ | hu
  · cases base with
    | none => simp [Builtin.append_, run_underlying ht, run_underlying hu, sizeOf, typeInfo, hi, hl, hroom, hf, hno rfl]
    | some a => simp [Builtin.append_, run_underlying ht, run_underlying hu, sizeOf, typeInfo, hi, hl, hroom, hf, hst a rfl]
  · cases base with
    | none => simp [Builtin.append_, run_underlying ht, run_underlying hu, sizeOf, typeInfo, hi, hl, hroom, hf, hno rfl]
    | some a => simp [Builtin.append_, run_underlying ht, run_underlying hu, sizeOf, typeInfo, hi, hl, hroom, hf, hst a rfl]
include hz
theorem run_append_out {base : Option Addr} {sLen sCap m : Nat} {x : Value} {olds news : List Value} (hx : Tail P w i.size m x news) (ho : ∀ w', w'.heap = w.heap → (Builtin.firstCells i.size sLen (.slice base sLen sCap)).run P w' = .ok olds.toArray w')
    (hroom : sCap < sLen + m) (hmost : sLen + m ≤ 16777216) (hby : i.bytes ≤ 8388608) :
    ∃ cap, sLen + m ≤ cap ∧ (Builtin.append_ #[t, u] ty #[.slice base sLen sCap, x]).run P w =
      .ok (.slice (some ⟨w.heap.size, 0, none⟩) (sLen + m) cap) (more w (.cells (olds ++ news ++ (Builtin.zeroCells z.cells (cap - (sLen + m))).toList).toArray e (0, 0)) (w.drawn + 1)) := by
  refine ⟨grownCap w (sLen + m) sCap e, grownCap_ge _ _ _ _, ?_⟩
  have hn : ¬ (sLen + m ≤ sCap) := by omega
  have h63' : ¬ (9223372036854775807 < ((sLen : Int) + (m : Int))) := by omega
  have hcap := nextslicecap_le hroom
  have h48 : Builtin.nextslicecap (sLen + m) sCap * i.bytes ≤ 2 * 16777216 * 8388608 := Nat.mul_le_mul (by omega) hby
  have h48' : ¬ (281474976710656 < Builtin.nextslicecap (sLen + m) sCap * i.bytes) := by omega
  have hf := hx.first w.drew rfl
  have hl := hx.len
  have hfo := ho w.drew rfl
  rcases hu with ⟨e', hu⟩ | hu
  · simp [Builtin.append_, run_underlying ht, run_underlying hu, sizeOf, typeInfo, zeroValue, hi, hz, hl, hn, h63', h48', Question.forced, hf, hfo, newRow, grownCap, more]
    rw [show ∀ Z : Array Value, olds.toArray ++ (news.toArray ++ Z) = (olds ++ (news ++ Z.toList)).toArray from fun Z => by apply Array.ext'; simp]
    rfl
  · simp [Builtin.append_, run_underlying ht, run_underlying hu, sizeOf, typeInfo, zeroValue, hi, hz, hl, hn, h63', h48', Question.forced, hf, hfo, newRow, grownCap, more]
    rw [show ∀ Z : Array Value, olds.toArray ++ (news.toArray ++ Z) = (olds ++ (news ++ Z.toList)).toArray from fun Z => by apply Array.ext'; simp]
    rfl
end

theorem appended_R {p : Path} (hp : A.s p = none) {k m0 m i0 j0 cap : Nat} (h0 : 0 < k) {src0 src t1 t2 : Tr (List AV)} {olds news zs : List Value} (ho : RowsR A.s k src0 i0 m0 olds) (hn : RowsR A.s k src j0 m news)
    (h1 : ∀ j row, get (pathOf j) t1 = some row → j < m0 ∧ get (pathOf (i0 + j)) src0 = some row) (h2 : copyRows src m j0 m0 t1 = some t2) (hcap : m0 + m ≤ cap) (hzs : zs.length = (cap - (m0 + m)) * k) (T : TypeId) (d : Nat) {ty : Nat} (hty : ty = 0 ∨ ty = T + 1) :
    BlkR (A.withS p ⟨w.heap.size, 0, k, cap⟩).s (more w (.cells (olds ++ news ++ zs).toArray T (0, 0)) d) ⟨k, m0 + m, t2, true, false, false, ty⟩ ⟨w.heap.size, 0, k, cap⟩ where
  k := rfl
  kpos := h0
  cap := hcap
  shut := fun h => (by cases h)
  top := fun j row hj => by
    rw [(get_copyRows src m j0 m0 t1 t2 h2).1 j] at hj
    split at hj
    · simp only; omega
    · have := (h1 j row hj).1; simp only; omega
  ty := hty.imp id fun e => ⟨_, T, (0, 0), more_heap _ _ _, e, rfl, fun h => by cases h⟩
  cells := by
    have hol := ho.1
    have hnl := hn.1
    refine ⟨_, T, (0, 0), more_heap _ _ _, fun _ => rfl, ?_, fun j row hj => ?_⟩
    · simp only [List.size_toArray, List.length_append, hol, hnl, hzs, ← Nat.add_mul]
      rw [show m0 + m + (cap - (m0 + m)) = cap by omega]
      omega
    · rw [(get_copyRows src m j0 m0 t1 t2 h2).1 j] at hj
      split at hj
      · rename_i hjm
        obtain ⟨g1, g2, g3⟩ := hn.2 (j - m0) (by omega) row hj
        refine ⟨g1, g2, fun q a ha => ?_⟩
        obtain ⟨x, hx, hv⟩ := g3 q a ha
        have hq : q < k := by rcases Nat.lt_or_ge q row.length with h | h; omega; rw [List.getElem?_eq_none h] at ha; cases ha
        have hjk : j * k = m0 * k + (j - m0) * k := by rw [← Nat.add_mul]; congr 1; omega
        have hlt : (j - m0 + 1) * k ≤ m * k := Nat.mul_le_mul_right _ (by omega)
        rw [Nat.succ_mul] at hlt
        refine ⟨x, (?_ : (olds ++ news ++ zs).toArray[0 + j * k + q]? = some x), VR.mono (withS_mono hp) _ _ hv⟩
        rw [List.getElem?_toArray, List.getElem?_append_left (by simp; omega), List.getElem?_append_right (by omega)]
        rw [show 0 + j * k + q - olds.length = (j - m0) * k + q by omega]
        exact hx
      · rename_i hjm
        obtain ⟨hj0, hj⟩ := h1 j row hj
        · obtain ⟨g1, g2, g3⟩ := ho.2 j (by omega) row hj
          refine ⟨g1, g2, fun q a ha => ?_⟩
          obtain ⟨x, hx, hv⟩ := g3 q a ha
          have hq : q < k := by rcases Nat.lt_or_ge q row.length with h | h; omega; rw [List.getElem?_eq_none h] at ha; cases ha
          have hlt : (j + 1) * k ≤ m0 * k := Nat.mul_le_mul_right _ (by omega)
          rw [Nat.succ_mul] at hlt
          refine ⟨x, (?_ : (olds ++ news ++ zs).toArray[0 + j * k + q]? = some x), VR.mono (withS_mono hp) _ _ hv⟩
          rw [List.getElem?_toArray, List.append_assoc, List.getElem?_append_left (by omega)]
          rw [show 0 + j * k + q = j * k + q by omega]
          exact hx
theorem written_R {b : Blk} {r : Ref} (B : BlkR A.s w b r) (hro : b.ro = false) {i m j0 : Nat} {src : Tr (List AV)} {news : List Value} (hn : RowsR A.s b.k src j0 m news)
    (hm : i + m ≤ r.cap) : ∃ cs T, w.heap[r.blk]? = some (.cells cs T (0, 0)) ∧ r.off + i * r.k + news.length ≤ cs.size ∧
    ∃ cs' : Array Value, cs'.size = cs.size ∧ cs' = (cs.toList.take (r.off + i * r.k) ++ news ++ cs.toList.drop (r.off + i * r.k + news.length)).toArray ∧
    (∀ j q, q < b.k → j < i ∨ i + m ≤ j → cs'[r.off + j * r.k + q]? = cs[r.off + j * r.k + q]?) ∧ (∀ j q, q < b.k → j < m → cs'[r.off + (i + j) * r.k + q]? = news[j * b.k + q]?) := by
  obtain ⟨cs, T, fz, e1, e2, e3, e4⟩ := B.cells
  have hfz := e2 hro
  subst hfz
  have hk := B.k
  have hnl := hn.1
  have hmul : (i + m) * r.k ≤ r.cap * r.k := Nat.mul_le_mul_right _ hm
  rw [Nat.add_mul] at hmul
  rw [← hk] at hnl
  refine ⟨cs, T, e1, by omega, _, ?_, rfl, fun j q hq hj => ?_, fun j q hq hj => ?_⟩
  · simp only [List.size_toArray, List.length_append, List.length_take, List.length_drop, Array.length_toList]
    omega
  · rcases hj with hj | hj
    · have hlt : (j + 1) * r.k ≤ i * r.k := Nat.mul_le_mul_right _ hj
      rw [Nat.succ_mul] at hlt
      rw [List.getElem?_toArray, List.append_assoc, List.getElem?_append_left (by simp; omega), List.getElem?_take, if_pos (by omega)]
      simp
    · have hlt : (i + m) * r.k ≤ j * r.k := Nat.mul_le_mul_right _ hj
      rw [Nat.add_mul] at hlt
      rw [List.getElem?_toArray, List.getElem?_append_right (by simp; omega), List.getElem?_drop]
      simp only [List.length_append, List.length_take, Array.length_toList]
      rw [show r.off + i * r.k + news.length + (r.off + j * r.k + q - (min (r.off + i * r.k) cs.size + news.length)) = r.off + j * r.k + q by omega]
      simp
  · have hlt : (j + 1) * r.k ≤ m * r.k := Nat.mul_le_mul_right _ hj
    rw [Nat.succ_mul] at hlt
    rw [List.getElem?_toArray, List.append_assoc, List.getElem?_append_right (by simp; rw [Nat.add_mul]; omega), List.getElem?_append_left (by simp; rw [Nat.add_mul]; omega)]
    simp only [List.length_take, Array.length_toList]
    rw [show r.off + (i + j) * r.k + q - min (r.off + i * r.k) cs.size = j * b.k + q by rw [Nat.add_mul, ← hk]; omega]
end Go.Ev
namespace Go.Ev
set_option linter.unusedSectionVars false
variable [Unk]
variable {P : Program} {E : Ent} {A : Asg} {n : Nat} {ok : Path → Prop} {fr : FT} {act : Act} {w : World} {h : H} {tmps : Array Value}

theorem Sta.alloc (S : Sta E A n ok fr h tmps w) {b : Blk} {r : Ref} {o : Obj} {d : Nat} (hr : r.blk = w.heap.size) (hB : ObR (A.withS h.next r).s (more w o d) b r) : Sta E (A.withS h.next r) n ok fr (h.new b) tmps (more w o d) where
  inv := (S.inv.alloc (o := o) hr (ObR.pushed hB (fun _ _ e => e) rfl)).drew d
  frr := S.frr.pushed (withS_mono S.inv.hr.none_next) (fun _ _ e => e) (fun g x hg => heap_push (S.inv.hr.bfresh g x hg).2)
  bge := S.bge
theorem Sta.drop (S : Sta E A n ok fr h tmps w) {p : Path} {r : Ref} (hs : A.s p = some r) (hrw : ∀ b, get p h.t = some b → b.ro = false) : Sta E A n ok fr (h.put p none) tmps w where
  inv := S.inv.drop hs hrw
  frr := S.frr
  bge := S.bge
theorem Sta.grow (S : Sta E A n ok fr h tmps w) {p : Path} {b b' : Blk} {r r' : Ref} {o : Obj} (hp : get p h.t = some b) (hs : A.s p = some r) (hro : b.ro = false) (hblk : r'.blk = r.blk)
    (hB : ObR (A.withS h.next r').s (wr w r.blk o) b' r') : Sta E (A.withS h.next r') n ok fr ((h.put p none).new b') tmps (wr w r.blk o) where
  inv := S.inv.grow hp hs hro hblk hB
  frr := (S.frr.wrote S.inv.hr hs).pushed (withS_mono S.inv.hr.none_next) (fun _ _ e => e) (fun _ _ _ => rfl)
  bge := S.bge
theorem Sta.write (S : Sta E A n ok fr h tmps w) {p : Path} {b b' : Blk} {r : Ref} {o : Obj} (hp : get p h.t = some b) (hs : A.s p = some r) (hro : b.ro = false) (hro' : b'.ro = false) (hB : ObR A.s (wr w r.blk o) b' r) :
    Sta E A n ok fr (h.put p (some b')) tmps (wr w r.blk o) where
  inv := S.inv.write hp hs hro hro' hB
  frr := S.frr.wrote S.inv.hr hs
  bge := S.bge

structure HKept (A : Asg) (h : H) (A' : Asg) (h' : H) : Prop where
  next : num h.next ≤ num h'.next
  ph : ∀ p, num p < num h.next → A.s p = none → A'.s p = none ∧ get p h'.t = get p h.t
theorem HKept.refl (A : Asg) (h : H) : HKept A h A h := ⟨Nat.le_refl _, fun _ _ e => ⟨e, rfl⟩⟩
theorem HKept.put (A : Asg) (h : H) {p : Path} {r : Ref} (hp : A.s p = some r) (b : Option Blk) : HKept A h A (h.put p b) :=
  ⟨Nat.le_refl _, fun q _ e => ⟨e, get_set_other _ _ _ _ (fun e' => by rw [e', hp] at e; cases e)⟩⟩
theorem HKept.new (A : Asg) (h : H) (r : Ref) (b : Blk) : HKept A h (A.withS h.next r) (h.new b) :=
  ⟨by show num h.next ≤ num (inc h.next); rw [num_inc]; omega, fun q hq e => ⟨by
    show (if q = h.next then some r else A.s q) = none
    rw [if_neg (fun e' => by subst e'; omega)]; exact e, get_set_other _ _ _ _ (fun e' => by subst e'; omega)⟩⟩
theorem HKept.trans {A A' A'' : Asg} {h h' h'' : H} (k : HKept A h A' h') (k' : HKept A' h' A'' h'') : HKept A h A'' h'' :=
  ⟨Nat.le_trans k.next k'.next, fun p hp e => by
    obtain ⟨e1, e2⟩ := k.ph p hp e
    obtain ⟨e3, e4⟩ := k'.ph p (Nat.lt_of_lt_of_le hp k.next) e1
    exact ⟨e3, e4.trans e2⟩⟩
theorem HKept.dropNew (A : Asg) (h : H) {p : Path} {q : Ref} (hp : A.s p = some q) (r : Ref) (b : Blk) : HKept A h (A.withS h.next r) ((h.put p none).new b) :=
  (HKept.put A h hp none).trans (HKept.new A (h.put p none) r b)
theorem zeroCells_len (z : Array Value) (m : Nat) : (Builtin.zeroCells z m).toList.length = m * z.size := by
  rw [Array.length_toList, size_zeroCells]
theorem sl_len {p : Path} {k i m c : Nat} (h : lenOf (.sl p k i m) = some c) : m = c := by
  unfold lenOf at h; cases h; rfl

theorem newTy_cases (y0 : Nat) (bl : Blk) (i1 : Nat) : newTy y0 bl i1 = 0 ∨ (newTy y0 bl i1 = bl.ty ∧ newTy y0 bl i1 = y0 ∧ i1 = 0) := by
  unfold newTy
  cases hb : Nat.beq bl.ty y0 with
  | false => exact .inl rfl
  | true =>
    cases i1 with
    | zero => exact .inr ⟨(Nat.eq_of_beq_eq_true hb).symm, rfl, rfl⟩
    | succ m => exact .inl rfl
theorem newTy_or {y0 : Nat} {bl : Blk} {i1 : Nat} {e : Nat} (hy0 : y0 = 0 ∨ y0 = e + 1) : newTy y0 bl i1 = 0 ∨ newTy y0 bl i1 = e + 1 := by
  rcases newTy_cases y0 bl i1 with h | ⟨_, h, _⟩
  · exact .inl h
  · rw [h]; exact hy0
theorem appendRows_R (S : Sta E A n ok fr h tmps w) {t u ty e : TypeId} {i : TypeInfo} {z : Value} (ht : P.underlying t = some (.slice e)) (hu : (∃ e', P.underlying u = some (.slice e')) ∨ P.underlying u = some .string)
    (hi : P.info? e = some i) (hz : i.zero = some z) {k : Nat} (hk : i.size = k) (h0 : 0 < k) (hzk : z.cells.size = k) (hby : i.bytes ≤ 8388608)
    {s a : AV} {m : Nat} {src : Tr (List AV)} {i0 : Nat} {h' : H} {y0 : Nat} (hy0 : y0 = 0 ∨ y0 = e + 1) (hr : appendRows h y0 k s m src i0 = some (a, h')) {c : Nat} (hlen : lenOf a = some c) (hc : c ≤ 16777216)
    {sx x : Value} (hs : VR A.s s sx) {news : List Value} (hx : Tail P w k m x news) (hn : RowsR A.s k src i0 m news) :
    ∃ v w' A', (Builtin.append_ #[t, u] ty #[sx, x]).run P w = .ok v w' ∧ VR A'.s a v ∧ Sta E A' n ok fr h' tmps w' ∧ HKept A h A' h' := by
  subst hk
  unfold appendRows at hr
  split at hr
  · -- nothing ahead
    simp only [VR] at hs; subst hs
    split at hr
    · cases hr
      have hnil : news = [] := List.eq_nil_of_length_eq_zero (by rw [hn.1]; simp)
      exact ⟨_, w, A, run_append_in ht hu hi hx (Nat.zero_le _) (w' := w) (fun a e => by cases e) (fun _ => rfl), by simp [VR], S, .refl A h⟩
    · rename_i hm
      have hm : 0 < m := Nat.pos_of_ne_zero (fun e => hm e)
      split at hr
      · rename_i t' ht'
        cases hr
        have hmc := sl_len hlen
        subst hmc
        obtain ⟨cap, h1, h2⟩ := run_append_out (w := w) (ty := ty) ht hu hi hz (base := none) (sLen := 0) (sCap := 0) (olds := []) hx (fun w' _ => by simp [Builtin.firstCells]) (by omega) (by omega) hby
        have ho : RowsR A.s i.size (.nil : Tr (List AV)) 0 0 [] := ⟨by simp, fun j hj => by omega⟩
        have hB := appended_R (hty := hy0) (w := w) S.inv.hr.none_next h0 (m0 := 0) ho hn (t1 := .nil) (fun j row hj => (by rw [get_nil] at hj; cases hj)) ht' h1 (zs := (Builtin.zeroCells z.cells (cap - (0 + m))).toList) (by rw [zeroCells_len, hzk]) e (w.drawn + 1)
        simp only [Nat.zero_add] at h2 hB h1
        exact ⟨_, _, _, h2, ⟨_, withS_same _ _ _, rfl, by simpa using h1, by simp⟩, S.alloc rfl (.of rfl hB), .new A h _ _⟩
      · cases hr
  · rename_i b kk i1 n1
    obtain ⟨q, hq, hqk, hqc, rfl⟩ := hs
    split at hr
    · rename_i bl hbl
      have B := (S.inv.hr.blk b bl q (getC_eq hbl).1 hq).blk (getC_eq hbl).2
      split at hr
      · cases hr
      · rename_i hro
        split at hr
        · cases hr
        · rename_i hbk
          have hbk := Nat.eq_of_beq_eq_true hbk
          have hqi : q.k = i.size := by rw [B.k, hbk]
          split at hr
          · -- there is room that is ours
            rename_i hroom
            have hroom := Nat.le_of_ble_eq_true hroom
            split at hr
            · rename_i t' ht'
              cases hr
              have hcap : i1 + n1 + m ≤ q.cap := Nat.le_trans hroom B.cap
              rw [← hbk] at hn
              obtain ⟨hcp, hpres⟩ := get_copyRows _ _ _ _ _ _ ht'
              obtain ⟨cs, T, e1, e2, cs', e3, e4, e5, e6⟩ := written_R B hro (i := i1 + n1) hn hcap
              have hst := run_storeCells_at P q.blk (q.off + (i1 + n1) * q.k) T news 0 cs w e1 (by omega) (hn.one B.kpos hpres)
              rw [Nat.add_zero, setRow_wr e1, ← e4] at hst
              have hlt : q.blk < w.heap.size := (Array.getElem?_eq_some_iff.1 e1).1
              refine ⟨_, _, A, run_append_in ht hu hi hx (by omega) (w' := wr w q.blk (.cells cs' T (0, 0))) (fun a ea => ?_) (fun ea => by cases ea), ⟨q, hq, hqi, by omega, by rw [hqi]⟩, S.write (b' := { bl with rows := t' }) (getC_eq hbl).1 hq hro hro (.of (getC_eq hbl).2 ?_), .put A h hq _⟩
              · cases ea
                rw [add_none, show q.off + i1 * q.k + n1 * i.size = q.off + (i1 + n1) * q.k by rw [hqi, Nat.add_mul]; omega]
                exact hst
              · obtain ⟨cs0, T0, fz0, f1, f2, f3, f4⟩ := B.cells
                rw [e1] at f1; cases f1
                refine { k := B.k, kpos := B.kpos, cap := B.cap, shut := B.shut, top := fun j row hj => by
                            have hj : get (pathOf j) t' = some row := hj
                            rw [hcp j] at hj
                            split at hj
                            · simp only; omega
                            · exact B.top _ _ hj
                          , ty := B.ty.imp id fun ⟨cs2, T2, fz2, x1, x2⟩ => ⟨_, T, (0, 0), wr_same hlt, by rw [e1] at x1; cases x1; exact x2.1, x2.2.1, fun hg => by rw [e1] at x1; cases x1; rw [e3]; exact x2.2.2 hg⟩, cells := ⟨cs', T, (0, 0), wr_same hlt, fun _ => rfl, by rw [e3]; exact f3, fun j row hj => ?_⟩ }
                have hj : get (pathOf j) t' = some row := hj
                rw [hcp j] at hj
                split at hj
                · rename_i hjm
                  obtain ⟨g1, g2, g3⟩ := hn.2 (j - (i1 + n1)) (by omega) row hj
                  refine ⟨g1, g2, fun p a ha => ?_⟩
                  obtain ⟨x, hx, hv⟩ := g3 p a ha
                  have hp : p < bl.k := by rcases Nat.lt_or_ge p row.length with h | h; omega; rw [List.getElem?_eq_none h] at ha; cases ha
                  refine ⟨x, ?_, hv⟩
                  have := e6 (j - (i1 + n1)) p hp (by omega)
                  rw [show i1 + n1 + (j - (i1 + n1)) = j by omega] at this
                  rw [this]; exact hx
                · rename_i hjm
                  obtain ⟨g1, g2, g3⟩ := f4 j row hj
                  refine ⟨g1, g2, fun p a ha => ?_⟩
                  obtain ⟨x, hx, hv⟩ := g3 p a ha
                  have hp : p < bl.k := by rcases Nat.lt_or_ge p row.length with h | h; omega; rw [List.getElem?_eq_none h] at ha; cases ha
                  exact ⟨x, by rw [e5 j p hp (by omega)]; exact hx, hv⟩
            · cases hr
          · rename_i hroom
            have hroom : ¬ (i1 + n1 + m ≤ bl.n) := fun h => by rw [Nat.ble_eq_true_of_le h] at hroom; cases hroom
            split at hr
            · rename_i hend
              have hend := Nat.eq_of_beq_eq_true hend
              split at hr
              · rename_i t1 ht1
                split at hr
                · rename_i t2 ht2
                  cases hr
                  have hmc := sl_len hlen
                  have hcp1 : ∀ j row, get (pathOf j) t1 = some row → j < n1 ∧ get (pathOf (i1 + j)) bl.rows = some row := by
                    intro j row hj
                    unfold oldRows at ht1
                    split at ht1
                    · cases ht1
                      have := B.top j row hj
                      exact ⟨by omega, by simpa using hj⟩
                    · rw [(get_copyRows _ _ _ _ _ _ ht1).1 j] at hj
                      split at hj
                      · rename_i hjm; exact ⟨by omega, by simpa using hj⟩
                      · rw [get_nil] at hj; cases hj
                  obtain ⟨hcp2, hpres2⟩ := get_copyRows _ _ _ _ _ _ ht2
                  by_cases hcr : n1 + m ≤ q.cap - i1
                  · -- the row goes on where it lies
                    have hgr : bl.grows = true := by
                      cases hg : bl.grows with
                      | true => rfl
                      | false => have := B.shut hg; omega
                    rw [hgr]
                    simp only
                    have hn' := hn
                    rw [← hbk] at hn'
                    obtain ⟨cs, T, e1, e2, cs', e3, e4, e5, e6⟩ := written_R B hro (i := i1 + n1) hn' (by omega)
                    have hst := run_storeCells_at P q.blk (q.off + (i1 + n1) * q.k) T news 0 cs w e1 (by omega) (hn'.one B.kpos hpres2)
                    rw [Nat.add_zero, setRow_wr e1, ← e4] at hst
                    have hlt : q.blk < w.heap.size := (Array.getElem?_eq_some_iff.1 e1).1
                    refine ⟨_, _, A.withS h.next ⟨q.blk, q.off + i1 * q.k, i.size, q.cap - i1⟩, run_append_in ht hu hi hx hcr (w' := wr w q.blk (.cells cs' T (0, 0))) (fun a ea => ?_) (fun ea => by cases ea),
                      ⟨_, withS_same _ _ _, rfl, by simp only; omega, by simp⟩, S.grow (b' := ⟨i.size, n1 + m, t2, true, false, false, newTy y0 bl i1⟩) (getC_eq hbl).1 hq hro rfl (.of rfl ?_), .dropNew A h hq _ _⟩
                    · cases ea
                      rw [add_none, show q.off + i1 * q.k + n1 * i.size = q.off + (i1 + n1) * q.k by rw [hqi, Nat.add_mul]; omega]
                      exact hst
                    · obtain ⟨cs0, T0, fz0, f1, f2, f3, f4⟩ := B.cells
                      rw [e1] at f1; cases f1
                      have hm := withS_mono (r := ⟨q.blk, q.off + i1 * q.k, i.size, q.cap - i1⟩) S.inv.hr.none_next
                      have hoff : ∀ j p, q.off + i1 * q.k + j * i.size + p = q.off + (i1 + j) * q.k + p := fun j p => by rw [hqi, Nat.add_mul]; omega
                      refine { k := rfl, kpos := h0, cap := by simp only; omega, shut := fun hg => (by cases hg), top := fun j row hj => by
                                  have hj : get (pathOf j) t2 = some row := hj
                                  rw [hcp2 j] at hj
                                  split at hj
                                  · simp only; omega
                                  · have := (hcp1 j row hj).1; simp only; omega
                                , ty := by
                                  rcases newTy_cases y0 bl i1 with h | ⟨h, _, hi⟩
                                  · exact .inl h
                                  · rcases B.ty with h0 | ⟨cs2, T2, fz2, x1, x2, x3, x4⟩
                                    · exact .inl (h.trans h0)
                                    · rw [e1] at x1; cases x1
                                      exact .inr ⟨_, T, (0, 0), wr_same hlt, h.trans x2, by show q.off + i1 * q.k = 0; rw [x3, hi]; simp, fun h => by cases h⟩
                                , cells := ⟨cs', T, (0, 0), wr_same hlt, fun _ => rfl, ?_, fun j row hj => ?_⟩ }
                      · rw [e3]
                        have : (i1 + (q.cap - i1)) * q.k = q.cap * q.k := by congr 1; omega
                        rw [Nat.add_mul] at this
                        simp only
                        rw [← hqi]
                        omega
                      · have hj : get (pathOf j) t2 = some row := hj
                        rw [hcp2 j] at hj
                        split at hj
                        · rename_i hjm
                          obtain ⟨g1, g2, g3⟩ := hn.2 (j - n1) (by omega) row hj
                          refine ⟨g1, g2, fun p a ha => ?_⟩
                          obtain ⟨x, hx, hv⟩ := g3 p a ha
                          have hp : p < bl.k := by rcases Nat.lt_or_ge p row.length with h | h; omega; rw [List.getElem?_eq_none h] at ha; cases ha
                          refine ⟨x, ?_, VR.mono hm _ _ hv⟩
                          have := e6 (j - n1) p hp (by omega)
                          rw [show i1 + n1 + (j - n1) = i1 + j by omega, ← hoff, hbk] at this
                          exact this.trans hx
                        · rename_i hjm
                          obtain ⟨hj0, hj⟩ := hcp1 j row hj
                          · obtain ⟨g1, g2, g3⟩ := f4 (i1 + j) row hj
                            refine ⟨by rw [g1, hbk], g2, fun p a ha => ?_⟩
                            obtain ⟨x, hx, hv⟩ := g3 p a ha
                            have hp : p < bl.k := by rcases Nat.lt_or_ge p row.length with h | h; omega; rw [List.getElem?_eq_none h] at ha; cases ha
                            refine ⟨x, ?_, VR.mono hm _ _ hv⟩
                            have := e5 (i1 + j) p hp (by omega)
                            rw [← hoff] at this
                            rw [← hoff] at hx
                            exact this.trans hx
                  · -- a new block
                    obtain ⟨olds, g1, g2⟩ := B.seg (i := i1) (m := n1) hqc
                    rw [hbk] at g2
                    have holds : ∀ w', w'.heap = w.heap → (Builtin.firstCells i.size n1 (.slice (some ⟨q.blk, q.off + i1 * q.k, none⟩) n1 (q.cap - i1))).run P w' = .ok olds.toArray w' := fun w' ew =>
                      run_firstCells_some (P := P) w' i.size n1 _ n1 _ olds g2.1 (fun j v hv => (World.cell?_of_block (w := w) (w' := w') (by rw [ew])).trans (g1 j v hv))
                    obtain ⟨cap, h1, h2⟩ := run_append_out (w := w) (ty := ty) ht hu hi hz (base := some ⟨q.blk, q.off + i1 * q.k, none⟩) (sLen := n1) (sCap := q.cap - i1) (olds := olds) hx holds (by omega) (by omega) hby
                    have hB := appended_R (hty := newTy_or (bl := bl) (i1 := i1) hy0) (w := w) S.inv.hr.none_next h0 (m0 := n1) g2 hn hcp1 ht2 h1 (zs := (Builtin.zeroCells z.cells (cap - (n1 + m))).toList) (by rw [zeroCells_len, hzk]) e (w.drawn + 1)
                    refine ⟨_, _, A.withS h.next ⟨w.heap.size, 0, i.size, cap⟩, h2, ⟨_, withS_same _ _ _, rfl, by simpa using h1, by simp⟩, ?_⟩
                    split
                    · exact ⟨(S.drop hq (fun b' hb' => by rw [(getC_eq hbl).1] at hb'; cases hb'; exact hro)).alloc rfl hB, .dropNew A h hq _ _⟩
                    · exact ⟨S.alloc rfl (.of rfl hB), .new A h _ _⟩
                · cases hr
              · cases hr
            · cases hr
    · cases hr
  · cases hr
theorem run_copy_some {t u ty e : TypeId} {i : TypeInfo} (ht : P.underlying t = some (.slice e)) (hi : P.info? e = some i) {a : Addr} {dLen dCap m : Nat} {x : Value} {news : List Value} {w w' : World} (hl : ∀ w', (Builtin.lenOf x).run P w' = .ok m w')
    (hf : (Builtin.firstCells i.size (Nat.min m dLen) x).run P w = .ok news.toArray w) (hst : (storeCells a news).run P w = .ok () w') :
    (Builtin.copy_ #[t, u] ty #[.slice (some a) dLen dCap, x]).run P w = .ok (.int .i64 ((Nat.min m dLen : Nat) : Int)) w' := by
  simp [Builtin.copy_, run_underlying ht, sizeOf, typeInfo, hi, hl, hf, hst, goInt]
theorem copyV_R (S : Sta E A n ok fr h tmps w) {t u ty e : TypeId} {i : TypeInfo} (ht : P.underlying t = some (.slice e)) (hi : P.info? e = some i) {k : Nat} (hk : i.size = k)
    {d x : AV} {m : Nat} {h' : H} (hr : copyV h k d x = some (m, h')) {dx sx : Value} (hd : VR A.s d dx) (hs : VR A.s x sx) :
    ∃ w', (Builtin.copy_ #[t, u] ty #[dx, sx]).run P w = .ok (.int .i64 (m : Int)) w' ∧ Sta E A n ok fr h' tmps w' ∧ HKept A h A h' := by
  subst hk
  unfold copyV at hr
  split at hr
  · rename_i b kd i1 n1
    obtain ⟨q, hq, hqk, hqc, rfl⟩ := hd
    have none_ : ∀ {sx : Value}, (sx = .slice none 0 0 ∨ ∃ a c, sx = .slice (some a) 0 c) → m = 0 → h' = h → ∃ w', (Builtin.copy_ #[t, u] ty #[.slice (some ⟨q.blk, q.off + i1 * q.k, none⟩) n1 (q.cap - i1), sx]).run P w = .ok (.int .i64 (m : Int)) w' ∧ Sta E A n ok fr h' tmps w' ∧ HKept A h A h' := by
      intro sx hx hm hh
      subst hm hh
      refine ⟨w, ?_, S, .refl A _⟩
      have h0 : Nat.min 0 n1 = 0 := Nat.zero_min n1
      have := run_copy_some (ty := ty) (u := u) ht hi (a := ⟨q.blk, q.off + i1 * q.k, none⟩) (dLen := n1) (dCap := q.cap - i1) (m := 0) (x := sx) (news := []) (w := w) (w' := w)
        (fun w' => by rcases hx with rfl | ⟨a, c, rfl⟩ <;> simp [Builtin.lenOf]) (by rw [h0]; rcases hx with rfl | ⟨a, c, rfl⟩ <;> simp [Builtin.firstCells, loadCells, loadCellsFrom]) (by simp [storeCells])
      rw [h0] at this
      exact this
    split at hr
    · rename_i c ks j1 m1
      obtain ⟨q2, hq2, hqk2, hqc2, rfl⟩ := hs
      split at hr
      · rename_i bl hbl
        split at hr
        · rename_i cl hcl
          have B := (S.inv.hr.blk b bl q (getC_eq hbl).1 hq).blk (getC_eq hbl).2
          have B2 := (S.inv.hr.blk c cl q2 (getC_eq hcl).1 hq2).blk (getC_eq hcl).2
          split at hr
          · rename_i hro hbk hck hroom
            have hbk := Nat.eq_of_beq_eq_true hbk
            have hck := Nat.eq_of_beq_eq_true hck
            have hroom := Nat.le_of_ble_eq_true hroom
            split at hr
            · rename_i t' ht'
              cases hr
              have hqi : q.k = i.size := by rw [B.k, hbk]
              have hl1 : Nat.min m1 n1 ≤ m1 := Nat.min_le_left _ _
              have hl2 : Nat.min m1 n1 ≤ n1 := Nat.min_le_right _ _
              obtain ⟨news, g1, g2⟩ := B2.seg (i := j1) (m := Nat.min m1 n1) (by omega)
              rw [hck, ← hbk] at g2
              have hcap : i1 + Nat.min m1 n1 ≤ q.cap := by have := B.cap; omega
              obtain ⟨hcp, hpres⟩ := get_copyRows _ _ _ _ _ _ ht'
              obtain ⟨cs, T, e1, e2, cs', e3, e4, e5, e6⟩ := written_R B hro (i := i1) g2 hcap
              have hst := run_storeCells_at P q.blk (q.off + i1 * q.k) T news 0 cs w e1 (by omega) (g2.one B.kpos hpres)
              rw [Nat.add_zero, setRow_wr e1, ← e4] at hst
              have hlt : q.blk < w.heap.size := (Array.getElem?_eq_some_iff.1 e1).1
              refine ⟨wr w q.blk (.cells cs' T (0, 0)), run_copy_some ht hi (fun w' => by simp [Builtin.lenOf]) (run_firstCells_some (P := P) w i.size _ _ m1 _ news (by rw [g2.1, hbk]) g1) hst, S.write (b' := ⟨bl.k, bl.n, t', bl.grows, bl.ro, bl.map, bl.ty⟩) (getC_eq hbl).1 hq hro hro (.of (getC_eq hbl).2 ?_), .put A h hq _⟩
              obtain ⟨cs0, T0, fz0, f1, f2, f3, f4⟩ := B.cells
              rw [e1] at f1; cases f1
              refine { k := B.k, kpos := B.kpos, cap := B.cap, shut := B.shut, top := fun j row hj => by
                          have hj : get (pathOf j) t' = some row := hj
                          rw [hcp j] at hj
                          split at hj
                          · simp only; omega
                          · exact B.top _ _ hj
                        , ty := B.ty.imp id fun ⟨cs2, T2, fz2, x1, x2⟩ => ⟨_, T, (0, 0), wr_same hlt, by rw [e1] at x1; cases x1; exact x2.1, x2.2.1, fun hg => by rw [e1] at x1; cases x1; rw [e3]; exact x2.2.2 hg⟩, cells := ⟨cs', T, (0, 0), wr_same hlt, fun _ => rfl, by rw [e3]; exact f3, fun j row hj => ?_⟩ }
              have hj : get (pathOf j) t' = some row := hj
              rw [hcp j] at hj
              split at hj
              · rename_i hjm
                obtain ⟨r1, r2, r3⟩ := g2.2 (j - i1) (by omega) row hj
                refine ⟨r1, r2, fun p a ha => ?_⟩
                obtain ⟨x, hx, hv⟩ := r3 p a ha
                have hp : p < bl.k := by rcases Nat.lt_or_ge p row.length with h | h; omega; rw [List.getElem?_eq_none h] at ha; cases ha
                refine ⟨x, ?_, hv⟩
                have := e6 (j - i1) p hp (by omega)
                rw [show i1 + (j - i1) = j by omega] at this
                rw [this]; exact hx
              · rename_i hjm
                obtain ⟨r1, r2, r3⟩ := f4 j row hj
                refine ⟨r1, r2, fun p a ha => ?_⟩
                obtain ⟨x, hx, hv⟩ := r3 p a ha
                have hp : p < bl.k := by rcases Nat.lt_or_ge p row.length with h | h; omega; rw [List.getElem?_eq_none h] at ha; cases ha
                exact ⟨x, by rw [e5 j p hp (by omega)]; exact hx, hv⟩
            · cases hr
          · cases hr
        · cases hr
      · cases hr
    · cases hr
      simp only [VR] at hs
      exact none_ (.inr hs) rfl rfl
    · cases hr
      simp only [VR] at hs
      exact none_ (.inl hs) rfl rfl
    · cases hr
  · cases hr
end Go.Ev
namespace Go.Ev
set_option linter.unusedSectionVars false
variable [Unk]
variable {P : Program} {E : Ent} {A : Asg} {n : Nat} {ok : Path → Prop} {fr : FT} {act : Act} {w : World} {h : H}

theorem keyEq_same {s : Path → Option Ref} {k : KT} {a b : AV} {x y : Value} (hk : isKey k a = true) (hx : VR s a x) (hy : VR s b y) (h : keyEq a b = some true) : y = x ∧ Instr.sameBits 10000 x x = true := by
  cases k <;> cases a <;> simp only [isKey] at hk <;> first | cases hk | skip
  all_goals (cases b <;> simp only [keyEq] at h <;> first | cases h | skip)
  all_goals (simp only [VR] at hx hy; subst hx; subst hy)
  · split at h
    · rename_i he
      simp only [Option.some.injEq, ieq_iff, decide_eq_true_eq] at h
      have he := keq_eq he
      subst he; subst h
      exact ⟨rfl, by simp [Instr.sameBits]⟩
    · cases h
  · rename_i c d
    simp only [Option.some.injEq] at h
    have := str_eq h
    subst this
    exact ⟨rfl, by simp [Instr.sameBits, Go.MapKept.bytes_beq]⟩
  · rename_i c d
    cases c <;> cases d <;> simp at h <;> exact ⟨rfl, by simp [Instr.sameBits]⟩
theorem modify_get {es : Array MapEntry} {j : Nat} {f : MapEntry → MapEntry} {i : Nat} {e : MapEntry} (h : (es.modify j f)[i]? = some e) : (i = j ∧ ∃ e0, es[j]? = some e0 ∧ e = f e0) ∨ (i ≠ j ∧ es[i]? = some e) := by
  rw [Array.getElem?_modify] at h
  split at h
  · rename_i hij
    subst hij
    cases he : es[j]? with
    | none => rw [he] at h; cases h
    | some e0 => rw [he] at h; cases h; exact .inl ⟨rfl, e0, rfl, rfl⟩
  · rename_i hij; exact .inr ⟨fun e => hij e.symm, h⟩
theorem insert_R (S : Sta E A n ok fr h act.tmps w) {t kt et : TypeId} {kk : KT} {m k v : Operand} (hm : OkO ok m) (hk : OkO ok k) (hv : OkO ok v) (hu : P.underlying t = some (.map kt et)) (hkt : keyT P kt = some kk) {fr' : FT} {h' : H}
    (e : hInsert kk (rd m) (rd k) (rd v) fr h = .next fr' h') : ∃ w', (Instr.mapUpdate t (act.eval m) (act.eval k) (act.eval v)).run P w = .ok () w' ∧ fr' = fr ∧ Sta E A n ok fr h' act.tmps w' ∧ HKept A h A h' := by
  unfold hInsert at e
  have hund := run_underlying (w := w) hu
  split at e
  · rename_i p hp
    obtain ⟨r, hr1, h1⟩ := gv_VR S.frr hm hp
    split at e
    · rename_i b hb
      obtain ⟨hb1, hb2⟩ := mapAt_eq hb
      have M := (S.inv.hr.blk p b r hb1 hr1).mapR hb2
      obtain ⟨es, clock, e1, e2, e3⟩ := M.map
      have hg := Go.MapKept.run_getObj_map (P := P) e1
      have hlt : r.blk < w.heap.size := (Array.getElem?_eq_some_iff.1 e1).1
      split at e
      · rename_i ka hka
        have hkv := gv_VR S.frr hk hka
        split at e
        · rename_i hik
          have hkd := isKey_R hik hkv
          have hck := fun e n => Go.MapKept.run_checkKey (P := P) (w := w) (keyT_eq hkt) hkd e n
          split at e
          · rename_i va hva
            have hvv := gv_VR S.frr hv hva
            split at e
            · rename_i j va0 hf
              cases e
              obtain ⟨e0, g1, g2, g3, ka0, g4, g5⟩ := findRow_R hik hkv e3 b.n 0 _ (by omega) hf
              rw [List.drop_zero] at g2
              have hf := Go.MapKept.run_findKey (P := P) (w := w) (keyT_eq hkt) g2
              obtain ⟨g6, g7⟩ := keyEq_same hik hkv g5 g4
              have hso := Go.MapKept.run_setObj_map (P := P) (.map (es.modify j fun e => { e with key := act.eval k, val := act.eval v }) clock) e1
              refine ⟨wr w r.blk (.map (es.modify j fun e => { e with key := act.eval k, val := act.eval v }) clock), ?_, rfl, ?_, .put A h hr1 _⟩
              · simp only [Instr.mapUpdate, Sem.run_bind, hund, Result.andThen_ok, h1, hg, hck, hf, g1, Option.map_some, Option.getD_some, g6, Instr.keyThatStays, g7, if_true, Sem.run_pure]
                exact hso
              · refine S.write hb1 hr1 M.ro M.ro (.ofMap hb2 ⟨M.ro, _, _, wr_same hlt, by rw [Array.size_modify]; exact e2, fun i x hx => ?_⟩)
                rcases modify_get hx with ⟨rfl, e0', _, rfl⟩ | ⟨hij, hx'⟩
                · exact ⟨ka, va, by show get _ (set _ _ _) = _; rw [get_set, if_pos rfl], hkv, hvv⟩
                · obtain ⟨ka', va', q1, q2, q3⟩ := e3 i x hx'
                  exact ⟨ka', va', by show get _ (set _ _ _) = _; rw [get_set, if_neg (fun e => hij (pathOf_inj e))]; exact q1, q2, q3⟩
            · rename_i hf
              cases e
              have g2 := findRow_R hik hkv e3 b.n 0 _ (by omega) hf
              rw [List.drop_zero] at g2
              have hf := Go.MapKept.run_findKey (P := P) (w := w) (keyT_eq hkt) g2
              have hso := Go.MapKept.run_setObj_map (P := P) (.map (es.push { key := act.eval k, val := act.eval v, born := clock }) (clock + 1)) e1
              refine ⟨wr w r.blk (.map (es.push { key := act.eval k, val := act.eval v, born := clock }) (clock + 1)), ?_, rfl, ?_, .put A h hr1 _⟩
              · simp only [Instr.mapUpdate, Sem.run_bind, hund, Result.andThen_ok, h1, hg, hck, hf]
                exact hso
              · refine S.write (b' := { b with n := b.n + 1, rows := set (pathOf b.n) (some [ka, va]) b.rows }) hb1 hr1 M.ro M.ro (.ofMap hb2 ⟨M.ro, _, _, wr_same hlt, by rw [Array.size_push]; simp only; omega, fun i x hx => ?_⟩)
                rw [Array.getElem?_push] at hx
                split at hx
                · rename_i hi
                  cases hx
                  exact ⟨ka, va, by show get _ (set _ _ _) = _; rw [get_set, if_pos (by rw [hi, e2])], hkv, hvv⟩
                · rename_i hi
                  obtain ⟨ka', va', q1, q2, q3⟩ := e3 i x hx
                  have hilt : i < es.size := (Array.getElem?_eq_some_iff.1 hx).1
                  exact ⟨ka', va', by show get _ (set _ _ _) = _; rw [get_set, if_neg (fun e => by have := pathOf_inj e; omega)]; exact q1, q2, q3⟩
            · cases e
          · cases e
        · cases e
      · cases e
    · cases e
  · cases e
end Go.Ev
namespace Go.Ev
set_option linter.unusedSectionVars false
variable [Unk]
variable {P : Program} {E : Ent} {A : Asg} {n : Nat} {ok : Path → Prop} {fr : FT} {act : Act} {w : World} {h : H}

def DstOk (n : Nat) (o : Oper) : Prop := ∀ d, o.dst = some d → d < n
theorem put_tmps (a : Act) (v : Value) : ∀ d : Option Tmp, (a.put d v).tmps = match d with | some d => a.tmps.setIfInBounds d v | none => a.tmps
  | none => rfl
  | some _ => rfl
theorem put_defers (a : Act) (v : Value) : ∀ d : Option Tmp, (a.put d v).defers = a.defers
  | none => rfl
  | some _ => rfl
theorem Sta.put (S : Sta E A n ok fr h act.tmps w) {o : Oper} (hd : DstOk n o) {s : Sl} {v : Value} (hs : SlR A w s v) (hb : ∀ g l, s ≠ .box g l) : Sta E A n ok (pt (dst? o) (some s) fr) h (act.put o.dst v).tmps w := by
  rw [put_tmps]
  unfold dst?
  cases hdst : o.dst with
  | none => exact S
  | some d =>
    refine ⟨S.inv, S.frr.put (hd d hdst) hs hb, fun p g l hp => ?_⟩
    have hp : get p (set (pathOf d) (some s) fr) = some (.box g l) := hp
    rw [get_set] at hp
    split at hp
    · cases hp; exact absurd rfl (hb g l)
    · exact S.bge p g l hp
def sh : Option Sl → Option Sl
  | some (.box g _) => some (.box g [])
  | s => s
def FKept (fr fr' : FT) (d : Option Path) : Prop := ∀ p, d ≠ some p → sh (get p fr') = sh (get p fr)
theorem FKept.pt (fr : FT) (d : Option Path) (s : Option Sl) : FKept fr (Go.Ev.pt d s fr) d := fun p hp => by
  cases d with
  | none => rfl
  | some d => exact congrArg sh (get_set_other _ _ _ _ (fun e => hp (by rw [e])))
theorem FKept.refl (fr : FT) (d : Option Path) : FKept fr fr d := fun _ _ => rfl
def Done (P : Program) (E : Ent) (A : Asg) (n : Nat) (ok : Path → Prop) (act : Act) (w : World) (o : Oper) (fr : FT) (h : H) (fr' : FT) (h' : H) : Prop :=
  ∃ A' w' v, ((execOp act.eval o).run P w = .ok (.value v) w' ∨ ((execOp act.eval o).run P w = .ok .skip w' ∧ v = undef)) ∧ Sta E A' n ok fr' h' (act.put o.dst v).tmps w' ∧ HKept A h A' h' ∧ FKept fr fr' (dst? o)
theorem Does.done {o : Oper} {s : Sl} (D : Does P A act w o s) (S : Sta E A n ok fr h act.tmps w) (hd : DstOk n o) : Done P E A n ok act w o fr h (pt (dst? o) (some s) fr) h := by
  obtain ⟨v, h1, h2, h3⟩ := D
  exact ⟨A, w, v, .inl h1, S.put hd h2 h3, .refl A h, .pt _ _ _⟩
theorem Makes.done {o : Oper} {b : Blk} {m : Option Nat} (M : Makes P A act w o h.next b m) (S : Sta E A n ok fr h act.tmps w) (hd : DstOk n o) : Done P E A n ok act w o fr h (pt (dst? o) (some (newS h.next b.k m)) fr) (h.new b) := by
  obtain ⟨v, ob, k, r, h1, h2, h3, h4⟩ := M
  refine ⟨A.withS h.next r, more w ob k, v, .inl h1, (S.alloc h2 h3).put hd ?_ ?_, .new A h _ _, .pt _ _ _⟩
  · cases m with
    | none => exact h4
    | some m => exact h4
  · intro g l
    cases m <;> simp [newS]
theorem Sta.box (S : Sta E A n ok fr h act.tmps w) {d : Nat} (hd : d < n) (hk : ok (pathOf d)) {l : List AV} {cs : Array Value} {T : TypeId} (hl : VRs A.s l cs.toList) (hs : l.all sc = true) :
    Sta E (A.withB h.gen w.heap.size) n ok (set (pathOf d) (some (.box h.gen l)) fr) ⟨h.next, h.t, h.gen + 1⟩ (act.put (some d) (.pointer (some ⟨w.heap.size, 0, none⟩))).tmps { w with heap := w.heap.push (.cells cs T (0, 0)) } where
  inv := S.inv.allocB _
  frr := S.frr.putB S.inv.hr hd hk hl hs
  bge := fun p g l' hp => by
    rw [get_set] at hp
    split at hp
    · cases hp; exact S.inv.gen
    · exact S.bge p g l' hp

theorem tail_nil {x : Value} {size : Nat} (hx : x = .slice none 0 0 ∨ ∃ a c, x = .slice (some a) 0 c) : Tail P w size 0 x [] := by
  rcases hx with rfl | ⟨a, c, rfl⟩
  · exact ⟨fun w' => by simp [Builtin.lenOf], fun w' _ => by simp [Builtin.firstCells], by simp⟩
  · exact ⟨fun w' => by simp [Builtin.lenOf], fun w' _ => by simp [Builtin.firstCells, loadCells, loadCellsFrom], by simp⟩
theorem apOut_next {d : Option Path} {fr fr' : FT} {h' : H} {r : Option (AV × H)} (e : apOut d fr r = .next fr' h') : ∃ a c, r = some (a, h') ∧ lenOf a = some c ∧ c ≤ 16777216 ∧ fr' = pt d (some (.v a)) fr := by
  unfold apOut at e
  split at e
  · split at e
    · split at e
      · rename_i hm; cases e; exact ⟨_, _, rfl, by assumption, Nat.le_of_ble_eq_true hm, rfl⟩
      · cases e
    · cases e
  · cases e
theorem append_done (S : Sta E A n ok fr h act.tmps w) {o : Oper} (hd : DstOk n o) {t u e : TypeId} {s x : Operand} (ho : o.op = .call ⟨.builtin .append, #[s, x], #[t, u]⟩)
    (ht : P.underlying t = some (.slice e)) (hu : (∃ e', P.underlying u = some (.slice e')) ∨ P.underlying u = some .string) {k : Nat} {z : List AV} (hel : elT P e = some (k, z))
    {sa a : AV} (hs : VR A.s sa (act.eval s)) {m : Nat} {src : Tr (List AV)} {i0 : Nat} {h' : H} (hr : appendRows h (e + 1) k sa m src i0 = some (a, h')) {c : Nat} (hlen : lenOf a = some c) (hc : c ≤ 16777216)
    {news : List Value} (hx : Tail P w k m (act.eval x) news) (hn : RowsR A.s k src i0 m news) : Done P E A n ok act w o fr h (pt (dst? o) (some (.v a)) fr) h' := by
  obtain ⟨i, v, hi, hzv, hsz, h0, hzl, hvs, hby, hzr, hzs⟩ := elT_eq hel
  obtain ⟨v', w', A', h1, h2, h3, h4⟩ := appendRows_R (ty := o.type) S ht hu hi hzv hsz h0 hvs hby (.inr rfl) hr hlen hc hs hx hn
  refine ⟨A', w', v', .inl ?_, h3.put hd (s := .v a) h2 (fun _ _ => by simp), h4, .pt _ _ _⟩
  simp only [execOp, ho, resolve, invoke, builtin, Sem.run_bind, Sem.run_pure, Result.andThen_ok, List.map_toArray, List.map_cons, List.map_nil, h1]

theorem copy_done (S : Sta E A n ok fr h act.tmps w) {o : Oper} (hd : DstOk n o) {t u e : TypeId} {s x : Operand} (ho : o.op = .call ⟨.builtin .copy, #[s, x], #[t, u]⟩)
    (ht : P.underlying t = some (.slice e)) {k : Nat} {z : List AV} (hel : elT P e = some (k, z)) {sa xa : AV} (hs : VR A.s sa (act.eval s)) (hx : VR A.s xa (act.eval x)) {m : Nat} {h' : H} (hr : copyV h k sa xa = some (m, h')) :
    Done P E A n ok act w o fr h (pt (dst? o) (some (.v (.int .i64 (.ofNat m)))) fr) h' := by
  obtain ⟨i, v, hi, hzv, hsz, h0, hzl, hvs, hby, hzr, hzs⟩ := elT_eq hel
  obtain ⟨w', h1, h3, h4⟩ := copyV_R (ty := o.type) (u := u) S ht hi hsz hr hs hx
  refine ⟨A, w', .int .i64 (m : Int), .inl ?_, h3.put hd (s := .v (.int .i64 (.ofNat m))) (show VR A.s (.int .i64 (.ofNat m)) (.int .i64 (m : Int)) from rfl) (fun _ _ => by simp), h4, .pt _ _ _⟩
  simp only [execOp, ho, resolve, invoke, builtin, Sem.run_bind, Sem.run_pure, Result.andThen_ok, List.map_toArray, List.map_cons, List.map_nil, h1]

theorem store_R' (S : Sta E A n ok fr h act.tmps w) {x : Value} {p : Place} (hp : PlR A x p) {c : List AV} {vs : List Value} (hv : VRs A.s c vs) (hs : c.all sc = true) {fr' : FT} {h' : H} (hst : storeAt fr h p c = some (fr', h')) :
    ∃ ad w', x = .pointer (some ad) ∧ (storeCells ad vs).run P w = .ok () w' ∧ Sta E A n ok fr' h' act.tmps w' ∧ HKept A h A h' ∧ ∀ p, sh (get p fr') = sh (get p fr) := by
  obtain ⟨ad, w', h1, h2, h3⟩ := store_R (P := P) S hp hv hs hst
  refine ⟨ad, w', h1, h2, h3, ?_⟩
  cases p with
  | loc d g o =>
    simp only [storeAt] at hst
    split at hst
    · rename_i g' l hd
      split at hst
      · split at hst
        · cases hst
          refine ⟨.refl A h, fun p => ?_⟩
          rw [get_set]
          split
          · rename_i e; rw [e, hd]; rfl
          · rfl
        · cases hst
      · cases hst
    · cases hst
  | mem b o =>
    simp only [storeAt] at hst
    split at hst
    · split at hst
      · cases hst
      · split at hst
        · split at hst
          · cases hst
            obtain ⟨r, h4, _⟩ := hp
            exact ⟨.put A h h4 _, fun _ => rfl⟩
          · cases hst
        · cases hst
    · cases hst
theorem eff_next {loc : List Tmp} {o : Oper} {run : FT → H → OpOut} (hc : comp P loc o = some (.eff run)) (S : Sta E A n ok fr h act.tmps w) (hok : ∀ x ∈ o.op.operands, OkO ok x) (hd : DstOk n o)
    (hk : ∀ d, o.dst = some d → ok (pathOf d)) {fr' : FT} {h' : H} (hv : run fr h = .next fr' h') : Done P E A n ok act w o fr h fr' h' := by
  obtain ⟨dst, op, type, pos, after, guard⟩ := o
  unfold comp at hc
  cases op <;> simp only at hc
  all_goals try (cases hc; done)
  case alloc t =>
    split at hc
    · rename_i z m' d hz hm
      split at hc
      · split at hc
        · cases hc
          unfold bLoc at hv
          cases hv
          obtain ⟨i, v, hi, hzv, hzr⟩ := ofCells_zero hz
          obtain ⟨h1, h2⟩ := hzr A.s
          refine ⟨_, _, .pointer (some ⟨w.heap.size, 0, none⟩), .inl ?_, S.box (T := t) (hd d rfl) (hk d rfl) h1 h2, ⟨Nat.le_refl _, fun _ _ e => ⟨e, rfl⟩⟩, .pt _ (some (pathOf d)) _⟩
          simp [execOp, Instr.alloc, run_zero hi hzv, newVar, newRow]
        · cases hc
      · cases hc
    · cases hc
  case box t x =>
    split at hc
    · rename_i m' d hm
      split at hc
      · split at hc
        · cases hc
          unfold bLocV at hv
          split at hv
          · rename_i a ha
            split at hv
            · rename_i c hca
              split at hv
              · unfold bLoc at hv
                cases hv
                obtain ⟨h1, h2⟩ := (gv_VR S.frr (hok x (by simp [Op.operands])) ha).cells hca
                refine ⟨_, _, .pointer (some ⟨w.heap.size, 0, none⟩), .inl ?_, S.box (T := t) (hd d rfl) (hk d rfl) h1 h2, ⟨Nat.le_refl _, fun _ _ e => ⟨e, rfl⟩⟩, .pt _ (some (pathOf d)) _⟩
                simp [execOp, Instr.box, newVar, newRow]
              · cases hv
            · cases hv
          · cases hv
        · cases hc
      · cases hc
    · cases hc
  case build t ps =>
    split at hc
    · split at hc
      · split at hc <;> cases hc
      · cases hc
    · cases hc
  case buildSlice t m ps =>
    split at hc
    · split at hc
      · split at hc <;> cases hc
      · cases hc
    · cases hc
  case load t x =>
    split at hc
    · split at hc <;> cases hc
    · cases hc
  case store t x y =>
    split at hc
    · rename_i m hm
      split at hc
      · cases hc
        unfold hStore at hv
        split at hv
        · rename_i p hp
          split at hv
          · rename_i a ha
            split at hv
            · rename_i c hca
              split at hv
              · rename_i hl
                have hl := Nat.eq_of_beq_eq_true hl
                split at hv
                · rename_i hst
                  cases hv
                  obtain ⟨h1, h2⟩ := (gv_VR S.frr (hok y (by simp [Op.operands])) ha).cells hca
                  obtain ⟨ad, w', g1, g2, g3, g4, g5⟩ := store_R' (P := P) S (place_R S.frr (hok x (by simp [Op.operands])) hp) h1 h2 hst
                  refine ⟨A, w', undef, .inr ⟨?_, rfl⟩, g3, g4, fun p hp => g5 p⟩
                  have hlen := h1.length
                  simp only [execOp, Instr.storeAt, g1, Instr.sureAddr, storeVar, Sem.run_bind, Sem.run_pure, Result.andThen_ok, run_size hm]
                  rw [if_neg (by simp at hlen; omega)]
                  simp only [Result.andThen_ok, g2]
                · cases hv
              · cases hv
            · cases hv
          · cases hv
        · cases hv
      · cases hc
    · cases hc
  case binOp op t x y yt =>
    split at hc <;> cases hc
  case convert s0 t x =>
    split at hc
    · cases hc
    · cases hc
    · split at hc <;> cases hc
    · split at hc <;> cases hc
    · cases hc
  case makeInterface t x =>
    split at hc <;> cases hc
  case typeAssert x xt t ok =>
    cases ok <;> simp only at hc
    · cases hc
    · split at hc
      · cases hc
      · split at hc <;> cases hc
      · cases hc
  case lookup t x k comma =>
    split at hc
    · split at hc <;> cases hc
    · cases hc
  case makeMap t r =>
    cases r <;> simp only at hc
    · cases hc
      unfold hMakeMap at hv
      cases hv
      have hB : ObR (A.withS h.next ⟨w.heap.size, 0, 2, 0⟩).s (more w (.map #[] 0) w.drawn) ⟨2, 0, .nil, true, false, true, 0⟩ ⟨w.heap.size, 0, 2, 0⟩ := .ofMap rfl ⟨rfl, #[], 0, more_heap _ _ _, rfl, fun j e he => by simp at he⟩
      refine ⟨A.withS h.next ⟨w.heap.size, 0, 2, 0⟩, more w (.map #[] 0) w.drawn, .map (some w.heap.size), .inl ?_, (S.alloc (d := w.drawn) rfl hB).put hd (s := .v (.mp h.next)) ⟨_, withS_same _ _ _, rfl⟩ (fun _ _ => by simp), .new A h _ _, .pt _ _ _⟩
      simp [execOp, Instr.makeMap]
      rfl
    · cases hc
  case insert t m k v =>
    split at hc
    · rename_i kt et hu
      split at hc
      · rename_i kk hkt
        cases hc
        obtain ⟨w', h1, rfl, h2, h3⟩ := insert_R S (hok m (by simp [Op.operands])) (hok k (by simp [Op.operands])) (hok v (by simp [Op.operands])) hu hkt hv
        exact ⟨A, w', undef, .inr ⟨by simp [execOp, h1], rfl⟩, h2, h3, .refl _ _⟩
      · cases hc
    · cases hc
  case mapUpdate t m k v =>
    split at hc
    · rename_i kt et hu
      split at hc
      · rename_i kk hkt
        cases hc
        obtain ⟨w', h1, rfl, h2, h3⟩ := insert_R S (hok m (by simp [Op.operands])) (hok k (by simp [Op.operands])) (hok v (by simp [Op.operands])) hu hkt hv
        exact ⟨A, w', undef, .inr ⟨by simp [execOp, h1], rfl⟩, h2, h3, .refl _ _⟩
      · cases hc
    · cases hc
  case makeFunc g a c =>
    cases g <;> simp only at hc
    all_goals cases hc
  case makeSlice t l c =>
    split at hc
    · split at hc <;> cases hc
    · cases hc
  case slice t x lo hi mx =>
    cases mx with
    | some _ => simp only at hc; cases hc
    | none =>
      simp only at hc
      split at hc
      · cases hc
      · split at hc
        · split at hc <;> cases hc
        · cases hc
      · cases hc
  case fieldAddr t x i =>
    split at hc
    · split at hc <;> cases hc
    · cases hc
  case field t x i =>
    split at hc
    · split at hc <;> cases hc
    · cases hc
  case indexAddr t x ix =>
    split at hc
    · split at hc <;> cases hc
    · split at hc
      · split at hc <;> cases hc
      · cases hc
  case index t x ix =>
    split at hc <;> cases hc
  case panic x =>
    cases hc
    unfold hPanic at hv
    split at hv <;> cases hv
  case call c =>
    obtain ⟨callee, args, argTypes⟩ := c
    cases callee <;> simp only at hc
    case invoke r m => cases hc
    case value g =>
      cases hc
      unfold hCall at hv
      split at hv
      · split at hv <;> cases hv
      · cases hv
    case builtin b =>
      cases b <;> simp only at hc
      all_goals try (cases hc; done)
      case append =>
        split at hc
        · rename_i s x t u ha ht0
          have ha' : args = #[s, x] := by rw [← Array.toList_inj]; exact ha
          have ht' : argTypes = #[t, u] := by rw [← Array.toList_inj]; exact ht0
          subst ha'
          subst ht'
          have hos := hok s (by simp [Op.operands, Call.operands])
          have hox := hok x (by simp [Op.operands, Call.operands])
          split at hc
          · rename_i e e' he hu
            split at hc
            · rename_i k z hel
              cases hc
              have ht := elemT_eq he
              unfold hAppend at hv
              split at hv
              · rename_i sa hsa
                split at hv
                · rename_i xa hxa
                  obtain ⟨a, c, hr, hlen, hcm, rfl⟩ := apOut_next hv
                  have hsv := gv_VR S.frr hos hsa
                  have hxv := gv_VR S.frr hox hxa
                  unfold appendV at hr
                  split at hr
                  · simp only [VR] at hxv
                    exact append_done S hd rfl ht (.inl ⟨e', hu⟩) hel hsv hr hlen hcm (tail_nil (.inl hxv)) ⟨by simp, fun j hj => by omega⟩
                  · exact append_done S hd rfl ht (.inl ⟨e', hu⟩) hel hsv hr hlen hcm (tail_nil (.inr hxv)) ⟨by simp, fun j hj => by omega⟩
                  · rename_i b kk i1 n1
                    split at hr
                    · rename_i bl hbl
                      split at hr
                      · rename_i hbk
                        have hbk := Nat.eq_of_beq_eq_true hbk
                        obtain ⟨q, hq, hqk, hqc, hxe⟩ := hxv
                        have B := (S.inv.hr.blk b bl q (getC_eq hbl).1 hq).blk (getC_eq hbl).2
                        obtain ⟨xs, g1, g2⟩ := B.seg (i := i1) (m := n1) hqc
                        rw [hbk] at g2
                        refine append_done S hd rfl ht (.inl ⟨e', hu⟩) hel hsv hr hlen hcm (news := xs) ⟨fun w' => by simp [hxe, Builtin.lenOf], fun w' ew => ?_, g2.1⟩ g2
                        rw [hxe]
                        exact run_firstCells_some (P := P) w' k n1 _ n1 _ xs g2.1 (fun j v hv => (World.cell?_of_block (w := w) (w' := w') (by rw [ew])).trans (g1 j v hv))
                      · cases hr
                    · cases hr
                  · cases hr
                · cases hv
              · cases hv
            · cases hc
          · rename_i e he hu
            split at hc
            · rename_i k z hel
              cases hc
              have ht := elemT_eq he
              unfold hAppendS at hv
              split at hv
              · rename_i sa hsa
                split at hv
                · rename_i xa hxa
                  obtain ⟨a, c, hr, hlen, hcm, rfl⟩ := apOut_next hv
                  have hsv := gv_VR S.frr hos hsa
                  have hxv := gv_VR S.frr hox hxa
                  unfold appendS at hr
                  split at hr
                  · rename_i y
                    split at hr
                    · rename_i hk1
                      have hk1 := Nat.eq_of_beq_eq_true hk1
                      subst hk1
                      simp only [VR] at hxv
                      have hyl : y.data.toList.length = y.size := Array.length_toList
                      refine append_done S hd rfl ht (.inr hu) hel hsv hr hlen hcm (news := y.data.toList.map fun b => Value.int .u8 b.toNat) ⟨fun w' => by rw [hxv, hyl]; rfl, fun w' _ => ?_, by simp⟩ ⟨by simp, fun j hj row hrow => ?_⟩
                      · rw [hxv, hyl]
                        simp only [Builtin.firstCells]
                        have : y.extract 0 y.size = y := by simp
                        rw [this]
                        show Result.ok _ _ = Result.ok _ _
                        congr 1
                        apply Array.ext'
                        simp
                      · rw [get_byteRows] at hrow
                        split at hrow
                        · rename_i hjm
                          have hj' : j < y.data.toList.length := by omega
                          rw [show 0 + j - 0 = j by omega, List.getElem?_eq_getElem hj'] at hrow
                          cases hrow
                          refine ⟨rfl, rfl, fun q a ha => ?_⟩
                          cases q with
                          | zero =>
                            simp at ha
                            subst ha
                            refine ⟨.int .u8 (y.data.toList[j].toNat : Int), ?_, rfl⟩
                            rw [show j * 1 + 0 = j by omega, List.getElem?_map, List.getElem?_eq_getElem hj']
                            rfl
                          | succ q => simp at ha
                        · rw [get_nil] at hrow; cases hrow
                    · cases hr
                  · rename_i l
                    split at hr
                    · rename_i hk1
                      have hk1 := Nat.eq_of_beq_eq_true hk1
                      subst hk1
                      obtain ⟨hxv, hok1⟩ := hxv
                      obtain ⟨y, hy⟩ : ∃ y : ByteArray, y = ⟨(l.map SB.byte).toArray⟩ := ⟨_, rfl⟩
                      rw [← hy] at hxv
                      have hyl : l.length = y.size := by rw [hy]; simp [ByteArray.size]
                      have hyd : y.data.toList = l.map SB.byte := by rw [hy]
                      refine append_done S hd rfl ht (.inr hu) hel hsv hr hlen hcm (news := y.data.toList.map fun b => Value.int .u8 b.toNat) ⟨fun w' => by rw [hxv, hyl]; rfl, fun w' _ => ?_, by rw [hyd]; simp⟩ ⟨by rw [hyd]; simp, fun j hj row hrow => ?_⟩
                      · rw [hxv, hyl]
                        simp only [Builtin.firstCells]
                        have : y.extract 0 y.size = y := by simp
                        rw [this]
                        show Result.ok _ _ = Result.ok _ _
                        congr 1
                        apply Array.ext'
                        simp
                      · rw [get_sbRows] at hrow
                        split at hrow
                        · rename_i hjm
                          have hj' : j < l.length := by omega
                          have hjc := List.getElem?_eq_getElem hj'
                          rw [show 0 + j - 0 = j by omega, hjc] at hrow
                          cases hrow
                          refine ⟨rfl, by cases l[j] <;> rfl, fun q a ha => ?_⟩
                          cases q with
                          | zero =>
                            simp at ha
                            subst ha
                            refine ⟨.int .u8 (l[j].byte.toNat : Int), ?_, byte_AV (hok1 _ (List.getElem_mem hj'))⟩
                            rw [show j * 1 + 0 = j by omega, hyd, List.map_map, List.getElem?_map, hjc]
                            rfl
                          | succ q => simp at ha
                        · rw [get_nil] at hrow; cases hrow
                    · cases hr
                  · cases hr
                · cases hv
              · cases hv
            · cases hc
          · cases hc
        · cases hc
      case copy =>
        split at hc
        · rename_i s x t u ha ht0
          have ha' : args = #[s, x] := by rw [← Array.toList_inj]; exact ha
          have ht' : argTypes = #[t, u] := by rw [← Array.toList_inj]; exact ht0
          subst ha'
          subst ht'
          have hos := hok s (by simp [Op.operands, Call.operands])
          have hox := hok x (by simp [Op.operands, Call.operands])
          split at hc
          · rename_i e e' he hu
            split at hc
            · rename_i k z hel
              cases hc
              have ht := elemT_eq he
              unfold hCopy at hv
              split at hv
              · rename_i sa hsa
                split at hv
                · rename_i xa hxa
                  have hsv := gv_VR S.frr hos hsa
                  have hxv := gv_VR S.frr hox hxa
                  split at hv
                  · rename_i m hm hr
                    cases hv
                    exact copy_done S hd rfl ht hel hsv hxv hr
                  · cases hv
                · cases hv
              · cases hv
            · cases hc
          · cases hc
        · cases hc
      case len =>
        split at hc
        · split at hc <;> cases hc
        · cases hc
      case min =>
        split at hc <;> cases hc
      case max =>
        split at hc <;> cases hc
end Go.Ev
end
