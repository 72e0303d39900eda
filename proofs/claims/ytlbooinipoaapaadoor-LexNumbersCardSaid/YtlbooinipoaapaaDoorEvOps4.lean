/- Operations of slots alone, all of them; operations that look. -/
import Derived.Test.YtlbooinipoaapaaDoorEvOps3
namespace Go.Ev
variable {P : Program} {A : Asg} {n : Nat} {ok : Path → Prop} {fr : FT} {act : Act} {w : World} {h : H}

theorem ofCells_zero {t : TypeId} {z : List AV} (hz : zeroT P t = some z) : ∃ i v, P.info? t = some i ∧ i.zero = some v ∧ ∀ (s : Path → Option Ref), VRs s z v.cells.toList ∧ z.all sc = true := by
  unfold zeroT at hz
  split at hz
  · rename_i i hi
    split at hz
    · rename_i v hv
      exact ⟨i, v, hi, hv, fun s => ofCells_VR hz⟩
    · cases hz
  · cases hz
theorem partsL_spec {places : List (Nat × Nat)} : ∀ {ps : List (Nat × Operand)} {qs : List (Nat × Nat × Rd)}, partsL places ps = some qs →
    ps.length = qs.length ∧ ∀ (i : Nat) p q, ps[i]? = some p → qs[i]? = some q → places[p.1]? = some (q.1, q.2.1) ∧ q.2.2 = rd p.2
  | [], qs, h => by simp [partsL] at h; subst h; exact ⟨rfl, fun i p q hp => by simp at hp⟩
  | (i, x) :: ps, qs, h => by
    simp only [partsL] at h
    split at h
    · rename_i off m r ho hr
      cases h
      obtain ⟨h1, h2⟩ := partsL_spec hr
      refine ⟨by simp [h1], fun j p q hp hq => ?_⟩
      cases j with
      | zero => simp at hp hq; subst hp; subst hq; exact ⟨ho, rfl⟩
      | succ j => exact h2 j p q (by simpa using hp) (by simpa using hq)
    · cases h
theorem fieldT_eq {t : TypeId} {i off m : Nat} {g : Bool} (hf : fieldT P t i = some (off, m, g)) :
    ∃ fs f, P.underlying t = some (.struct fs) ∧ fs[i]? = some f ∧ f.offset = off ∧ sizeT P f.type = some m ∧ isAggT P f.type = some g := by
  unfold fieldT at hf
  split at hf
  · rename_i fs hu
    split at hf
    · rename_i f hfi
      split at hf
      · rename_i m' g' h1 h2
        cases hf
        exact ⟨fs, f, hu, hfi, rfl, h1, h2⟩
      · cases hf
    · cases hf
  · cases hf
theorem run_zero {t : TypeId} {i : TypeInfo} {v : Value} (hi : P.info? t = some i) (hv : i.zero = some v) : (zeroValue t).run P w = .ok v w := by
  simp [zeroValue, typeInfo, hi, hv]
/-- An address goes on by some cells. -/
theorem place_on {p : Place} {x : Value} (hp : PlR A x p) : ∃ a, x = .pointer (some a) ∧ a.spot = none ∧ ∀ k, PlR A (.pointer (some (a.add k))) (match p with | .loc d g o => .loc d g (o + k) | .mem b o => .mem b (o + k)) := by
  cases p with
  | loc d g o => obtain ⟨blk, h1, rfl⟩ := hp; exact ⟨_, rfl, rfl, fun k => ⟨blk, h1, by rw [add_none]⟩⟩
  | mem b o => obtain ⟨r, h1, rfl⟩ := hp; exact ⟨_, rfl, rfl, fun k => ⟨r, h1, by rw [add_none, Nat.add_assoc]⟩⟩

theorem zeroV_eq {s : Path → Option Ref} {t : TypeId} {z : AV} (h : zeroV P t = some z) : ∃ v, (∀ w, (zeroValue t).run P w = .ok v w) ∧ VR s z v := by
  unfold zeroV at h
  split at h
  · rename_i i hi
    split at h
    · rename_i v hv
      exact ⟨v, fun w => run_zero hi hv, ofValue_VR h⟩
    · cases h
  · cases h
theorem pure_sound {loc : List Tmp} {o : Oper} {why : Nat} {f : FT → Option Sl} (hc : comp P loc o = some (.pure why f)) (F : FrR A n ok fr act.tmps w) (hok : ∀ x ∈ o.op.operands, OkO ok x)
    {s : Sl} (hv : f fr = some s) : Does P A act w o s := by
  obtain ⟨dst, op, type, pos, after, guard⟩ := o
  unfold comp at hc
  cases op <;> simp only at hc
  all_goals try (cases hc; done)
  case move x =>
    cases hc
    obtain ⟨a, ha, rfl⟩ := retV_some hv
    exact .v rfl (gv_VR F (hok x (by simp [Op.operands])) ha)
  case assign x =>
    cases hc
    obtain ⟨a, ha, rfl⟩ := retV_some hv
    exact .v rfl (gv_VR F (hok x (by simp [Op.operands])) ha)
  case pick c x y =>
    cases hc
    unfold vPick at hv
    split at hv
    · rename_i hcv
      have h1 := gv_VR F (hok c (by simp [Op.operands])) hcv
      simp only [VR] at h1
      obtain ⟨a, ha, rfl⟩ := retV_some hv
      exact .v (by simp [execOp, h1, asBool]) (gv_VR F (hok x (by simp [Op.operands])) ha)
    · rename_i hcv
      have h1 := gv_VR F (hok c (by simp [Op.operands])) hcv
      simp only [VR] at h1
      obtain ⟨a, ha, rfl⟩ := retV_some hv
      exact .v (by simp [execOp, h1, asBool]) (gv_VR F (hok y (by simp [Op.operands])) ha)
    · cases hv
  case alloc t =>
    split at hc
    · split at hc
      · split at hc <;> cases hc
      · cases hc
    · cases hc
  case box t x =>
    split at hc
    · split at hc
      · split at hc <;> cases hc
      · cases hc
    · cases hc
  case build t ps =>
    split at hc
    · rename_i fs z hu hz
      split at hc
      · rename_i places hpl
        split at hc
        · rename_i qs hq
          cases hc
          unfold vBuild at hv
          split at hv
          · rename_i l hl
            cases hv
            obtain ⟨i, v, hi, hzv, hzr⟩ := ofCells_zero hz
            obtain ⟨h1, h2⟩ := hzr A.s
            have hop : ∀ x ∈ ps.toList.map (·.2), OkO ok x := fun x hx => hok x (by
              simp only [Op.operands]
              exact List.mem_toArray.2 hx)
            obtain ⟨cs', e1, e2, e3⟩ := fill_R F (fun i => places.toArray[i]?) ps.toList qs ⟨(partsL_spec hq).1, fun i p q hp hq' => by simpa using (partsL_spec hq).2 i p q hp hq'⟩ hop z l v.cells hl h1 h2
            have hb : P.built t (ps.toList.map fun x => (x.1, act.eval x.2)) = some cs' := by
              simp only [Program.built, hi, hu, hzv]
              unfold placesT at hpl
              rw [hpl]
              exact e1
            refine .v (v := .agg cs') ?_ ⟨cs', rfl, e2, e3⟩
            have hr := run_build (P := P) w t (ps.map fun (i, x) => (i, act.eval x)) cs' (by simpa using hb)
            simp only [execOp, Sem.run_bind, hr, Result.andThen_ok]
            rfl
          · cases hv
        · cases hc
      · cases hc
    · cases hc
  case buildSlice t m ps =>
    split at hc
    · split at hc
      · split at hc <;> cases hc
      · cases hc
    · cases hc
  case load t x =>
    split at hc
    · split at hc <;> cases hc
    · cases hc
  case store t x y =>
    split at hc
    · split at hc <;> cases hc
    · cases hc
  case nilCheck x =>
    cases hc
    unfold vNilCheck at hv
    split at hv
    · rename_i hp
      cases hv
      have := place_R F (hok x (by simp [Op.operands])) hp
      obtain ⟨blk, h1, h2⟩ := this
      exact ⟨_, by simp only [execOp, h2]; rfl, ⟨blk, h1, rfl⟩, fun _ _ => by simp⟩
    · rename_i hp
      cases hv
      have := place_R F (hok x (by simp [Op.operands])) hp
      obtain ⟨r, h1, h2⟩ := this
      exact .v (by simp only [execOp, h2]; rfl) ⟨r, h1, rfl⟩
    · split at hv
      · rename_i ha
        cases hv
        have h1 := gv_VR F (hok x (by simp [Op.operands])) ha
        have h1' := h1
        obtain ⟨xs, ys, h2, h3, h4⟩ := h1
        exact .v (by simp only [execOp, h2]; rfl) (h2 ▸ h1')
      · cases hv
  case binOp op t x y yt =>
    have hop : op ≠ .shl ∧ op ≠ .shr := by constructor <;> (rintro rfl; simp at hc)
    have hc' : f = vBin (eqOf P t x y) op (rd x) (rd y) := by
      split at hc <;> first | cases hc | skip
      rfl
    subst hc'
    unfold vBin at hv
    split at hv
    · rename_i a ha
      split at hv
      · rename_i b hb
        obtain ⟨r, hr, rfl⟩ := retV_some hv
        obtain ⟨v, h1, h2⟩ := bin_R (P := P) (w := w) (xo := x) (yo := y) hop hr (gv_VR F (hok x (by simp [Op.operands])) ha) (gv_VR F (hok y (by simp [Op.operands])) hb)
        refine .v (v := v) ?_ h2
        simp only [execOp]
        rw [Sem.run_bind, h1]
        rfl
      · cases hv
    · cases hv
  case unOp op t x =>
    cases hc
    unfold vUn at hv
    split at hv
    · rename_i a ha
      obtain ⟨r, hr, rfl⟩ := retV_some hv
      have h1 := gv_VR F (hok x (by simp [Op.operands])) ha
      unfold un at hr
      split at hr
      · cases hr; simp only [VR] at h1; exact .v (v := .bool _) (by simp [execOp, h1, Op.unary]) rfl
      · cases hr; simp only [VR] at h1
        exact .v (v := .int _ _) (by simp only [execOp, h1, Op.unary, Op.intArith]; rfl) (by simp only [VR, wrapF_eq])
      · cases hr
    · cases hv
  case convert s0 t x =>
    split at hc
    · rename_i k0 k hs ht
      cases hc
      unfold vConvInt at hv
      split at hv
      · rename_i a ha
        obtain ⟨r, hr, rfl⟩ := retV_some hv
        have h1 := gv_VR F (hok x (by simp [Op.operands])) ha
        have run : ∀ kk m, act.eval x = .int kk m → (execOp act.eval ⟨dst, .convert s0 t x, type, pos, after, guard⟩).run P w = .ok (.value (.int k (k.wrap m))) w := fun kk m e => by
          simp [execOp, e, convert, run_underlying hs, run_underlying ht, Conv.intToInt]
        unfold conv at hr
        split at hr
        · cases hr; simp only [VR] at h1
          exact .v (run _ _ h1) (by simp only [VR, wrapF_eq])
        · split at hr
          · cases hr
            obtain ⟨n0, h2, h3, h4⟩ := h1
            refine .v (run _ _ h2) ⟨n0, ?_, h3, h4⟩
            have : IntKind.i64.wrap (Int.ofNat n0) = Int.ofNat n0 := by
              rw [IntKind.wrap_i64]
              simp only [Int.ofNat_eq_natCast]
              omega
            rw [this]
          · cases hr
        · cases hr
      · cases hv
    · rename_i hs ht
      cases hc
      unfold vConvStr at hv
      split at hv
      · rename_i a ha
        cases hv
        have h1 := gv_VR F (hok x (by simp [Op.operands])) ha
        simp only [VR] at h1
        exact .v (v := .string a) (by simp [execOp, h1, convert, run_underlying hs, run_underlying ht]) rfl
      · cases hv
    · split at hc <;> cases hc
    · split at hc <;> cases hc
    · cases hc
  case makeInterface t x =>
    split at hc
    · cases hc
    · rename_i d hni hu
      cases hc
      unfold vIface at hv
      split at hv
      · rename_i a ha
        cases hv
        have h1 := gv_VR F (hok x (by simp [Op.operands])) ha
        refine .v (v := .iface t (act.eval x)) ?_ ⟨_, rfl, h1⟩
        have hcn : P.concrete t = true := by
          unfold Program.concrete
          rw [hu]
          cases d <;> first | rfl | exact absurd rfl (hni _)
        simp [execOp, run_makeInterface w t (act.eval x) hcn]
      · cases hv
    · cases hc
  case makeFunc g a c =>
    cases g <;> simp only at hc
    all_goals try (cases hc; done)
    cases hc
    unfold vFunc at hv
    split at hv
    · rename_i a' ha
      split at hv
      · rename_i c' hc'
        cases hv
        have h1 := gvs_VR F (xs := a.toList) (fun x hx => hok x (by simp only [Op.operands, Array.mem_append]; exact .inl (by simpa using hx))) ha
        have h2 := gvs_VR F (xs := c.toList) (fun x hx => hok x (by simp only [Op.operands, Array.mem_append]; exact .inr (by simpa using hx))) hc'
        refine .v (v := .func (.func _) (a.map act.eval) (c.map act.eval)) (by simp [execOp, Instr.makeFunc]) ⟨_, _, rfl, ?_, ?_⟩
        · simpa using h1
        · simpa using h2
      · cases hv
    · cases hv
  case makeSlice t l c =>
    split at hc
    · split at hc <;> cases hc
    · cases hc
  case slice t x lo hi mx =>
    cases mx with
    | some _ => simp only at hc; cases hc
    | none =>
      simp only at hc
      have hlo : ∀ y, lo = some y → OkO ok y := fun y e => hok y (by subst e; cases hi <;> simp [Op.operands])
      have hhi : ∀ y, hi = some y → OkO ok y := fun y e => hok y (by subst e; cases lo <;> simp [Op.operands])
      split at hc
      · rename_i ht
        cases hc
        unfold vSliceS at hv
        split at hv
        · rename_i a ha
          split at hv
          · rename_i l hl
            split at hv
            · rename_i r hr
              obtain ⟨b, hb, rfl⟩ := retV_some hv
              obtain ⟨v, h1, h2⟩ := sliceS_R (P := P) (w := w) (t := t) hb (gv_VR F (hok x (by simp [Op.operands])) ha) (gvo_R F hlo hl) (gvo_R F hhi hr) ht
              refine .v (v := v) ?_ h2
              simp only [execOp, Option.map_none, Sem.run_bind, h1]
              rfl
            · cases hv
          · cases hv
        · cases hv
      · rename_i e ht
        split at hc
        · rename_i z hz
          split at hc
          · cases hc
            unfold vSlice at hv
            split at hv
            · rename_i a ha
              split at hv
              · rename_i l hl
                split at hv
                · rename_i r hr
                  obtain ⟨b, hb, rfl⟩ := retV_some hv
                  obtain ⟨v, h1, h2⟩ := slice_R (P := P) (w := w) (t := t) hb (gv_VR F (hok x (by simp [Op.operands])) ha) (gvo_R F hlo hl) (gvo_R F hhi hr) ht hz
                  refine .v (v := v) ?_ h2
                  simp only [execOp, Option.map_none, Sem.run_bind, h1]
                  rfl
                · cases hv
              · cases hv
            · cases hv
          · cases hc
        · cases hc
      · cases hc
  case fieldAddr t x i =>
    split at hc
    · rename_i off m g hf
      split at hc
      · rename_i hpos
        rw [natBlt] at hpos
        have hpos := of_decide_eq_true hpos
        cases hc
        obtain ⟨fs, fld, hu, hfi, hoff, hsz, _⟩ := fieldT_eq hf
        subst hoff
        have run : ∀ a : Addr, act.eval x = .pointer (some a) → (execOp act.eval ⟨dst, .fieldAddr t x i, type, pos, after, guard⟩).run P w = .ok (.value (.pointer (some (a.add fld.offset)))) w := fun a e => by
          simp [execOp, e, Instr.fieldAt, run_underlying hu, hfi, Instr.sureAddr, fieldPlace, run_size hsz, show m ≠ 0 by omega]
        unfold vFieldAddr at hv
        split at hv
        · rename_i hp
          cases hv
          obtain ⟨a, e, _, h2⟩ := place_on (place_R F (hok x (by simp [Op.operands])) hp)
          exact ⟨_, run a e, h2 fld.offset, fun _ _ => by simp⟩
        · rename_i hp
          cases hv
          obtain ⟨a, e, _, h2⟩ := place_on (place_R F (hok x (by simp [Op.operands])) hp)
          exact .v (run a e) (h2 fld.offset)
        · cases hv
      · cases hc
    · cases hc
  case field t x i =>
    split at hc
    · rename_i off m g hf
      have hc' : f = vField (rd x) off m g := by
        split at hc <;> first | cases hc | skip
        rfl
      have hg1 : g = true ∨ m = 1 := by
        cases g
        · right
          cases hb : Nat.beq m 1 with
          | true => exact Nat.eq_of_beq_eq_true hb
          | false => simp [hb] at hc
        · exact .inl rfl
      subst hc'
      obtain ⟨fs, fld, hu, hfi, hoff, hsz, hag⟩ := fieldT_eq hf
      subst hoff
      unfold vField at hv
      split at hv
      · rename_i l ha
        split at hv
        · rename_i r hr
          obtain ⟨b, hb, rfl⟩ := retV_some hv
          have h1 := gv_VR F (hok x (by simp [Op.operands])) ha
          obtain ⟨xs, h2, h3, h4⟩ := h1
          obtain ⟨h5, rfl⟩ := cut_eq hr
          have h6 : VRs A.s ((l.drop fld.offset).take m) ((xs.toList.drop fld.offset).take m) := (h3.drop _).take m
          have hxl := h3.length
          rcases val_R hb h6 (all_take (all_drop h4 _) m) with ⟨rfl, rfl, hvr⟩ | ⟨rfl, v, e1, e2, hvr⟩
          · refine .v (v := .agg ((xs.toList.drop fld.offset).take m).toArray) ?_ hvr
            simp only [execOp, Instr.field, h2, asAgg, Sem.run_bind, run_underlying hu, Result.andThen_ok, hfi, Sem.run_pure, part, run_isAgg hag, run_size hsz, if_true]
            congr 2
            congr 1
            apply Array.toList_inj.1
            simp [Array.toList_extract, List.extract_eq_take_drop]
          · refine .v (v := v) ?_ hvr
            have hx0 : xs[fld.offset]? = some v := by
              have h7 : ((xs.toList.drop fld.offset).take m)[0]? = some v := by rw [e2]; rfl
              rw [List.getElem?_take] at h7
              split at h7
              · rw [List.getElem?_drop] at h7; simpa using h7
              · cases h7
            simp only [execOp, Instr.field, h2, asAgg, Sem.run_bind, run_underlying hu, Result.andThen_ok, hfi, Sem.run_pure, part, run_isAgg hag, Bool.false_eq_true, if_false, hx0]
        · cases hv
      · cases hv
    · cases hc
  case indexAddr t x ix =>
    split at hc
    · rename_i e he
      split at hc
      · rename_i k hk
        cases hc
        have ht := elemT_eq he
        have hte : P.underlying t = some (.slice (P.elem t)) := by rw [P_elem ht]; exact ht
        unfold vIndexAddr at hv
        split at hv
        · rename_i b z i m ha
          split at hv
          · rename_i c hcx
            split at hv
            · rename_i j hj
              split at hv
              · rename_i hlt hz
                rw [natBlt] at hlt
                have hlt := of_decide_eq_true hlt
                have hz := Nat.eq_of_beq_eq_true hz
                subst hz
                cases hv
                obtain ⟨q, hq, hqk, hqc, h2⟩ := gv_VR F (hok x (by simp [Op.operands])) ha
                obtain ⟨kk, rfl⟩ := natOf_int hj
                have h3 := gv_VR F (hok ix (by simp [Op.operands])) hcx
                simp only [VR] at h3
                refine .v (v := .pointer (some ⟨q.blk, q.off + (i + j) * z, none⟩)) ?_ ⟨q, hq, rfl⟩
                have hr := run_indexAt_slice (P := P) w t ⟨q.blk, q.off + i * q.k, none⟩ m (q.cap - i) kk (Int.ofNat j) hte
                simp only [execOp, h2, h3, Sem.run_bind, hr]
                rw [if_pos ⟨by simp, by simpa using hlt⟩, P_elem ht, run_size hk]
                have e0 : q.off + i * q.k + (Int.ofNat j).toNat * z = q.off + (i + j) * z := by
                  subst hqk
                  simp only [Int.ofNat_eq_natCast, Int.toNat_natCast, Nat.add_mul]
                  omega
                simp only [Result.andThen_ok, add_none, e0]
                rfl
              · cases hv
            · cases hv
          · cases hv
        · cases hv
      · cases hc
    · cases hc
  case index t x ix =>
    split at hc
    · rename_i ht
      cases hc
      unfold vIndex at hv
      split at hv
      · rename_i s0 ha
        split at hv
        · rename_i c hcx
          split at hv
          · rename_i j hj
            split at hv
            · rename_i u hu
              cases hv
              have h1 := gv_VR F (hok x (by simp [Op.operands])) ha
              obtain ⟨kk, rfl⟩ := natOf_int hj
              have h3 := gv_VR F (hok ix (by simp [Op.operands])) hcx
              simp only [VR] at h1 h3
              refine .v (v := .int .u8 u.toNat) ?_ rfl
              have hb := byte_at hu
              simp only [execOp, h1, h3, Instr.index, asIntOf, Sem.run_bind, Sem.run_pure, Result.andThen_ok, run_underlying ht]
              rw [if_pos (by simp)]
              simp only [Int.ofNat_eq_natCast, Int.toNat_natCast, hb]
              rfl
            · cases hv
          · cases hv
        · cases hv
      · cases hv
    · cases hc
  case typeAssert x xt t ok =>
    cases ok <;> simp only at hc
    · cases hc
    · split at hc
      · cases hc
      · rename_i d hni hu
        split at hc
        · rename_i z hz
          cases hc
          obtain ⟨zv, hzr, hz'⟩ := zeroV_eq (s := A.s) hz
          unfold vAssert at hv
          have hund := run_underlying (w := w) hu
          split at hv
          · rename_i u a ha
            obtain ⟨y, h1, h2⟩ := gv_VR F (hok x (by simp [Op.operands])) ha
            split at hv
            · rename_i he
              cases hv
              have he := Nat.eq_of_beq_eq_true he
              subst he
              refine .v (v := .tuple #[y, .bool true]) ?_ ⟨_, rfl, .cons h2 (.cons (by simp [VR]) .nil)⟩
              cases d <;> first | exact (hni _ rfl).elim | simp [execOp, h1, Instr.typeAssert, hund, Result.andThen]
            · rename_i he
              cases hv
              have he : u ≠ t := fun e => by subst e; simp at he
              refine .v (v := .tuple #[zv, .bool false]) ?_ ⟨_, rfl, .cons hz' (.cons (by simp [VR]) .nil)⟩
              cases d <;> first | exact (hni _ rfl).elim | simp [execOp, h1, Instr.typeAssert, hund, Result.andThen, he, hzr]
          · rename_i ha
            cases hv
            have h1 := gv_VR F (hok x (by simp [Op.operands])) ha
            simp only [VR] at h1
            refine .v (v := .tuple #[zv, .bool false]) ?_ ⟨_, rfl, .cons hz' (.cons (by simp [VR]) .nil)⟩
            cases d <;> first | exact (hni _ rfl).elim | simp [execOp, h1, Instr.typeAssert, hund, Result.andThen, hzr]
          · cases hv
        · cases hc
      · cases hc
  case lookup t x k comma =>
    split at hc
    · split at hc <;> cases hc
    · cases hc
  case makeMap t r => cases r <;> simp only at hc <;> cases hc
  case insert t m k v =>
    split at hc
    · split at hc <;> cases hc
    · cases hc
  case mapUpdate t m k v =>
    split at hc
    · split at hc <;> cases hc
    · cases hc
  case extract x i =>
    cases hc
    unfold vExtract at hv
    split at hv
    · rename_i l ha
      obtain ⟨a, hla, rfl⟩ := retV_some hv
      obtain ⟨xs, h1, h2⟩ := gv_VR F (hok x (by simp [Op.operands])) ha
      obtain ⟨v, h3, h4⟩ := h2.get hla
      refine .v (v := v) ?_ h4
      have h5 : xs[i]? = some v := by simpa using h3
      simp [execOp, h1, Instr.extract, h5]
    · cases hv
  case call c =>
    obtain ⟨callee, args, argTypes⟩ := c
    cases callee <;> simp only at hc
    case value g => cases hc
    case invoke r m => cases hc
    case builtin b =>
      cases b <;> simp only at hc
      all_goals try (cases hc; done)
      case append =>
        split at hc
        · split at hc
          · split at hc <;> cases hc
          · split at hc <;> cases hc
          · cases hc
        · cases hc
      case len =>
        split at hc
        · rename_i x t ha ht0
          have ha' : args = #[x] := by rw [← Array.toList_inj]; exact ha
          have ht' : argTypes = #[t] := by rw [← Array.toList_inj]; exact ht0
          subst ha'
          subst ht'
          split at hc
          · rename_i ht
            cases hc
            unfold vLenS at hv
            split at hv
            · rename_i a hax
              split at hv
              · rename_i m hm
                cases hv
                unfold lenS at hm
                split at hm
                · cases hm
                  have h1 := gv_VR F (hok x (by simp [Op.operands, Call.operands])) hax
                  simp only [VR] at h1
                  refine .v (v := goInt _) ?_ rfl
                  simp [execOp, resolve, invoke, builtin, h1, Builtin.len_, run_underlying ht]
                · cases hm
              · cases hv
            · cases hv
          · rename_i e ht
            cases hc
            unfold vLen at hv
            split at hv
            · rename_i a hax
              split at hv
              · rename_i m hm
                cases hv
                have h1 := gv_VR F (hok x (by simp [Op.operands, Call.operands])) hax
                have run : ∀ b c0, act.eval x = .slice b m c0 → (execOp act.eval ⟨dst, .call ⟨.builtin .len, #[x], #[t]⟩, type, pos, after, guard⟩).run P w = .ok (.value (goInt m)) w := fun b c0 e1 => by
                  simp [execOp, resolve, invoke, builtin, e1, Builtin.len_, run_underlying ht]
                unfold lenOf at hm
                split at hm
                · cases hm
                  obtain ⟨q, _, _, _, h2⟩ := h1
                  exact .v (v := goInt _) (run _ _ h2) rfl
                · cases hm
                  obtain ⟨a, c0, h2⟩ := h1
                  exact .v (v := goInt _) (run _ _ h2) rfl
                · cases hm
                  simp only [VR] at h1
                  exact .v (v := goInt _) (run _ _ h1) rfl
                · cases hm
              · cases hv
            · cases hv
          · cases hc
        · cases hc
      case min =>
        split at hc
        · rename_i x y ha
          have ha' : args = #[x, y] := by rw [← Array.toList_inj]; exact ha
          subst ha'
          cases hc
          unfold vMinMax at hv
          split at hv
          · rename_i j a hax
            split at hv
            · rename_i k b hay
              split at hv
              · rename_i hk
                have h1 := gv_VR F (hok x (by simp [Op.operands, Call.operands])) hax
                have h2 := gv_VR F (hok y (by simp [Op.operands, Call.operands])) hay
                simp only [VR] at h1 h2
                have hk := keq_eq hk
                subst hk
                cases hv
                refine .v (v := .int j (if b < a then b else a)) ?_ ?_
                · simp [execOp, resolve, invoke, builtin, h1, h2, Builtin.min_, Builtin.min2]
                · show Value.int j _ = Value.int j _
                  simp only [ilt_iff]
                  by_cases hlt : b < a <;> simp [hlt]
              · cases hv
            · cases hv
          · cases hv
        · cases hc
      case max =>
        split at hc
        · rename_i x y ha
          have ha' : args = #[x, y] := by rw [← Array.toList_inj]; exact ha
          subst ha'
          cases hc
          unfold vMinMax at hv
          split at hv
          · rename_i j a hax
            split at hv
            · rename_i k b hay
              split at hv
              · rename_i hk
                have h1 := gv_VR F (hok x (by simp [Op.operands, Call.operands])) hax
                have h2 := gv_VR F (hok y (by simp [Op.operands, Call.operands])) hay
                simp only [VR] at h1 h2
                have hk := keq_eq hk
                subst hk
                cases hv
                refine .v (v := .int j (if a < b then b else a)) ?_ ?_
                · simp [execOp, resolve, invoke, builtin, h1, h2, Builtin.max_, Builtin.max2]
                · show Value.int j _ = Value.int j _
                  simp only [ilt_iff]
                  by_cases hlt : a < b <;> simp [hlt]
              · cases hv
            · cases hv
          · cases hv
        · cases hc
end Go.Ev
