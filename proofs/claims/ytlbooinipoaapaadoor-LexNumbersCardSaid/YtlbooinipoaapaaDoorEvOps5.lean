/- Operations that look; operations that make a block. -/
import Derived.Test.YtlbooinipoaapaaDoorEvOps4
import Derived.Test.YtlbooinipoaapaaDoorEvRows
import Derived.Test.YtlbooinipoaapaaDoorEvMap
namespace Go.Ev
variable {P : Program} {A : Asg} {n : Nat} {ok : Path → Prop} {fr : FT} {act : Act} {w : World} {h : H}

theorem loadVar_R (F : FrR A n ok fr act.tmps w) (hr : HR A h w) {t : TypeId} {m : Nat} {g : Bool} (hm : sizeT P t = some m) (hg : isAggT P t = some g) {x : Value} {p : Place} (hp : PlR A x p) {l : List AV} (hl : loadAt fr h p m = some l)
    {a : AV} (ha : val g l = some a) : ∃ ad v, x = .pointer (some ad) ∧ (loadVar t ad).run P w = .ok v w ∧ VR A.s a v := by
  obtain ⟨h1, h2, ad, xs, h3, h4, h5⟩ := loadAt_R F hr hp hl
  rcases val_R ha h4 h2 with ⟨rfl, rfl, hv⟩ | ⟨rfl, v, e1, e2, hv⟩
  · refine ⟨ad, .agg xs.toArray, h3, ?_, hv⟩
    have hlen : xs.length = m := by rw [h4.length]; exact h1
    have hc := run_loadCells_list (P := P) w ad xs h5
    rw [hlen] at hc
    simp only [loadVar, Sem.run_bind, run_isAgg hg, Result.andThen_ok, if_true, run_size hm, hc, Sem.run_pure]
  · refine ⟨ad, v, h3, ?_, hv⟩
    have hc := h5 0 v (by rw [e2]; rfl)
    rw [Addr.add_zero'] at hc
    simp only [loadVar, Sem.run_bind, run_isAgg hg, Result.andThen_ok, Bool.false_eq_true, if_false, run_load, hc]

theorem look_sound {loc : List Tmp} {o : Oper} {why : Nat} {f : FT → H → Option Sl} (hc : comp P loc o = some (.look why f)) (F : FrR A n ok fr act.tmps w) (hr : HR A h w) (hok : ∀ x ∈ o.op.operands, OkO ok x)
    {s : Sl} (hv : f fr h = some s) : Does P A act w o s := by
  obtain ⟨dst, op, type, pos, after, guard⟩ := o
  unfold comp at hc
  cases op <;> simp only at hc
  all_goals try (cases hc; done)
  case alloc t =>
    split at hc
    · split at hc
      · split at hc <;> cases hc
      · cases hc
    · cases hc
  case box t x =>
    split at hc
    · split at hc
      · split at hc <;> cases hc
      · cases hc
    · cases hc
  case build t ps =>
    split at hc
    · split at hc
      · split at hc <;> cases hc
      · cases hc
    · cases hc
  case buildSlice t m ps =>
    split at hc
    · split at hc
      · split at hc <;> cases hc
      · cases hc
    · cases hc
  case load t x =>
    split at hc
    · rename_i m g hm hg
      have hc' : f = lLoad (rd x) m g := by
        split at hc <;> first | cases hc | skip
        rfl
      subst hc'
      unfold lLoad at hv
      split at hv
      · rename_i p hp
        split at hv
        · rename_i l hl
          obtain ⟨a, ha, rfl⟩ := retV_some hv
          obtain ⟨ad, v, h1, h2, h3⟩ := loadVar_R F hr hm hg (place_R F (hok x (by simp [Op.operands])) hp) hl ha
          refine .v (v := v) ?_ h3
          simp only [execOp, Instr.loadAt, h1, Instr.sureAddr, Sem.run_bind, Sem.run_pure, Result.andThen_ok, h2]
        · cases hv
      · cases hv
    · cases hc
  case store t x y =>
    split at hc
    · split at hc <;> cases hc
    · cases hc
  case binOp op t x y yt =>
    split at hc <;> cases hc
  case convert s0 t x =>
    split at hc
    · cases hc
    · cases hc
    · rename_i e hs ht
      split at hc
      · rename_i he
        cases hc
        unfold lBytes at hv
        split at hv
        · rename_i ha
          cases hv
          have h1 := gv_VR F (hok x (by simp [Op.operands])) ha
          simp only [VR] at h1
          refine .v (v := .string ByteArray.empty) ?_ rfl
          simp only [execOp, h1, Sem.run_bind, run_convert_bytes_nil w s0 e hs he 0 0 t ht, Result.andThen_ok, Sem.run_pure]
        · rename_i b k i m ha
          split at hv
          · rename_i bl hbl
            split at hv
            · rename_i hk
              have hk := Nat.eq_of_beq_eq_true hk
              split at hv
              · rename_i l hl
                cases hv
                obtain ⟨q, hq, hqk, hqc, h2⟩ := gv_VR F (hok x (by simp [Op.operands])) ha
                have B := (hr.blk b bl q (getC_eq hbl).1 hq).blk (getC_eq hbl).2
                obtain ⟨cs, T, fz, e1, _, _, e4⟩ := B.cells
                obtain ⟨ns, g1, rfl, g3⟩ := bytesIn_spec _ _ _ _ hl
                have hq1 : q.k = 1 := by rw [B.k, hk]
                have hcell : ∀ j, j < m → w.cell? ⟨q.blk, q.off + i * q.k + j, none⟩ = some (.int .u8 ((ns.map (fun c : Nat => (Int.ofNat c))).getD j 0)) := by
                  intro j hj
                  have hj' : j < ns.length := by omega
                  obtain ⟨_, _, e7⟩ := e4 (i + j) _ (g3 j ns[j] (List.getElem?_eq_getElem hj'))
                  obtain ⟨v, hv, hvr⟩ := e7 0 _ rfl
                  simp only [VR] at hvr; subst hvr
                  rw [cell_of_row w q.blk _ cs T fz e1, show q.off + i * q.k + j = q.off + (i + j) * q.k + 0 by rw [hq1]; omega, hv]
                  simp [List.getD, List.getElem?_eq_getElem hj']
                have hcv := run_convert_bytes_arg (P := P) w s0 e hs he q.blk (q.off + i * q.k) m (q.cap - i) (ns.map (fun c : Nat => (Int.ofNat c))) (by simp [g1]) hcell t ht
                refine .v (v := .string (strOfNums (ns.map fun c : Nat => Int.ofNat c))) ?_ ?_
                · simp only [execOp, h2, Sem.run_bind, hcv, Result.andThen_ok, Sem.run_pure]
                · show Value.string _ = Value.string _
                  simp only [strOfNums, List.map_map]
                  rfl
              · cases hv
            · cases hv
          · cases hv
        · cases hv
      · cases hc
    · split at hc <;> cases hc
    · cases hc
  case makeInterface t x =>
    split at hc <;> cases hc
  case typeAssert x xt t ok =>
    cases ok <;> simp only at hc
    · cases hc
    · split at hc
      · cases hc
      · split at hc <;> cases hc
      · cases hc
  case lookup t x k comma =>
    split at hc
    · rename_i kt et hu
      split at hc
      · rename_i kk z hkt hz
        cases hc
        obtain ⟨v, a, rfl, h1, h2⟩ := lookup_R F hr (hok x (by simp [Op.operands])) (hok k (by simp [Op.operands])) hu hkt hz hv
        exact .v (v := v) (by simp [execOp, h1]) h2
      · cases hc
    · cases hc
  case makeMap t r => cases r <;> simp only at hc <;> cases hc
  case insert t m k v =>
    split at hc
    · split at hc <;> cases hc
    · cases hc
  case mapUpdate t m k v =>
    split at hc
    · split at hc <;> cases hc
    · cases hc
  case makeFunc g a c =>
    cases g <;> simp only at hc
    all_goals cases hc
  case makeSlice t l c =>
    split at hc
    · split at hc <;> cases hc
    · cases hc
  case slice t x lo hi mx =>
    cases mx with
    | some _ => simp only at hc; cases hc
    | none =>
      simp only at hc
      split at hc
      · cases hc
      · split at hc
        · split at hc <;> cases hc
        · cases hc
      · cases hc
  case fieldAddr t x i =>
    split at hc
    · split at hc <;> cases hc
    · cases hc
  case field t x i =>
    split at hc
    · split at hc <;> cases hc
    · cases hc
  case indexAddr t x ix =>
    split at hc
    · split at hc <;> cases hc
    · cases hc
  case index t x ix =>
    split at hc <;> cases hc
  case call c =>
    obtain ⟨callee, args, argTypes⟩ := c
    cases callee <;> simp only at hc
    case value g => cases hc
    case invoke r m => cases hc
    case builtin b =>
      cases b <;> simp only at hc
      all_goals try (cases hc; done)
      case append =>
        split at hc
        · split at hc
          · split at hc <;> cases hc
          · split at hc <;> cases hc
          · cases hc
        · cases hc
      case len =>
        split at hc
        · split at hc <;> cases hc
        · cases hc
      case min =>
        split at hc <;> cases hc
      case max =>
        split at hc <;> cases hc
end Go.Ev
