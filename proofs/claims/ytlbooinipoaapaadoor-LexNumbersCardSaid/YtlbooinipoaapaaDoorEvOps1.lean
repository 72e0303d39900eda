/- Operands: what the evaluator reads is what the code reads; parts that are put into a value. -/
import Derived.Test.YtlbooinipoaapaaDoorEvEq
import Derived.Test.YtlbooinipoaapaaDoorEvInv
import Derived.Laws.AppendOwn
import Derived.Laws.MakeOwn
import Derived.Laws.BytesArg
import Derived.Laws.Strings2
import Derived.Laws.StructEq
import Derived.Laws.Slices
import Derived.Laws.Build
namespace Go.Ev
variable {P : Program} {A : Asg} {n : Nat} {ok : Path → Prop} {fr : FT} {act : Act} {w : World} {h : H}

/-- An operand whose slot is filled. -/
def OkO (ok : Path → Prop) (x : Operand) : Prop := ∀ t, x = .tmp t → ok (pathOf t)
theorem gv_VR (F : FrR A n ok fr act.tmps w) {x : Operand} (hx : OkO ok x) {a : AV} (hg : gv (rd x) fr = some a) : VR A.s a (act.eval x) := by
  cases x with
  | tmp t =>
    simp only [rd, gv] at hg
    split at hg
    · rename_i a' hs
      cases hg
      exact F.slot t _ (hx t rfl) hs
    · cases hg
  | const v =>
    simp only [rd] at hg
    split at hg
    · rename_i a' ha
      cases hg
      exact ofValue_VR ha
    · simp [gv] at hg
  | func f =>
    simp only [rd, gv] at hg
    cases hg
    exact ⟨#[], #[], rfl, .nil, .nil⟩
  | global g => simp [rd, gv] at hg
theorem gvs_VR (F : FrR A n ok fr act.tmps w) : ∀ {xs : List Operand}, (∀ x ∈ xs, OkO ok x) → ∀ {l : List AV}, gvs (xs.map rd) fr = some l → VRs A.s l (xs.map act.eval)
  | [], _, l, hg => by simp [gvs] at hg; subst hg; exact .nil
  | x :: xs, hx, l, hg => by
    simp only [List.map_cons, gvs] at hg
    split at hg
    · rename_i a ha
      split at hg
      · rename_i r hr
        cases hg
        exact .cons (gv_VR F (hx x (by simp)) ha) (gvs_VR F (fun y hy => hx y (by simp [hy])) hr)
      · cases hg
    · cases hg
theorem pathOf_num (p : Path) : pathOf (num p) = p := num_inj (num_pathOf _)

/-- Where an address points. -/
def PlR (A : Asg) (x : Value) : Place → Prop
  | .loc _ g o => ∃ blk, A.b g = some blk ∧ x = .pointer (some ⟨blk, o, none⟩)
  | .mem b o => ∃ r, A.s b = some r ∧ x = .pointer (some ⟨r.blk, r.off + o, none⟩)
theorem place_R (F : FrR A n ok fr act.tmps w) {x : Operand} (hx : OkO ok x) {p : Place} (hg : place (rd x) fr = some p) : PlR A (act.eval x) p := by
  cases x with
  | tmp t =>
    simp only [rd, place] at hg
    split at hg
    · rename_i b o hs
      cases hg
      exact F.slot t _ (hx t rfl) hs
    · rename_i g l hs
      cases hg
      obtain ⟨blk, h1, h2, _⟩ := F.slot t _ (hx t rfl) hs
      exact ⟨blk, h1, h2⟩
    · rename_i d g o hs
      cases hg
      exact F.slot t _ (hx t rfl) hs
    · cases hg
  | const v =>
    simp only [rd] at hg
    split at hg <;> simp [place] at hg
  | func f => simp [rd, place] at hg
  | global g => simp [rd, place] at hg

theorem cut_eq {off m : Nat} {l r : List AV} (e : cut off m l = some r) : off + m ≤ l.length ∧ r = (l.drop off).take m := by
  unfold cut at e
  split at e
  · rename_i hb; cases e; exact ⟨Nat.le_of_ble_eq_true hb, rfl⟩
  · cases e
theorem all_drop {l : List AV} (hs : l.all sc = true) (k : Nat) : (l.drop k).all sc = true := by
  rw [List.all_eq_true] at *; exact fun x hx => hs x (List.mem_of_mem_drop hx)
theorem all_take {l : List AV} (hs : l.all sc = true) (k : Nat) : (l.take k).all sc = true := by
  rw [List.all_eq_true] at *; exact fun x hx => hs x (List.mem_of_mem_take hx)

theorem add_none (b o j : Nat) : (⟨b, o, none⟩ : Addr).add j = ⟨b, o + j, none⟩ := by unfold Addr.add; split <;> simp_all

/-- What is read at a place is what lies there. -/
theorem loadAt_R (F : FrR A n ok fr act.tmps w) (hr : HR A h w) {x : Value} {p : Place} (hp : PlR A x p) {m : Nat} {l : List AV} (hl : loadAt fr h p m = some l) :
    l.length = m ∧ l.all sc = true ∧ ∃ a xs, x = .pointer (some a) ∧ VRs A.s l xs ∧ ∀ j v, xs[j]? = some v → w.cell? (a.add j) = some v := by
  cases p with
  | loc d g o =>
    simp only [loadAt] at hl
    split at hl
    · rename_i g' l0 hs
      split at hl
      · rename_i hb
        have hb := Nat.eq_of_beq_eq_true hb
        subst hb
        obtain ⟨h1, rfl⟩ := cut_eq hl
        obtain ⟨blk, e1, e2⟩ := hp
        have H := F.slot (num d) _ (by rw [pathOf_num]; exact F.bok d _ _ hs) (by rw [pathOf_num]; exact hs)
        obtain ⟨blk', e3, _, cs, T, e4, e5, e6⟩ := H
        rw [e1] at e3; cases e3
        refine ⟨by simp; omega, all_take (all_drop e6 o) m, ⟨blk, o, none⟩, (cs.toList.drop o).take m, e2, (e5.drop o).take m, ?_⟩
        intro j v hv
        rw [add_none, cell_of_row w blk (o + j) cs T _ e4]
        rw [List.getElem?_take] at hv
        split at hv
        · rw [List.getElem?_drop] at hv; simpa using hv
        · cases hv
      · cases hl
    · cases hl
  | mem b o =>
    simp only [loadAt] at hl
    split at hl
    · rename_i k hk
      split at hl
      · rename_i row hrow
        obtain ⟨h1, rfl⟩ := cut_eq hl
        obtain ⟨r, e1, e2⟩ := hp
        have B := (hr.blk b k r (getC_eq hk).1 e1).blk (getC_eq hk).2
        obtain ⟨cs, T, fz, e3, _, _, e4⟩ := B.cells
        obtain ⟨e5, e6, e7⟩ := e4 _ _ hrow
        have hlen : ((row.drop (o % k.k)).take m).length = m := by simp; omega
        have hmod : o = o / k.k * k.k + o % k.k := by rw [Nat.mul_comm]; exact (Nat.div_add_mod o k.k).symm
        -- the values that lie there
        have hx : ∀ i, i < m → ∃ v, w.cell? ⟨r.blk, r.off + o + i, none⟩ = some v ∧ ∀ a, ((row.drop (o % k.k)).take m)[i]? = some a → VR A.s a v := by
          intro i hi
          have hi' : o % k.k + i < row.length := by omega
          obtain ⟨v, hv, hvr⟩ := e7 (o % k.k + i) _ (List.getElem?_eq_getElem hi')
          have e8 : r.off + o / k.k * r.k + (o % k.k + i) = r.off + o + i := by rw [B.k]; omega
          rw [e8] at hv
          refine ⟨v, by rw [cell_of_row w r.blk _ cs T fz e3]; exact hv, fun a ha => ?_⟩
          rw [List.getElem?_take, if_pos hi, List.getElem?_drop, List.getElem?_eq_getElem hi'] at ha
          cases ha; exact hvr
        refine ⟨hlen, all_take (all_drop e6 _) m, ⟨r.blk, r.off + o, none⟩, (List.range m).map (fun i => (w.cell? ⟨r.blk, r.off + o + i, none⟩).getD undef), e2, ?_, ?_⟩
        · refine VRs.iff.2 ⟨by simp; omega, fun i a v ha hv => ?_⟩
          have hi : i < m := by rcases Nat.lt_or_ge i m with h | h; exact h; rw [List.getElem?_eq_none (by omega)] at ha; cases ha
          obtain ⟨v', h1, h2⟩ := hx i hi
          simp [hi, h1] at hv
          subst hv
          exact h2 a ha
        · intro j v hv
          rw [add_none]
          have hj : j < m := by rcases Nat.lt_or_ge j m with h | h; exact h; rw [List.getElem?_eq_none (by simp; omega)] at hv; cases hv
          obtain ⟨v', h1, h2⟩ := hx j hj
          simp [hj, h1] at hv
          subst hv; exact h1
      · cases hl
    · cases hl

/-- Cells as a value. -/
theorem val_R {s : Path → Option Ref} {g : Bool} {l : List AV} {a : AV} (hv : val g l = some a) {xs : List Value} (hl : VRs s l xs) (hs : l.all sc = true) :
    (g = true ∧ a = .agg l ∧ VR s a (.agg xs.toArray)) ∨ (g = false ∧ ∃ x, l = [a] ∧ xs = [x] ∧ VR s a x) := by
  unfold val at hv
  split at hv
  · cases hv; exact .inl ⟨rfl, rfl, xs.toArray, rfl, hl, hs⟩
  · split at hv
    · cases hv
      obtain ⟨y, ys, rfl, h1, h2⟩ := hl
      simp only [VRs] at h2; subst h2
      exact .inr ⟨rfl, y, rfl, rfl, h1⟩
    · cases hv

theorem run_isAgg {t : TypeId} {g : Bool} (hg : isAggT P t = some g) (w : World) : (isAgg t).run P w = .ok g w := by
  unfold isAggT at hg
  unfold isAgg
  split at hg <;> first | cases hg | skip
  all_goals (rename_i hu; simp [run_underlying hu])
theorem run_size {t : TypeId} {m : Nat} (hm : sizeT P t = some m) (w : World) : (sizeOf t).run P w = .ok m w := by
  unfold sizeT at hm
  split at hm
  · rename_i i hi; cases hm; simp [sizeOf, typeInfo, hi]
  · cases hm

theorem patch_eq {off : Nat} {x l r : List AV} (e : patch off x l = some r) : off + x.length ≤ l.length ∧ r = l.take off ++ (x ++ l.drop (off + x.length)) := by
  unfold patch at e
  split at e
  · rename_i hb; cases e; exact ⟨Nat.le_of_ble_eq_true hb, rfl⟩
  · cases e
theorem foldl_put (off : Nat) : ∀ (vs : List Value) (j : Nat) (cells : Array Value), off + j + vs.length ≤ cells.size →
    ((vs.zipIdx j).foldl (fun cs (x : Value × Nat) => cs.setIfInBounds (off + x.2) x.1) cells).toList = cells.toList.take (off + j) ++ vs ++ cells.toList.drop (off + j + vs.length)
  | [], j, cells, _ => by simp
  | v :: vs, j, cells, hl => by
    simp only [List.length_cons] at hl
    rw [List.zipIdx_cons, List.foldl_cons, foldl_put off vs (j + 1) _ (by simp; omega)]
    have := list_seg_step cells.toList (off + j) v vs (by simp; omega)
    simp only [Array.toList_setIfInBounds, List.length_cons]
    rw [show off + (j + 1) = off + j + 1 by omega]
    exact this
theorem patch_VRs {s : Path → Option Ref} {off : Nat} {x l r : List AV} (e : patch off x l = some r) {vs ls : List Value} (hx : VRs s x vs) (hl : VRs s l ls) :
    VRs s r (ls.take off ++ vs ++ ls.drop (off + vs.length)) := by
  obtain ⟨_, rfl⟩ := patch_eq e
  rw [hx.length, List.append_assoc]
  exact VRs.append (hl.take off) (VRs.append hx (hl.drop _))
theorem all_append {l r : List AV} (h1 : l.all sc = true) (h2 : r.all sc = true) : (l ++ r).all sc = true := by rw [List.all_append, h1, h2]; rfl
theorem patch_all {off : Nat} {x l r : List AV} (e : patch off x l = some r) (hx : x.all sc = true) (hl : l.all sc = true) : r.all sc = true := by
  obtain ⟨_, rfl⟩ := patch_eq e
  exact all_append (all_take hl _) (all_append hx (all_drop hl _))

/-- Parts, each at its place: places are those of the type. -/
theorem fill_R (F : FrR A n ok fr act.tmps w) (place : Nat → Option (Nat × Nat)) : ∀ (ps : List (Nat × Operand)) (qs : List (Nat × Nat × Rd)),
    (ps.length = qs.length ∧ ∀ (i : Nat) p q, ps[i]? = some p → qs[i]? = some q → place p.1 = some (q.1, q.2.1) ∧ q.2.2 = rd p.2) → (∀ x ∈ ps.map (·.2), OkO ok x) →
    ∀ (z l : List AV) (cs : Array Value), Go.Ev.fill qs fr z = some l → VRs A.s z cs.toList → z.all sc = true →
    ∃ cs', Instr.fill place cs (ps.map fun x => (x.1, act.eval x.2)) = some cs' ∧ VRs A.s l cs'.toList ∧ l.all sc = true
  | [], [], _, _, z, l, cs, hf, hz, hs => by simp only [Go.Ev.fill] at hf; cases hf; exact ⟨cs, rfl, hz, hs⟩
  | [], _ :: _, hq, _, _, _, _, _, _, _ => by simp at hq
  | _ :: _, [], hq, _, _, _, _, _, _, _ => by simp at hq
  | (i, x) :: ps, (off, m, r) :: qs, hq, hk, z, l, cs, hf, hz, hs => by
    obtain ⟨h1, h2⟩ := hq.2 0 _ _ rfl rfl
    simp only at h1 h2
    subst h2
    simp only [Go.Ev.fill] at hf
    split at hf
    · rename_i a ha
      split at hf
      · rename_i c hca
        split at hf
        · rename_i hm
          have hm := Nat.eq_of_beq_eq_true hm
          split at hf
          · rename_i z' hz'
            obtain ⟨hc, hcs⟩ := (gv_VR F (hk x (by simp)) ha).cells hca
            have hlen := hc.length
            obtain ⟨hb, _⟩ := patch_eq hz'
            have hzl := hz.length
            have hfold := foldl_put off (act.eval x).cells.toList 0 cs (by simp at hlen hzl ⊢; omega)
            have hcells : ((act.eval x).cells.zipIdx.foldl (fun cs (c : Value × Nat) => cs.setIfInBounds (off + c.2) c.1) cs).toList = cs.toList.take off ++ (act.eval x).cells.toList ++ cs.toList.drop (off + (act.eval x).cells.toList.length) := by
              rw [← Array.foldl_toList, Array.toList_zipIdx]
              simpa using hfold
            obtain ⟨cs', e1, e2, e3⟩ := fill_R F place ps qs ⟨by simpa using hq.1, fun j p q hp hq' => hq.2 (j + 1) p q (by simpa using hp) (by simpa using hq')⟩ (fun y hy => hk y (by simp at hy ⊢; exact .inr hy)) z' l
              ((act.eval x).cells.zipIdx.foldl (fun cs (c : Value × Nat) => cs.setIfInBounds (off + c.2) c.1) cs) hf (by rw [hcells]; exact patch_VRs hz' hc hz) (patch_all hz' hcs hs)
            refine ⟨cs', ?_, e2, e3⟩
            simp only [List.map_cons, Instr.fill, h1]
            rw [if_neg (by simp at hlen hzl ⊢; omega)]
            exact e1
          · cases hf
        · cases hf
      · cases hf
    · cases hf
end Go.Ev
