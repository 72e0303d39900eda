/- Appending: the evaluator's is the model's. -/
import Derived.Test.YtlbooinipoaapaaDoorEvApp
namespace Go.Ev
variable {P : Program} {E : Ent} {A : Asg} {n : Nat} {ok : Path → Prop} {fr : FT} {act : Act} {w : World} {h : H} {tmps : Array Value}

theorem Sta.alloc (S : Sta E A n ok fr h tmps w) {b : Blk} {r : Ref} {o : Obj} {d : Nat} (hr : r.blk = w.heap.size) (hB : ObR (A.withS h.next r).s (more w o d) b r) : Sta E (A.withS h.next r) n ok fr (h.new b) tmps (more w o d) where
  inv := (S.inv.alloc (o := o) hr (ObR.pushed hB (fun _ _ e => e) rfl)).drew d
  frr := S.frr.pushed (withS_mono S.inv.hr.none_next) (fun _ _ e => e) (fun g x hg => heap_push (S.inv.hr.bfresh g x hg).2)
  bge := S.bge
theorem Sta.drop (S : Sta E A n ok fr h tmps w) {p : Path} {r : Ref} (hs : A.s p = some r) : Sta E A n ok fr (h.put p none) tmps w where
  inv := S.inv.drop hs
  frr := S.frr
  bge := S.bge
theorem Sta.grow (S : Sta E A n ok fr h tmps w) {p : Path} {b b' : Blk} {r r' : Ref} {o : Obj} (hp : get p h.t = some b) (hs : A.s p = some r) (hro : b.ro = false) (hblk : r'.blk = r.blk)
    (hB : ObR (A.withS h.next r').s (wr w r.blk o) b' r') : Sta E (A.withS h.next r') n ok fr ((h.put p none).new b') tmps (wr w r.blk o) where
  inv := S.inv.grow hp hs hro hblk hB
  frr := (S.frr.wrote S.inv.hr hs).pushed (withS_mono S.inv.hr.none_next) (fun _ _ e => e) (fun _ _ _ => rfl)
  bge := S.bge
theorem Sta.write (S : Sta E A n ok fr h tmps w) {p : Path} {b b' : Blk} {r : Ref} {o : Obj} (hp : get p h.t = some b) (hs : A.s p = some r) (hro : b.ro = false) (hro' : b'.ro = false) (hB : ObR A.s (wr w r.blk o) b' r) :
    Sta E A n ok fr (h.put p (some b')) tmps (wr w r.blk o) where
  inv := S.inv.write hp hs hro hro' hB
  frr := S.frr.wrote S.inv.hr hs
  bge := S.bge

/-- What a block that is there ahead of its time does not notice. -/
structure HKept (A : Asg) (h : H) (A' : Asg) (h' : H) : Prop where
  next : num h.next ≤ num h'.next
  ph : ∀ p, num p < num h.next → A.s p = none → A'.s p = none ∧ get p h'.t = get p h.t
theorem HKept.refl (A : Asg) (h : H) : HKept A h A h := ⟨Nat.le_refl _, fun _ _ e => ⟨e, rfl⟩⟩
theorem HKept.put (A : Asg) (h : H) {p : Path} {r : Ref} (hp : A.s p = some r) (b : Option Blk) : HKept A h A (h.put p b) :=
  ⟨Nat.le_refl _, fun q _ e => ⟨e, get_set_other _ _ _ _ (fun e' => by rw [e', hp] at e; cases e)⟩⟩
theorem HKept.new (A : Asg) (h : H) (r : Ref) (b : Blk) : HKept A h (A.withS h.next r) (h.new b) :=
  ⟨by show num h.next ≤ num (inc h.next); rw [num_inc]; omega, fun q hq e => ⟨by
    show (if q = h.next then some r else A.s q) = none
    rw [if_neg (fun e' => by subst e'; omega)]; exact e, get_set_other _ _ _ _ (fun e' => by subst e'; omega)⟩⟩
theorem HKept.trans {A A' A'' : Asg} {h h' h'' : H} (k : HKept A h A' h') (k' : HKept A' h' A'' h'') : HKept A h A'' h'' :=
  ⟨Nat.le_trans k.next k'.next, fun p hp e => by
    obtain ⟨e1, e2⟩ := k.ph p hp e
    obtain ⟨e3, e4⟩ := k'.ph p (Nat.lt_of_lt_of_le hp k.next) e1
    exact ⟨e3, e4.trans e2⟩⟩
theorem HKept.dropNew (A : Asg) (h : H) {p : Path} {q : Ref} (hp : A.s p = some q) (r : Ref) (b : Blk) : HKept A h (A.withS h.next r) ((h.put p none).new b) :=
  (HKept.put A h hp none).trans (HKept.new A (h.put p none) r b)
theorem zeroCells_len (z : Array Value) (m : Nat) : (Builtin.zeroCells z m).toList.length = m * z.size := by
  rw [Array.length_toList, size_zeroCells]
theorem sl_len {p : Path} {k i m c : Nat} (h : lenOf (.sl p k i m) = some c) : m = c := by
  unfold lenOf at h; cases h; rfl

theorem appendRows_R (S : Sta E A n ok fr h tmps w) {t u ty e : TypeId} {i : TypeInfo} {z : Value} (ht : P.underlying t = some (.slice e)) (hu : (∃ e', P.underlying u = some (.slice e')) ∨ P.underlying u = some .string)
    (hi : P.info? e = some i) (hz : i.zero = some z) {k : Nat} (hk : i.size = k) (h0 : 0 < k) (hzk : z.cells.size = k) (hby : i.bytes ≤ 8388608)
    {s a : AV} {m : Nat} {src : Tr (List AV)} {i0 : Nat} {h' : H} (hr : appendRows h k s m src i0 = some (a, h')) {c : Nat} (hlen : lenOf a = some c) (hc : c ≤ 16777216)
    {sx x : Value} (hs : VR A.s s sx) {news : List Value} (hx : Tail P w k m x news) (hn : RowsR A.s k src i0 m news) :
    ∃ v w' A', (Builtin.append_ #[t, u] ty #[sx, x]).run P w = .ok v w' ∧ VR A'.s a v ∧ Sta E A' n ok fr h' tmps w' ∧ HKept A h A' h' := by
  subst hk
  unfold appendRows at hr
  split at hr
  · -- nothing ahead
    simp only [VR] at hs; subst hs
    split at hr
    · cases hr
      have hnil : news = [] := List.eq_nil_of_length_eq_zero (by rw [hn.1]; simp)
      exact ⟨_, w, A, run_append_in ht hu hi hx (Nat.zero_le _) (w' := w) (fun a e => by cases e) (fun _ => rfl), by simp [VR], S, .refl A h⟩
    · rename_i hm
      have hm : 0 < m := Nat.pos_of_ne_zero (fun e => hm e)
      split at hr
      · rename_i t' ht'
        cases hr
        have hmc := sl_len hlen
        subst hmc
        obtain ⟨cap, h1, h2⟩ := run_append_out (w := w) (ty := ty) ht hu hi hz (base := none) (sLen := 0) (sCap := 0) (olds := []) hx (fun w' _ => by simp [Builtin.firstCells]) (by omega) (by omega) hby
        have ho : RowsR A.s i.size (.nil : Tr (List AV)) 0 0 [] := ⟨by simp, fun j hj => by omega⟩
        have hB := appended_R (w := w) S.inv.hr.none_next h0 (m0 := 0) ho hn (t1 := .nil) (fun j row hj => (by rw [get_nil] at hj; cases hj)) ht' h1 (zs := (Builtin.zeroCells z.cells (cap - (0 + m))).toList) (by rw [zeroCells_len, hzk]) e (w.drawn + 1)
        simp only [Nat.zero_add] at h2 hB h1
        exact ⟨_, _, _, h2, ⟨_, withS_same _ _ _, rfl, by simpa using h1, by simp⟩, S.alloc rfl (.of rfl hB), .new A h _ _⟩
      · cases hr
  · rename_i b kk i1 n1
    obtain ⟨q, hq, hqk, hqc, rfl⟩ := hs
    split at hr
    · rename_i bl hbl
      have B := (S.inv.hr.blk b bl q (getC_eq hbl).1 hq).blk (getC_eq hbl).2
      split at hr
      · cases hr
      · rename_i hro
        split at hr
        · cases hr
        · rename_i hbk
          have hbk := Nat.eq_of_beq_eq_true hbk
          have hqi : q.k = i.size := by rw [B.k, hbk]
          split at hr
          · -- there is room that is ours
            rename_i hroom
            have hroom := Nat.le_of_ble_eq_true hroom
            split at hr
            · rename_i t' ht'
              cases hr
              have hcap : i1 + n1 + m ≤ q.cap := Nat.le_trans hroom B.cap
              rw [← hbk] at hn
              obtain ⟨hcp, hpres⟩ := get_copyRows _ _ _ _ _ _ ht'
              obtain ⟨cs, T, e1, e2, cs', e3, e4, e5, e6⟩ := written_R B hro (i := i1 + n1) hn hcap
              have hst := run_storeCells_at P q.blk (q.off + (i1 + n1) * q.k) T news 0 cs w e1 (by omega) (hn.one B.kpos hpres)
              rw [Nat.add_zero, setRow_wr e1, ← e4] at hst
              have hlt : q.blk < w.heap.size := (Array.getElem?_eq_some_iff.1 e1).1
              refine ⟨_, _, A, run_append_in ht hu hi hx (by omega) (w' := wr w q.blk (.cells cs' T (0, 0))) (fun a ea => ?_) (fun ea => by cases ea), ⟨q, hq, hqi, by omega, by rw [hqi]⟩, S.write (b' := { bl with rows := t' }) (getC_eq hbl).1 hq hro hro (.of (getC_eq hbl).2 ?_), .put A h hq _⟩
              · cases ea
                rw [add_none, show q.off + i1 * q.k + n1 * i.size = q.off + (i1 + n1) * q.k by rw [hqi, Nat.add_mul]; omega]
                exact hst
              · obtain ⟨cs0, T0, fz0, f1, f2, f3, f4⟩ := B.cells
                rw [e1] at f1; cases f1
                refine { k := B.k, kpos := B.kpos, cap := B.cap, shut := B.shut, top := fun j row hj => by
                            have hj : get (pathOf j) t' = some row := hj
                            rw [hcp j] at hj
                            split at hj
                            · simp only; omega
                            · exact B.top _ _ hj
                          , cells := ⟨cs', T, (0, 0), wr_same hlt, fun _ => rfl, by rw [e3]; exact f3, fun j row hj => ?_⟩ }
                have hj : get (pathOf j) t' = some row := hj
                rw [hcp j] at hj
                split at hj
                · rename_i hjm
                  obtain ⟨g1, g2, g3⟩ := hn.2 (j - (i1 + n1)) (by omega) row hj
                  refine ⟨g1, g2, fun p a ha => ?_⟩
                  obtain ⟨x, hx, hv⟩ := g3 p a ha
                  have hp : p < bl.k := by rcases Nat.lt_or_ge p row.length with h | h; omega; rw [List.getElem?_eq_none h] at ha; cases ha
                  refine ⟨x, ?_, hv⟩
                  have := e6 (j - (i1 + n1)) p hp (by omega)
                  rw [show i1 + n1 + (j - (i1 + n1)) = j by omega] at this
                  rw [this]; exact hx
                · rename_i hjm
                  obtain ⟨g1, g2, g3⟩ := f4 j row hj
                  refine ⟨g1, g2, fun p a ha => ?_⟩
                  obtain ⟨x, hx, hv⟩ := g3 p a ha
                  have hp : p < bl.k := by rcases Nat.lt_or_ge p row.length with h | h; omega; rw [List.getElem?_eq_none h] at ha; cases ha
                  exact ⟨x, by rw [e5 j p hp (by omega)]; exact hx, hv⟩
            · cases hr
          · rename_i hroom
            have hroom : ¬ (i1 + n1 + m ≤ bl.n) := fun h => by rw [Nat.ble_eq_true_of_le h] at hroom; cases hroom
            split at hr
            · rename_i hend
              have hend := Nat.eq_of_beq_eq_true hend
              split at hr
              · rename_i t1 ht1
                split at hr
                · rename_i t2 ht2
                  cases hr
                  have hmc := sl_len hlen
                  have hcp1 : ∀ j row, get (pathOf j) t1 = some row → j < n1 ∧ get (pathOf (i1 + j)) bl.rows = some row := by
                    intro j row hj
                    unfold oldRows at ht1
                    split at ht1
                    · cases ht1
                      have := B.top j row hj
                      exact ⟨by omega, by simpa using hj⟩
                    · rw [(get_copyRows _ _ _ _ _ _ ht1).1 j] at hj
                      split at hj
                      · rename_i hjm; exact ⟨by omega, by simpa using hj⟩
                      · rw [get_nil] at hj; cases hj
                  obtain ⟨hcp2, hpres2⟩ := get_copyRows _ _ _ _ _ _ ht2
                  by_cases hcr : n1 + m ≤ q.cap - i1
                  · -- the row goes on where it lies
                    have hgr : bl.grows = true := by
                      cases hg : bl.grows with
                      | true => rfl
                      | false => have := B.shut hg; omega
                    rw [hgr]
                    simp only
                    have hn' := hn
                    rw [← hbk] at hn'
                    obtain ⟨cs, T, e1, e2, cs', e3, e4, e5, e6⟩ := written_R B hro (i := i1 + n1) hn' (by omega)
                    have hst := run_storeCells_at P q.blk (q.off + (i1 + n1) * q.k) T news 0 cs w e1 (by omega) (hn'.one B.kpos hpres2)
                    rw [Nat.add_zero, setRow_wr e1, ← e4] at hst
                    have hlt : q.blk < w.heap.size := (Array.getElem?_eq_some_iff.1 e1).1
                    refine ⟨_, _, A.withS h.next ⟨q.blk, q.off + i1 * q.k, i.size, q.cap - i1⟩, run_append_in ht hu hi hx hcr (w' := wr w q.blk (.cells cs' T (0, 0))) (fun a ea => ?_) (fun ea => by cases ea),
                      ⟨_, withS_same _ _ _, rfl, by simp only; omega, by simp⟩, S.grow (b' := ⟨i.size, n1 + m, t2, true, false, false⟩) (getC_eq hbl).1 hq hro rfl (.of rfl ?_), .dropNew A h hq _ _⟩
                    · cases ea
                      rw [add_none, show q.off + i1 * q.k + n1 * i.size = q.off + (i1 + n1) * q.k by rw [hqi, Nat.add_mul]; omega]
                      exact hst
                    · obtain ⟨cs0, T0, fz0, f1, f2, f3, f4⟩ := B.cells
                      rw [e1] at f1; cases f1
                      have hm := withS_mono (r := ⟨q.blk, q.off + i1 * q.k, i.size, q.cap - i1⟩) S.inv.hr.none_next
                      have hoff : ∀ j p, q.off + i1 * q.k + j * i.size + p = q.off + (i1 + j) * q.k + p := fun j p => by rw [hqi, Nat.add_mul]; omega
                      refine { k := rfl, kpos := h0, cap := by simp only; omega, shut := fun hg => (by cases hg), top := fun j row hj => by
                                  have hj : get (pathOf j) t2 = some row := hj
                                  rw [hcp2 j] at hj
                                  split at hj
                                  · simp only; omega
                                  · have := (hcp1 j row hj).1; simp only; omega
                                , cells := ⟨cs', T, (0, 0), wr_same hlt, fun _ => rfl, ?_, fun j row hj => ?_⟩ }
                      · rw [e3]
                        have : (i1 + (q.cap - i1)) * q.k = q.cap * q.k := by congr 1; omega
                        rw [Nat.add_mul] at this
                        simp only
                        rw [← hqi]
                        omega
                      · have hj : get (pathOf j) t2 = some row := hj
                        rw [hcp2 j] at hj
                        split at hj
                        · rename_i hjm
                          obtain ⟨g1, g2, g3⟩ := hn.2 (j - n1) (by omega) row hj
                          refine ⟨g1, g2, fun p a ha => ?_⟩
                          obtain ⟨x, hx, hv⟩ := g3 p a ha
                          have hp : p < bl.k := by rcases Nat.lt_or_ge p row.length with h | h; omega; rw [List.getElem?_eq_none h] at ha; cases ha
                          refine ⟨x, ?_, VR.mono hm _ _ hv⟩
                          have := e6 (j - n1) p hp (by omega)
                          rw [show i1 + n1 + (j - n1) = i1 + j by omega, ← hoff, hbk] at this
                          exact this.trans hx
                        · rename_i hjm
                          obtain ⟨hj0, hj⟩ := hcp1 j row hj
                          · obtain ⟨g1, g2, g3⟩ := f4 (i1 + j) row hj
                            refine ⟨by rw [g1, hbk], g2, fun p a ha => ?_⟩
                            obtain ⟨x, hx, hv⟩ := g3 p a ha
                            have hp : p < bl.k := by rcases Nat.lt_or_ge p row.length with h | h; omega; rw [List.getElem?_eq_none h] at ha; cases ha
                            refine ⟨x, ?_, VR.mono hm _ _ hv⟩
                            have := e5 (i1 + j) p hp (by omega)
                            rw [← hoff] at this
                            rw [← hoff] at hx
                            exact this.trans hx
                  · -- a new block
                    obtain ⟨olds, g1, g2⟩ := B.seg (i := i1) (m := n1) hqc
                    rw [hbk] at g2
                    have holds : ∀ w', w'.heap = w.heap → (Builtin.firstCells i.size n1 (.slice (some ⟨q.blk, q.off + i1 * q.k, none⟩) n1 (q.cap - i1))).run P w' = .ok olds.toArray w' := fun w' ew =>
                      run_firstCells_some (P := P) w' i.size n1 _ n1 _ olds g2.1 (fun j v hv => (World.cell?_of_block (w := w) (w' := w') (by rw [ew])).trans (g1 j v hv))
                    obtain ⟨cap, h1, h2⟩ := run_append_out (w := w) (ty := ty) ht hu hi hz (base := some ⟨q.blk, q.off + i1 * q.k, none⟩) (sLen := n1) (sCap := q.cap - i1) (olds := olds) hx holds (by omega) (by omega) hby
                    have hB := appended_R (w := w) S.inv.hr.none_next h0 (m0 := n1) g2 hn hcp1 ht2 h1 (zs := (Builtin.zeroCells z.cells (cap - (n1 + m))).toList) (by rw [zeroCells_len, hzk]) e (w.drawn + 1)
                    refine ⟨_, _, A.withS h.next ⟨w.heap.size, 0, i.size, cap⟩, h2, ⟨_, withS_same _ _ _, rfl, by simpa using h1, by simp⟩, ?_⟩
                    split
                    · exact ⟨(S.drop hq).alloc rfl hB, .dropNew A h hq _ _⟩
                    · exact ⟨S.alloc rfl (.of rfl hB), .new A h _ _⟩
                · cases hr
              · cases hr
            · cases hr
    · cases hr
  · cases hr
end Go.Ev
