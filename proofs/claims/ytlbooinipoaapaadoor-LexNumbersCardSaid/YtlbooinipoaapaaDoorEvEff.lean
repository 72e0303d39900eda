/- What writes: stores, blocks of the call's own. -/
import Derived.Test.YtlbooinipoaapaaDoorEvOps6
namespace Go.Ev
variable {P : Program} {E : Ent} {A : Asg} {n : Nat} {ok : Path → Prop} {fr : FT} {act : Act} {w : World} {h : H}

/-- The state of a call and what it stands for. -/
structure Sta (E : Ent) (A : Asg) (n : Nat) (ok : Path → Prop) (fr : FT) (h : H) (tmps : Array Value) (w : World) : Prop where
  inv : Inv E A h w
  frr : FrR A n ok fr tmps w
  bge : ∀ p g l, get p fr = some (.box g l) → E.h.gen ≤ g
theorem setRow_wr {w : World} {g : Nat} {cur cs : Array Value} {T : TypeId} {fz : Nat × Nat} (hg : w.heap[g]? = some (.cells cur T fz)) : w.setRow g cs = wr w g (.cells cs T fz) := by
  have hlt : g < w.heap.size := (Array.getElem?_eq_some_iff.1 hg).1
  have hv : w.heap[g] = .cells cur T fz := (Array.getElem?_eq_some_iff.1 hg).2
  unfold World.setRow wr
  congr 1
  apply Array.ext
  · simp
  · intro k h1 h2
    rw [Array.getElem_modify, Array.getElem_setIfInBounds (by simpa using h1)]
    by_cases hk : g = k
    · subst hk; simp [hv]
    · rw [if_neg hk, if_neg hk]
/-- Cells of one cell each. -/
theorem VRs.one {s : Path → Option Ref} {l : List AV} {xs : List Value} (h : VRs s l xs) (hs : l.all sc = true) : ∀ v ∈ xs, v.oneCell' = true := by
  intro v hv
  obtain ⟨i, hi, e⟩ := List.getElem_of_mem hv
  obtain ⟨h1, h2⟩ := VRs.iff.1 h
  have hi' : i < l.length := by omega
  have hvr := h2 i _ v (List.getElem?_eq_getElem hi') (by rw [List.getElem?_eq_getElem hi, e])
  rw [List.all_eq_true] at hs
  obtain ⟨h3, h4⟩ := hvr.one (hs _ (List.getElem_mem hi'))
  cases v <;> first | rfl | exact absurd rfl (h3 _) | exact absurd rfl (h4 _)
/-- A block, part of one row of which is written. -/
theorem BlkR.patched {s : Path → Option Ref} {w : World} {b : Blk} {r : Ref} (B : BlkR s w b r) (hro : b.ro = false) {j0 off : Nat} {row0 row1 c : List AV} (h0 : get (pathOf j0) b.rows = some row0) (hp : patch off c row0 = some row1)
    {vs : List Value} (hv : VRs s c vs) (hs : c.all sc = true) :
    ∃ cs T, w.heap[r.blk]? = some (.cells cs T (0, 0)) ∧ r.off + j0 * r.k + off + vs.length ≤ cs.size ∧
      BlkR s (wr w r.blk (.cells (cs.toList.take (r.off + j0 * r.k + off) ++ vs ++ cs.toList.drop (r.off + j0 * r.k + off + vs.length)).toArray T (0, 0))) { b with rows := set (pathOf j0) (some row1) b.rows } r := by
  obtain ⟨cs, T, fz, e1, e2, e3, e4⟩ := B.cells
  have hfz := e2 hro
  subst hfz
  obtain ⟨f1, f2, f3⟩ := e4 j0 row0 h0
  obtain ⟨g1, g2⟩ := patch_eq hp
  have hvl := hv.length
  have hk := B.k
  have hkp := B.kpos
  -- the last cell of the row is there
  have hin : r.off + j0 * r.k + b.k ≤ cs.size := by
    obtain ⟨x, hx, _⟩ := f3 (b.k - 1) _ (List.getElem?_eq_getElem (by omega))
    have := (Array.getElem?_eq_some_iff.1 hx).1
    omega
  refine ⟨cs, T, e1, by omega, { k := B.k, kpos := B.kpos, cap := B.cap, shut := B.shut, top := fun j row hj => ?_, cells := ?_ }⟩
  · have hj : get (pathOf j) (set (pathOf j0) (some row1) b.rows) = some row := hj
    rw [get_set] at hj
    split at hj
    · rename_i e; have e := pathOf_inj e; subst e; exact B.top _ _ h0
    · exact B.top _ _ hj
  have hlt : r.blk < w.heap.size := (Array.getElem?_eq_some_iff.1 e1).1
  refine ⟨_, T, (0, 0), wr_same hlt, fun _ => rfl, ?_, fun j row hj => ?_⟩
  · simp only [List.size_toArray, List.length_append, List.length_take, List.length_drop, Array.length_toList]
    omega
  · have hj : get (pathOf j) (set (pathOf j0) (some row1) b.rows) = some row := hj
    rw [get_set] at hj
    split at hj
    · rename_i e
      cases hj
      have := pathOf_inj e
      subst this
      have hl1 : row1.length = b.k := by rw [g2]; simp; omega
      refine ⟨hl1, patch_all hp hs f2, fun i a ha => ?_⟩
      rw [g2] at ha
      by_cases h1 : i < off
      · rw [List.getElem?_append_left (by simp; omega), List.getElem?_take, if_pos h1] at ha
        obtain ⟨x, hx, hxr⟩ := f3 i a ha
        refine ⟨x, ?_, hxr⟩
        rw [List.getElem?_toArray, List.append_assoc, List.getElem?_append_left (by simp; omega), List.getElem?_take, if_pos (by omega)]
        simpa using hx
      · by_cases h2 : i < off + c.length
        · rw [List.getElem?_append_right (by simp; omega), List.getElem?_append_left (by simp; omega)] at ha
          simp only [List.length_take] at ha
          rw [show i - min off row0.length = i - off by omega] at ha
          obtain ⟨x, hx, hxr⟩ := hv.get ha
          refine ⟨x, ?_, hxr⟩
          rw [List.getElem?_toArray, List.append_assoc, List.getElem?_append_right (by simp; omega), List.getElem?_append_left (by simp; omega)]
          simp only [List.length_take, Array.length_toList]
          rw [show r.off + j * r.k + i - min (r.off + j * r.k + off) cs.size = i - off by omega]
          exact hx
        · rw [List.getElem?_append_right (by simp; omega), List.getElem?_append_right (by simp; omega), List.getElem?_drop] at ha
          simp only [List.length_take] at ha
          rw [show off + c.length + (i - min off row0.length - c.length) = i by omega] at ha
          obtain ⟨x, hx, hxr⟩ := f3 i a ha
          refine ⟨x, ?_, hxr⟩
          rw [List.getElem?_toArray, List.getElem?_append_right (by simp; omega), List.getElem?_drop]
          simp only [List.length_append, List.length_take, Array.length_toList]
          rw [show r.off + j * r.k + off + vs.length + (r.off + j * r.k + i - (min (r.off + j * r.k + off) cs.size + vs.length)) = r.off + j * r.k + i by omega]
          simpa using hx
    · rename_i e
      have hne : j ≠ j0 := fun e' => e (by rw [e'])
      obtain ⟨k1, k2, k3⟩ := e4 j row hj
      refine ⟨k1, k2, fun i a ha => ?_⟩
      obtain ⟨x, hx, hxr⟩ := k3 i a ha
      refine ⟨x, ?_, hxr⟩
      have hi : i < b.k := by rcases Nat.lt_or_ge i row.length with h | h; omega; rw [List.getElem?_eq_none h] at ha; cases ha
      rcases Nat.lt_or_gt_of_ne hne with hlt' | hgt
      · have : (j + 1) * r.k ≤ j0 * r.k := Nat.mul_le_mul_right _ hlt'
        rw [Nat.succ_mul] at this
        rw [List.getElem?_toArray, List.append_assoc, List.getElem?_append_left (by simp; omega), List.getElem?_take, if_pos (by omega)]
        simpa using hx
      · have : (j0 + 1) * r.k ≤ j * r.k := Nat.mul_le_mul_right _ hgt
        rw [Nat.succ_mul] at this
        rw [List.getElem?_toArray, List.getElem?_append_right (by simp; omega), List.getElem?_drop]
        simp only [List.length_append, List.length_take, Array.length_toList]
        rw [show r.off + j0 * r.k + off + vs.length + (r.off + j * r.k + i - (min (r.off + j0 * r.k + off) cs.size + vs.length)) = r.off + j * r.k + i by omega]
        simpa using hx

/-- A store. -/
theorem store_R (S : Sta E A n ok fr h act.tmps w) {x : Value} {p : Place} (hp : PlR A x p) {c : List AV} {vs : List Value} (hv : VRs A.s c vs) (hs : c.all sc = true) {fr' : FT} {h' : H} (hst : storeAt fr h p c = some (fr', h')) :
    ∃ ad w', x = .pointer (some ad) ∧ (storeCells ad vs).run P w = .ok () w' ∧ Sta E A n ok fr' h' act.tmps w' := by
  have hvl := hv.length
  cases p with
  | loc d g o =>
    simp only [storeAt] at hst
    split at hst
    · rename_i g' l hd
      split at hst
      · rename_i hg
        have hg := Nat.eq_of_beq_eq_true hg
        subst hg
        split at hst
        · rename_i l' hl'
          cases hst
          obtain ⟨blk, h1, rfl⟩ := hp
          obtain ⟨blk', h2, _, cs, T, h3, h4, h5⟩ := S.frr.slot (num d) _ (by rw [pathOf_num]; exact S.frr.bok d _ _ hd) (by rw [pathOf_num]; exact hd)
          rw [h1] at h2; cases h2
          obtain ⟨h6, _⟩ := patch_eq hl'
          have h7 := h4.length
          have hrun := run_storeCells_at P blk o T vs 0 cs w h3 (by simp at h7; omega) (hv.one hs)
          rw [Nat.add_zero, setRow_wr h3] at hrun
          refine ⟨_, _, rfl, hrun, ⟨S.inv.writeB h1 (S.bge d _ _ hd), S.frr.wroteB S.inv.hr hd h1 (by simpa using patch_VRs hl' hv h4) (patch_all hl' hs h5), fun q g1 l1 hq => ?_⟩⟩
          rw [get_set] at hq
          split at hq
          · cases hq; exact S.bge d _ _ hd
          · exact S.bge q _ _ hq
        · cases hst
      · cases hst
    · cases hst
  | mem b o =>
    simp only [storeAt] at hst
    split at hst
    · rename_i k hk
      split at hst
      · cases hst
      · rename_i hro
        split at hst
        · rename_i row hrow
          split at hst
          · rename_i row' hrow'
            cases hst
            obtain ⟨r, h1, rfl⟩ := hp
            have B := (S.inv.hr.blk b k r (getC_eq hk).1 h1).blk (getC_eq hk).2
            obtain ⟨cs, T, e1, e2, e3⟩ := B.patched hro hrow hrow' hv hs
            have hmod : o = o / k.k * r.k + o % k.k := by rw [B.k, Nat.mul_comm]; exact (Nat.div_add_mod o k.k).symm
            have hoff : r.off + o / k.k * r.k + o % k.k = r.off + o := by omega
            rw [hoff] at e2 e3
            have hrun := run_storeCells_at P r.blk (r.off + o) T vs 0 cs w e1 (by omega) (hv.one hs)
            rw [Nat.add_zero, setRow_wr e1] at hrun
            exact ⟨_, _, rfl, hrun, ⟨S.inv.write (getC_eq hk).1 h1 hro hro (.of (getC_eq hk).2 e3), S.frr.wrote S.inv.hr h1, S.bge⟩⟩
          · cases hst
        · cases hst
    · cases hst
end Go.Ev
