/- One cell of a block of one row, read and written from outside the evaluator. -/
import Derived.Test.YtdfkioaoijmhbaaGreatDoorEvMc
import Derived.Test.YtdfkioaoijmhbaaGreatDoorEvMb
set_option linter.unusedVariables false
namespace Go.Ev.Rep
set_option linter.unusedSectionVars false
variable [Unk]
open Go Go.RowKit
variable {P : Program} {A : Asg} {h : H} {w : World}
theorem setCell_wr2 {w : World} {g k : Nat} {cs : Array Value} {T : TypeId} {fz : Nat × Nat} {v : Value} (hg : w.heap[g]? = some (.cells cs T fz)) (hk : k < cs.size) :
    w.setCell ⟨g, k, none⟩ v = wr w g (.cells (cs.toList.take k ++ [v] ++ cs.toList.drop (k + [v].length)).toArray T fz) := by
  have hlt : g < w.heap.size := (Array.getElem?_eq_some_iff.1 hg).1
  have hc : cs.setIfInBounds k v = (cs.toList.take k ++ [v] ++ cs.toList.drop (k + [v].length)).toArray := by
    apply Array.ext'
    rw [Array.toList_setIfInBounds, List.set_eq_take_append_cons_drop, if_pos (by simpa using hk)]
    simp
  unfold World.setCell wr
  congr 1
  apply Array.ext_getElem?
  intro i
  rw [Array.getElem?_modify, Array.getElem?_setIfInBounds]
  by_cases h : g = i
  · subst h
    rw [if_pos rfl, if_pos rfl, if_pos hlt, hg]
    simp [hc]
  · rw [if_neg h, if_neg h]
theorem poke {p : Path} {b : Blk} {r : Ref} {o : Nat} {row0 row1 : List AV} {a : AV} {x : Value} (hr : HR A h w) (hb : getC p h.t = some b) (hs : A.s p = some r) (hro : b.ro = false) (h0 : get (pathOf 0) b.rows = some row0) (hp : patch o [a] row0 = some row1) (hx : VR A.s a x) (hsc : sc a = true) :
    Inv ⟨A, h, w⟩ A (h.put p (some { b with rows := set (pathOf 0) (some row1) b.rows })) (w.setCell ⟨r.blk, r.off + o, none⟩ x) := by
  obtain ⟨hget, hmap⟩ := getC_eq hb
  have B := (hr.blk p b r hget hs).blk hmap
  obtain ⟨cs, T, e1, e2, e3⟩ := B.patched hro h0 hp (VRs.cons hx .nil) (by simp [hsc])
  have hz : r.off + 0 * r.k + o = r.off + o := by omega
  rw [hz] at e2 e3
  rw [setCell_wr2 e1 (by simp at e2; omega)]
  exact (Inv.start hr).write hget hs hro hro (.of hmap e3)
theorem cellAt {p : Path} {b : Blk} {r : Ref} {o : Nat} {row0 : List AV} {a : AV} (hr : HR A h w) (hb : getC p h.t = some b) (hs : A.s p = some r) (h0 : get (pathOf 0) b.rows = some row0) (ha : row0[o]? = some a) :
    ∃ x, w.cell? ⟨r.blk, r.off + o, none⟩ = some x ∧ VR A.s a x := by
  obtain ⟨hget, hmap⟩ := getC_eq hb
  have B := (hr.blk p b r hget hs).blk hmap
  obtain ⟨cs, T, fz, c1, c2, c3, c4⟩ := B.cells
  obtain ⟨f1, f2, f3⟩ := c4 _ _ h0
  obtain ⟨x, hx, hv⟩ := f3 _ _ ha
  rw [show r.off + 0 * r.k + o = r.off + o by omega] at hx
  refine ⟨x, ?_, hv⟩
  unfold World.cell?
  simp only [c1, Option.isSome_none, Bool.false_eq_true, if_false]
  exact hx
theorem notFrozen {p : Path} {b : Blk} {r : Ref} (o : Nat) (hr : HR A h w) (hb : getC p h.t = some b) (hs : A.s p = some r) (hro : b.ro = false) : w.frozen? ⟨r.blk, o, none⟩ = false := by
  obtain ⟨hget, hmap⟩ := getC_eq hb
  have B := (hr.blk p b r hget hs).blk hmap
  obtain ⟨cs, T, fz, c1, c2, c3, c4⟩ := B.cells
  have hfz := c2 hro
  subst hfz
  unfold World.frozen?
  simp [c1]
theorem met {Γ : Glob} {A' : Asg} {h' : H} {w' : World} (hg : Γ.Met A w) (I : Inv ⟨A, h, w⟩ A' h' w') : Γ.Met A' w' := Glob.Met.go (E := ⟨A, h, w⟩) hg I
end Go.Ev.Rep
