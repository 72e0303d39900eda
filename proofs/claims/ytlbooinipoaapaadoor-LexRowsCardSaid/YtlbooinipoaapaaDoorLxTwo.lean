/- Two bytes more behind what was read. -/
import Derived.Test.YtlbooinipoaapaaDoorLxText
set_option linter.unusedSimpArgs false
set_option linter.unusedVariables false
namespace Go.Proofs.Lx
open Go.Ev
abbrev two8 (c d : UInt8) : Blk := ⟨1, 2, .node (some [.int .u8 (c.toNat : Int)]) (.node (some [.int .u8 (d.toNat : Int)]) .nil .nil .nil .nil) .nil .nil .nil, false, false, false⟩
theorem out_two {h0 h : H} {v : AV} {acc : List UInt8} (ho : OutOk h0 h v acc) (hne : acc ≠ []) (hs : Since h0 h) (c d : UInt8) (hl : acc.length ≤ 1000000) :
    ∃ v' h', appendV (h.new (two8 c d)) 1 v (.sl h.next 1 0 2) = some (v', h') ∧ lenOf v' = some (acc.length + 2) ∧ OutOk h0 h' v' (acc ++ [c, d]) ∧ Since h0 h' ∧ h'.gen = h.gen := by
  have hq : getC h.next (h.new (two8 c d)).t = some (two8 c d) := by
    unfold getC H.new; simp only; rw [get_set, if_pos rfl]
  have hnum := num_new h (two8 c d)
  obtain ⟨hk, hn⟩ := hs
  have k1 : OldKept h0 (h.new (two8 c d)) := hk.new hn _
  have cr : ∀ j t, copyRows (two8 c d).rows 2 0 j t = some (Ev.set (pathOf (j + 1)) (some [.int .u8 (d.toNat : Int)]) (Ev.set (pathOf j) (some [.int .u8 (c.toNat : Int)]) t)) := fun j t => by
    rw [copyRows_succ]
    show copyRows (two8 c d).rows 1 1 (j + 1) _ = _
    rw [copyRows_succ]
    rfl
  rcases ho with ⟨rfl, rfl⟩ | ⟨p, b, rfl, _, hp, hp', hb, hbk, hbn, hbg, hbr, hbm, hrows⟩
  · exact absurd rfl hne
  generalize hB : two8 c d = B at *
  have hBk : Nat.beq B.k 1 = true := by rw [← hB]; rfl
  generalize hh1 : h.new B = h1 at *
  have hg1 : h1.gen = h.gen := by rw [← hh1]; rfl
  have hpne : p ≠ h.next := fun e => by subst e; omega
  have hb1 : Ev.get p h1.t = some b := by
    rw [← hh1]; unfold H.new; simp only; rw [get_set, if_neg hpne]; exact hb
  have hc1 : getC p h1.t = some b := by unfold getC; rw [hb1]; simp only; rw [hbm]
  have hble : Nat.ble (0 + acc.length + 2) b.n = false := by rw [hbn, natBle]; simp
  have hbeq : Nat.beq (0 + acc.length) b.n = true := by rw [hbn, Nat.zero_add]; exact Nat.beq_refl _
  have hk1 : Nat.beq b.k 1 = true := by rw [hbk]; rfl
  refine ⟨.sl h1.next 1 0 (acc.length + 2), (h1.put p none).new ⟨1, acc.length + 2, Ev.set (pathOf (acc.length + 1)) (some [.int .u8 (d.toNat : Int)]) (Ev.set (pathOf acc.length) (some [.int .u8 (c.toNat : Int)]) b.rows), true, false, false⟩, ?_, rfl, .inr ⟨h1.next, ⟨1, acc.length + 2, Ev.set (pathOf (acc.length + 1)) (some [.int .u8 (d.toNat : Int)]) (Ev.set (pathOf acc.length) (some [.int .u8 (c.toNat : Int)]) b.rows), true, false, false⟩, by simp, by simp, by omega, ?_, ?_, rfl, by simp, rfl, rfl, rfl, ?_⟩, ⟨?_, ?_⟩, hg1⟩
  · simp only [appendV, hq, hBk]
    simp only [appendRows, hc1, hbr, hk1, hble, hbeq, oldRows, cr, hbg]
  · rw [num_new]; show num h1.next < num h1.next + 1; omega
  · unfold H.new H.put; simp only; rw [get_set, if_pos rfl]
  · intro j hj
    simp only
    rw [gs, gs]
    by_cases h1j : j = acc.length + 1
    · subst h1j
      simp
    · rw [if_neg (fun e => h1j (pathOf_inj e))]
      by_cases hje : j = acc.length
      · subst hje
        simp
      · have hlt : j < acc.length := by simp at hj; omega
        rw [if_neg (fun e => hje (pathOf_inj e)), hrows j hlt, List.getElem_append_left hlt]
  · intro q hq'
    have e1 : q ≠ h1.next := fun e => by subst e; omega
    have e2 : q ≠ p := fun e => by subst e; omega
    unfold H.new H.put
    simp only
    rw [get_set, if_neg e1, get_set, if_neg e2]
    exact k1 q hq'
  · rw [num_new]; show num h0.next ≤ num h1.next + 1; omega
end Go.Proofs.Lx
