/- Slices of tokens. -/
import Derived.Test.YtlbooinipoaapaaDoorLxRL
set_option linter.unusedSimpArgs false
set_option linter.unusedVariables false
namespace Go.Proofs.Lx
open Go.Ev
/-- What was told so far: nothing, or tokens in a block that grows. -/
def OutT (h0 h : H) (v : AV) (acc : List (List AV)) : Prop := (acc = [] ∧ v = .nils) ∨ (∃ p b, v = .sl p 5 0 acc.length ∧ acc ≠ [] ∧ num h0.next ≤ num p ∧ num p < num h.next ∧ Ev.get p h.t = some b ∧ b.k = 5 ∧ b.n = acc.length ∧ b.grows = true ∧ b.ro = false ∧ b.map = false ∧ ∀ (j : Nat) (hj : j < acc.length), Ev.get (pathOf j) b.rows = some acc[j])
/-- A token more. -/
theorem outT_more {h0 h : H} {v : AV} {acc : List (List AV)} (ho : OutT h0 h v acc) (hs : Since h0 h) (r : List AV) (hl : acc.length ≤ 1000000) :
    ∃ v' h', appendV (h.new ⟨5, 1, .node (some r) .nil .nil .nil .nil, false, false, false⟩) 5 v (.sl h.next 5 0 1) = some (v', h') ∧ lenOf v' = some (acc.length + 1) ∧ OutT h0 h' v' (acc ++ [r]) ∧ Since h0 h' ∧ h'.gen = h.gen := by
  have hq : getC h.next (h.new ⟨5, 1, .node (some r) .nil .nil .nil .nil, false, false, false⟩).t = some ⟨5, 1, .node (some r) .nil .nil .nil .nil, false, false, false⟩ := by
    unfold getC H.new; simp only; rw [get_set, if_pos rfl]
  have hnum := num_new h ⟨5, 1, .node (some r) .nil .nil .nil .nil, false, false, false⟩
  obtain ⟨hk, hn⟩ := hs
  have k1 : OldKept h0 (h.new ⟨5, 1, .node (some r) .nil .nil .nil .nil, false, false, false⟩) := hk.new hn _
  generalize hh1 : h.new ⟨5, 1, .node (some r) .nil .nil .nil .nil, false, false, false⟩ = h1 at *
  have hg1 : h1.gen = h.gen := by rw [← hh1]; rfl
  have cr : ∀ j t, copyRows (.node (some r) .nil .nil .nil .nil) 1 0 j t = some (Ev.set (pathOf j) (some r) t) := fun j t => copyRows_one (i := 0) rfl
  rcases ho with ⟨rfl, rfl⟩ | ⟨p, b, rfl, hne, hp, hp', hb, hbk, hbn, hbg, hbr, hbm, hrows⟩
  · refine ⟨.sl h1.next 5 0 1, h1.new ⟨5, 1, Ev.set (pathOf 0) (some r) .nil, true, false, false⟩, ?_, rfl, .inr ⟨h1.next, ⟨5, 1, Ev.set (pathOf 0) (some r) .nil, true, false, false⟩, rfl, by simp, by omega, ?_, ?_, rfl, rfl, rfl, rfl, rfl, ?_⟩, ⟨k1.new (by omega) _, ?_⟩, hg1⟩
    · simp only [appendV, hq]
      show appendRows h1 5 .nils 1 _ 0 = _
      simp only [appendRows, cr]
    · rw [num_new]; omega
    · unfold H.new; simp only; rw [get_set, if_pos rfl]
    · intro j hj
      have : j = 0 := by simp at hj; omega
      subst this
      rfl
    · rw [num_new]; omega
  · have hpne : p ≠ h.next := fun e => by subst e; omega
    have hb1 : Ev.get p h1.t = some b := by
      rw [← hh1]; unfold H.new; simp only; rw [get_set, if_neg hpne]; exact hb
    have hc1 : getC p h1.t = some b := by unfold getC; rw [hb1]; simp only; rw [hbm]
    have hble : Nat.ble (0 + acc.length + 1) b.n = false := by rw [hbn, natBle]; simp
    refine ⟨.sl h1.next 5 0 (acc.length + 1), (h1.put p none).new ⟨5, acc.length + 1, Ev.set (pathOf acc.length) (some r) b.rows, true, false, false⟩, ?_, rfl, .inr ⟨h1.next, ⟨5, acc.length + 1, Ev.set (pathOf acc.length) (some r) b.rows, true, false, false⟩, by simp, by simp, by omega, ?_, ?_, rfl, by simp, rfl, rfl, rfl, ?_⟩, ⟨?_, ?_⟩, hg1⟩
    · have hbeq : Nat.beq (0 + acc.length) b.n = true := by rw [hbn, Nat.zero_add]; exact Nat.beq_refl _
      have hk1 : Nat.beq b.k 5 = true := by rw [hbk]; rfl
      simp only [appendV, hq]
      show appendRows h1 5 (.sl p 5 0 acc.length) 1 _ 0 = _
      simp only [appendRows, hc1, hbr, hk1, hble, hbeq, oldRows, cr, hbg]
    · rw [num_new]; show num h1.next < num h1.next + 1; omega
    · unfold H.new H.put; simp only; rw [get_set, if_pos rfl]
    · intro j hj
      simp only
      rw [gs]
      by_cases hje : j = acc.length
      · subst hje
        simp
      · have hlt : j < acc.length := by simp at hj; omega
        rw [if_neg (fun e => hje (pathOf_inj e)), hrows j hlt, List.getElem_append_left hlt]
    · intro q hq'
      have e1 : q ≠ h1.next := fun e => by subst e; omega
      have e2 : q ≠ p := fun e => by subst e; omega
      unfold H.new H.put
      simp only
      rw [get_set, if_neg e1, get_set, if_neg e2]
      exact k1 q hq'
    · rw [num_new]; show num h0.next ≤ num h1.next + 1; omega

end Go.Proofs.Lx
