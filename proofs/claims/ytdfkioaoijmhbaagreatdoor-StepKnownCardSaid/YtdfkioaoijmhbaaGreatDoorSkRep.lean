/- strings.Replacer.Replace of a replacer that was not built yet: Do builds it, the algorithm's own Replace goes on. -/
import Derived.Test.YtdfkioaoijmhbaaGreatDoorSkOnce
import Derived.Test.YtdfkioaoijmhbaaGreatDoorSkBase
import Derived.Test.YtdfkioaoijmhbaaGreatDoorRepBase
import Derived.Handy
namespace Go.Proofs.Rp
open Go Go.Proofs Go.Ev Go.RowKit Go.Ev.Rep
set_option linter.unusedSectionVars false
variable [Unk]
noncomputable def repG (c : Calls') : List AV → H → CR := fun xs h => match xs with
  | [.ptr p 0, .str s] => match getC p h.t with
    | some b => match b.ro, Nat.beq b.k 5, get (pathOf 0) b.rows with
      | false, true, some [.int .u32 (.ofNat 0), .int .i32 (.ofNat 0), se, r0, old] => match c 343 [.ptr p 0] (h.put p (some { b with rows := set (pathOf 0) (some [.int .u32 (.ofNat 0), .int .i32 (.ofNat 1), se, r0, old]) b.rows })) with
        | .ret (.tup []) h2 => match getC p h2.t with
          | some b2 => match b2.ro, Nat.beq b2.k 5, get (pathOf 0) b2.rows with
            | false, true, some [.int .u32 (.ofNat 0), .int .i32 (.ofNat 1), se2, .ifc t v, old2] => match Nat.beq t 379 with
              | true => match c 406 [v, .str s] ((h2.put p (some { b2 with rows := set (pathOf 0) (some [.int .u32 (.ofNat 1), .int .i32 (.ofNat 1), se2, .ifc t v, old2]) b2.rows })).put p (some { b2 with rows := set (pathOf 0) (some [.int .u32 (.ofNat 1), .int .i32 (.ofNat 0), se2, .ifc t v, old2]) (set (pathOf 0) (some [.int .u32 (.ofNat 1), .int .i32 (.ofNat 1), se2, .ifc t v, old2]) b2.rows) })) with
                | .ret u h3 => .ret u h3
                | _ => .bad 0
              | false => .bad 0
            | _, _, _ => .bad 0
          | none => .bad 0
        | _ => .bad 0
      | _, _, _ => .bad 0
    | none => .bad 0
  | _ => .bad 0
theorem getC_put (h : H) (p : Path) (b : Blk) (hm : b.map = false) : getC p (h.put p (some b)).t = some b := by
  unfold getC
  have : get p (h.put p (some b)).t = some b := by show get p (set p (some b) h.t) = _; rw [get_set, if_pos rfl]
  rw [this]; simp only [hm]
set_option maxRecDepth 100000 in
set_option maxHeartbeats 4000000 in
/-- Replace, walked: Do and the method are told. -/
theorem walk (b off : Nat) (s : ByteArray) (w : World) (Q : World → Prop) (S : World → Value → World → Prop)
    (hdo : Calls Tryz.prog 342 #[.pointer (some ⟨b, off, none⟩), .func (.func 343) #[.pointer (some ⟨b, off, none⟩)] #[]] w fun e w' => e = .returned (.tuple #[]) ∧ Q w')
    (hQ : ∀ w', Q w' → ∃ x, w'.cell? ⟨b, off + 3, none⟩ = some (.iface 379 x) ∧ Calls Tryz.prog 406 #[x, .string s] w' fun e w3 => ∃ y, e = .returned y ∧ S w' y w3) :
    Calls Tryz.prog 338 #[.pointer (some ⟨b, off, none⟩), .string s] w fun e w3 => ∃ w' y, Q w' ∧ e = .returned y ∧ S w' y w3 := by
  go_enter Tryz.func338, Tryz.ntmps338
  go_wp2_with (first | (go_at_call 342; refine hdo.mono ?_; rintro e w' ⟨rfl, hq⟩; obtain ⟨x, hcell, hm⟩ := hQ _ hq) | (go_at_call 406; refine hm.mono ?_; rintro e w' ⟨y, rfl, hs⟩))
  go_ret
  exact ⟨_, _, hq, rfl, hs⟩
theorem body : Callable Tryz.prog 338 := ⟨_, Tryz.func338, by decide, rfl⟩
/-- The entry: the closure and the method as the first layer's calls tell. -/
theorem rep_entry {Γ : Glob} {c : Calls'} (hc : CallsOk Γ Tryz.prog c) : Entry Γ Tryz.prog 338 (repG c) := ⟨body, fun {xs h r} e hb {A w args} hh hg ha => by
  unfold repG at e
  split at e
  · rename_i p s
    split at e
    · rename_i b hbl
      split at e
      · rename_i se r0 old hro hk hrow
        split at e
        · rename_i h2 hcall
          split at e
          · rename_i b2 hbl2
            split at e
            · rename_i se2 t v old2 hro2 hk2 hrow2
              split at e
              · rename_i ht
                split at e
                · rename_i u h3 hcall3
                  subst e
                  have ht := Nat.eq_of_beq_eq_true ht
                  subst ht
                  obtain ⟨y1, ys1, e1, h1, h1'⟩ := ha
                  obtain ⟨y2, ys2, e2, h2v, h2'⟩ := h1'
                  obtain ⟨q, hq, rfl⟩ := h1
                  have h2v : y2 = .string s := h2v
                  have h2' : ys2 = [] := by simpa [VRs] using h2'
                  subst h2v h2' e2
                  obtain rfl : args = #[.pointer (some ⟨q.blk, q.off + 0, none⟩), .string s] := by cases args; simp_all
                  rw [Nat.add_zero] at *
                  obtain ⟨x0, c0, v0⟩ := cellAt (o := 0) hh hbl hq hrow rfl
                  have v0 : x0 = .int .u32 0 := v0
                  subst v0
                  obtain ⟨x1, c1, v1⟩ := cellAt (o := 1) hh hbl hq hrow rfl
                  have v1 : x1 = .int .i32 0 := v1
                  subst v1
                  have f1 := notFrozen (q.off + 1) hh hbl hq hro
                  have I1 := poke (o := 1) (a := .int .i32 (.ofNat 1)) (x := .int .i32 1) hh hbl hq hro hrow rfl (by simp [VR]) rfl
                  have hm0 := (getC_eq hbl).2
                  have K1 := (hc.ret hcall I1.hr (met hg I1) (args := #[.pointer (some ⟨q.blk, q.off, none⟩)]) (.cons ⟨q, hq, rfl⟩ .nil))
                  let Q1 : World → Prop := fun w2 => ∃ A2, Inv ⟨A, h, w⟩ A2 h2 w2
                  have hB : Calls Tryz.prog 343 #[.pointer (some ⟨q.blk, q.off, none⟩)] (w.setCell ⟨q.blk, q.off + 1, none⟩ (.int .i32 1)) fun e w' => e = .returned (.tuple #[]) ∧ Q1 w' := by
                    refine K1.mono ?_
                    rintro e w2 ⟨x, A2, rfl, hx, J⟩
                    obtain ⟨zs, rfl, hzs⟩ := hx
                    have : zs = #[] := by simpa [VRs] using hzs
                    subst this
                    exact ⟨rfl, A2, I1.trans J⟩
                  have facts : ∀ w2, Q1 w2 → ∃ A2, Inv ⟨A, h, w⟩ A2 h2 w2 ∧ A2.s p = some q := fun w2 ⟨A2, J⟩ => ⟨A2, J, (J.ext p (hh.fresh p q hq)).trans hq⟩
                  have hQ1 : ∀ w2, Q1 w2 → w2.cell? ⟨q.blk, q.off, none⟩ = some (.int .u32 0) ∧ w2.cell? ⟨q.blk, q.off + 1, none⟩ = some (.int .i32 1) ∧ w2.frozen? ⟨q.blk, q.off, none⟩ = false ∧ w2.frozen? ⟨q.blk, q.off + 1, none⟩ = false := fun w2 hw => by
                    obtain ⟨A2, J, hq2⟩ := facts w2 hw
                    obtain ⟨x0, c0, v0⟩ := cellAt (o := 0) J.hr hbl2 hq2 hrow2 rfl
                    obtain ⟨x1, c1, v1⟩ := cellAt (o := 1) J.hr hbl2 hq2 hrow2 rfl
                    have v0 : x0 = .int .u32 0 := v0
                    have v1 : x1 = .int .i32 1 := v1
                    subst v0 v1
                    exact ⟨c0, c1, notFrozen _ J.hr hbl2 hq2 hro2, notFrozen _ J.hr hbl2 hq2 hro2⟩
                  have hdo := On.once q.blk q.off ⟨q.blk, q.off, none⟩ w Q1 c0 c1 f1 hB hQ1
                  refine (walk q.blk q.off s w (fun w' => ∃ w2, Q1 w2 ∧ w' = (w2.drew.setCell ⟨q.blk, q.off, none⟩ (.int .u32 1)).setCell ⟨q.blk, q.off + 1, none⟩ (.int .i32 0)) (fun w' y w3 => ∃ A3, VR A3.s u y ∧ Inv ⟨A, h, w⟩ A3 h3 w3) hdo ?_).mono ?_
                  · rintro w' ⟨w2, hw2, rfl⟩
                    obtain ⟨A2, J, hq2⟩ := facts w2 hw2
                    have J0 : Inv ⟨A, h, w⟩ A2 h2 w2.drew := J.trans (Inv.below J.hr (Below.drew (Below.refl _ _)))
                    have hm2 := (getC_eq hbl2).2
                    have J1 := poke (o := 0) (a := .int .u32 (.ofNat 1)) (x := .int .u32 1) J0.hr hbl2 hq2 hro2 hrow2 rfl (by simp [VR]) rfl
                    have J2 := poke (o := 1) (a := .int .i32 (.ofNat 0)) (x := .int .i32 0) J1.hr (getC_put h2 p _ hm2) hq2 hro2 (by show get (pathOf 0) (set (pathOf 0) _ _) = _; rw [get_set, if_pos rfl]) rfl (by simp [VR]) rfl
                    rw [Nat.add_zero] at J1 J2
                    have JJ := (J0.trans J1).trans J2
                    obtain ⟨x3, c3, v3⟩ := cellAt (o := 3) JJ.hr (getC_put _ p _ hm2) hq2 (by show get (pathOf 0) (set (pathOf 0) _ _) = _; rw [get_set, if_pos rfl]) rfl
                    obtain ⟨x, rfl, hx⟩ := v3
                    refine ⟨x, c3, ?_⟩
                    refine (hc.ret hcall3 JJ.hr (met hg JJ) (args := #[x, .string s]) (.cons hx (.cons rfl .nil))).mono ?_
                    rintro e w3 ⟨y, A3, rfl, hy, J3⟩
                    exact ⟨y, rfl, A3, hy, JJ.trans J3⟩
                  · rintro e w3 ⟨w', y, _, rfl, A3, hy, J3⟩
                    exact ⟨y, A3, rfl, hy, J3⟩
                · subst e; exact absurd rfl (hb 0)
              · subst e; exact absurd rfl (hb 0)
            · subst e; exact absurd rfl (hb 0)
          · subst e; exact absurd rfl (hb 0)
        · subst e; exact absurd rfl (hb 0)
      · subst e; exact absurd rfl (hb 0)
    · subst e; exact absurd rfl (hb 0)
  · subst e; exact absurd rfl (hb 0)⟩
end Go.Proofs.Rp
