/- Functions by what they are known to tell: what a call leaves behind that nobody sees is forgotten. -/
import Derived.Test.YtlbooinipoaapaaDoorEvLib
namespace Go.Ev
variable {P : Program} {A A' : Asg} {h h' : H} {w w' : World}

mutual
/-- A value that points nowhere. -/
def plainV : AV → Bool
  | .bool _ => true
  | .int _ _ => true
  | .res _ _ _ => true
  | .str _ => true
  | .nilp => true
  | .nils => true
  | .nilfn => true
  | .nilif => true
  | .nilm => true
  | .ifc _ a => plainV a
  | .agg l => plainVs l
  | .tup l => plainVs l
  | _ => false
def plainVs : List AV → Bool
  | [] => true
  | a :: l => plainV a && plainVs l
end
mutual
theorem VR.plain {s s' : Path → Option Ref} : ∀ {a : AV} {x : Value}, plainV a = true → VR s a x → VR s' a x
  | .bool _, _, _, e => e
  | .int _ _, _, _, e => e
  | .res _ _ _, _, _, e => e
  | .str _, _, _, e => e
  | .nilp, _, _, e => e
  | .nils, _, _, e => e
  | .nilfn, _, _, e => e
  | .nilif, _, _, e => e
  | .nilm, _, _, e => e
  | .ifc _ a, _, hp, ⟨y, e, ha⟩ => ⟨y, e, VR.plain (a := a) (by simpa [plainV] using hp) ha⟩
  | .agg l, _, hp, ⟨xs, e, hl, hs⟩ => ⟨xs, e, VRs.plain (l := l) (by simpa [plainV] using hp) hl, hs⟩
  | .tup l, _, hp, ⟨xs, e, hl⟩ => ⟨xs, e, VRs.plain (l := l) (by simpa [plainV] using hp) hl⟩
  | .ptr _ _, _, hp, _ => by simp [plainV] at hp
  | .sl _ _ _ _, _, hp, _ => by simp [plainV] at hp
  | .sle, _, hp, _ => by simp [plainV] at hp
  | .fn _ _ _, _, hp, _ => by simp [plainV] at hp
  | .mp _, _, hp, _ => by simp [plainV] at hp
theorem VRs.plain {s s' : Path → Option Ref} : ∀ {l : List AV} {xs : List Value}, plainVs l = true → VRs s l xs → VRs s' l xs
  | [], _, _, e => e
  | a :: l, _, hp, ⟨y, ys, e, ha, hl⟩ => by
    simp only [plainVs, Bool.and_eq_true] at hp
    exact ⟨y, ys, e, VR.plain hp.1 ha, VRs.plain hp.2 hl⟩
end
mutual
/-- What points to what was there ahead stands for something there. -/
theorem VR.back {s s' : Path → Option Ref} (hm : ∀ p r, s p = some r → s' p = some r) : ∀ {a : AV} {x x0 : Value}, VR s a x0 → VR s' a x → VR s a x
  | .bool _, _, _, _, e => e
  | .int _ _, _, _, _, e => e
  | .res _ _ _, _, _, _, e => e
  | .str _, _, _, _, e => e
  | .nilp, _, _, _, e => e
  | .nils, _, _, _, e => e
  | .nilfn, _, _, _, e => e
  | .nilif, _, _, _, e => e
  | .nilm, _, _, _, e => e
  | .sle, _, _, _, e => e
  | .ptr p o, _, _, ⟨r, hr, _⟩, ⟨r', hr', e⟩ => by
    have := hm p r hr
    rw [hr'] at this; cases this
    exact ⟨r, hr, e⟩
  | .sl p k i n, _, _, ⟨r, hr, _⟩, ⟨r', hr', e⟩ => by
    have := hm p r hr
    rw [hr'] at this; cases this
    exact ⟨r, hr, e⟩
  | .mp p, _, _, ⟨r, hr, _⟩, ⟨r', hr', e⟩ => by
    have := hm p r hr
    rw [hr'] at this; cases this
    exact ⟨r, hr, e⟩
  | .fn f a c, _, _, ⟨_, _, _, ha, hc⟩, ⟨xs, ys, e, ha', hc'⟩ => ⟨xs, ys, e, VRs.back hm ha ha', VRs.back hm hc hc'⟩
  | .ifc t a, _, _, ⟨_, _, ha⟩, ⟨y, e, ha'⟩ => ⟨y, e, VR.back hm ha ha'⟩
  | .agg l, _, _, ⟨_, _, hl, _⟩, ⟨xs, e, hl', hs⟩ => ⟨xs, e, VRs.back hm hl hl', hs⟩
  | .tup l, _, _, ⟨_, _, hl⟩, ⟨xs, e, hl'⟩ => ⟨xs, e, VRs.back hm hl hl'⟩
theorem VRs.back {s s' : Path → Option Ref} (hm : ∀ p r, s p = some r → s' p = some r) : ∀ {l : List AV} {xs xs0 : List Value}, VRs s l xs0 → VRs s' l xs → VRs s l xs
  | [], _, _, _, e => e
  | _ :: _, _, _, ⟨_, _, _, ha, hl⟩, ⟨y, ys, e, ha', hl'⟩ => ⟨y, ys, e, VR.back hm ha ha', VRs.back hm hl hl'⟩
end
/-- Blocks that are there no more, and those that were there as they were. -/
def OldKept (h h' : H) : Prop := ∀ p, num p < num h.next → get p h'.t = get p h.t
theorem OldKept.refl (h : H) : OldKept h h := fun _ _ => rfl
theorem OldKept.gen {h : H} {g : Nat} : OldKept h ⟨h.next, h.t, g⟩ := fun _ _ => rfl
theorem num_new (h : H) (b : Blk) : num (h.new b).next = num h.next + 1 := num_inc _
theorem OldKept.new {h h' : H} (k : OldKept h h') (hn : num h.next ≤ num h'.next) (b : Blk) : OldKept h (h'.new b) := fun p hp => by
  show get p (set h'.next (some b) h'.t) = _
  rw [get_set_other _ _ _ _ (fun e => by subst e; omega)]
  exact k p hp
theorem Inv.forget (hr : HR A h w) (J : Inv ⟨A, h, w⟩ A' h' w') (hk : OldKept h h') : Inv ⟨A, h, w⟩ A h w' := by
  have hm : ∀ p r, A.s p = some r → A'.s p = some r := fun p r hp => (J.ext p (hr.fresh p r hp)).trans hp
  refine { hr := { fresh := hr.fresh, live := hr.live, bfresh := ?_, blk := ?_, sfresh := ?_, apart := hr.apart, binj := hr.binj, bs := hr.bs }, os := J.os, tape := J.tape, output := J.output, size := J.size, next := Nat.le_refl _, gen := Nat.le_refl _, ext := fun _ _ => rfl, bext := fun _ _ => rfl, keep := J.keep,
           news := fun p r hp => .inr ⟨p, r, hp, rfl⟩, bnew := fun g x hg hb => absurd (hr.bfresh g x hb).1 (Nat.not_lt.2 hg), phan := fun _ _ _ => rfl }
  · exact fun g x hg => ⟨(hr.bfresh g x hg).1, Nat.lt_of_lt_of_le (hr.bfresh g x hg).2 J.size⟩
  · intro p b r hp hs
    have B := hr.blk p b r hp hs
    have B' := J.hr.blk p b r ((hk p (hr.live p b hp)).trans hp) (hm p r hs)
    cases hmap : b.map with
    | false =>
      have B := B.blk hmap
      have B' := B'.blk hmap
      refine .of hmap ?_
      refine ⟨B.k, B.kpos, B.cap, B.shut, B.top, ?_⟩
      obtain ⟨cs0, T0, fz0, _, _, _, e4⟩ := B.cells
      obtain ⟨cs, T, fz, g1, g2, g3, g4⟩ := B'.cells
      refine ⟨cs, T, fz, g1, g2, g3, fun j row hj => ?_⟩
      obtain ⟨h5, h6, h7⟩ := g4 j row hj
      refine ⟨h5, h6, fun i a ha => ?_⟩
      obtain ⟨x, hx, hv⟩ := h7 i a ha
      obtain ⟨x0, _, hv0⟩ := (e4 j row hj).2.2 i a ha
      exact ⟨x, hx, VR.back hm hv0 hv⟩
    | true =>
      have B := B.mapR hmap
      have B' := B'.mapR hmap
      refine .ofMap hmap ⟨B.ro, ?_⟩
      obtain ⟨es0, c0, _, e2, e3⟩ := B.map
      obtain ⟨es, c, g1, g2, g3⟩ := B'.map
      refine ⟨es, c, g1, g2, fun j e he => ?_⟩
      obtain ⟨ka, va, q1, q2, q3⟩ := g3 j e he
      have hj : j < es0.size := by have := (Array.getElem?_eq_some_iff.1 he).1; omega
      obtain ⟨ka0, va0, p1, p2, p3⟩ := e3 j es0[j] (Array.getElem?_eq_getElem hj)
      rw [q1] at p1
      cases p1
      exact ⟨ka, va, q1, VR.back hm p2 q2, VR.back hm p3 q3⟩
  · exact fun p r hp => Nat.lt_of_lt_of_le (hr.sfresh p r hp) J.size
/-- What one tells is what is to be told, but for what is forgotten. -/
def Comes (r : CR) (h : H) (r' : CR) : Prop := r = r' ∨ ∃ v h', r = .ret v h' ∧ r' = .ret v h ∧ plainV v = true ∧ OldKept h h'
/-- A function more that is known. -/
noncomputable def upd (call : Calls') (f : FuncId) (S : List AV → H → CR) : Calls' := fun g as h => match Nat.beq g f with | true => S as h | false => call g as h
/-- One call does what is told. -/
def Spec (Γ : Glob) (P : Program) (f : FuncId) (as : List AV) (h : H) (r : CR) : Prop := Callable P f ∧ ∀ {A : Asg} {w : World} {args : Array Value}, HR A h w → Γ.Met A w → VRs A.s as args.toList → Calls P f args w (Told ⟨A, h, w⟩ r)
theorem CallsOk.spec {Γ : Glob} {call : Calls'} (hc : CallsOk Γ P call) {f : FuncId} {as : List AV} {h : H} {r : CR} (e : call f as h = r) (hb : ∀ k, r ≠ .bad k) : Spec Γ P f as h r := by
  refine ⟨hc.body e hb, fun {A w args} hh hg ha => ?_⟩
  cases r with
  | ret v h' => exact hc.ret e hh hg ha
  | pan v h' => exact hc.pan e hh hg ha
  | bad k => exact absurd rfl (hb k)
theorem CallsOk.of_spec {Γ : Glob} {call : Calls'} (hs : ∀ f as h r, call f as h = r → (∀ k, r ≠ .bad k) → Spec Γ P f as h r) : CallsOk Γ P call :=
  ⟨fun e _ _ _ hh hg ha => (hs _ _ _ _ e (fun _ => by simp)).2 hh hg ha, fun e _ _ _ hh hg ha => (hs _ _ _ _ e (fun _ => by simp)).2 hh hg ha, fun e hb => (hs _ _ _ _ e hb).1⟩
theorem spec_of {Γ : Glob} (hm : P.follows .mixedOrders = true) {call : Calls'} (hc : CallsOk Γ P call) {F : FuncId → Option EF} (hF : ∀ f e, F f = some e → compF P f = some e) {f : FuncId} {fuel : Nat} {as : List AV} {h : H} {r : CR}
    (hr : Comes (evFun F call fuel f as h) h r) (hb : ∀ k, r ≠ .bad k) : Spec Γ P f as h r := by
  have K := fun_sound hF hc (DrawnAll hm) fuel
  rcases hr with he | ⟨v, h', h1, h2, h3, h4⟩
  · exact K.spec he hb
  · subst h2
    refine ⟨K.body h1 (fun _ => by simp), fun {A w args} hh hg ha => ?_⟩
    refine (K.ret h1 hh hg ha).mono ?_
    rintro e w' ⟨x, A', rfl, hx, J⟩
    exact ⟨x, A, rfl, VR.plain h3 hx, J.forget hh h4⟩
theorem CallsOk.upd_of {Γ : Glob} {call : Calls'} (hc : CallsOk Γ P call) {f : FuncId} {S : List AV → H → CR} (hS : ∀ as h r, S as h = r → (∀ k, r ≠ .bad k) → Spec Γ P f as h r) : CallsOk Γ P (upd call f S) := by
  refine .of_spec fun g as h r e hb => ?_
  unfold upd at e
  split at e
  · rename_i hf
    have := Nat.eq_of_beq_eq_true hf
    subst this
    exact hS as h r e hb
  · exact hc.spec e hb
theorem CallsOk.add {Γ : Glob} (hm : P.follows .mixedOrders = true) {call : Calls'} (hc : CallsOk Γ P call) {F : FuncId → Option EF} (hF : ∀ f e, F f = some e → compF P f = some e) {f : FuncId} {S : List AV → H → CR}
    (hS : ∀ as h r, S as h = r → (∀ k, r ≠ .bad k) → ∃ fuel, Comes (evFun F call fuel f as h) h r) : CallsOk Γ P (upd call f S) :=
  hc.upd_of fun as h r e hb => let ⟨_, hf⟩ := hS as h r e hb; spec_of hm hc hF hf hb
/-- What is known of smaller arguments. -/
noncomputable def below (μ : List AV → Nat) (n : Nat) (S : List AV → H → CR) : List AV → H → CR := fun as h => match Nat.blt (μ as) n with | true => S as h | false => .bad 0
/-- A function that calls itself at smaller arguments. -/
theorem CallsOk.addRec {Γ : Glob} (hm : P.follows .mixedOrders = true) {call : Calls'} (hc : CallsOk Γ P call) {F : FuncId → Option EF} (hF : ∀ f e, F f = some e → compF P f = some e) {f : FuncId} {S : List AV → H → CR} (μ : List AV → Nat)
    (hS : ∀ as h r, S as h = r → (∀ k, r ≠ .bad k) → ∃ fuel, Comes (evFun F (upd call f (below μ (μ as) S)) fuel f as h) h r) : CallsOk Γ P (upd call f S) := by
  have key : ∀ n as h r, μ as = n → S as h = r → (∀ k, r ≠ .bad k) → Spec Γ P f as h r := by
    intro n
    induction n using Nat.strongRecOn with
    | _ n ih =>
      intro as h r hn e hb
      obtain ⟨fuel, hf⟩ := hS as h r e hb
      refine spec_of hm (hc.upd_of (S := below μ (μ as) S) fun as' h' r' e' hb' => ?_) hF hf hb
      unfold below at e'
      split at e'
      · rename_i hlt
        rw [natBlt] at hlt
        exact ih (μ as') (by rw [← hn]; exact of_decide_eq_true hlt) as' h' r' rfl e' hb'
      · subst e'; exact absurd rfl (hb' _)
  exact hc.upd_of fun as h r e hb => key _ as h r rfl e hb
end Go.Ev
namespace Go.Ev
variable {P : Program}
/-- Compiled functions, by number. -/
def lookF : List (FuncId × EF) → FuncId → Option EF
  | [], _ => none
  | (g, e) :: l, f => match Nat.beq g f with | true => some e | false => lookF l f
theorem lookF_ok : ∀ {l : List (FuncId × EF)}, (∀ p ∈ l, compF P p.1 = some p.2) → ∀ f e, lookF l f = some e → compF P f = some e
  | [], _, _, _, h => by cases h
  | (g, c) :: l, hl, f, e, h => by
    simp only [lookF] at h
    split at h
    · rename_i hg
      have := Nat.eq_of_beq_eq_true hg
      subst this
      cases h
      exact hl (g, c) (by simp)
    · exact lookF_ok (fun p hp => hl p (by simp [hp])) f e h
theorem upd_hit (call : Calls') (f : FuncId) (S : List AV → H → CR) (as : List AV) (h : H) : upd call f S f as h = S as h := by unfold upd; rw [Nat.beq_refl]
theorem upd_miss {call : Calls'} {f g : FuncId} {S : List AV → H → CR} {as : List AV} {h : H} (hg : Nat.beq g f = false) : upd call f S g as h = call g as h := by unfold upd; rw [hg]
end Go.Ev
