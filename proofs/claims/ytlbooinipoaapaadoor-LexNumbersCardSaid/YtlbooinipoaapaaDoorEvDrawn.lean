/- Regions that may go in any order. -/
import Derived.Test.YtlbooinipoaapaaDoorEvCongr
import Derived.Orders
namespace Go.Ev

theorem memN_iff {i : Nat} {l : List Nat} : memN i l = true ↔ i ∈ l := by
  unfold memN
  rw [List.any_eq_true]
  constructor
  · rintro ⟨x, hx, h⟩; rw [Nat.eq_of_beq_eq_true h]; exact hx
  · exact fun h => ⟨i, h, Nat.beq_refl i⟩
theorem preds_iff {o : Oper} {j : Nat} : j ∈ preds o ↔ ∃ e ∈ o.after, Region.binds .any e = true ∧ e.on = j := by
  unfold preds
  simp only [List.mem_map, List.mem_filter, Array.mem_toList_iff]
  constructor
  · rintro ⟨e, ⟨h1, h2⟩, h3⟩; exact ⟨e, h1, h2, h3⟩
  · rintro ⟨e, h1, h2, h3⟩; exact ⟨e, ⟨h1, h2⟩, h3⟩
theorem zip_all {L : List Oper} {f : Nat × Oper → Bool} (h : ((List.range L.length).zip L).all f = true) {i : Nat} {o : Oper} (hi : L[i]? = some o) : f (i, o) = true := by
  rw [List.all_eq_true] at h
  apply h
  rw [List.mem_iff_getElem?]
  have hlt : i < L.length := by rcases Nat.lt_or_ge i L.length with h | h; exact h; rw [List.getElem?_eq_none h] at hi; cases hi
  exact ⟨i, by rw [List.getElem?_zip_eq_some]; exact ⟨by simp [hlt], hi⟩⟩
/-- Listed; not listed. -/
def Lst (lst : Array Bool) (i : Nat) : Prop := lst.getD i false = true
def Unl (lst : Array Bool) (i : Nat) : Prop := lst.getD i true = false
theorem not_both {lst : Array Bool} {i : Nat} (h1 : Lst lst i) (h2 : Unl lst i) : False := by
  unfold Lst at h1; unfold Unl at h2
  rw [Array.getD_eq_getD_getElem?] at h1 h2
  cases h : lst[i]? <;> rw [h] at h1 h2 <;> simp_all
theorem either {lst : Array Bool} {i : Nat} (h : i < lst.size) : Lst lst i ∨ Unl lst i := by
  unfold Lst Unl
  simp only [Array.getD_eq_getD_getElem?, Array.getElem?_eq_getElem h, Option.getD_some]
  cases lst[i] <;> simp
theorem unl_lt {lst : Array Bool} {i : Nat} (h : Unl lst i) : i < lst.size := by
  unfold Unl at h
  rcases Nat.lt_or_ge i lst.size with h' | h'
  · exact h'
  · rw [Array.getD_eq_getD_getElem?, Array.getElem?_eq_none h'] at h; cases h
theorem lst_set {lst : Array Bool} {i j : Nat} : Lst (lst.setIfInBounds i true) j → j = i ∨ Lst lst j := fun h => by
  by_cases e : j = i
  · exact .inl e
  · right; unfold Lst at *; rwa [getD_set_ne false (fun e' => e e'.symm)] at h
theorem lst_old {lst : Array Bool} {i j : Nat} (h : Lst lst j) : Lst (lst.setIfInBounds i true) j := getD_set_true h
theorem lst_new {lst : Array Bool} {i : Nat} (h : i < lst.size) : Lst (lst.setIfInBounds i true) i := by
  unfold Lst
  simp [h]
theorem unl_set {lst : Array Bool} {i j : Nat} (h : Unl (lst.setIfInBounds i true) j) : j ≠ i ∧ Unl lst j := by
  have hne : j ≠ i := fun e => by
    subst e
    have hs := unl_lt h
    rw [Array.size_setIfInBounds] at hs
    exact not_both (lst_new hs) h
  exact ⟨hne, by unfold Unl at *; rwa [getD_set_ne true (fun e' => hne e'.symm)] at h⟩
theorem unl_keep {lst : Array Bool} {i j : Nat} (h : Unl lst j) (hne : j ≠ i) : Unl (lst.setIfInBounds i true) j := by
  unfold Unl at *; rwa [getD_set_ne true (fun e' => hne e'.symm)]

section
variable {P : Program} {E : Ent} {A : Asg} {n : Nat} {fr : FT} {act : Act} {w : World} {h : H} {loc : List Tmp} {ops : Array Oper} {call : Calls'}

theorem apart_spec (hap : apartIn ops.toList = true) {i j : Nat} {o q : Oper} (hi : ops.toList[i]? = some o) (hj : ops.toList[j]? = some q) {d : Tmp} (hd : q.dst = some d) :
    (j = i → heavy q = true ∨ d ∉ o.looksAt ops) ∧ (j ≠ i → (d ∉ o.looksAt ops ∨ j ∈ preds o ∨ (heavy q = true ∧ i ∈ preds q)) ∧ ∀ e, o.dst = some e → d ≠ e) := by
  unfold apartIn at hap
  have h1 := zip_all hap hj
  simp only [hd, Bool.and_eq_true, Array.toArray_toList] at h1
  obtain ⟨h1, h2⟩ := h1
  constructor
  · rintro rfl
    rw [hi] at hj; cases hj
    simpa using h1
  · intro hne
    have h3 := zip_all h2 hi
    have hb : Nat.beq i j = false := by rw [natBeq]; exact decide_eq_false (fun e => hne e.symm)
    simp only [hb, Bool.false_or, Bool.and_eq_true, Bool.or_eq_true, memN_iff] at h3
    obtain ⟨h3, h4⟩ := h3
    refine ⟨?_, fun e he => ?_⟩
    · rcases h3 with (h3 | h3) | h3
      · exact .inl (by simpa using h3)
      · exact .inr (.inl h3)
      · exact .inr (.inr h3)
    · rw [he] at h4
      intro e'
      subst e'
      simp at h4

/-- What an operation that has come up ahead of its time is to tell. -/
def KindR (c : Bool) (Ph : Path → Prop) (fr : FT) (h : H) (dst : Option Tmp) : OpF → Prop
  | .pure _ val => ∃ s, val fr = some s ∧ ∀ t, dst = some t → get (pathOf t) fr = some s
  | .look _ val => c = true → ∃ s, val fr h = some s ∧ ∀ t, dst = some t → get (pathOf t) fr = some s
  | .new _ val => ∃ b m p, Ph p ∧ val fr = some (b, m) ∧ get p h.t = some b ∧ ∀ t, dst = some t → get (pathOf t) fr = some (newS p b.k m)
  | .eff _ => False
def PendR (P : Program) (loc : List Tmp) (ops : Array Oper) (c : Bool) (Ph : Path → Prop) (fr : FT) (h : H) (o : Oper) : Prop :=
  ∃ g f, stOf P loc ops o = .op g f (dst? o) ∧ ((wantedF g fr = some false ∧ ∀ t, o.dst = some t → get (pathOf t) fr = some .und) ∨ (wantedF g fr = some true ∧ KindR c Ph fr h o.dst f))
/-- The slots that are filled: all but those of what is to come yet. -/
def okD (ops : Array Oper) (pre : List Nat) (lst : Array Bool) (p : Path) : Prop := ∀ i ∈ pre, Unl lst i → ∀ o t, ops.toList[i]? = some o → o.dst = some t → p ≠ pathOf t
structure DInv (P : Program) (loc : List Tmp) (ops : Array Oper) (E : Ent) (n : Nat) (c : Bool) (pre : List Nat) (lst : Array Bool) (A : Asg) (fr : FT) (h : H) (tmps : Array Value) (w : World) (Ph : Nat → Path → Prop) : Prop where
  size : lst.size = ops.size
  rng : ∀ i ∈ pre, i < ops.size
  pc : ∀ i ∈ pre, ∀ o, ops.toList[i]? = some o → ∀ j ∈ preds o, j ∈ pre
  sub : ∀ i, Lst lst i → i ∈ pre
  pend : ∀ i ∈ pre, Unl lst i → ∀ o, ops.toList[i]? = some o → heavy o = false ∧ PendR P loc ops c (Ph i) fr h o
  down : ∀ i o, Lst lst i → ops.toList[i]? = some o → ∀ j ∈ preds o, Lst lst j
  sta : Sta E A n (okD ops pre lst) fr h tmps w
  inj : ∀ i j p q, Ph i p → Ph j q → i ≠ j → p ≠ q
  free : ∀ i p, Ph i p → A.s p = none ∧ num E.h.next ≤ num p ∧ num p < num h.next

theorem Sta.weaken {ok ok' : Path → Prop} {tmps : Array Value} (S : Sta E A n ok fr h tmps w) (h1 : ∀ p, ok' p → ok p) (h2 : ∀ p, ok p → ok' p) : Sta E A n ok' fr h tmps w where
  inv := S.inv
  frr := ⟨S.frr.size, fun t s hk hs => S.frr.slot t s (h1 _ hk) hs, fun p g l hp => h2 _ (S.frr.bok p g l hp), S.frr.once⟩
  bge := S.bge

/-- What an operation that comes up looks at is there. -/
theorem DInv.looks {c : Bool} {pre : List Nat} {lst : Array Bool} {Ph : Nat → Path → Prop} (hap : apartIn ops.toList = true) (D : DInv P loc ops E n c pre lst A fr h act.tmps w Ph) {i : Nat} {o : Oper} (hi : ops.toList[i]? = some o)
    (hpr : ∀ j ∈ preds o, Lst lst j) : LooksOk (okD ops pre lst) ops o := by
  intro t ht j hj hu q t' hq hd e
  have e := pathOf_inj e
  subst e
  obtain ⟨h1, h2⟩ := apart_spec hap hi hq hd
  obtain ⟨hh, _⟩ := D.pend j hj hu q hq
  by_cases hji : j = i
  · rcases h1 hji with h3 | h3
    · rw [hh] at h3; cases h3
    · exact h3 ht
  · rcases (h2 hji).1 with h3 | h3 | ⟨h3, _⟩
    · exact h3 ht
    · exact not_both (hpr j h3) hu
    · rw [hh] at h3; cases h3
/-- An operation that had come up ahead of its time is listed. -/
theorem DInv.listed {pre : List Nat} {lst : Array Bool} {Ph : Nat → Path → Prop} {tmps tmps' : Array Value} {A' : Asg} {w' : World} (D : DInv P loc ops E n true pre lst A fr h tmps w Ph) {i : Nat} {o : Oper} (hi : ops.toList[i]? = some o) (hip : i ∈ pre)
    (hpr : ∀ j ∈ preds o, Lst lst j) {Ph' : Nat → Path → Prop} (hph : ∀ j p, j ≠ i → Ph j p → Ph' j p) (hinj : ∀ i j p q, Ph' i p → Ph' j q → i ≠ j → p ≠ q)
    (hfree : ∀ i p, Ph' i p → A'.s p = none ∧ num E.h.next ≤ num p ∧ num p < num h.next) (S : Sta E A' n (okD ops pre (lst.setIfInBounds i true)) fr h tmps' w') :
    DInv P loc ops E n true pre (lst.setIfInBounds i true) A' fr h tmps' w' Ph' where
  size := by rw [Array.size_setIfInBounds]; exact D.size
  rng := D.rng
  pc := D.pc
  sub := fun j hj => (lst_set hj).elim (fun e => e ▸ hip) (D.sub j)
  pend := fun j hj hu q hq => by
    obtain ⟨hne, hu'⟩ := unl_set hu
    obtain ⟨h1, g, f, h2, h3⟩ := D.pend j hj hu' q hq
    refine ⟨h1, g, f, h2, h3.imp id fun ⟨h4, h5⟩ => ⟨h4, ?_⟩⟩
    cases f with
    | pure _ val => exact h5
    | look _ val => exact h5
    | new _ val => obtain ⟨b, m, p, h6, h7⟩ := h5; exact ⟨b, m, p, hph j p hne h6, h7⟩
    | eff _ => exact h5
  down := fun j q hj hq k hk => by
    rcases lst_set hj with rfl | hj
    · rw [hi] at hq; cases hq; exact lst_old (hpr k hk)
    · exact lst_old (D.down j q hj hq k hk)
  sta := S
  inj := hinj
  free := hfree
/-- A slot of what is to come yet is filled. -/
theorem fillD {pre : List Nat} {lst : Array Bool} (S : Sta E A n (okD ops pre lst) fr h act.tmps w) {i : Nat} {o : Oper} (hi : ops.toList[i]? = some o) (hd : DstOk n o) {s : Sl} {v : Value}
    (hsl : ∀ t, o.dst = some t → get (pathOf t) fr = some s) (hs : SlR A w s v) : Sta E A n (okD ops pre (lst.setIfInBounds i true)) fr h (act.put o.dst v).tmps w := by
  rw [put_tmps]
  have h2 : ∀ p, okD ops pre lst p → okD ops pre (lst.setIfInBounds i true) p := fun p hp j hj hu => hp j hj (unl_set hu).2
  cases hdst : o.dst with
  | none =>
    refine S.weaken (fun p hp j hj hu q t hq ht => ?_) h2
    by_cases e : j = i
    · subst e; rw [hi] at hq; cases hq; rw [hdst] at ht; cases ht
    · exact hp j hj (unl_keep hu e) q t hq ht
  | some t =>
    refine ⟨S.inv, S.frr.fill (hd t hdst) (hsl t hdst) hs (fun p hp => ?_) h2, S.bge⟩
    by_cases e : p = pathOf t
    · exact .inl e
    · refine .inr fun j hj hu q t' hq ht' => ?_
      by_cases e' : j = i
      · subst e'; rw [hi] at hq; cases hq; rw [hdst] at ht'; cases ht'; exact e
      · exact hp j hj (unl_keep hu e') q t' hq ht'

/-- What had come up ahead of its time comes. -/
theorem light_step {pre : List Nat} {lst : Array Bool} {Ph : Nat → Path → Prop} (hap : apartIn ops.toList = true) (D : DInv P loc ops E n true pre lst A fr h act.tmps w Ph) {i : Nat} {o : Oper} (hi : ops.toList[i]? = some o) (hip : i ∈ pre) (hu : Unl lst i)
    (hpr : ∀ j ∈ preds o, Lst lst j) (hd : DstOk n o) {K : Act → World → Prop} {Q : Exit → Act → World → Prop}
    (hK : ∀ A' a' w' Ph', DInv P loc ops E n true pre (lst.setIfInBounds i true) A' fr h a'.tmps w' Ph' → a'.defers = act.defers → K a' w') : OpWp P ops Q o K act w := by
  have hl := D.looks hap hi hpr
  obtain ⟨_, g, f, hst, hcase⟩ := D.pend i hip hu o hi
  obtain ⟨hc, _, _⟩ := stOf_op hst
  unfold OpWp
  rcases hcase with ⟨hw, hsl⟩ | ⟨hw, hk⟩
  · rw [wanted_R D.sta.frr hl hst hw]
    exact hK A _ w Ph (D.listed hi hip hpr (fun _ _ _ h => h) D.inj D.free (fillD D.sta hi hd hsl rfl)) (put_defers _ _ _)
  · rw [wanted_R D.sta.frr hl hst hw, if_pos rfl]
    have does : ∀ {s}, Does P A act w o s → (∀ t, o.dst = some t → get (pathOf t) fr = some s) → o.wp P act w K Q := by
      rintro s ⟨v, h1, h2, _⟩ hsl
      unfold Oper.wp
      rw [h1]
      exact hK A _ w Ph (D.listed hi hip hpr (fun _ _ _ h => h) D.inj D.free (fillD D.sta hi hd hsl h2)) (put_defers _ _ _)
    cases f with
    | eff _ => exact hk.elim
    | pure _ val =>
      obtain ⟨s, h1, h2⟩ := hk
      exact does (pure_sound hc D.sta.frr hl.op h1) h2
    | look _ val =>
      obtain ⟨s, h1, h2⟩ := hk rfl
      exact does (look_sound hc D.sta.frr D.sta.inv.hr hl.op h1) h2
    | new _ val =>
      obtain ⟨b, m, p, hp, h1, h2, h3⟩ := hk
      obtain ⟨f1, f2, f3⟩ := D.free i p hp
      obtain ⟨v, ob, k, r, g1, g2, g3, g4⟩ := new_sound hc D.sta.frr hl.op f1 h1
      unfold Oper.wp
      rw [g1]
      have S : Sta E (A.withS p r) n (okD ops pre lst) fr h act.tmps (more w ob k) := {
        inv := (D.sta.inv.real (o := ob) h2 f1 f2 g2 (ObR.pushed g3 (fun _ _ e => e) rfl)).drew k
        frr := D.sta.frr.pushed (withS_mono f1) (fun _ _ e => e) (fun g x hg => heap_push (D.sta.inv.hr.bfresh g x hg).2)
        bge := D.sta.bge }
      refine hK (A.withS p r) _ (more w ob k) (fun j q => Ph j q ∧ j ≠ i) (D.listed hi hip hpr (fun j q hne hq => ⟨hq, hne⟩) (fun i' j' p' q' hp' hq' hne => D.inj i' j' p' q' hp'.1 hq'.1 hne) (fun j q hq => ?_) (fillD S hi hd h3 ?_)) (put_defers _ _ _)
      · obtain ⟨e1, e2, e3⟩ := D.free j q hq.1
        refine ⟨?_, e2, e3⟩
        show (if q = p then some r else A.s q) = none
        rw [if_neg (D.inj j i q p hq.1 hp hq.2)]
        exact e1
      · cases m with
        | none => exact g4
        | some m => exact g4
end
end Go.Ev
