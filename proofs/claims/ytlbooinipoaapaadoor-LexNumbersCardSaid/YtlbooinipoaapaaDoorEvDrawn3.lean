/- Regions that may go in any order: all of it. -/
import Derived.Test.YtlbooinipoaapaaDoorEvDrawn2
namespace Go.Ev
section
variable {P : Program} {E : Ent} {A : Asg} {n : Nat} {fr : FT} {act : Act} {w : World} {h : H} {loc : List Tmp} {ops : Array Oper} {call : Calls'} {tmps : Array Value}

theorem orderOk_cons {L : List Oper} {pre : List Nat} {i : Nat} {rest : List Nat} (ho : orderOk L pre (i :: rest) = true) :
    ∃ o, L[i]? = some o ∧ i ∉ pre ∧ (∀ j ∈ preds o, j ∈ pre) ∧ (heavy o = true → shutAt L pre i = true) ∧ orderOk L (pre ++ [i]) rest = true := by
  simp only [orderOk] at ho
  split at ho
  · rename_i o hi
    simp only [Bool.and_eq_true, Bool.not_eq_true', Bool.or_eq_true] at ho
    obtain ⟨⟨⟨h1, h2⟩, h3⟩, h4⟩ := ho
    refine ⟨o, hi, fun hm => ?_, fun j hj => ?_, fun hh => ?_, h4⟩
    · rw [memN_iff.2 hm] at h1; cases h1
    · rw [List.all_eq_true] at h2
      exact memN_iff.1 (h2 j hj)
    · rcases h3 with h3 | h3
      · rw [hh] at h3; cases h3
      · exact h3
  · cases ho

/-- An operation comes up ahead of its time. -/
theorem ghost_gen {pre : List Nat} {lst : Array Bool} {Ph Ph1 : Nat → Path → Prop} (hap : apartIn ops.toList = true) (D : DInv P loc ops E n false pre lst A fr h tmps w Ph) {i : Nat} {o : Oper} (hi : ops.toList[i]? = some o) (hip : i ∉ pre)
    (hpr : ∀ j ∈ preds o, j ∈ pre) (hlight : heavy o = false) {s : Sl} (hs : ∀ g l, s ≠ .box g l) {h1 : H} (hinv : Inv E A h1 w) (hget : ∀ p, num p < num h.next → get p h1.t = get p h.t)
    (hph : ∀ j p, Ph j p → Ph1 j p) (hinj : ∀ i j p q, Ph1 i p → Ph1 j q → i ≠ j → p ≠ q) (hfree : ∀ i p, Ph1 i p → A.s p = none ∧ num E.h.next ≤ num p ∧ num p < num h1.next)
    (hown : PendR P loc ops false (Ph1 i) (pt (dst? o) (some s) fr) h1 o) : DInv P loc ops E n false (pre ++ [i]) lst A (pt (dst? o) (some s) fr) h1 tmps w Ph1 := by
  have hilt : i < ops.size := by rcases Nat.lt_or_ge i ops.toList.length with h | h; simpa using h; rw [List.getElem?_eq_none h] at hi; cases hi
  have hui : Unl lst i := (either (by rw [D.size]; exact hilt)).resolve_left (fun h => hip (D.sub i h))
  have hslot : ∀ t, (∀ d, o.dst = some d → d ≠ t) → get (pathOf t) (pt (dst? o) (some s) fr) = get (pathOf t) fr := fun t ht => by
    unfold dst?
    cases hdd : o.dst with
    | none => rfl
    | some d => exact get_set_other _ _ _ _ (fun e => ht d hdd (pathOf_inj e).symm)
  exact {
    size := D.size
    rng := fun k hk => by
      rw [List.mem_append, List.mem_singleton] at hk
      rcases hk with hk | rfl
      · exact D.rng k hk
      · exact hilt
    pc := fun k hk q hq j hj => by
      rw [List.mem_append, List.mem_singleton] at hk
      rw [List.mem_append]
      rcases hk with hk | rfl
      · exact .inl (D.pc k hk q hq j hj)
      · rw [hi] at hq; cases hq; exact .inl (hpr j hj)
    sub := fun k hk => by rw [List.mem_append]; exact .inl (D.sub k hk)
    pend := fun k hk hu q hq => by
      rw [List.mem_append, List.mem_singleton] at hk
      rcases hk with hk | rfl
      · obtain ⟨g1, g2⟩ := D.pend k hk hu q hq
        have hne : i ≠ k := fun e => hip (e ▸ hk)
        refine ⟨g1, g2.keep (fun t ht => congrArg sh (hslot t fun d hd e => ?_)) (fun t ht => ⟨congrArg sh (hslot t fun d hd e => ?_), fun g l hb => ?_⟩) (fun p hp => ⟨hph k p hp, hget p (D.free k p hp).2.2⟩)⟩
        · subst e
          rcases ((apart_spec hap hq hi hd).2 hne).1 with h3 | h3 | ⟨h3, _⟩
          · exact h3 ht
          · exact hip (D.pc k hk q hq i h3)
          · rw [hlight] at h3; cases h3
        · subst e
          exact ((apart_spec hap hq hi hd).2 hne).2 d ht rfl
        · exact (D.sta.frr.bok _ g l hb) k hk hu q t hq ht rfl
      · rw [hi] at hq; cases hq; exact ⟨hlight, hown⟩
    down := D.down
    sta := by
      have hback : ∀ p, okD ops (pre ++ [i]) lst p → okD ops pre lst p := fun p hp k hk => hp k (by rw [List.mem_append]; exact .inl hk)
      have hfwd : ∀ p, okD ops pre lst p → (∀ d, o.dst = some d → p ≠ pathOf d) → okD ops (pre ++ [i]) lst p := fun p hp hne k hk hu q t hq ht => by
        rw [List.mem_append, List.mem_singleton] at hk
        rcases hk with hk | rfl
        · exact hp k hk hu q t hq ht
        · rw [hi] at hq; cases hq; exact hne t ht
      unfold dst?
      cases hdd : o.dst with
      | none =>
        exact ⟨hinv, ((⟨D.sta.inv, D.sta.frr, D.sta.bge⟩ : Sta E A n (okD ops pre lst) fr h tmps w).weaken hback (fun p hp => hfwd p hp (fun d hd => by rw [hdd] at hd; cases hd))).frr, D.sta.bge⟩
      | some d =>
        refine ⟨hinv, D.sta.frr.ghost hs (fun p hp => ⟨hp i (by simp) hui o d hi hdd, hback p hp⟩) (fun p hp hne => hfwd p hp (fun d' hd' => by rw [hdd] at hd'; cases hd'; exact hne)), fun p g l hp => ?_⟩
        have hp : get p (set (pathOf d) (some s) fr) = some (.box g l) := hp
        rw [get_set] at hp
        split at hp
        · cases hp; exact absurd rfl (hs g l)
        · exact D.sta.bge p g l hp
    inj := hinj
    free := hfree }
theorem ghost_step {pre : List Nat} {lst : Array Bool} {Ph : Nat → Path → Prop} (hap : apartIn ops.toList = true) (D : DInv P loc ops E n false pre lst A fr h tmps w Ph) {i : Nat} {o : Oper} (hi : ops.toList[i]? = some o) (hip : i ∉ pre)
    (hpr : ∀ j ∈ preds o, j ∈ pre) (hlight : heavy o = false) {fr1 : FT} {h1 : H} (e : evStep call (lightOf (stOf P loc ops o)) fr h = .norm fr1 h1) : ∃ Ph1, DInv P loc ops E n false (pre ++ [i]) lst A fr1 h1 tmps w Ph1 := by
  have own : ∀ s : Option Sl, ∀ t ∈ o.looksAt ops, sh (get (pathOf t) (pt (dst? o) s fr)) = sh (get (pathOf t) fr) := fun s t ht => by
    unfold dst?
    cases hdd : o.dst with
    | none => rfl
    | some d =>
      refine congrArg sh (get_set_other _ _ _ _ (fun e' => ?_))
      have := pathOf_inj e'
      subst this
      rcases (apart_spec hap hi hi hdd).1 rfl with h3 | h3
      · rw [hlight] at h3; cases h3
      · exact h3 ht
  have mine : ∀ (s : Sl) t, o.dst = some t → get (pathOf t) (pt (dst? o) (some s) fr) = some s := fun s t ht => by
    unfold dst?
    rw [ht]
    exact get_set_same _ _ _
  cases hst : stOf P loc ops o with
  | no => rw [hst] at e; cases e
  | chk g f d =>
    exfalso
    unfold stOf at hst
    split at hst
    · split at hst
      · cases hst
      · split at hst <;> cases hst
    · cases hst
  | op g f d =>
    rw [hst] at e
    obtain ⟨hc, rfl, _⟩ := stOf_op hst
    cases f with
    | eff run => cases e
    | pure why val =>
      simp only [lightOf, evStep] at e
      split at e
      · rename_i hw
        split at e
        · rename_i s hv
          cases e
          exact ⟨Ph, ghost_gen hap D hi hip hpr hlight (pure_nobox hc hv) D.sta.inv (fun _ _ => rfl) (fun _ _ h => h) D.inj D.free
            ⟨g, _, hst, .inr ⟨wanted_same hst (own _) hw, s, by rw [pure_congr hc (looks_same (own _))]; exact hv, mine s⟩⟩⟩
        · cases e
      · rename_i hw
        cases e
        exact ⟨Ph, ghost_gen hap D hi hip hpr hlight (by simp) D.sta.inv (fun _ _ => rfl) (fun _ _ h => h) D.inj D.free ⟨g, _, hst, .inl ⟨wanted_same hst (own _) hw, mine .und⟩⟩⟩
      · cases e
    | look why val =>
      simp only [lightOf, evStep] at e
      split at e
      · rename_i hw
        split at e
        · rename_i s hv
          cases e
          exact ⟨Ph, ghost_gen hap D hi hip hpr hlight (look_nobox hc hv) D.sta.inv (fun _ _ => rfl) (fun _ _ h => h) D.inj D.free
            ⟨g, _, hst, .inr ⟨wanted_same hst (own _) hw, fun e => by cases e⟩⟩⟩
        · cases e
      · rename_i hw
        cases e
        exact ⟨Ph, ghost_gen hap D hi hip hpr hlight (by simp) D.sta.inv (fun _ _ => rfl) (fun _ _ h => h) D.inj D.free ⟨g, _, hst, .inl ⟨wanted_same hst (own _) hw, mine .und⟩⟩⟩
      · cases e
    | new why val =>
      simp only [lightOf, evStep] at e
      split at e
      · rename_i hw
        split at e
        · rename_i b m hv
          cases e
          have hnum : num (inc h.next) = num h.next + 1 := num_inc _
          refine ⟨fun j q => Ph j q ∨ (j = i ∧ q = h.next), ghost_gen hap D hi hip hpr hlight (by intro g l; cases m <;> simp [newS]) (D.sta.inv.ghost b)
            (fun p hp => get_set_other _ _ _ _ (fun e' => by subst e'; omega)) (fun _ _ h => .inl h) ?_ ?_
            ⟨g, _, hst, .inr ⟨wanted_same hst (own _) hw, b, m, h.next, .inr ⟨rfl, rfl⟩, by rw [new_congr hc (looks_same (own _))]; exact hv, get_new, mine _⟩⟩⟩
          · intro i' j' p q hp hq hne
            rcases hp with hp | ⟨rfl, rfl⟩ <;> rcases hq with hq | ⟨rfl, rfl⟩
            · exact D.inj i' j' p q hp hq hne
            · intro e'; subst e'; have := (D.free i' _ hp).2.2; omega
            · intro e'; subst e'; have := (D.free j' _ hq).2.2; omega
            · exact absurd rfl hne
          · intro j p hp
            show _ ∧ _ ∧ num p < num (inc h.next)
            rcases hp with hp | ⟨rfl, rfl⟩
            · obtain ⟨f1, f2, f3⟩ := D.free j p hp
              exact ⟨f1, f2, by omega⟩
            · exact ⟨D.sta.inv.hr.none_next, D.sta.inv.next, by omega⟩
        · cases e
      · rename_i hw
        cases e
        exact ⟨Ph, ghost_gen hap D hi hip hpr hlight (by simp) D.sta.inv (fun _ _ => rfl) (fun _ _ h => h) D.inj D.free ⟨g, _, hst, .inl ⟨wanted_same hst (own _) hw, mine .und⟩⟩⟩
      · cases e

/-! ### What is looked at once more -/
theorem evSteps_append (call : Calls') : ∀ (l r : List St) (fr : FT) (h : H), evSteps call (l ++ r) fr h = match evSteps call l fr h with | .norm fr h => evSteps call r fr h | x => x
  | [], r, fr, h => rfl
  | s :: l, r, fr, h => by
    rw [List.cons_append, evSteps_cons, evSteps_cons]
    cases evStep call s fr h with
    | norm f g => exact evSteps_append call l r f g
    | _ => rfl
theorem holds_eq {d : Option Path} {s : Sl} {fr : FT} (e : holds d s fr = true) : ∃ p, d = some p ∧ get p fr = some s := by
  unfold holds at e
  split at e
  · split at e
    · rename_i hb; rw [aveq_eq e]; exact ⟨_, rfl, hb⟩
    · cases e
  · cases e
theorem chk_one {o : Oper} {r : Out} (e : evStep call (chkOf (stOf P loc ops o)) fr h = r) : (∃ k, r = .bad k) ∨ (r = .norm fr h ∧ ∀ g why val, stOf P loc ops o = .op g (.look why val) (dst? o) → wantedF g fr = some true → ∃ s, val fr h = some s ∧ ∀ t, o.dst = some t → get (pathOf t) fr = some s) := by
  cases hst : stOf P loc ops o with
  | no => rw [hst] at e; exact .inl ⟨_, e.symm⟩
  | chk g f d =>
    exfalso
    unfold stOf at hst
    split at hst
    · split at hst
      · cases hst
      · split at hst <;> cases hst
    · cases hst
  | op g f d =>
    rw [hst] at e
    obtain ⟨hc, rfl, _⟩ := stOf_op hst
    simp only [chkOf, evStep] at e
    split at e
    · rename_i hw
      split at e
      · split at e
        · rename_i s hv
          split at e
          · rename_i hh
            refine .inr ⟨e.symm, fun g' why' val' he _ => ?_⟩
            cases he
            obtain ⟨p, h1, h2⟩ := holds_eq hh
            refine ⟨s, hv, fun t ht => ?_⟩
            have h1 : (match o.dst with | some d => some (pathOf d) | none => none) = some p := h1
            rw [ht] at h1
            cases h1
            exact h2
          · exact .inl ⟨_, e.symm⟩
        · exact .inl ⟨_, e.symm⟩
      · rename_i hne
        exact .inr ⟨e.symm, fun g' why' val' he _ => by cases he; exact absurd rfl (hne _ _)⟩
    · rename_i hne
      exact .inr ⟨e.symm, fun g' why' val' he hw => by cases he; exact absurd hw hne⟩
noncomputable def chkAt (P : Program) (loc : List Tmp) (ops : Array Oper) (i : Nat) : St := match ops.toList[i]? with | some o => chkOf (stOf P loc ops o) | none => .no
theorem chks_pass (rest : List St) : ∀ (l : List Nat), (∀ k, evSteps call (l.map (chkAt P loc ops) ++ rest) fr h ≠ .bad k) → evSteps call (l.map (chkAt P loc ops) ++ rest) fr h = evSteps call rest fr h ∧
    ∀ i ∈ l, ∀ o, ops.toList[i]? = some o → ∀ g why val, stOf P loc ops o = .op g (.look why val) (dst? o) → wantedF g fr = some true → ∃ s, val fr h = some s ∧ ∀ t, o.dst = some t → get (pathOf t) fr = some s
  | [], _ => ⟨rfl, fun i hi => by simp at hi⟩
  | i :: l, hb => by
    rw [List.map_cons, List.cons_append, evSteps_cons] at hb ⊢
    cases ho : ops.toList[i]? with
    | none =>
      exfalso
      have : chkAt P loc ops i = .no := by unfold chkAt; rw [ho]
      rw [this] at hb
      exact hb 41 rfl
    | some o =>
      have hc : chkAt P loc ops i = chkOf (stOf P loc ops o) := by unfold chkAt; rw [ho]
      rw [hc] at hb ⊢
      rcases chk_one (rfl : evStep call (chkOf (stOf P loc ops o)) fr h = _) with ⟨k, hk⟩ | ⟨hk, hk2⟩
      · rw [hk] at hb; exact absurd rfl (hb k)
      · rw [hk] at hb ⊢
        obtain ⟨h1, h2⟩ := chks_pass rest l hb
        refine ⟨h1, fun j hj q hq => ?_⟩
        rw [List.mem_cons] at hj
        rcases hj with rfl | hj
        · rw [ho] at hq; cases hq; exact hk2
        · exact h2 j hj q hq
/-- All that is pending has been looked at once more. -/
theorem DInv.checked {pre : List Nat} {lst : Array Bool} {Ph : Nat → Path → Prop} (D : DInv P loc ops E n false pre lst A fr h tmps w Ph)
    (hc : ∀ i ∈ again ops.toList pre, ∀ o, ops.toList[i]? = some o → ∀ g why val, stOf P loc ops o = .op g (.look why val) (dst? o) → wantedF g fr = some true → ∃ s, val fr h = some s ∧ ∀ t, o.dst = some t → get (pathOf t) fr = some s) :
    DInv P loc ops E n true pre lst A fr h tmps w Ph := by
  refine { D with pend := fun i hi hu o ho => ?_ }
  obtain ⟨h1, g, f, hst, hcase⟩ := D.pend i hi hu o ho
  refine ⟨h1, g, f, hst, hcase.imp id fun ⟨hw, hk⟩ => ⟨hw, ?_⟩⟩
  cases f with
  | pure _ val => exact hk
  | new _ val => exact hk
  | eff _ => exact hk
  | look why val =>
    intro _
    refine hc i ?_ o ho g why val hst hw
    unfold again
    rw [List.mem_filter]
    refine ⟨hi, ?_⟩
    rw [ho]
    simp only [h1, Bool.not_false, Bool.true_and, Bool.not_eq_true']
    rw [Bool.eq_false_iff]
    intro ha
    rw [List.any_eq_true] at ha
    obtain ⟨j, hj, hjq⟩ := ha
    cases hq : ops.toList[j]? with
    | none => rw [hq] at hjq; cases hjq
    | some q =>
      rw [hq] at hjq
      simp only [Bool.and_eq_true] at hjq
      have hl : Lst lst j := (either (by rw [D.size]; exact D.rng j hj)).resolve_right (fun hu' => by
        have := (D.pend j hj hu' q hq).1
        rw [hjq.1] at this; cases this)
      exact not_both (D.down j q hl hq i (memN_iff.1 hjq.2)) hu

/-- Where an effect comes next, or nothing. -/
def Bound (P : Program) (loc : List Tmp) (ops : Array Oper) (call : Calls') (E : Ent) (n : Nat) (df : List Deferred) (Q : Exit → Act → World → Prop) (pre rest : List Nat) (fr : FT) (h : H) : Prop :=
  (rest = [] ∧ OutR E n df Q (dstsOf ops) (.norm fr h)) ∨ ∃ j r o, rest = j :: r ∧ ops.toList[j]? = some o ∧ heavy o = true ∧ OutR E n df Q (dstsOf ops) (match evStep call (stOf P loc ops o) fr h with | .norm fr h => evSteps call (drawnGo P loc ops (pre ++ [j]) r) fr h | x => x)
theorem settle {df : List Deferred} {Q : Exit → Act → World → Prop} {lst : Array Bool} (hap : apartIn ops.toList = true) : ∀ (rest pre : List Nat) (fr : FT) (h : H) (Ph : Nat → Path → Prop), DInv P loc ops E n false pre lst A fr h tmps w Ph →
    orderOk ops.toList pre rest = true → OutR E n df Q (dstsOf ops) (evSteps call (drawnGo P loc ops pre rest) fr h) →
    ∃ pre' rest' fr' h' Ph', DInv P loc ops E n true pre' lst A fr' h' tmps w Ph' ∧ orderOk ops.toList pre' rest' = true ∧ pre' ++ rest' = pre ++ rest ∧ Bound P loc ops call E n df Q pre' rest' fr' h'
  | [], pre, fr, h, Ph, D, ho, hout => by
    have e0 : drawnGo P loc ops pre [] = (again ops.toList pre).map (chkAt P loc ops) ++ [] := by simp only [drawnGo, List.append_nil]; rfl
    rw [e0] at hout
    obtain ⟨h1, h2⟩ := chks_pass (P := P) (loc := loc) (ops := ops) (call := call) (fr := fr) (h := h) [] (again ops.toList pre) (fun k e => by rw [e] at hout; exact hout)
    rw [h1] at hout
    exact ⟨pre, [], fr, h, Ph, D.checked h2, ho, rfl, .inl ⟨rfl, hout⟩⟩
  | i :: rest, pre, fr, h, Ph, D, ho, hout => by
    obtain ⟨o, hi, hip, hpr, _, ho'⟩ := orderOk_cons ho
    cases hh : heavy o with
    | true =>
      have e0 : drawnGo P loc ops pre (i :: rest) = (again ops.toList pre).map (chkAt P loc ops) ++ (stOf P loc ops o :: drawnGo P loc ops (pre ++ [i]) rest) := by
        simp only [drawnGo, hi, hh]; rfl
      rw [e0] at hout
      obtain ⟨h1, h2⟩ := chks_pass (P := P) (loc := loc) (ops := ops) (call := call) (fr := fr) (h := h) (stOf P loc ops o :: drawnGo P loc ops (pre ++ [i]) rest) (again ops.toList pre) (fun k e => by rw [e] at hout; exact hout)
      rw [h1, evSteps_cons] at hout
      exact ⟨pre, i :: rest, fr, h, Ph, D.checked h2, ho, rfl, .inr ⟨i, rest, o, rfl, hi, hh, hout⟩⟩
    | false =>
      have e0 : drawnGo P loc ops pre (i :: rest) = lightOf (stOf P loc ops o) :: drawnGo P loc ops (pre ++ [i]) rest := by
        simp only [drawnGo, hi, hh]
      rw [e0, evSteps_cons] at hout
      have light : (∃ fr1 h1, evStep call (lightOf (stOf P loc ops o)) fr h = .norm fr1 h1) ∨ ∃ k, evStep call (lightOf (stOf P loc ops o)) fr h = .bad k := by
        cases hst : stOf P loc ops o with
        | no => exact .inr ⟨_, rfl⟩
        | chk g f d =>
          exfalso
          unfold stOf at hst
          split at hst
          · split at hst
            · cases hst
            · split at hst <;> cases hst
          · cases hst
        | op g f d =>
          cases f with
          | eff _ => exact .inr ⟨_, rfl⟩
          | _ =>
            simp only [lightOf, evStep]
            split
            · split
              · exact .inl ⟨_, _, rfl⟩
              · exact .inr ⟨_, rfl⟩
            · exact .inl ⟨_, _, rfl⟩
            · exact .inr ⟨_, rfl⟩
      rcases light with ⟨fr1, h1, e1⟩ | ⟨k, e1⟩
      · rw [e1] at hout
        obtain ⟨Ph1, D1⟩ := ghost_step hap D hi hip hpr hh e1
        obtain ⟨pre', rest', fr', h', Ph', g1, g2, g3, g4⟩ := settle hap rest (pre ++ [i]) fr1 h1 Ph1 D1 ho' hout
        exact ⟨pre', rest', fr', h', Ph', g1, g2, by rw [g3]; simp, g4⟩
      · rw [e1] at hout; exact hout.elim

theorem all_listed {lst : Array Bool} (hsz : lst.size = ops.size) (hrd : Region.ready .any ops lst = []) : ∀ (l pre : List Nat), orderOk ops.toList pre l = true → (∀ i ∈ pre, Lst lst i) → (∀ i ∈ pre ++ l, Lst lst i) ∧ ∀ i, i < ops.size → i ∈ pre ++ l
  | [], pre, ho, hp => by
    simp only [orderOk, List.all_eq_true] at ho
    refine ⟨by simpa using hp, fun i hi => ?_⟩
    rw [List.append_nil]
    exact memN_iff.1 (ho i (by simpa using hi))
  | i :: l, pre, ho, hp => by
    obtain ⟨o, hi, hip, hpr, _, ho'⟩ := orderOk_cons ho
    have hilt : i < ops.size := by rcases Nat.lt_or_ge i ops.toList.length with h | h; simpa using h; rw [List.getElem?_eq_none h] at hi; cases hi
    have hl : Lst lst i := (either (by rw [hsz]; exact hilt)).resolve_right (fun hu => by
      have : i ∈ Region.ready .any ops lst := mem_ready.2 ⟨hu, o, by simpa using hi, fun e he hb => hp e.on (hpr e.on (preds_iff.2 ⟨e, he, hb, rfl⟩))⟩
      rw [hrd] at this
      cases this)
    obtain ⟨h1, h2⟩ := all_listed hsz hrd l (pre ++ [i]) ho' (fun k hk => by
      rw [List.mem_append, List.mem_singleton] at hk
      rcases hk with hk | rfl
      · exact hp k hk
      · exact hl)
    exact ⟨fun k hk => h1 k (by simpa using hk), fun k hk => by have := h2 k hk; simpa using this⟩

theorem get_clr : ∀ (ds : List Path) (fr : FT) (p : Path), get p (clr ds fr) = if p ∈ ds then none else get p fr
  | [], fr, p => by show get p fr = _; simp
  | d :: ds, fr, p => by
    show get p (clr ds (set d none fr)) = _
    rw [get_clr ds]
    by_cases h : p ∈ ds
    · rw [if_pos h, if_pos (by simp [h])]
    · rw [if_neg h, get_set]
      by_cases e : p = d
      · rw [if_pos e, if_pos (by simp [e])]
      · rw [if_neg e, if_neg (by simp [e, h])]
theorem clr_sta {pre : List Nat} {lst : Array Bool} (S : Sta E A n (okD ops pre lst) fr h tmps w) : Sta E A n all (clr (dstsOf ops) fr) h tmps w := by
  have hg : ∀ p s, get p (clr (dstsOf ops) fr) = some s → okD ops pre lst p ∧ get p fr = some s := fun p s hp => by
    rw [get_clr] at hp
    split at hp
    · cases hp
    · rename_i hn
      refine ⟨fun i _ _ o t ho hd e => hn ?_, hp⟩
      unfold dstsOf
      rw [List.mem_filterMap]
      exact ⟨o, List.mem_of_getElem? ho, by unfold dst?; rw [hd, e]⟩
  exact ⟨S.inv, ⟨S.frr.size, fun t s _ hs => S.frr.slot t s (hg _ _ hs).1 (hg _ _ hs).2, fun _ _ _ _ => trivial, fun p q g l l' h1 h2 => S.frr.once p q g l l' (hg _ _ h1).2 (hg _ _ h2).2⟩, fun p g l h1 => S.bge p g l (hg _ _ h1).2⟩

theorem drawn_main (hcall : CallOk E P call) {df : List Deferred} {Q : Exit → Act → World → Prop} (hap : apartIn ops.toList = true) (hd : ∀ o ∈ ops.toList, DstOk n o) : ∀ (fuel : Nat) (us : List Nat) (lst : Array Bool) (A : Asg) (act : Act) (w : World) (Ph : Nat → Path → Prop) (pre rest : List Nat) (fr : FT) (h : H),
    us.Nodup → (∀ i, i ∈ us ↔ Unl lst i) → us.length ≤ fuel → DInv P loc ops E n true pre lst A fr h act.tmps w Ph → orderOk ops.toList [] (pre ++ rest) = true → orderOk ops.toList pre rest = true →
    Bound P loc ops call E n df Q pre rest fr h → act.defers = df → wpAny P .any ops Q fuel lst act w := by
  -- nothing may come up any more
  have fin : ∀ (lst : Array Bool) (A : Asg) (act : Act) (w : World) (Ph : Nat → Path → Prop) (pre rest : List Nat) (fr : FT) (h : H), DInv P loc ops E n true pre lst A fr h act.tmps w Ph → orderOk ops.toList [] (pre ++ rest) = true → orderOk ops.toList pre rest = true →
      Bound P loc ops call E n df Q pre rest fr h → act.defers = df → Region.ready .any ops lst = [] → Q .normal act w := by
    intro lst A act w Ph pre rest fr h D ho ho' hb hdf hrd
    obtain ⟨h1, h2⟩ := all_listed D.size hrd (pre ++ rest) [] ho (fun i hi => by simp at hi)
    rw [List.nil_append] at h1 h2
    rcases hb with ⟨rfl, hout⟩ | ⟨j, r, o, rfl, hj, _, _⟩
    · refine hout A act w (D.sta.weaken (fun p _ i hi hu => absurd hu (fun hu => not_both (h1 i (by simpa using hi)) hu)) (fun _ _ => trivial)) hdf
    · obtain ⟨_, _, hjp, _⟩ := orderOk_cons ho'
      exact absurd (D.sub j (h1 j (by simp))) hjp
  intro fuel
  induction fuel with
  | zero =>
    intro us lst A act w Ph pre rest fr h hnd hus hlen D ho ho' hb hdf
    have hnil : us = [] := List.eq_nil_of_length_eq_zero (Nat.le_zero.1 hlen)
    have hrd : Region.ready .any ops lst = [] := by
      rw [List.eq_nil_iff_forall_not_mem]
      intro i hi
      have : i ∈ us := (hus i).2 (mem_ready.1 hi).1
      rw [hnil] at this
      cases this
    exact ⟨hrd, fin lst A act w Ph pre rest fr h D ho ho' hb hdf hrd⟩
  | succ fuel ih =>
    intro us lst A act w Ph pre rest fr h hnd hus hlen D ho ho' hb hdf
    refine ⟨fin lst A act w Ph pre rest fr h D ho ho' hb hdf, fun i hi => ?_⟩
    obtain ⟨hu, o, hoi, hall⟩ := mem_ready.1 hi
    have hi' : ops.toList[i]? = some o := by simpa using hoi
    have hmem : o ∈ ops.toList := List.mem_of_getElem? hi'
    have hpr : ∀ j ∈ preds o, Lst lst j := fun j hj => by
      obtain ⟨e, he, hb, rfl⟩ := preds_iff.1 hj
      exact hall e he hb
    have hwp : ∀ {K : Act → World → Prop}, OpWp P ops Q o K act w → wpOp P ops Q i K act w := fun hK => by
      unfold OpWp at hK
      unfold wpOp
      rw [hoi]
      simp only
      split
      · rename_i hq; rw [if_pos hq] at hK; exact .inl hK
      · rename_i hq; rw [if_neg hq] at hK; exact hK
    have hnd' : (us.erase i).Nodup := hnd.erase i
    have hus' : ∀ j, j ∈ us.erase i ↔ Unl (lst.setIfInBounds i true) j := fun j => by
      rw [hnd.mem_erase_iff, hus j]
      exact ⟨fun ⟨h1, h2⟩ => unl_keep h2 h1, fun h1 => unl_set h1⟩
    have hlen' : (us.erase i).length ≤ fuel := by
      rw [List.length_erase_of_mem ((hus i).2 hu)]
      omega
    refine hwp ?_
    by_cases hip : i ∈ pre
    · exact light_step hap D hi' hip hu hpr (hd o hmem) (fun A' a' w' Ph' D' hdf' => ih (us.erase i) _ A' a' w' Ph' pre rest fr h hnd' hus' hlen' D' ho ho' hb (hdf'.trans hdf))
    · rcases hb with ⟨rfl, _⟩ | ⟨j, r, o', rfl, hj, hh, hout⟩
      · exfalso
        have hilt : i < ops.size := by rw [← D.size]; exact unl_lt hu
        simp only [orderOk, List.all_eq_true] at ho'
        exact hip (memN_iff.1 (ho' i (by simpa using hilt)))
      · obtain ⟨o2, hj2, hjp, _, hshut, ho2⟩ := orderOk_cons ho'
        rw [hj] at hj2; cases hj2
        have hij : i = j := by
          have hs := zip_all (hshut hh) hi'
          simp only [Bool.or_eq_true, memN_iff] at hs
          rcases hs with (hs | hs) | hs
          · exact absurd hs hip
          · exact Nat.eq_of_beq_eq_true hs
          · exfalso
            rw [List.any_eq_true] at hs
            obtain ⟨e, he, hne⟩ := hs
            have := memN_iff.2 (D.sub e (hpr e he))
            rw [this] at hne
            cases hne
        subst hij
        rw [hj] at hi'; cases hi'
        cases hs : evStep call (stOf P loc ops o) fr h with
        | norm fr1 h1 =>
          rw [hs] at hout
          refine heavy_step hcall hap D hj hjp hu hpr (hd o hmem) hs (fun A' a' w' D' hdf' => ?_)
          obtain ⟨pre', rest', fr', h', Ph', g1, g2, g3, g4⟩ := settle hap r (pre ++ [i]) fr1 h1 Ph D' ho2 hout
          exact ih (us.erase i) _ A' a' w' Ph' pre' rest' fr' h' hnd' hus' hlen' g1 (by rw [g3]; simpa using ho) g2 g4 (hdf'.trans hdf)
        | pan v fr1 h1 =>
          rw [hs] at hout
          exact step_pan hcall D.sta (D.looks hap hj hpr) hs (fun A' x w' older hno hx S' => hout A' x act w' older hno hx (clr_sta S') hdf)
        | bad k => rw [hs] at hout; exact hout.elim
        | exit id f g => exact absurd hs (evStep_kinds.1 _ _ _)
        | ret f g => exact absurd hs (evStep_kinds.2 _ _)
end
/-- Regions that may go in any order do what the evaluator tells. -/
theorem drawn_ok {P : Program} {E : Ent} (hm : P.follows .mixedOrders = true) {call : Calls'} (hcall : CallOk E P call) : DrawnOk E P call := by
  intro A n fr h act w loc id ops Q hd S hout
  refine wp_region_any hm ?_
  unfold drawnOf at hout
  split at hout
  · rename_i h1 hap ho
    have hsz : (Array.replicate ops.size false).size = ops.size := Array.size_replicate
    have hunl : ∀ i, Unl (Array.replicate ops.size false) i ↔ i < ops.size := fun i => ⟨fun hu => by have := unl_lt hu; rwa [hsz] at this, fun hlt => by unfold Unl; simp [hlt]⟩
    have hlst : ∀ i, ¬ Lst (Array.replicate ops.size false) i := fun i hl => by
      rcases Nat.lt_or_ge i ops.size with h | h
      · exact not_both hl ((hunl i).2 h)
      · unfold Lst at hl; rw [Array.getD_eq_getD_getElem?, Array.getElem?_eq_none (by rw [hsz]; exact h)] at hl; cases hl
    have D : DInv P loc ops E n false [] (Array.replicate ops.size false) A fr h act.tmps { w with drawn := w.drawn + 1 } (fun _ _ => False) := {
      size := hsz
      rng := fun i hi => by simp at hi
      pc := fun i hi => by simp at hi
      sub := fun i hi => absurd hi (hlst i)
      pend := fun i hi => by simp at hi
      down := fun i o hi => absurd hi (hlst i)
      sta := (⟨S.inv.drew _, FrR.of_heap (w := w) (w' := { w with drawn := w.drawn + 1 }) rfl S.frr, S.bge⟩ : Sta E A n all fr h act.tmps { w with drawn := w.drawn + 1 }).weaken (fun _ _ => trivial) (fun p _ i hi => by simp at hi)
      inj := fun i j p q h => h.elim
      free := fun i p h => h.elim }
    obtain ⟨pre', rest', fr', h', Ph', g1, g2, g3, g4⟩ := settle (call := call) hap (orderOf ops.toList) [] fr h _ D ho hout
    exact drawn_main hcall hap hd ops.size (List.range ops.size) _ A act _ Ph' pre' rest' fr' h' List.nodup_range (fun i => by rw [hunl]; simp) (by simp) g1 (by rw [g3]; exact ho) g2 g4 rfl
  · exact (show False from hout).elim
end Go.Ev
