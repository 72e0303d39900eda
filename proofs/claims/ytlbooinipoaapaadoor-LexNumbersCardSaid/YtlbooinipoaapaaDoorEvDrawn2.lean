/- Regions that may go in any order: effects, and all of it. -/
import Derived.Test.YtlbooinipoaapaaDoorEvDrawn
namespace Go.Ev
section
variable {P : Program} {E : Ent} {A : Asg} {n : Nat} {fr : FT} {act : Act} {w : World} {h : H} {loc : List Tmp} {ops : Array Oper} {call : Calls'}

theorem pure_nobox {o : Oper} {why : Nat} {f : FT → Option Sl} (hc : comp P loc o = some (.pure why f)) {s : Sl} (hv : f fr = some s) : ∀ g l, s ≠ .box g l := by
  obtain ⟨dst, op, type, pos, after, guard⟩ := o
  unfold comp at hc
  cases op <;> simp only at hc
  all_goals try (cases hc; done)
  all_goals (repeat' split at hc)
  all_goals try (cases hc; done)
  all_goals cases hc
  all_goals simp only [vMove, vPick, vBuild, vNilCheck, vBin, vUn, vConvInt, vConvStr, vIface, vFunc, vSliceS, vSlice, vFieldAddr, vField, vIndexAddr, vIndex, vExtract, vLenS, vLen, vMinMax, vAssert] at hv
  all_goals (repeat' split at hv)
  all_goals first
    | (cases hv; done)
    | (obtain ⟨a, _, rfl⟩ := retV_some hv; intro _ _; simp; done)
    | (cases hv; intro _ _; simp; done)
    | (cases hv; intro _ _; unfold found; split <;> simp; done)
theorem look_nobox {o : Oper} {why : Nat} {f : FT → H → Option Sl} (hc : comp P loc o = some (.look why f)) {s : Sl} (hv : f fr h = some s) : ∀ g l, s ≠ .box g l := by
  obtain ⟨dst, op, type, pos, after, guard⟩ := o
  unfold comp at hc
  cases op <;> simp only at hc
  all_goals try (cases hc; done)
  all_goals (repeat' split at hc)
  all_goals try (cases hc; done)
  all_goals cases hc
  all_goals simp only [lLoad, lBytes, lLookup] at hv
  all_goals (repeat' split at hv)
  all_goals first
    | (cases hv; done)
    | (obtain ⟨a, _, rfl⟩ := retV_some hv; intro _ _; simp; done)
    | (cases hv; intro _ _; simp; done)
    | (cases hv; intro _ _; unfold found; split <;> simp; done)

theorem sh_some {s : Sl} (hs : ∀ g l, s ≠ .box g l) {x : Option Sl} (h : sh x = sh (some s)) : x = some s := by
  cases x with
  | none => cases s <;> simp [sh] at h
  | some y =>
    cases s with
    | box g l => exact absurd rfl (hs g l)
    | v a => cases y <;> simp [sh] at h; rw [h]
    | und => cases y <;> simp [sh] at h; rfl
    | lp d g o => cases y <;> simp [sh] at h; obtain ⟨h1, h2, h3⟩ := h; rw [h1, h2, h3]
theorem wanted_same {o : Oper} {g : Option (Path × Bool)} {f : OpF} {d : Option Path} {fr' : FT} (hst : stOf P loc ops o = .op g f d) (hl : ∀ t ∈ o.looksAt ops, sh (get (pathOf t) fr') = sh (get (pathOf t) fr)) {b : Bool} (hw : wantedF g fr = some b) : wantedF g fr' = some b := by
  obtain ⟨_, _, ⟨rfl, _⟩ | ⟨j, u, t, hg, ht, rfl⟩⟩ := stOf_op hst
  · exact hw
  · have hs := hl t (by simp only [Oper.looksAt, hg, ht]; simp)
    simp only [wantedF] at hw ⊢
    split at hw
    · rename_i v hv
      rw [hv] at hs
      rw [sh_some (by simp) hs]
      exact hw
    · rename_i hv
      rw [hv] at hs
      rw [sh_some (by simp) hs]
      exact hw
    · cases hw
theorem looks_same {o : Oper} {fr' : FT} (hl : ∀ t ∈ o.looksAt ops, sh (get (pathOf t) fr') = sh (get (pathOf t) fr)) : ∀ x ∈ o.op.operands, Same fr fr' x := fun x hx => same_of fun t e => hl t (by
  subst e
  exact List.mem_append_left _ (List.mem_filterMap.2 ⟨.tmp t, by simpa using hx, rfl⟩))
/-- What had come up goes on as it was. -/
theorem PendR.keep {c : Bool} {Ph Ph' : Path → Prop} {o : Oper} {fr' : FT} {h' : H} (hp : PendR P loc ops c Ph fr h o) (hl : ∀ t ∈ o.looksAt ops, sh (get (pathOf t) fr') = sh (get (pathOf t) fr))
    (hd : ∀ t, o.dst = some t → sh (get (pathOf t) fr') = sh (get (pathOf t) fr) ∧ ∀ g l, get (pathOf t) fr ≠ some (.box g l)) (hph : ∀ p, Ph p → Ph' p ∧ get p h'.t = get p h.t) : PendR P loc ops false Ph' fr' h' o := by
  obtain ⟨g, f, hst, hcase⟩ := hp
  obtain ⟨hc, _, _⟩ := stOf_op hst
  have slot : ∀ t s, o.dst = some t → get (pathOf t) fr = some s → get (pathOf t) fr' = some s := fun t s ht hs => by
    obtain ⟨h1, h2⟩ := hd t ht
    rw [hs] at h1 h2
    exact sh_some (fun g l e => h2 g l (by rw [e])) h1
  refine ⟨g, f, hst, ?_⟩
  rcases hcase with ⟨hw, hs⟩ | ⟨hw, hk⟩
  · exact .inl ⟨wanted_same hst hl hw, fun t ht => slot t _ ht (hs t ht)⟩
  · refine .inr ⟨wanted_same hst hl hw, ?_⟩
    cases f with
    | pure _ val => obtain ⟨s, h1, h2⟩ := hk; exact ⟨s, by rw [pure_congr hc (looks_same hl)]; exact h1, fun t ht => slot t s ht (h2 t ht)⟩
    | look _ val => exact fun e => by cases e
    | new _ val => obtain ⟨b, m, p, h1, h2, h3, h4⟩ := hk; exact ⟨b, m, p, (hph p h1).1, by rw [new_congr hc (looks_same hl)]; exact h2, (hph p h1).2.trans h3, fun t ht => slot t _ ht (h4 t ht)⟩
    | eff _ => exact hk

/-- An effect that comes up. -/
theorem heavy_step (hcall : CallOk E P call) {pre : List Nat} {lst : Array Bool} {Ph : Nat → Path → Prop} (hap : apartIn ops.toList = true) (D : DInv P loc ops E n true pre lst A fr h act.tmps w Ph) {j : Nat} {o : Oper} (hj : ops.toList[j]? = some o) (hjp : j ∉ pre)
    (hu : Unl lst j) (hpr : ∀ i ∈ preds o, Lst lst i) (hd : DstOk n o) {fr' : FT} {h' : H} (e : evStep call (stOf P loc ops o) fr h = .norm fr' h') {K : Act → World → Prop} {Q : Exit → Act → World → Prop}
    (hK : ∀ A' a' w', DInv P loc ops E n false (pre ++ [j]) (lst.setIfInBounds j true) A' fr' h' a'.tmps w' Ph → a'.defers = act.defers → K a' w') : OpWp P ops Q o K act w := by
  have hl := D.looks hap hj hpr
  have hk : ∀ d, o.dst = some d → okD ops pre lst (pathOf d) := fun d hdd i hi hui q t hq ht e' => by
    have e' := pathOf_inj e'
    subst e'
    have hne : j ≠ i := fun e' => hjp (e' ▸ hi)
    exact ((apart_spec hap hq hj hdd).2 hne).2 _ ht rfl
  refine step_norm hcall D.sta hl hd hk e fun A' a' w' S' hdf hkp hfk => hK A' a' w' ?_ hdf
  have hlt := unl_lt hu
  have hsub : ∀ i ∈ pre ++ [j], Unl (lst.setIfInBounds j true) i → i ∈ pre ∧ Unl lst i := fun i hi hui => by
    obtain ⟨h1, h2⟩ := unl_set hui
    rw [List.mem_append, List.mem_singleton] at hi
    exact ⟨hi.resolve_right h1, h2⟩
  exact {
    size := by rw [Array.size_setIfInBounds]; exact D.size
    rng := fun i hi => by
      rw [List.mem_append, List.mem_singleton] at hi
      rcases hi with hi | rfl
      · exact D.rng i hi
      · rw [← D.size]; exact hlt
    pc := fun i hi q hq k hk => by
      rw [List.mem_append, List.mem_singleton] at hi
      rw [List.mem_append]
      rcases hi with hi | rfl
      · exact .inl (D.pc i hi q hq k hk)
      · rw [hj] at hq; cases hq; exact .inl (D.sub k (hpr k hk))
    sub := fun i hi => by
      rw [List.mem_append, List.mem_singleton]
      exact (lst_set hi).elim .inr fun h1 => .inl (D.sub i h1)
    pend := fun i hi hui q hq => by
      obtain ⟨hip, hui'⟩ := hsub i hi hui
      obtain ⟨h1, h2⟩ := D.pend i hip hui' q hq
      have hne : j ≠ i := fun e' => hjp (e' ▸ hip)
      refine ⟨h1, h2.keep (fun t ht => hfk _ fun e' => ?_) (fun t ht => ⟨hfk _ fun e' => ?_, fun g l hb => ?_⟩) (fun p hp => ?_)⟩
      · unfold dst? at e'
        cases hdd : o.dst with
        | none => rw [hdd] at e'; cases e'
        | some d =>
          rw [hdd] at e'
          have e' : some (pathOf d) = some (pathOf t) := e'
          have := pathOf_inj (Option.some.inj e')
          subst this
          rcases ((apart_spec hap hq hj hdd).2 hne).1 with h3 | h3 | ⟨_, h3⟩
          · exact h3 ht
          · exact hjp (D.pc i hip q hq j h3)
          · exact not_both (hpr i h3) hui'
      · unfold dst? at e'
        cases hdd : o.dst with
        | none => rw [hdd] at e'; cases e'
        | some d =>
          rw [hdd] at e'
          have e' : some (pathOf d) = some (pathOf t) := e'
          have := pathOf_inj (Option.some.inj e')
          exact ((apart_spec hap hq hj hdd).2 hne).2 t ht this
      · exact (D.sta.frr.bok _ g l hb) i hip hui' q t hq ht rfl
      · obtain ⟨f1, f2, f3⟩ := D.free i p hp
        exact ⟨hp, (hkp.ph p f3 f1).2⟩
    down := fun i q hi hq k hk => by
      rcases lst_set hi with rfl | hi
      · rw [hj] at hq; cases hq; exact lst_old (hpr k hk)
      · exact lst_old (D.down i q hi hq k hk)
    sta := S'.weaken (fun p hp i hi hui q t hq ht => hp i (by rw [List.mem_append]; exact .inl hi) (unl_keep hui (fun e' => hjp (e' ▸ hi))) q t hq ht)
      (fun p hp i hi hui q t hq ht => hp i (hsub i hi hui).1 (hsub i hi hui).2 q t hq ht)
    inj := D.inj
    free := fun i p hp => by
      obtain ⟨f1, f2, f3⟩ := D.free i p hp
      exact ⟨(hkp.ph p f3 f1).1, f2, Nat.lt_of_lt_of_le f3 hkp.next⟩ }
end
end Go.Ev
