/- Functions: what the evaluator tells is what they return. -/
import Derived.Test.YtophpelggceknaaDoorEvCode
namespace Go.Ev
variable {P : Program} {E : Ent} {A : Asg} {n : Nat} {ok : Path → Prop} {fr : FT} {act : Act} {w : World} {h : H}

theorem get_initFr : ∀ (l : List AV) (i : Nat) (fr : FT) (t : Nat), get (pathOf t) (initFr l i fr) = if i ≤ t ∧ t < i + l.length then (l[t - i]?).map .v else get (pathOf t) fr
  | [], i, fr, t => by
    show get (pathOf t) fr = _
    rw [if_neg (by simp)]
  | a :: l, i, fr, t => by
    show get (pathOf t) (initFr l (i + 1) (set (pathOf i) (some (.v a)) fr)) = _
    rw [get_initFr l]
    by_cases e : t = i
    · subst e
      rw [if_neg (by omega), get_set, if_pos rfl, if_pos (by simp)]
      simp
    · by_cases h1 : i + 1 ≤ t ∧ t < i + 1 + l.length
      · rw [if_pos h1, if_pos (by simp; omega)]
        have e : t - i = (t - (i + 1)) + 1 := by omega
        rw [e]; simp
      · rw [if_neg h1, get_set, if_neg (fun e' => e (pathOf_inj e')), if_neg (by simp; omega)]
theorem start_R (hr : HR A h w) {as : List AV} {args : Array Value} (ha : VRs A.s as args.toList) (m : Nat) : Sta ⟨A, h, w⟩ A m all (initFr as 0 .nil) h (args ++ Array.replicate (m - args.size) undef) w where
  inv := Inv.start hr
  frr := {
    size := by simp; omega
    slot := fun t s _ hs => by
      rw [get_initFr] at hs
      split at hs
      · rename_i ht
        have ht' : t < as.length := by omega
        rw [Nat.sub_zero, List.getElem?_eq_getElem ht'] at hs
        cases hs
        obtain ⟨x, hx, hv⟩ := ha.get (List.getElem?_eq_getElem ht')
        have hl := ha.length
        have hts : t < args.size := by simp at hl; omega
        have : (args ++ Array.replicate (m - args.size) undef).getD t undef = x := by
          rw [Array.getD_eq_getD_getElem?, Array.getElem?_append_left hts]
          have : args[t]? = some x := by simpa using hx
          rw [this]; rfl
        rw [this]
        exact hv
      · rw [get_nil] at hs; cases hs
    bok := fun _ _ _ _ => trivial
    once := fun p q g l l' h1 _ => by
      rw [← pathOf_num p, get_initFr] at h1
      split at h1
      · rename_i ht
        cases hx : as[num p - 0]? <;> rw [hx] at h1 <;> cases h1
      · rw [get_nil] at h1; cases h1 }
  bge := fun p g l h1 => by
    rw [← pathOf_num p, get_initFr] at h1
    split at h1
    · rename_i ht
      cases hx : as[num p - 0]? <;> rw [hx] at h1 <;> cases h1
    · rw [get_nil] at h1; cases h1

/-- One result. -/
def resOne (tmps : Array Value) : ResultVar → Sem Value
  | .tmp t => pure (tmps.getD t undef)
  | .cell a t => do loadVar t (← asAddr (tmps.getD a undef))
theorem results_R (S : Sta E A n all fr h act.tmps w) : ∀ (rs : List ResultVar) (l : List AV), resVs fr h (rs.map (erOf P)) = some l →
    ∃ xs, (rs.mapM (resOne act.tmps)).run P w = .ok xs w ∧ VRs A.s l xs
  | [], l, hl => by simp [resVs] at hl; subst hl; exact ⟨[], by simp, .nil⟩
  | r :: rs, l, hl => by
    simp only [List.map_cons, resVs] at hl
    split at hl
    · rename_i a ha
      split at hl
      · rename_i l' hl'
        cases hl
        obtain ⟨xs, h1, h2⟩ := results_R S rs l' hl'
        cases r with
        | tmp t =>
          simp only [erOf, resV] at ha
          have hv := gv_VR S.frr (x := .tmp t) (fun _ _ => trivial) ha
          refine ⟨act.tmps.getD t undef :: xs, ?_, .cons hv h2⟩
          have e0 : (resOne act.tmps (.tmp t)).run P w = .ok (act.tmps.getD t undef) w := rfl
          simp only [List.mapM_cons, Sem.run_bind, e0, Sem.run_pure, Result.andThen_ok, h1]
        | cell x t =>
          simp only [erOf] at ha
          split at ha
          · rename_i m g hm hg
            have ha' : resV fr h (.cell (.sl (pathOf x)) m g) = some a := by
              split at ha
              · simp [resV] at ha
              · exact ha
            simp only [resV] at ha'
            split at ha'
            · rename_i p hp
              split at ha'
              · rename_i lc hlc
                obtain ⟨ad, v, e1, e2, e3⟩ := loadVar_R S.frr S.inv.hr hm hg (place_R S.frr (x := .tmp x) (fun _ _ => trivial) hp) hlc ha'
                have e1' : act.tmps.getD x undef = .pointer (some ad) := e1
                refine ⟨v :: xs, ?_, .cons e3 h2⟩
                have e0 : (resOne act.tmps (.cell x t)).run P w = .ok v w := by
                  simp only [resOne, e1', asAddr, Sem.run_bind, Sem.run_pure, Result.andThen_ok, e2]
                simp only [List.mapM_cons, Sem.run_bind, e0, Result.andThen_ok, Sem.run_pure, h1]
              · cases ha'
            · cases ha'
          · simp [resV] at ha
      · cases hl
    · cases hl
theorem result_R (S : Sta E A n all fr h act.tmps w) {fn : Func} {v : AV} (hv : resultV (fn.results.toList.map (erOf P)) fr h = some v) :
    ∃ x, (results fn act.tmps).run P w = .ok x w ∧ VR A.s v x := by
  unfold resultV at hv
  have hrun : ∀ xs, (fn.results.toList.mapM (resOne act.tmps)).run P w = .ok xs w →
      (results fn act.tmps).run P w = .ok (if h : xs.toArray.size = 1 then xs.toArray[0] else .tuple xs.toArray) w := fun xs hx => by
    show (do let vs ← fn.results.mapM (resOne act.tmps); pure (if h : vs.size = 1 then vs[0] else .tuple vs) : Sem Value).run P w = _
    rw [Array.mapM_eq_mapM_toList]
    simp only [Sem.run_bind, Sem.run_map, hx, Result.andThen_ok, Sem.run_pure]
  split at hv
  · rename_i a ha
    cases hv
    obtain ⟨xs, h1, h2⟩ := results_R S _ _ ha
    obtain ⟨x, ys, rfl, h3, h4⟩ := h2
    simp only [VRs] at h4; subst h4
    exact ⟨x, by rw [hrun _ h1]; rfl, h3⟩
  · rename_i l hne ha
    cases hv
    obtain ⟨xs, h1, h2⟩ := results_R S _ _ ha
    have hl := h2.length
    refine ⟨.tuple xs.toArray, ?_, ⟨xs.toArray, rfl, h2⟩⟩
    rw [hrun _ h1, dif_neg]
    simp only [List.size_toArray]
    intro e
    cases l with
    | nil => simp at hl; simp [hl] at e
    | cons a l => cases l with
      | nil => exact hne a rfl
      | cons b l => simp at hl; omega
  · cases hv

/-- One function's call, from what is told of the calls within. -/
theorem fun_sound {call : Calls'} (hcall : CallOk P call) (hdr : DrawnOk P call) (fuel : Nat) : CallOk P (evFun (compF P) call fuel) := by
  have key : ∀ {f as h r}, evFun (compF P) call fuel f as h = r → (∀ k, r ≠ .bad k) → ∃ fn c, P.funcs[f]? = some fn ∧ fn.body = some c ∧ fn.name ≠ "runtime.NumGoroutine" ∧ (∀ o ∈ opersOf c, DstOk fn.ntmps o) ∧
      compF P f = some ⟨compC P (localsOf c) c, fn.results.toList.map (erOf P)⟩ := by
    intro f as h r hr hb
    unfold evFun at hr
    split at hr
    · rename_i e he
      have he' := he
      unfold compF at he
      split at he
      · rename_i fn hfn
        split at he
        · rename_i c hc
          split at he
          · rename_i hok
            cases he
            unfold fnOk at hok
            simp only [Bool.and_eq_true, bne_iff_ne, ne_eq, List.all_eq_true] at hok
            refine ⟨fn, c, hfn, hc, hok.1, fun o ho d hd => ?_, he'⟩
            have := hok.2 o ho
            rw [hd] at this
            have this : Nat.blt d fn.ntmps = true := this
            rw [natBlt] at this
            exact of_decide_eq_true this
          · cases he
        · cases he
      · cases he
    · subst hr; exact absurd rfl (hb _)
  refine ⟨?_, ?_, ?_⟩
  · intro f as h v h' hr A w args hh ha
    obtain ⟨fn, c, h1, h2, h3, h4, h5⟩ := key hr (fun _ => by simp)
    unfold evFun at hr
    rw [h5] at hr
    simp only at hr
    refine calls_of_wp h1 h2 (code_sound hcall hdr (localsOf c) fuel c h4 (act := ⟨args ++ Array.replicate (fn.ntmps - args.size) undef, []⟩) (start_R hh ha fn.ntmps) ?_)
    cases hs : evC call fuel (compC P (localsOf c) c) (initFr as 0 .nil) h with
    | norm fr' h'' =>
      rw [hs] at hr
      simp only at hr
      split at hr
      · rename_i v' hv
        cases hr
        intro A' a' w' S' e
        obtain ⟨x, g1, g2⟩ := result_R (P := P) S' hv
        exact ⟨e, x, g1, x, A', rfl, g2, S'.inv⟩
      · cases hr
    | ret fr' h'' =>
      rw [hs] at hr
      simp only at hr
      split at hr
      · rename_i v' hv
        cases hr
        intro A' a' w' S' e
        obtain ⟨x, g1, g2⟩ := result_R (P := P) S' hv
        exact ⟨e, x, g1, x, A', rfl, g2, S'.inv⟩
      · cases hr
    | pan v' h'' => rw [hs] at hr; cases hr
    | exit id f g => rw [hs] at hr; cases hr
    | bad k => rw [hs] at hr; cases hr
  · intro f as h v h' hr A w args hh ha
    obtain ⟨fn, c, h1, h2, h3, h4, h5⟩ := key hr (fun _ => by simp)
    unfold evFun at hr
    rw [h5] at hr
    simp only at hr
    refine calls_of_wp h1 h2 (code_sound hcall hdr (localsOf c) fuel c h4 (act := ⟨args ++ Array.replicate (fn.ntmps - args.size) undef, []⟩) (start_R hh ha fn.ntmps) ?_)
    cases hs : evC call fuel (compC P (localsOf c) c) (initFr as 0 .nil) h with
    | norm fr' h'' =>
      rw [hs] at hr
      simp only at hr
      split at hr <;> cases hr
    | ret fr' h'' =>
      rw [hs] at hr
      simp only at hr
      split at hr <;> cases hr
    | pan v' h'' =>
      rw [hs] at hr
      cases hr
      intro A' x a' w' hx J e
      exact ⟨e, x, A', rfl, hx, J⟩
    | exit id f g => rw [hs] at hr; cases hr
    | bad k => rw [hs] at hr; cases hr
  · intro f as h r hr hb
    obtain ⟨fn, c, h1, h2, h3, h4, h5⟩ := key hr hb
    exact ⟨fn, h1, h3, by rw [h2]; rfl⟩
/-- Calls as deep as they may be. -/
theorem ev_sound (hdr : ∀ call, CallOk P call → DrawnOk P call) (fuel : Nat) : ∀ d, CallOk P (ev (compF P) fuel d)
  | 0 => ⟨fun h => (by cases h), fun h => (by cases h), fun h hb => absurd h.symm (hb _)⟩
  | d + 1 => fun_sound (ev_sound hdr fuel d) (hdr _ (ev_sound hdr fuel d)) fuel
end Go.Ev
