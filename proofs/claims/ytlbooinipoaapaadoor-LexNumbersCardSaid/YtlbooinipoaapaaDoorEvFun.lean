/- Functions: what the evaluator tells is what they return. -/
import Derived.Test.YtlbooinipoaapaaDoorEvCode
import Derived.Recover
namespace Go.Ev
variable {P : Program} {E : Ent} {A : Asg} {n : Nat} {ok : Path → Prop} {fr : FT} {act : Act} {w : World} {h : H}

theorem get_initFr : ∀ (l : List AV) (i : Nat) (fr : FT) (t : Nat), get (pathOf t) (initFr l i fr) = if i ≤ t ∧ t < i + l.length then (l[t - i]?).map .v else get (pathOf t) fr
  | [], i, fr, t => by
    show get (pathOf t) fr = _
    rw [if_neg (by simp)]
  | a :: l, i, fr, t => by
    show get (pathOf t) (initFr l (i + 1) (set (pathOf i) (some (.v a)) fr)) = _
    rw [get_initFr l]
    by_cases e : t = i
    · subst e
      rw [if_neg (by omega), get_set, if_pos rfl, if_pos (by simp)]
      simp
    · by_cases h1 : i + 1 ≤ t ∧ t < i + 1 + l.length
      · rw [if_pos h1, if_pos (by simp; omega)]
        have e : t - i = (t - (i + 1)) + 1 := by omega
        rw [e]; simp
      · rw [if_neg h1, get_set, if_neg (fun e' => e (pathOf_inj e')), if_neg (by simp; omega)]
theorem start_R (hr : HR A h w) {as : List AV} {args : Array Value} (ha : VRs A.s as args.toList) (m : Nat) : Sta ⟨A, h, w⟩ A m all (initFr as 0 .nil) h (args ++ Array.replicate (m - args.size) undef) w where
  inv := Inv.start hr
  frr := {
    size := by simp; omega
    slot := fun t s _ hs => by
      rw [get_initFr] at hs
      split at hs
      · rename_i ht
        have ht' : t < as.length := by omega
        rw [Nat.sub_zero, List.getElem?_eq_getElem ht'] at hs
        cases hs
        obtain ⟨x, hx, hv⟩ := ha.get (List.getElem?_eq_getElem ht')
        have hl := ha.length
        have hts : t < args.size := by simp at hl; omega
        have : (args ++ Array.replicate (m - args.size) undef).getD t undef = x := by
          rw [Array.getD_eq_getD_getElem?, Array.getElem?_append_left hts]
          have : args[t]? = some x := by simpa using hx
          rw [this]; rfl
        rw [this]
        exact hv
      · rw [get_nil] at hs; cases hs
    bok := fun _ _ _ _ => trivial
    once := fun p q g l l' h1 _ => by
      rw [← pathOf_num p, get_initFr] at h1
      split at h1
      · rename_i ht
        cases hx : as[num p - 0]? <;> rw [hx] at h1 <;> cases h1
      · rw [get_nil] at h1; cases h1 }
  bge := fun p g l h1 => by
    rw [← pathOf_num p, get_initFr] at h1
    split at h1
    · rename_i ht
      cases hx : as[num p - 0]? <;> rw [hx] at h1 <;> cases h1
    · rw [get_nil] at h1; cases h1

/-- One result. -/
def resOne (tmps : Array Value) : ResultVar → Sem Value
  | .tmp t => pure (tmps.getD t undef)
  | .cell a t => do loadVar t (← asAddr (tmps.getD a undef))
theorem results_R (S : Sta E A n all fr h act.tmps w) : ∀ (rs : List ResultVar) (l : List AV), resVs fr h (rs.map (erOf P)) = some l →
    ∃ xs, (rs.mapM (resOne act.tmps)).run P w = .ok xs w ∧ VRs A.s l xs
  | [], l, hl => by simp [resVs] at hl; subst hl; exact ⟨[], by simp, .nil⟩
  | r :: rs, l, hl => by
    simp only [List.map_cons, resVs] at hl
    split at hl
    · rename_i a ha
      split at hl
      · rename_i l' hl'
        cases hl
        obtain ⟨xs, h1, h2⟩ := results_R S rs l' hl'
        cases r with
        | tmp t =>
          simp only [erOf, resV] at ha
          have hv := gv_VR S.frr (x := .tmp t) (fun _ _ => trivial) ha
          refine ⟨act.tmps.getD t undef :: xs, ?_, .cons hv h2⟩
          have e0 : (resOne act.tmps (.tmp t)).run P w = .ok (act.tmps.getD t undef) w := rfl
          simp only [List.mapM_cons, Sem.run_bind, e0, Sem.run_pure, Result.andThen_ok, h1]
        | cell x t =>
          simp only [erOf] at ha
          split at ha
          · rename_i m g hm hg
            have ha' : resV fr h (.cell (.sl (pathOf x)) m g) = some a := by
              split at ha
              · simp [resV] at ha
              · exact ha
            simp only [resV] at ha'
            split at ha'
            · rename_i p hp
              split at ha'
              · rename_i lc hlc
                obtain ⟨ad, v, e1, e2, e3⟩ := loadVar_R S.frr S.inv.hr hm hg (place_R S.frr (x := .tmp x) (fun _ _ => trivial) hp) hlc ha'
                have e1' : act.tmps.getD x undef = .pointer (some ad) := e1
                refine ⟨v :: xs, ?_, .cons e3 h2⟩
                have e0 : (resOne act.tmps (.cell x t)).run P w = .ok v w := by
                  simp only [resOne, e1', asAddr, Sem.run_bind, Sem.run_pure, Result.andThen_ok, e2]
                simp only [List.mapM_cons, Sem.run_bind, e0, Result.andThen_ok, Sem.run_pure, h1]
              · cases ha'
            · cases ha'
          · simp [resV] at ha
      · cases hl
    · cases hl
theorem result_R (S : Sta E A n all fr h act.tmps w) {fn : Func} {v : AV} (hv : resultV (fn.results.toList.map (erOf P)) fr h = some v) :
    ∃ x, (results fn act.tmps).run P w = .ok x w ∧ VR A.s v x := by
  unfold resultV at hv
  have hrun : ∀ xs, (fn.results.toList.mapM (resOne act.tmps)).run P w = .ok xs w →
      (results fn act.tmps).run P w = .ok (if h : xs.toArray.size = 1 then xs.toArray[0] else .tuple xs.toArray) w := fun xs hx => by
    show (do let vs ← fn.results.mapM (resOne act.tmps); pure (if h : vs.size = 1 then vs[0] else .tuple vs) : Sem Value).run P w = _
    rw [Array.mapM_eq_mapM_toList]
    simp only [Sem.run_bind, Sem.run_map, hx, Result.andThen_ok, Sem.run_pure]
  split at hv
  · rename_i a ha
    cases hv
    obtain ⟨xs, h1, h2⟩ := results_R S _ _ ha
    obtain ⟨x, ys, rfl, h3, h4⟩ := h2
    simp only [VRs] at h4; subst h4
    exact ⟨x, by rw [hrun _ h1]; rfl, h3⟩
  · rename_i l hne ha
    cases hv
    obtain ⟨xs, h1, h2⟩ := results_R S _ _ ha
    have hl := h2.length
    refine ⟨.tuple xs.toArray, ?_, ⟨xs.toArray, rfl, h2⟩⟩
    rw [hrun _ h1, dif_neg]
    simp only [List.size_toArray]
    intro e
    cases l with
    | nil => simp at hl; simp [hl] at e
    | cons a l => cases l with
      | nil => exact hne a rfl
      | cons b l => simp at hl; omega
  · cases hv

/-- The results are told. -/
theorem finF_R {f : FuncId} {fn : Func} {fr : FT} {h : H} {v : AV} {h' : H} (e : finF f (fn.results.toList.map (erOf P)) (.ret fr h) = .ret v h') (S : Sta E A n all fr h act.tmps w) :
    h' = h ∧ ∃ x, (results fn act.tmps).run P w = .ok x w ∧ VR A.s v x := by
  unfold finF at e
  simp only at e
  split at e
  · rename_i v' hv
    cases e
    obtain ⟨x, g1, g2⟩ := result_R (P := P) S hv
    exact ⟨rfl, x, g1, g2⟩
  · cases e
theorem finF_nopan {f : FuncId} {res : List ER} {fr : FT} {h : H} {v : AV} {h' : H} : finF f res (.ret fr h) ≠ .pan v h' := by
  unfold finF
  simp only
  split <;> simp
/-- What is told of a function's end is what it comes to. -/
def Told (E : Ent) (r : CR) : Ending → World → Prop := fun e w' => match r with
  | .ret v h' => ∃ x A', e = .returned x ∧ VR A'.s v x ∧ Inv E A' h' w'
  | .pan v h' => ∃ x A' older, NoExit older ∧ e = .panicked ({ v := x, recovered := false } :: older) ∧ VR A'.s v x ∧ Inv E A' h' w'
  | .bad _ => False

/-- Code without deferred calls, at a function's end. -/
theorem fin_R {f : FuncId} {fn : Func} {o : Out} (hb : ∀ k, finF f (fn.results.toList.map (erOf P)) o ≠ .bad k) : OutR E n [] (bodyPostD P fn (Told E (finF f (fn.results.toList.map (erOf P)) o))) [] o := by
  cases o with
  | norm fr h =>
    intro A a w S hd
    show Leaves P fn a.tmps _ a.defers .returning w
    rw [hd]
    cases hr : finF f (fn.results.toList.map (erOf P)) (.norm fr h) with
    | ret v h' =>
      obtain ⟨rfl, x, g1, g2⟩ := finF_R (f := f) (fr := fr) (h := h) hr S
      exact ⟨x, g1, x, A, rfl, g2, S.inv⟩
    | pan v h' => exact absurd hr (finF_nopan (f := f))
    | bad k => exact absurd hr (hb k)
  | ret fr h =>
    intro A a w S hd
    show Leaves P fn a.tmps _ a.defers .returning w
    rw [hd]
    cases hr : finF f (fn.results.toList.map (erOf P)) (.ret fr h) with
    | ret v h' =>
      obtain ⟨rfl, x, g1, g2⟩ := finF_R (f := f) (fr := fr) (h := h) hr S
      exact ⟨x, g1, x, A, rfl, g2, S.inv⟩
    | pan v h' => exact absurd hr (finF_nopan (f := f))
    | bad k => exact absurd hr (hb k)
  | pan v fr h =>
    intro A x a w older hno hx S hd
    show Leaves P fn a.tmps _ a.defers (.panicking _) w
    rw [hd]
    exact ⟨x, A, older, hno, rfl, hx, S.inv⟩
  | exit id fr h => exact absurd rfl (hb 61)
  | bad k => exact absurd rfl (hb _)

/-- How the function stands that a deferred call comes from: it returns; it panics. -/
def ModeR (A : Asg) : Option AV → FrameMode → Prop
  | none, u => u = .returning
  | some v, u => ∃ x older, NoExit older ∧ VR A.s v x ∧ u = .panicking ({ v := x, recovered := false } :: older)
/-- What a deferred call leaves of that. -/
def ModeBy (recd : Bool) (u u' : FrameMode) : Prop := match recd with
  | false => u' = u
  | true => ∃ x older, NoExit older ∧ u = .panicking ({ v := x, recovered := false } :: older) ∧ u' = .panicking ({ v := x, recovered := true } :: older)
def ToldD (E : Ent) (u : FrameMode) (d : DR) : Ending → FrameMode → World → Prop := fun e u' w' => match d with
  | .ret recd h' => ∃ x A', e = .returned x ∧ Inv E A' h' w' ∧ ModeBy recd u u'
  | .pan v h' => ∃ x A' older, NoExit older ∧ e = .panicked ({ v := x, recovered := false } :: older) ∧ VR A'.s v x ∧ Inv E A' h' w' ∧ (ModeBy true u u' ∨ u' = u)
  | .bad _ => False
/-- Code of a deferred call, at its end. -/
theorem finD_R {fn : Func} {recd : Bool} {u u' : FrameMode} {o : Out} (c0 : Frame) (cs : List Frame) (hb : ∀ k, finD recd (fn.results.toList.map (erOf P)) o ≠ .bad k) (hu : ModeBy recd u u') :
    OutR E n [] (fun e a w => bodyPostS P fn c0 cs (ToldD E u (finD recd (fn.results.toList.map (erOf P)) o)) e a ({ c0 with mode := u' } :: cs) w) [] o := by
  have hret : ∀ fr h, finD recd (fn.results.toList.map (erOf P)) (.ret fr h) = finD recd (fn.results.toList.map (erOf P)) o → ∀ A (a : Act) w, Sta E A n all fr h a.tmps w → a.defers = [] →
      a.defers = [] ∧ ∃ v', ({ c0 with mode := u' } :: cs : List Frame) = { c0 with mode := v' } :: cs ∧ ∃ v, (results fn a.tmps).run P w = .ok v w ∧ ToldD E u (finD recd (fn.results.toList.map (erOf P)) o) (.returned v) v' w := by
    intro fr h e A a w S hd
    refine ⟨hd, u', rfl, ?_⟩
    cases hv : resultV (fn.results.toList.map (erOf P)) fr h with
    | none => exfalso; exact hb 60 (by rw [← e]; simp [finD, hv])
    | some v =>
      obtain ⟨x, g1, g2⟩ := result_R (P := P) S hv
      refine ⟨x, g1, ?_⟩
      have e' : finD recd (fn.results.toList.map (erOf P)) o = .ret recd h := by rw [← e]; simp [finD, hv]
      rw [e']
      exact ⟨x, A, rfl, S.inv, hu⟩
  cases o with
  | norm fr h => exact fun A a w S hd => hret fr h rfl A a w S hd
  | ret fr h => exact fun A a w S hd => hret fr h rfl A a w S hd
  | pan v fr h =>
    intro A x a w older hno hx S hd
    refine ⟨hd, u', rfl, x, A, older, hno, rfl, hx, S.inv, ?_⟩
    cases recd with
    | true => exact .inl hu
    | false => exact .inr hu
  | exit id fr h => exact absurd rfl (hb 61)
  | bad k => exact absurd rfl (hb _)

theorem lastOf_eq : ∀ {l i : List Oper} {o : Oper}, lastOf l = some (i, o) → l = i ++ [o]
  | [], _, _, h => by cases h
  | [x], _, _, h => by cases h; rfl
  | x :: y :: l, i, o, h => by
    simp only [lastOf] at h
    split at h
    · rename_i i' o' h'
      cases h
      rw [lastOf_eq h']; rfl
    · cases h
theorem cutRec_eq : ∀ {l a b : List Oper} {o : Oper}, cutRec l = some (a, o, b) → l = a ++ o :: b ∧ isRecover o = true
  | [], _, _, _, h => by cases h
  | x :: l, a, b, o, h => by
    simp only [cutRec] at h
    split at h
    · rename_i hx
      cases h
      exact ⟨rfl, hx⟩
    · split at h
      · rename_i a' o' b' h'
        cases h
        obtain ⟨h1, h2⟩ := cutRec_eq h'
        exact ⟨by rw [h1]; rfl, h2⟩
      · cases h
/-- Steps in a row, and what comes behind them. -/
theorem list_then {call : Calls'} (hcall : CallOk E P call) {loc : List Tmp} {ops : Array Oper} {Q : Exit → Act → World → Prop} {df : List Deferred} {rest : List Oper} : ∀ (l : List Oper), (∀ o ∈ l, DstOk n o) → ∀ {A fr h act w},
    Sta E A n all fr h act.tmps w → act.defers = df → (match evSteps call (l.map (stOf P loc ops)) fr h with
      | .norm fr h => ∀ A a w, Sta E A n all fr h a.tmps w → a.defers = df → wpList P ops Q rest a w
      | x => OutR E n df Q [] x) → wpList P ops Q (l ++ rest) act w
  | [], _, A, fr, h, act, w, S, hdf, ho => ho A act w S hdf
  | o :: l, hd, A, fr, h, act, w, S, hdf, ho => by
    rw [List.map_cons, evSteps_cons] at ho
    have hw : OpWp P ops Q o (wpList P ops Q (l ++ rest)) act w := by
      cases hs : evStep call (stOf P loc ops o) fr h with
      | norm fr' h' =>
        rw [hs] at ho
        exact step_norm hcall S looks_all (hd o (by simp)) (fun _ _ => trivial) hs (fun A' a' w' S' e _ _ => list_then hcall l (fun q hq => hd q (by simp [hq])) S' (e.trans hdf) ho)
      | pan v fr' h' =>
        rw [hs] at ho
        exact step_pan hcall S looks_all hs (fun A' x w' older hno hx S' => ho A' x act w' older hno hx S' hdf)
      | bad k => rw [hs] at ho; exact ho.elim
      | exit id f g => exact absurd hs (evStep_kinds.1 _ _ _)
      | ret f g => exact absurd hs (evStep_kinds.2 _ _)
    unfold OpWp at hw
    rw [List.cons_append]
    unfold wpList
    split
    · rename_i hq; rw [if_pos hq] at hw; exact .inl hw
    · rename_i hq; rw [if_neg hq] at hw; exact hw
theorem nobox_get : ∀ (p : Path) (t : FT), nobox t = true → ∀ g l, get p t ≠ some (.box g l)
  | _, .nil, _, g, l => by rw [get_nil]; simp
  | p, .node v a b c d, h, g, l => by
    have h : (match (match v with | some (.box _ _) => false | _ => true) with
      | true => (match nobox a with | true => (match nobox b with | true => (match nobox c with | true => nobox d | false => false) | false => false) | false => false)
      | false => false) = true := h
    split at h
    · rename_i hv
      split at h
      · rename_i ha
        split at h
        · rename_i hb
          split at h
          · rename_i hc
            cases p with
            | nil =>
              show v ≠ _
              rintro rfl
              simp at hv
            | cons x p =>
              cases x
              · exact nobox_get p a ha g l
              · exact nobox_get p b hb g l
              · exact nobox_get p c hc g l
              · exact nobox_get p d h g l
          · cases h
        · cases h
      · cases h
    · cases h
/-- A deferred call that is to come. -/
def DefR (P : Program) (A : Asg) (g : FuncId) (as : List AV) (d : Deferred) : Prop :=
  ∃ fv cap args, d.target = .fn fv cap ∧ VRs A.s as args.toList ∧ ∀ w, (∃ fn, P.funcs[g]? = some fn ∧ fn.name ≠ "runtime.NumGoroutine" ∧ fn.body.isSome = true) → (invoke d.target d.args).run P w = .ok (.enter g args) w
/-- What defers, with what is to follow. -/
def TopR (P : Program) (E : Ent) (n : Nat) (Q : Exit → Act → World → Prop) : Out × Option (FuncId × List AV) → Prop
  | (o, none) => OutR E n [] Q [] o
  | (o, some (g, as)) => ∀ A h w d, Inv E A h w → HR A h w → DefR P A g as d → OutR ⟨A, h, w⟩ n [d] Q [] o
end Go.Ev
