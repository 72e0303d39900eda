/- Functions that defer, deferred calls that recover; all functions: what the evaluator tells is what they return. -/
import Derived.Test.YtlbooinipoaapaaDoorEvFun
import Derived.Test.YtlbooinipoaapaaDoorEvDrawn3
namespace Go.Ev
variable {P : Program} {E : Ent} {A : Asg} {n : Nat} {fr : FT} {act : Act} {w : World} {h : H}

theorem isRecover_run {o : Oper} (hr : isRecover o = true) (ρ : Operand → Value) (w : World) : (execOp ρ o).run P w = .ok .recover w ∧ o.guard = none := by
  unfold isRecover at hr
  split at hr
  · rename_i args tys ho hg
    refine ⟨?_, hg⟩
    simp only [execOp, ho, resolve, invoke, builtin, Sem.run_bind, Sem.run_pure, Result.andThen_ok]
  · cases hr
/-- Steps in a row within a deferred call. -/
theorem listS_then {call : Calls'} (hcall : CallOk E P call) {loc : List Tmp} {ops : Array Oper} {Q : Exit → Act → List Frame → World → Prop} {df : List Deferred} {cs : List Frame} {rest : List Nat} : ∀ (L : List Oper) (l : List Nat), l.map (fun i => ops[i]?) = L.map some → (∀ o ∈ L, DstOk n o) → ∀ {A fr h act w},
    Sta E A n all fr h act.tmps w → act.defers = df → (match evSteps call (L.map (stOf P loc ops)) fr h with
      | .norm fr h => ∀ A a w, Sta E A n all fr h a.tmps w → a.defers = df → wpOpsS P ops Q rest a cs w
      | x => OutR E n df (fun e a w => Q e a cs w) [] x) → wpOpsS P ops Q (l ++ rest) act cs w
  | [], l, hl, hd, A, fr, h, act, w, S, hdf, ho => by
    cases l with
    | nil => exact ho A act w S hdf
    | cons i l => simp at hl
  | o :: L, l, hl, hd, A, fr, h, act, w, S, hdf, ho => by
    cases l with
    | nil => simp at hl
    | cons i l =>
      simp only [List.map_cons, List.cons.injEq] at hl
      rw [List.map_cons, evSteps_cons] at ho
      have hw : OpWp P ops (fun e a w => Q e a cs w) o (fun a w => wpOpsS P ops Q (l ++ rest) a cs w) act w := by
        cases hs : evStep call (stOf P loc ops o) fr h with
        | norm fr' h' =>
          rw [hs] at ho
          exact step_norm hcall S looks_all (hd o (by simp)) (fun _ _ => trivial) hs (fun A' a' w' S' e _ _ => listS_then hcall L l hl.2 (fun q hq => hd q (by simp [hq])) S' (e.trans hdf) ho)
        | pan v fr' h' =>
          rw [hs] at ho
          exact step_pan hcall S looks_all hs (fun A' x w' older hno hx S' => ho A' x act w' older hno hx S' hdf)
        | bad k => rw [hs] at ho; exact ho.elim
        | exit id f g => exact absurd hs (evStep_kinds.1 _ _ _)
        | ret f g => exact absurd hs (evStep_kinds.2 _ _)
      unfold OpWp at hw
      rw [List.cons_append]
      simp only [wpOpsS, hl.1]
      split
      · rename_i hq
        rw [if_pos hq] at hw
        unfold Oper.wp at hw
        generalize (execOp act.eval o).run P w = r at hw ⊢
        split
        · exact (show False from hw).elim
        · exact hw
      · rename_i hq
        rw [if_neg hq] at hw
        exact hw
theorem DrawnAll (hm : P.follows .mixedOrders = true) {call : Calls'} : ∀ E, CallOk E P call → DrawnOk E P call := fun _ hc => drawn_ok hm hc

theorem compC_rcv {loc : List Tmp} : ∀ {c : Code} {l1 d l2 r}, compC P loc c ≠ .rcv l1 d l2 r := by
  intro c l1 d l2 r e
  cases c <;> try (simp only [compC] at e; cases e; done)
  case region id ops dr => cases dr <;> (simp only [compC] at e; cases e)
theorem compC_dfr {loc : List Tmp} : ∀ {c : Code} {l f as r}, compC P loc c ≠ .dfr l f as r := by
  intro c l1 d l2 r e
  cases c <;> try (simp only [compC] at e; cases e; done)
  case region id ops dr => cases dr <;> (simp only [compC] at e; cases e)
theorem compC_seq {loc : List Tmp} : ∀ {c : Code} {a b}, compC P loc c = .seq a b → ∃ x y, c = .seq x y := by
  intro c a b e
  cases c <;> try (simp only [compC] at e; cases e; done)
  case region id ops dr => cases dr <;> (simp only [compC] at e; cases e)
  case seq x y => exact ⟨x, y, rfl⟩
theorem range_split {L a b : List Oper} {o : Oper} (h : L = a ++ o :: b) : List.range L.length = List.range a.length ++ (a.length :: (List.range b.length).map (fun k => a.length + 1 + k)) := by
  subst h
  rw [List.length_append, List.length_cons, List.range_add, List.range_succ_eq_map]
  simp only [List.map_cons, List.map_map, Nat.add_zero]
  congr 2
  apply List.map_congr_left
  intro k _
  simp only [Function.comp_apply, Nat.succ_eq_add_one]
  omega
/-- What the function that a number stands for looks like. -/
theorem compF_eq {f : FuncId} {e : EF} (he : compF P f = some e) : ∃ fn c, P.funcs[f]? = some fn ∧ fn.body = some c ∧ fn.name ≠ "runtime.NumGoroutine" ∧ (∀ o ∈ opersOf c, DstOk fn.ntmps o) ∧ e.res = fn.results.toList.map (erOf P) ∧
    ((e.top = true ∧ e.code = compT P c) ∨ (e.top = false ∧ e.code = compC P (localsOf c) c)) := by
  unfold compF at he
  split at he
  · rename_i fn hfn
    split at he
    · rename_i c hc
      split at he
      · rename_i hok
        unfold fnOk at hok
        simp only [Bool.and_eq_true, bne_iff_ne, ne_eq, List.all_eq_true] at hok
        have hd : ∀ o ∈ opersOf c, DstOk fn.ntmps o := fun o ho d hd => by
          have := hok.2 o ho
          rw [hd] at this
          have this : Nat.blt d fn.ntmps = true := this
          rw [natBlt] at this
          exact of_decide_eq_true this
        split at he
        · cases he; exact ⟨fn, c, hfn, hc, hok.1, hd, rfl, .inl ⟨rfl, rfl⟩⟩
        · cases he; exact ⟨fn, c, hfn, hc, hok.1, hd, rfl, .inr ⟨rfl, rfl⟩⟩
      · cases he
    · cases he
  · cases he
theorem compT_rcv {c : Code} {l1 : List St} {d : Path} {l2 : List St} {r : EC} (e : compT P c = .rcv l1 d l2 r) : ∃ id ops b a1 o a2 t, c = .seq (.region id ops false) b ∧ cutRec ops.toList = some (a1, o, a2) ∧ o.dst = some t ∧
    l1 = a1.map (stOf P [] ops) ∧ d = pathOf t ∧ l2 = a2.map (stOf P [] ops) ∧ r = compC P [] b := by
  cases c with
  | seq a b =>
    cases a with
    | region id ops dr =>
      cases dr with
      | true => simp only [compT] at e; cases e
      | false =>
        simp only [compT, compR] at e
        split at e
        · split at e
          · cases e
          · split at e
            · rename_i a1 o' a2 hcut
              split at e
              · rename_i t ht
                cases e
                exact ⟨id, ops, b, a1, o', a2, t, rfl, hcut, ht, rfl, rfl, rfl, rfl⟩
              · cases e
            · cases e
        · cases e
    | _ => simp only [compT] at e; cases e
  | _ => simp only [compT] at e; exact absurd e compC_rcv

/-- Deferred calls. -/
theorem evD_ok {Γ : Glob} {F : FuncId → Option EF} (hF : ∀ f e, F f = some e → compF P f = some e) {call : Calls'} (hcall : CallsOk Γ P call) (hdr : ∀ E, CallOk E P call → DrawnOk E P call) {fuel : Nat} {mode : Option AV} {g : FuncId} {as : List AV} {d : DR}
    (e : evD F call fuel mode g as h = d) (hb : ∀ k, d ≠ .bad k) {args : Array Value} {u : FrameMode} (hr : HR A h w) (hg : Γ.Met A w) (ha : VRs A.s as args.toList) (hm : ModeR A mode u) :
    (∃ fn, P.funcs[g]? = some fn ∧ fn.name ≠ "runtime.NumGoroutine" ∧ fn.body.isSome = true) ∧ CallsD P g args u w (ToldD ⟨A, h, w⟩ u d) := by
  unfold evD at e
  split at e
  · rename_i e0 he0
    obtain ⟨fn, c, h1, h2, h3, h4, h5, h6⟩ := compF_eq (hF _ _ he0)
    refine ⟨⟨fn, h1, h3, by rw [h2]; rfl⟩, ?_⟩
    have hin : CallOk ⟨A, h, w⟩ P call := hcall.within (E := ⟨A, h, w⟩) hg
    have S0 := start_R hr ha fn.ntmps
    split at e
    · rename_i l1 dp l2 rest hcode
      rcases h6 with ⟨_, h6⟩ | ⟨_, h6⟩
      · rw [h6] at hcode
        obtain ⟨id, ops, b, a1, o, a2, t, rfl, hcut, ht, rfl, rfl, rfl, rfl⟩ := compT_rcv hcode
        obtain ⟨hcut, hrec⟩ := cutRec_eq hcut
        have hops : ops.size = ops.toList.length := by simp
        have hmem : ∀ x ∈ ops.toList, DstOk fn.ntmps x := fun x hx => h4 x (by simp [opersOf]; exact .inl (by simpa using hx))
        refine callsD_of_wpS h1 h2 (fun c₀ cs hc₀ => wpS_seq (wpS_region ?_))
        rw [hops, range_split hcut]
        have hget1 : (List.range a1.length).map (fun i => ops[i]?) = a1.map some := by
          apply List.ext_getElem?
          intro k
          simp only [List.getElem?_map]
          by_cases hk : k < a1.length
          · rw [List.getElem?_range hk]
            simp only [Option.map_some]
            have : ops[k]? = a1[k]? := by rw [← Array.getElem?_toList, hcut, List.getElem?_append_left hk]
            rw [this, List.getElem?_eq_getElem hk]; rfl
          · rw [List.getElem?_eq_none (by simpa using hk), List.getElem?_eq_none (by simpa using hk)]; rfl
        have hget2 : ((List.range a2.length).map (fun k => a1.length + 1 + k)).map (fun i => ops[i]?) = a2.map some := by
          apply List.ext_getElem?
          intro k
          simp only [List.getElem?_map]
          by_cases hk : k < a2.length
          · rw [List.getElem?_range hk]
            simp only [Option.map_some]
            have : ops[a1.length + 1 + k]? = a2[k]? := by
              rw [← Array.getElem?_toList, hcut, List.getElem?_append_right (by omega)]
              have : a1.length + 1 + k - a1.length = k + 1 := by omega
              rw [this, List.getElem?_cons_succ]
            rw [this, List.getElem?_eq_getElem hk]; rfl
          · rw [List.getElem?_eq_none (by simpa using hk), List.getElem?_eq_none (by simpa using hk)]; rfl
        have hgo : ops[a1.length]? = some o := by rw [← Array.getElem?_toList, hcut]; simp
        refine listS_then hin (loc := []) (df := []) (Q := Exit.thenS (b.wpS P (bodyPostS P fn c₀ cs (ToldD ⟨A, h, w⟩ u d))) (bodyPostS P fn c₀ cs (ToldD ⟨A, h, w⟩ u d))) a1 _ hget1 (fun x hx => hmem x (by rw [hcut]; simp [hx])) (act := ⟨args ++ Array.replicate (fn.ntmps - args.size) undef, []⟩) S0 rfl ?_
        cases hs1 : evSteps call (a1.map (stOf P [] ops)) (initFr as 0 .nil) h with
        | norm fr1 hh1 =>
          rw [hs1] at e
          simp only at e
          intro A1 act1 w1 S1 hd1
          -- the word itself
          have hwant : Region.wanted o (yielded ops act1.tmps) = true := by simp [Region.wanted, (isRecover_run (P := P) hrec act1.eval w1).2]
          simp only [wpOpsS, hgo, hwant, if_true, (isRecover_run (P := P) hrec act1.eval w1).1]
          have hdo : DstOk fn.ntmps o := hmem o (by rw [hcut]; simp)
          have hdst : dst? o = some (pathOf t) := by unfold dst?; rw [ht]
          -- what comes behind it
          have behind : ∀ (x : Value) (v : AV) (u' : FrameMode), VR A1.s v x → (match evSteps call (a2.map (stOf P [] ops)) (set (pathOf t) (some (.v v)) fr1) hh1 with
                | .norm fr h => finD (going mode) e0.res (evC call fuel (compC P [] b) fr h)
                | .pan v _ h => .pan v h
                | _ => .bad 57) = d → ModeBy (going mode) u u' →
              wpOpsS P ops (Exit.thenS (b.wpS P (bodyPostS P fn c₀ cs (ToldD ⟨A, h, w⟩ u d))) (bodyPostS P fn c₀ cs (ToldD ⟨A, h, w⟩ u d))) ((List.range a2.length).map (fun k => a1.length + 1 + k)) (act1.put o.dst x) ({ c₀ with mode := u' } :: cs) w1 := by
            intro x v u' hx e hu
            have S2 : Sta ⟨A, h, w⟩ A1 fn.ntmps all (set (pathOf t) (some (.v v)) fr1) hh1 (act1.put o.dst x).tmps w1 := by
              have := S1.put (act := act1) hdo (s := .v v) (v := x) hx (fun _ _ => by simp)
              rw [hdst] at this
              exact this
            have := listS_then hin (loc := []) (df := []) (Q := Exit.thenS (b.wpS P (bodyPostS P fn c₀ cs (ToldD ⟨A, h, w⟩ u d))) (bodyPostS P fn c₀ cs (ToldD ⟨A, h, w⟩ u d))) (cs := { c₀ with mode := u' } :: cs) (rest := []) a2 _ hget2 (fun x hx => hmem x (by rw [hcut]; simp [hx])) S2 (by rw [put_defers]; exact hd1) (by
              cases hs2 : evSteps call (a2.map (stOf P [] ops)) (set (pathOf t) (some (.v v)) fr1) hh1 with
              | norm fr2 hh2 =>
                rw [hs2] at e
                simp only at e
                intro A2 act2 w2 S3 hd2
                show Exit.thenS _ _ .normal act2 _ w2
                refine wpS_of_wp (code_sound hin (hdr _ hin) [] fuel b (fun x hx => h4 x (by simp [opersOf, hx])) S3 ?_)
                have hd2' : act2.defers = [] := hd2
                rw [hd2']
                have hfin := finD_R (E := ⟨A, h, w⟩) (n := fn.ntmps) (P := P) (fn := fn) (recd := going mode) (u := u) (u' := u') (o := evC call fuel (compC P [] b) fr2 hh2) c₀ cs (fun k => by rw [← h5, e]; exact hb k) hu
                rw [← h5, e] at hfin
                exact hfin
              | pan v2 fr2 hh2 =>
                rw [hs2] at e
                simp only at e
                subst e
                intro A2 y a' w2 older hno hy S3 hd2
                refine ⟨hd2, u', rfl, y, A2, older, hno, rfl, hy, S3.inv, ?_⟩
                cases mode with
                | none => exact .inr hu
                | some _ => exact .inl hu
              | bad k => rw [hs2] at e; simp only at e; subst e; exact absurd rfl (hb _)
              | exit _ _ _ => rw [hs2] at e; simp only at e; subst e; exact absurd rfl (hb _)
              | ret _ _ => rw [hs2] at e; simp only at e; subst e; exact absurd rfl (hb _))
            simpa using this
          cases mode with
          | none =>
            have hm : u = .returning := hm
            have hrd : recoverD (c₀ :: cs) = none := by simp only [recoverD, hc₀, hm]
            rw [hrd]
            have hc : (c₀ :: cs) = ({ c₀ with mode := u } :: cs) := by subst hc₀; rfl
            simp only
            rw [hc]
            exact behind .nilIface .nilif u (by simp [VR]) e rfl
          | some v =>
            obtain ⟨x, older, hno, hx, hu⟩ := hm
            have hrd : recoverD (c₀ :: cs) = some (x, { c₀ with mode := .panicking ({ v := x, recovered := true } :: older) } :: cs) := by simp only [recoverD, hc₀, hu]
            rw [hrd]
            simp only
            refine behind x v (.panicking ({ v := x, recovered := true } :: older)) (VR.mono (fun p r hp => (S1.inv.ext p (hr.fresh p r hp)).trans hp) _ _ hx) e ⟨x, older, hno, hu, rfl⟩
        | pan v fr1 hh1 => rw [hs1] at e; simp only at e; subst e; exact absurd rfl (hb _)
        | bad k => rw [hs1] at e; simp only at e; subst e; exact absurd rfl (hb _)
        | exit _ _ _ => rw [hs1] at e; simp only at e; subst e; exact absurd rfl (hb _)
        | ret _ _ => rw [hs1] at e; simp only at e; subst e; exact absurd rfl (hb _)
      · rw [h6] at hcode
        exact absurd hcode compC_rcv
    · rcases h6 with ⟨h7, h6⟩ | ⟨h7, h6⟩
      · rw [h7] at e
        simp only at e
        subst e; exact absurd rfl (hb _)
      · rw [h7] at e
        simp only at e
        refine callsD_of_wpS h1 h2 (fun c₀ cs hc₀ => wpS_of_wp (code_sound hin (hdr _ hin) (localsOf c) fuel c h4 (act := ⟨args ++ Array.replicate (fn.ntmps - args.size) undef, []⟩) S0 ?_))
        have hc : (c₀ :: cs) = ({ c₀ with mode := u } :: cs) := by subst hc₀; rfl
        rw [← h6, hc]
        have hfin := finD_R (E := ⟨A, h, w⟩) (n := fn.ntmps) (P := P) (fn := fn) (recd := false) (u := u) (u' := u) (o := evC call fuel e0.code (initFr as 0 .nil) h) c₀ cs (fun k => by rw [← h5, e]; exact hb k) rfl
        rw [← h5, e] at hfin
        exact hfin
  · subst e; exact absurd rfl (hb _)

/-- Code at the top of a function that may defer. -/
theorem compT_seq {a b : Code} : (∃ id ops, a = .region id ops false ∧ compT P (.seq a b) = compR P ops (compC P [] b) (compT P b) (compC P [] a)) ∨ compT P (.seq a b) = .seq (compC P [] a) (compT P b) := by
  cases a with
  | region id ops dr =>
    cases dr with
    | true => right; rfl
    | false => left; exact ⟨id, ops, rfl, rfl⟩
  | _ => right; rfl
theorem deferOf_eq {o : Oper} {f : Operand} {as : Array Operand} (h : deferOf o = some (f, as)) : (∃ tys, o.op = .defer ⟨.value f, as, tys⟩) ∧ o.guard = none ∧ o.dst = none := by
  unfold deferOf at h
  split at h
  · rename_i ho hg hd; cases h; exact ⟨⟨_, ho⟩, hg, hd⟩
  · cases h
theorem evT_seq {call : Calls'} {fuel : Nat} {a b : EC} : evT call fuel (.seq a b) fr h = match evC call fuel a fr h with | .norm fr h => evT call fuel b fr h | x => (x, none) := rfl
theorem evT_leaf {call : Calls'} {fuel : Nat} {c : EC} (h1 : ∀ a b, c ≠ .seq a b) (h2 : ∀ l f as r, c ≠ .dfr l f as r) : evT call fuel c fr h = (evC call fuel c fr h, none) := by
  cases c with
  | seq a b => exact absurd rfl (h1 a b)
  | dfr l f as r => exact absurd rfl (h2 l f as r)
  | _ => rfl
theorem top_sound {Γ : Glob} {call : Calls'} (hcall : CallsOk Γ P call) (hdr : ∀ E, CallOk E P call → DrawnOk E P call) (hg : Γ.Met E.A E.w) (fuel : Nat) {Q : Exit → Act → World → Prop} : ∀ (c : Code), (∀ o ∈ opersOf c, DstOk n o) → ∀ {A fr h act w},
    Sta E A n all fr h act.tmps w → act.defers = [] → TopR P E n Q (evT call fuel (compT P c) fr h) → c.wp P Q act w := by
  have hin : CallOk E P call := hcall.within hg
  intro c
  induction c with
  | seq a b _ ihb =>
    intro hd A fr h act w S hdf ho
    have plain : compT P (.seq a b) = .seq (compC P [] a) (compT P b) → (Code.seq a b).wp P Q act w := by
      intro e
      rw [e, evT_seq] at ho
      refine wp_seq (code_sound hin (hdr _ hin) [] fuel a (fun o h => hd o (by simp [opersOf, h])) S ?_)
      rw [hdf]
      cases hs : evC call fuel (compC P [] a) fr h with
      | norm fr' h' =>
        rw [hs] at ho
        intro A' a' w' S' e'
        exact ihb (fun o h => hd o (by simp [opersOf, h])) S' e' ho
      | exit id f g => rw [hs] at ho; exact ho
      | ret f g => rw [hs] at ho; exact ho
      | pan v f g => rw [hs] at ho; exact ho
      | bad k => rw [hs] at ho; exact ho
    rcases compT_seq (P := P) (a := a) (b := b) with ⟨id, ops, rfl, e⟩ | e
    · unfold compR at e
      split at e
      · rename_i i o hlast
        split at e
        · rename_i f as hdef
          rw [e] at ho
          obtain ⟨⟨tys, hop⟩, hgd, hdst⟩ := deferOf_eq hdef
          have hl := lastOf_eq hlast
          have ho : TopR P E n Q (match evSteps call (i.map (stOf P [] ops)) fr h with
            | .norm fr h => match nobox fr, gvs (as.toList.map rd) fr, gv (rd f) fr with
              | true, some xs, some (.fn g a cs) => (evC call fuel (compC P [] b) fr h, some (g, a ++ xs ++ cs))
              | _, _, _ => (.bad 55, none)
            | x => (clrOut [] x, none)) := ho
          refine wp_seq (wp_region_list ?_)
          rw [hl]
          refine list_then hin (loc := []) (df := []) i (fun o' h' => hd o' (by simp only [opersOf, List.mem_append]; exact .inl (by rw [hl]; simp [h']))) S hdf ?_
          cases hs : evSteps call (i.map (stOf P [] ops)) fr h with
          | norm fr1 h1 =>
            rw [hs] at ho
            simp only at ho
            split at ho
            · rename_i xs g a cs hbox hxs hgv
              intro A1 act1 w1 S1 hd1
              have v1 := gvs_VR S1.frr (xs := as.toList) (fun _ _ _ _ => trivial) hxs
              obtain ⟨vs, ys, h2, h3, h4⟩ := gv_VR S1.frr (x := f) (fun _ _ => trivial) hgv
              have hrun : (execOp act1.eval o).run P w1 = .ok (.defer ⟨.fn (.func g) ys, vs ++ as.map act1.eval⟩) w1 := by
                simp only [execOp, hop, resolve, h2, Deferred.ofValue, Sem.run_bind, Sem.run_pure, Result.andThen_ok]
              have hwant : Region.wanted o (yielded ops act1.tmps) = true := by simp [Region.wanted, hgd]
              unfold wpList
              rw [if_pos hwant]
              left
              unfold Oper.wp
              rw [hrun, Oper.upon_defer, hdst]
              unfold wpList
              have E1 : Inv E A1 h1 w1 := S1.inv
              refine code_sound (E := ⟨A1, h1, w1⟩) (hcall.within (E := ⟨A1, h1, w1⟩) (hg.go S1.inv)) (hdr _ (hcall.within (E := ⟨A1, h1, w1⟩) (hg.go S1.inv))) [] fuel b (fun o h => hd o (by simp [opersOf, h]))
                (act := { act1 with defers := ⟨.fn (.func g) ys, vs ++ as.map act1.eval⟩ :: act1.defers }) ⟨Inv.start S1.inv.hr, S1.frr, fun p g' l hp => absurd hp (nobox_get p fr1 hbox g' l)⟩ ?_
              have := ho A1 h1 w1 ⟨.fn (.func g) ys, vs ++ as.map act1.eval⟩ S1.inv S1.inv.hr ⟨.func g, ys, vs ++ as.map act1.eval ++ ys, rfl, ?_, ?_⟩
              · rw [hd1]; exact this
              · simp only [Array.toList_append, Array.toList_map]
                exact VRs.append (VRs.append h3 v1) h4
              · rintro w' ⟨fn, e1, e2, e3⟩
                have hb : fn.body.isNone = false := by cases hb : fn.body <;> simp_all
                simp only [invoke, callFunc, Sem.run_bind, run_program, Result.andThen_ok, e1]
                rw [if_neg (by simpa using e2), hb]
                rfl
            · exact (show False from ho).elim
          | exit id f g => rw [hs] at ho; exact ho
          | ret f g => rw [hs] at ho; exact ho
          | pan v f g => rw [hs] at ho; exact ho
          | bad k => rw [hs] at ho; exact ho
        · split at e
          · split at e
            · rw [e] at ho; exact (show False from ho).elim
            · rw [e] at ho; exact (show False from ho).elim
          · exact plain e
      · exact plain e
    · exact plain e
  | _ =>
    intro hd A fr h act w S hdf ho
    refine code_sound hin (hdr _ hin) [] fuel _ hd S ?_
    rw [hdf]
    rw [show compT P _ = compC P [] _ from rfl, evT_leaf (fun a b e => ?_) (fun _ _ _ _ e => compC_dfr e)] at ho
    · exact ho
    · obtain ⟨x, y, hxy⟩ := compC_seq e
      cases hxy

/-- A function that defers, at its end. -/
theorem finT_R {Γ : Glob} {F : FuncId → Option EF} (hF : ∀ f e, F f = some e → compF P f = some e) {call : Calls'} (hcall : CallsOk Γ P call) (hdr : ∀ E, CallOk E P call → DrawnOk E P call) {fuel : Nat} (hg : Γ.Met E.A E.w) {f : FuncId} {fn : Func} {x : Out × Option (FuncId × List AV)}
    (hb : ∀ k, finT f (fn.results.toList.map (erOf P)) (evD F call fuel) x ≠ .bad k) : TopR P E n (bodyPostD P fn (Told E (finT f (fn.results.toList.map (erOf P)) (evD F call fuel) x))) x := by
  obtain ⟨o, dd⟩ := x
  cases dd with
  | none => exact fin_R hb
  | some ga =>
    obtain ⟨g, as⟩ := ga
    intro A1 h1 w1 d I1 hr1 hdef
    obtain ⟨fv, cap, dargs, htar, hdv, hinv⟩ := hdef
    obtain ⟨dt, da⟩ := d
    simp only at htar
    subst htar
    -- the deferred call, from where the body ended
    have go : ∀ {mode : Option AV} {u : FrameMode} {fr : FT} {h : H} {A : Asg} {a : Act} {w : World} {r : DR}, Sta ⟨A1, h1, w1⟩ A n all fr h a.tmps w → a.defers = [⟨.fn fv cap, da⟩] → ModeR A mode u → u ≠ .run → evD F call fuel mode g as h = r → (∀ k, r ≠ .bad k) →
        (∀ e u' w', ToldD ⟨A, h, w⟩ u r e u' w' → (match e with
          | .returned _ => Leaves P fn a.tmps (Told E (finT f (fn.results.toList.map (erOf P)) (evD F call fuel) (o, some (g, as)))) [] (Go.settle u') w'
          | .panicked chain => Leaves P fn a.tmps (Told E (finT f (fn.results.toList.map (erOf P)) (evD F call fuel) (o, some (g, as)))) [] (raised u' chain) w'
          | .outgrown => Told E (finT f (fn.results.toList.map (erOf P)) (evD F call fuel) (o, some (g, as))) .outgrown w')) →
        Leaves P fn a.tmps (Told E (finT f (fn.results.toList.map (erOf P)) (evD F call fuel) (o, some (g, as)))) a.defers u w := by
      intro mode u fr h A a w r S hd hm hu hr hnb hK
      rw [hd]
      have hm' : ∀ p r, A1.s p = some r → A.s p = some r := fun p r hp => (S.inv.ext p (hr1.fresh p r hp)).trans hp
      obtain ⟨hc, hD⟩ := evD_ok hF hcall hdr hr hnb S.inv.hr ((hg.go I1).go (E := ⟨A1, h1, w1⟩) S.inv) (VRs.mono hm' _ _ hdv) hm
      refine leaves_cons hu (hinv w hc) (CallsD.mono hD ?_)
      intro e u' w' ht
      have := hK e u' w' ht
      cases e <;> exact this
    have back : ∀ {fr : FT} {h h2 : H} {A A' : Asg} {a : Act} {w w' : World}, Sta ⟨A1, h1, w1⟩ A n all fr h a.tmps w → Inv ⟨A, h, w⟩ A' h2 w' → Sta ⟨A1, h1, w1⟩ A' n all fr h2 a.tmps w' := fun S J => ⟨S.inv.trans J, S.frr.called S.inv.hr J, S.bge⟩
    have results : ∀ {fr : FT} {h2 : H} {A' : Asg} {a : Act} {w' : World}, Sta ⟨A1, h1, w1⟩ A' n all fr h2 a.tmps w' → finT f (fn.results.toList.map (erOf P)) (evD F call fuel) (o, some (g, as)) = finF f (fn.results.toList.map (erOf P)) (.ret fr h2) →
        Leaves P fn a.tmps (Told E (finT f (fn.results.toList.map (erOf P)) (evD F call fuel) (o, some (g, as)))) [] .returning w' := by
      intro fr h2 A' a w' S2 hfin
      cases hr : finF f (fn.results.toList.map (erOf P)) (.ret fr h2) with
      | ret v h' =>
        obtain ⟨rfl, x, g1, g2⟩ := finF_R hr S2
        refine ⟨x, g1, ?_⟩
        rw [hfin, hr]
        exact ⟨x, A', rfl, g2, I1.trans S2.inv⟩
      | pan v h' => exact absurd hr (finF_nopan (f := f))
      | bad k => exact absurd (hfin.trans hr) (hb k)
    have retcase : ∀ (fr : FT) (h : H), finT f (fn.results.toList.map (erOf P)) (evD F call fuel) (o, some (g, as)) = (match evD F call fuel none g as h with | .ret _ h => finF f (fn.results.toList.map (erOf P)) (.ret fr h) | .pan v h => .pan v h | .bad w => .bad w) →
        ∀ A (a : Act) w, Sta ⟨A1, h1, w1⟩ A n all fr h a.tmps w → a.defers = [⟨.fn fv cap, da⟩] → Leaves P fn a.tmps (Told E (finT f (fn.results.toList.map (erOf P)) (evD F call fuel) (o, some (g, as)))) a.defers .returning w := by
      intro fr h hfin A a w S hd
      cases hr : evD F call fuel none g as h with
      | bad k => rw [hr] at hfin; exact absurd hfin (hb k)
      | ret recd h2 =>
        rw [hr] at hfin
        refine go S hd (mode := none) rfl (by simp) hr (fun _ => by simp) ?_
        rintro e u' w' ⟨x, A', rfl, J, hby⟩
        have hu : u' = .returning := by
          cases recd with
          | false => exact hby
          | true => obtain ⟨_, _, _, h1, _⟩ := hby; cases h1
        subst hu
        exact results (back S J) hfin
      | pan v2 h2 =>
        rw [hr] at hfin
        simp only at hfin
        refine go S hd (mode := none) rfl (by simp) hr (fun _ => by simp) ?_
        rintro e u' w' ⟨x, A', older, hno, rfl, hx, J, hby⟩
        have hu : u' = .returning := by
          rcases hby with ⟨_, _, _, h1, _⟩ | h1
          · cases h1
          · exact h1
        subst hu
        show Told E _ (.panicked _) w'
        rw [hfin]
        exact ⟨x, A', older, hno, rfl, hx, I1.trans (S.inv.trans J)⟩
    cases o with
    | norm fr h => exact fun A a w S hd => retcase fr h rfl A a w S hd
    | ret fr h => exact fun A a w S hd => retcase fr h rfl A a w S hd
    | pan v fr h =>
      intro A x a w older hno hx S hd
      have hfin : finT f (fn.results.toList.map (erOf P)) (evD F call fuel) (.pan v fr h, some (g, as)) = (match evD F call fuel (some v) g as h with | .ret true h => finF f (fn.results.toList.map (erOf P)) (.ret fr h) | .ret false h => .pan v h | .pan v h => .pan v h | .bad w => .bad w) := rfl
      show Leaves P fn a.tmps _ a.defers (.panicking ({ v := x, recovered := false } :: older)) w
      cases hr : evD F call fuel (some v) g as h with
      | bad k => rw [hr] at hfin; exact absurd hfin (hb k)
      | ret recd h2 =>
        rw [hr] at hfin
        refine go S hd (mode := some v) ⟨x, older, hno, hx, rfl⟩ (by simp) hr (fun _ => by simp) ?_
        rintro e u' w' ⟨y, A', rfl, J, hby⟩
        cases recd with
        | false =>
          have hu : u' = .panicking ({ v := x, recovered := false } :: older) := hby
          subst hu
          show Told E _ (.panicked _) w'
          rw [hfin]
          exact ⟨x, A', older, hno, rfl, VR.mono (fun p r hp => (J.ext p (S.inv.hr.fresh p r hp)).trans hp) _ _ hx, I1.trans (S.inv.trans J)⟩
        | true =>
          obtain ⟨x', older', hno', h1', h2'⟩ := hby
          subst h2'
          have hset : Go.settle (.panicking ({ v := x', recovered := true } :: older')) = .returning := by
            have : older'.dropWhile (fun e => !e.goexit) = [] := by
              have : ∀ (l : List PanicEntry), NoExit l → l.dropWhile (fun e => !e.goexit) = [] := by
                intro l
                induction l with
                | nil => intro _; rfl
                | cons a l ih =>
                  intro hl
                  rw [List.dropWhile_cons, hl a (by simp)]
                  exact ih (fun e he => hl e (by simp [he]))
              exact this _ hno'
            simp only [Go.settle, this]
          show Leaves P fn a.tmps _ [] (Go.settle _) w'
          rw [hset]
          exact results (back S J) hfin
      | pan v2 h2 =>
        rw [hr] at hfin
        simp only at hfin
        refine go S hd (mode := some v) ⟨x, older, hno, hx, rfl⟩ (by simp) hr (fun _ => by simp) ?_
        rintro e u' w' ⟨y, A', older2, hno2, rfl, hy, J, hby⟩
        have hu : ∃ b, u' = .panicking ({ v := x, recovered := b } :: older) := by
          rcases hby with ⟨x', older', _, h1, h2⟩ | h1
          · simp only [FrameMode.panicking.injEq, List.cons.injEq, PanicEntry.mk.injEq] at h1
            obtain ⟨⟨rfl, _⟩, rfl⟩ := h1
            exact ⟨true, h2⟩
          · exact ⟨false, h1⟩
        obtain ⟨b, rfl⟩ := hu
        show Told E _ (.panicked _) w'
        rw [hfin]
        refine ⟨y, A', older2 ++ ({ v := x, recovered := b } :: older), ?_, rfl, hy, I1.trans (S.inv.trans J)⟩
        intro e he
        rw [List.mem_append, List.mem_cons] at he
        rcases he with he | rfl | he
        · exact hno2 e he
        · rfl
        · exact hno e he
    | exit id fr h => exact absurd rfl (hb 61)
    | bad k => exact absurd rfl (hb k)

/-- One function's call, from what is told of the calls within. -/
theorem fun_sound {Γ : Glob} {F : FuncId → Option EF} (hF : ∀ f e, F f = some e → compF P f = some e) {call : Calls'} (hcall : CallsOk Γ P call) (hdr : ∀ E, CallOk E P call → DrawnOk E P call) (fuel : Nat) : CallsOk Γ P (evFun F call fuel) := by
  have key : ∀ {f as h r}, evFun F call fuel f as h = r → (∀ k, r ≠ .bad k) → Callable P f ∧ ∀ {A w args}, HR A h w → Γ.Met A w → VRs A.s as args.toList → Calls P f args w (Told ⟨A, h, w⟩ r) := by
    intro f as h r hr hb
    unfold evFun at hr
    split at hr
    · rename_i e0 he0
      obtain ⟨fn, c, h1, h2, h3, h4, h5, h6⟩ := compF_eq (hF _ _ he0)
      refine ⟨⟨fn, h1, h3, by rw [h2]; rfl⟩, fun {A w args} hh hg ha => ?_⟩
      have hin : CallOk ⟨A, h, w⟩ P call := hcall.within (E := ⟨A, h, w⟩) hg
      rcases h6 with ⟨h7, h6⟩ | ⟨h7, h6⟩
      · rw [h7] at hr
        simp only at hr
        refine calls_of_wp_defers h1 h2 (top_sound (E := ⟨A, h, w⟩) hcall hdr hg fuel c h4 (act := ⟨args ++ Array.replicate (fn.ntmps - args.size) undef, []⟩) (start_R hh ha fn.ntmps) rfl ?_)
        rw [← h6]
        have := finT_R (E := ⟨A, h, w⟩) (n := fn.ntmps) (f := f) (fn := fn) hF hcall hdr (fuel := fuel) hg (x := evT call fuel e0.code (initFr as 0 .nil) h) (fun k => by rw [← h5, hr]; exact hb k)
        rw [← h5, hr] at this
        exact this
      · rw [h7] at hr
        simp only at hr
        refine calls_of_wp_defers h1 h2 (code_sound hin (hdr _ hin) (localsOf c) fuel c h4 (act := ⟨args ++ Array.replicate (fn.ntmps - args.size) undef, []⟩) (start_R hh ha fn.ntmps) ?_)
        rw [← h6]
        have := fin_R (P := P) (E := ⟨A, h, w⟩) (n := fn.ntmps) (f := f) (fn := fn) (o := evC call fuel e0.code (initFr as 0 .nil) h) (fun k => by rw [← h5, hr]; exact hb k)
        rw [← h5, hr] at this
        exact this
    · subst hr; exact absurd rfl (hb _)
  exact ⟨fun hr _ _ _ hh hg ha => (key hr (fun _ => by simp)).2 hh hg ha, fun hr _ _ _ hh hg ha => (key hr (fun _ => by simp)).2 hh hg ha, fun hr hb => (key hr hb).1⟩
/-- Calls as deep as they may be. -/
theorem ev_ok {Γ : Glob} (hm : P.follows .mixedOrders = true) {lib : Lib} (hlib : CallsOk Γ P (libC lib)) {F : FuncId → Option EF} (hF : ∀ f e, F f = some e → compF P f = some e) (fuel : Nat) : ∀ d, CallsOk Γ P (ev lib F fuel d)
  | 0 => hlib
  | d + 1 => by
    have ih := ev_ok hm hlib hF fuel d
    have hf := fun_sound hF ih (DrawnAll hm) fuel
    have e : ∀ f as h, ev lib F fuel (d + 1) f as h = (match lib f with | some g => g as h | none => evFun F (ev lib F fuel d) fuel f as h) := fun _ _ _ => rfl
    have e' : ∀ f as h g, lib f = some g → libC lib f as h = g as h := fun f as h g hg => by unfold libC; rw [hg]
    refine ⟨fun {f as h v h'} hr => ?_, fun {f as h v h'} hr => ?_, fun {f as h r} hr hb => ?_⟩ <;> rw [e] at hr <;> split at hr
    · rename_i g hg; rw [← e' f as h g hg] at hr; exact hlib.ret hr
    · exact hf.ret hr
    · rename_i g hg; rw [← e' f as h g hg] at hr; exact hlib.pan hr
    · exact hf.pan hr
    · rename_i g hg; rw [← e' f as h g hg] at hr; exact hlib.body hr hb
    · exact hf.body hr hb
end Go.Ev
