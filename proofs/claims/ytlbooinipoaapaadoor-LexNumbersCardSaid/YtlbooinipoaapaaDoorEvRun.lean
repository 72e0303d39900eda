/- Steps in a row, code, functions: what the evaluator tells is what the program does. -/
import Derived.Test.YtlbooinipoaapaaDoorEvStep
namespace Go.Ev
variable {P : Program} {E : Ent} {A : Asg} {n : Nat} {ok : Path → Prop} {fr : FT} {act : Act} {w : World} {h : H}

/-- A function with a body of its own. -/
def Callable (P : Program) (f : FuncId) : Prop := ∃ fn, P.funcs[f]? = some fn ∧ fn.name ≠ "runtime.NumGoroutine" ∧ fn.body.isSome = true
/-- Facts on blocks that are none of ours. -/
structure Glob where
  n : Nat
  G : World → Prop
  stable : ∀ w w', (∀ x, x < n → w'.heap[x]? = w.heap[x]?) → G w → G w'
/-- They hold, and none of these blocks is ours. -/
structure Glob.Met (Γ : Glob) (A : Asg) (w : World) : Prop where
  size : Γ.n ≤ w.heap.size
  s : ∀ p r, A.s p = some r → Γ.n ≤ r.blk
  b : ∀ g x, A.b g = some x → Γ.n ≤ x
  g : Γ.G w
theorem Glob.Met.go {Γ : Glob} (h0 : Γ.Met E.A E.w) (I : Inv E A h w) : Γ.Met A w where
  size := Nat.le_trans h0.size I.size
  s := fun p r hp => by
    rcases I.news p r hp with h1 | ⟨q, t, hq, ht⟩
    · exact Nat.le_trans h0.size h1
    · exact ht ▸ h0.s q t hq
  b := fun g x hg => by
    by_cases hlt : g < E.h.gen
    · exact h0.b g x ((I.bext g hlt) ▸ hg)
    · exact Nat.le_trans h0.size (I.bnew g x (Nat.not_lt.1 hlt) hg)
  g := Γ.stable _ _ (fun x hx => I.keep x (Nat.lt_of_lt_of_le hx h0.size) (fun p r hp e => by have := h0.s p r hp; omega)) h0.g
/-- None of them is an end of the goroutine. -/
def NoExit (l : List PanicEntry) : Prop := ∀ e ∈ l, e.goexit = false
theorem NoExit.nil : NoExit [] := fun _ h => by cases h
/-- What is told of calls is so (Γ: what is known besides). -/
structure CallsOk (Γ : Glob) (P : Program) (call : Calls') : Prop where
  ret : ∀ {f as h v h'}, call f as h = .ret v h' → ∀ {A w args}, HR A h w → Γ.Met A w → VRs A.s as args.toList → Calls P f args w (fun e w' => ∃ x A', e = .returned x ∧ VR A'.s v x ∧ Inv ⟨A, h, w⟩ A' h' w')
  pan : ∀ {f as h v h'}, call f as h = .pan v h' → ∀ {A w args}, HR A h w → Γ.Met A w → VRs A.s as args.toList → Calls P f args w (fun e w' => ∃ x A' older, NoExit older ∧ e = .panicked ({ v := x, recovered := false } :: older) ∧ VR A'.s v x ∧ Inv ⟨A, h, w⟩ A' h' w')
  body : ∀ {f as h r}, call f as h = r → (∀ k, r ≠ .bad k) → Callable P f
/-- So, within a call. -/
structure CallOk (E : Ent) (P : Program) (call : Calls') : Prop where
  ret : ∀ {f as h v h'}, call f as h = .ret v h' → ∀ {A w args}, Inv E A h w → VRs A.s as args.toList → Calls P f args w (fun e w' => ∃ x A', e = .returned x ∧ VR A'.s v x ∧ Inv ⟨A, h, w⟩ A' h' w')
  pan : ∀ {f as h v h'}, call f as h = .pan v h' → ∀ {A w args}, Inv E A h w → VRs A.s as args.toList → Calls P f args w (fun e w' => ∃ x A' older, NoExit older ∧ e = .panicked ({ v := x, recovered := false } :: older) ∧ VR A'.s v x ∧ Inv ⟨A, h, w⟩ A' h' w')
  body : ∀ {f as h r}, call f as h = r → (∀ k, r ≠ .bad k) → Callable P f
theorem CallsOk.within {Γ : Glob} {call : Calls'} (hc : CallsOk Γ P call) (h0 : Γ.Met E.A E.w) : CallOk E P call where
  ret := fun e _ _ _ I ha => hc.ret e I.hr (h0.go I) ha
  pan := fun e _ _ _ I ha => hc.pan e I.hr (h0.go I) ha
  body := hc.body

/-- Slots that an operation looks at are filled. -/
def LooksOk (ok : Path → Prop) (ops : Array Oper) (o : Oper) : Prop := ∀ t ∈ o.looksAt ops, ok (pathOf t)
theorem LooksOk.op {ops : Array Oper} {o : Oper} (hl : LooksOk ok ops o) : ∀ x ∈ o.op.operands, OkO ok x := fun x hx t e => hl t (by
  subst e
  exact List.mem_append_left _ (List.mem_filterMap.2 ⟨.tmp t, by simpa using hx, rfl⟩))
theorem LooksOk.guard {ops : Array Oper} {o : Oper} (hl : LooksOk ok ops o) {j : Nat} {u : Bool} (hg : o.guard = some (j, u)) {d : Tmp} (hd : (ops[j]?).bind (·.dst) = some d) : ok (pathOf d) := hl d (by
  simp only [Oper.looksAt, hg, hd]
  simp)

theorem eff_call {loc : List Tmp} {o : Oper} {run : FT → H → OpOut} (hc : comp P loc o = some (.eff run)) (F : FrR A n ok fr act.tmps w) (hok : ∀ x ∈ o.op.operands, OkO ok x) {f : FuncId} {as : List AV} (hv : run fr h = .call f as) (hf : Callable P f) :
    ∃ args, (execOp act.eval o).run P w = .ok (.enter f args) w ∧ VRs A.s as args.toList := by
  obtain ⟨dst, op, type, pos, after, guard⟩ := o
  unfold comp at hc
  cases op <;> simp only at hc
  all_goals try (cases hc; done)
  case alloc t =>
    split at hc
    · split at hc
      · split at hc
        · cases hc; cases hv
        · cases hc
      · cases hc
    · cases hc
  case box t x =>
    split at hc
    · split at hc
      · split at hc
        · cases hc
          unfold bLocV at hv
          split at hv
          · split at hv
            · split at hv <;> cases hv
            · cases hv
          · cases hv
        · cases hc
      · cases hc
    · cases hc
  case build t ps =>
    split at hc
    · split at hc
      · split at hc <;> cases hc
      · cases hc
    · cases hc
  case buildSlice t m ps =>
    split at hc
    · split at hc
      · split at hc <;> cases hc
      · cases hc
    · cases hc
  case load t x =>
    split at hc
    · split at hc <;> cases hc
    · cases hc
  case store t x y =>
    split at hc
    · split at hc
      · cases hc
        unfold hStore at hv
        split at hv
        · split at hv
          · split at hv
            · split at hv
              · split at hv <;> cases hv
              · cases hv
            · cases hv
          · cases hv
        · cases hv
      · cases hc
    · cases hc
  case binOp op t x y yt =>
    split at hc <;> cases hc
  case convert s0 t x =>
    split at hc
    · cases hc
    · cases hc
    · split at hc <;> cases hc
    · split at hc <;> cases hc
    · cases hc
  case makeInterface t x =>
    split at hc <;> cases hc
  case typeAssert x xt t ok =>
    cases ok <;> simp only at hc
    · cases hc
    · split at hc
      · cases hc
      · split at hc <;> cases hc
      · cases hc
  case lookup t x k comma =>
    split at hc
    · split at hc <;> cases hc
    · cases hc
  case makeMap t r =>
    cases r <;> simp only at hc
    · cases hc; unfold hMakeMap at hv; cases hv
    · cases hc
  case insert t m k v =>
    split at hc
    · split at hc
      · cases hc
        unfold hInsert at hv
        repeat' (split at hv)
        all_goals cases hv
      · cases hc
    · cases hc
  case mapUpdate t m k v =>
    split at hc
    · split at hc
      · cases hc
        unfold hInsert at hv
        repeat' (split at hv)
        all_goals cases hv
      · cases hc
    · cases hc
  case makeFunc g a c =>
    cases g <;> simp only at hc
    all_goals cases hc
  case makeSlice t l c =>
    split at hc
    · split at hc <;> cases hc
    · cases hc
  case slice t x lo hi mx =>
    cases mx with
    | some _ => simp only at hc; cases hc
    | none =>
      simp only at hc
      split at hc
      · cases hc
      · split at hc
        · split at hc <;> cases hc
        · cases hc
      · cases hc
  case fieldAddr t x i =>
    split at hc
    · split at hc <;> cases hc
    · cases hc
  case field t x i =>
    split at hc
    · split at hc <;> cases hc
    · cases hc
  case indexAddr t x ix =>
    split at hc
    · split at hc <;> cases hc
    · cases hc
  case index t x ix =>
    split at hc <;> cases hc
  case panic x =>
    cases hc
    unfold hPanic at hv
    split at hv <;> cases hv
  case call c =>
    obtain ⟨callee, args, argTypes⟩ := c
    cases callee <;> simp only at hc
    case invoke r m => cases hc
    case value g =>
      cases hc
      unfold hCall at hv
      split at hv
      · rename_i as' has
        split at hv
        · rename_i f' a cs hg
          cases hv
          have h1 := gvs_VR F (xs := args.toList) (fun x hx => hok x (by simp only [Op.operands, Call.operands]; simp; exact .inr (by simpa using hx))) has
          obtain ⟨xs, ys, h2, h3, h4⟩ := gv_VR F (hok g (by simp [Op.operands, Call.operands])) hg
          obtain ⟨fn, e1, e2, e3⟩ := hf
          refine ⟨xs ++ args.map act.eval ++ ys, ?_, ?_⟩
          · have hb : fn.body.isNone = false := by cases hb : fn.body <;> simp_all
            simp only [execOp, resolve, h2, Deferred.ofValue, Sem.run_bind, Sem.run_pure, Result.andThen_ok, invoke, callFunc, run_program, e1]
            rw [if_neg (by simpa using e2), hb]
            rfl
          · simp only [Array.toList_append, Array.toList_map]
            exact VRs.append (VRs.append h3 h1) h4
        · cases hv
      · cases hv
    case builtin b =>
      cases b <;> simp only at hc
      all_goals try (cases hc; done)
      case append =>
        split at hc
        · split at hc
          · split at hc
            · cases hc
              unfold hAppend at hv
              split at hv
              · split at hv
                · unfold apOut at hv
                  split at hv
                  · split at hv
                    · split at hv <;> cases hv
                    · cases hv
                  · cases hv
                · cases hv
              · cases hv
            · cases hc
          · split at hc
            · cases hc
              unfold hAppendS at hv
              split at hv
              · split at hv
                · unfold apOut at hv
                  split at hv
                  · split at hv
                    · split at hv <;> cases hv
                    · cases hv
                  · cases hv
                · cases hv
              · cases hv
            · cases hc
          · cases hc
        · cases hc
      case len =>
        split at hc
        · split at hc <;> cases hc
        · cases hc
      case min =>
        split at hc <;> cases hc
      case max =>
        split at hc <;> cases hc
theorem eff_pan {loc : List Tmp} {o : Oper} {run : FT → H → OpOut} (hc : comp P loc o = some (.eff run)) (F : FrR A n ok fr act.tmps w) (hok : ∀ x ∈ o.op.operands, OkO ok x) {v : AV} (hv : run fr h = .pan v) :
    ∃ x, (execOp act.eval o).run P w = .halt (.panic x) w ∧ VR A.s v x := by
  obtain ⟨dst, op, type, pos, after, guard⟩ := o
  unfold comp at hc
  cases op <;> simp only at hc
  all_goals try (cases hc; done)
  case alloc t =>
    split at hc
    · split at hc
      · split at hc
        · cases hc; cases hv
        · cases hc
      · cases hc
    · cases hc
  case box t x =>
    split at hc
    · split at hc
      · split at hc
        · cases hc
          unfold bLocV at hv
          split at hv
          · split at hv
            · split at hv <;> cases hv
            · cases hv
          · cases hv
        · cases hc
      · cases hc
    · cases hc
  case build t ps =>
    split at hc
    · split at hc
      · split at hc <;> cases hc
      · cases hc
    · cases hc
  case buildSlice t m ps =>
    split at hc
    · split at hc
      · split at hc <;> cases hc
      · cases hc
    · cases hc
  case load t x =>
    split at hc
    · split at hc <;> cases hc
    · cases hc
  case store t x y =>
    split at hc
    · split at hc
      · cases hc
        unfold hStore at hv
        split at hv
        · split at hv
          · split at hv
            · split at hv
              · split at hv <;> cases hv
              · cases hv
            · cases hv
          · cases hv
        · cases hv
      · cases hc
    · cases hc
  case binOp op t x y yt =>
    split at hc <;> cases hc
  case convert s0 t x =>
    split at hc
    · cases hc
    · cases hc
    · split at hc <;> cases hc
    · split at hc <;> cases hc
    · cases hc
  case makeInterface t x =>
    split at hc <;> cases hc
  case typeAssert x xt t ok =>
    cases ok <;> simp only at hc
    · cases hc
    · split at hc
      · cases hc
      · split at hc <;> cases hc
      · cases hc
  case lookup t x k comma =>
    split at hc
    · split at hc <;> cases hc
    · cases hc
  case makeMap t r =>
    cases r <;> simp only at hc
    · cases hc; unfold hMakeMap at hv; cases hv
    · cases hc
  case insert t m k v =>
    split at hc
    · split at hc
      · cases hc
        unfold hInsert at hv
        repeat' (split at hv)
        all_goals cases hv
      · cases hc
    · cases hc
  case mapUpdate t m k v =>
    split at hc
    · split at hc
      · cases hc
        unfold hInsert at hv
        repeat' (split at hv)
        all_goals cases hv
      · cases hc
    · cases hc
  case makeFunc g a c =>
    cases g <;> simp only at hc
    all_goals cases hc
  case makeSlice t l c =>
    split at hc
    · split at hc <;> cases hc
    · cases hc
  case slice t x lo hi mx =>
    cases mx with
    | some _ => simp only at hc; cases hc
    | none =>
      simp only at hc
      split at hc
      · cases hc
      · split at hc
        · split at hc <;> cases hc
        · cases hc
      · cases hc
  case fieldAddr t x i =>
    split at hc
    · split at hc <;> cases hc
    · cases hc
  case field t x i =>
    split at hc
    · split at hc <;> cases hc
    · cases hc
  case indexAddr t x ix =>
    split at hc
    · split at hc <;> cases hc
    · cases hc
  case index t x ix =>
    split at hc <;> cases hc
  case panic x =>
    cases hc
    unfold hPanic at hv
    split at hv
    · rename_i t a ha
      cases hv
      have h1 := gv_VR F (hok x (by simp [Op.operands])) ha
      have h1' := h1
      obtain ⟨y, h2, h3⟩ := h1
      refine ⟨.iface t y, ?_, h2 ▸ h1'⟩
      simp [execOp, h2, Instr.panic]
    · cases hv
  case call c =>
    obtain ⟨callee, args, argTypes⟩ := c
    cases callee <;> simp only at hc
    case invoke r m => cases hc
    case value g =>
      cases hc
      unfold hCall at hv
      split at hv
      · split at hv <;> cases hv
      · cases hv
    case builtin b =>
      cases b <;> simp only at hc
      all_goals try (cases hc; done)
      case append =>
        split at hc
        · split at hc
          · split at hc
            · cases hc
              unfold hAppend at hv
              split at hv
              · split at hv
                · unfold apOut at hv
                  split at hv
                  · split at hv
                    · split at hv <;> cases hv
                    · cases hv
                  · cases hv
                · cases hv
              · cases hv
            · cases hc
          · split at hc
            · cases hc
              unfold hAppendS at hv
              split at hv
              · split at hv
                · unfold apOut at hv
                  split at hv
                  · split at hv
                    · split at hv <;> cases hv
                    · cases hv
                  · cases hv
                · cases hv
              · cases hv
            · cases hc
          · cases hc
        · cases hc
      case len =>
        split at hc
        · split at hc <;> cases hc
        · cases hc
      case min =>
        split at hc <;> cases hc
      case max =>
        split at hc <;> cases hc

theorem Sta.called (S : Sta E A n ok fr h act.tmps w) {A' : Asg} {h' : H} {w' : World} (J : Inv ⟨A, h, w⟩ A' h' w') : Sta E A' n ok fr h' act.tmps w' where
  inv := S.inv.trans J
  frr := S.frr.called S.inv.hr J
  bge := S.bge

theorem stOf_op {loc : List Tmp} {ops : Array Oper} {o : Oper} {g : Option (Path × Bool)} {f : OpF} {d : Option Path} (e : stOf P loc ops o = .op g f d) :
    comp P loc o = some f ∧ d = dst? o ∧ ((g = none ∧ o.guard = none) ∨ ∃ j u t, o.guard = some (j, u) ∧ (ops[j]?).bind (·.dst) = some t ∧ g = some (pathOf t, u)) := by
  unfold stOf at e
  split at e
  · rename_i f' hf
    split at e
    · rename_i hg
      cases e
      exact ⟨hf, rfl, .inl ⟨rfl, hg⟩⟩
    · rename_i j u hg
      split at e
      · rename_i t ht
        cases e
        exact ⟨hf, rfl, .inr ⟨j, u, t, hg, ht, rfl⟩⟩
      · cases e
  · cases e
/-- Whether an operation is wanted. -/
theorem wanted_R (F : FrR A n ok fr act.tmps w) {loc : List Tmp} {ops : Array Oper} {o : Oper} (hl : LooksOk ok ops o) {g : Option (Path × Bool)} {f : OpF} {d : Option Path} (e : stOf P loc ops o = .op g f d) {b : Bool} (hw : wantedF g fr = some b) :
    Region.wanted o (yielded ops act.tmps) = b := by
  obtain ⟨_, _, ⟨rfl, hg⟩ | ⟨j, u, t, hg, ht, rfl⟩⟩ := stOf_op e
  · simp only [wantedF] at hw
    cases hw
    simp [Region.wanted, hg]
  · have hok := hl.guard hg ht
    simp only [wantedF] at hw
    have hy : ∀ v, act.tmps.getD t undef = v → (yielded ops act.tmps j = match v with | .bool b => some b | _ => none) := by
      intro v hv
      unfold yielded
      rw [ht]
      simp only [Option.bind_some]
      rw [Array.getD_eq_getD_getElem?] at hv
      cases hx : act.tmps[t]? with
      | none => rw [hx] at hv; subst hv; rfl
      | some x => rw [hx] at hv; subst hv; cases x <;> rfl
    split at hw
    · rename_i v hs
      cases hw
      have := F.slot t _ hok hs
      have := hy _ this
      simp only at this
      simp only [Region.wanted, hg, this]
      cases u <;> cases v <;> rfl
    · rename_i hs
      cases hw
      have := F.slot t _ hok hs
      have := hy _ this
      simp only [Region.wanted, hg]
      rw [this]
      rfl
    · cases hw

/-- An operation, and what comes behind it. -/
def OpWp (P : Program) (ops : Array Oper) (Q : Exit → Act → World → Prop) (o : Oper) (K : Act → World → Prop) (a : Act) (w : World) : Prop :=
  if Region.wanted o (yielded ops a.tmps) then o.wp P a w K Q else K (a.put o.dst undef) w
theorem done_wp {o : Oper} {fr' : FT} {h' : H} (D : Done P E A n ok act w o fr h fr' h') {K : Act → World → Prop} {Q : Exit → Act → World → Prop}
    (hK : ∀ A' a' w', Sta E A' n ok fr' h' a'.tmps w' → a'.defers = act.defers → HKept A h A' h' → FKept fr fr' (dst? o) → K a' w') : o.wp P act w K Q := by
  obtain ⟨A', w', v, h1 | ⟨h1, rfl⟩, h2, h3, h4⟩ := D
  · unfold Oper.wp; rw [h1]; exact hK A' _ w' h2 (put_defers _ _ _) h3 h4
  · unfold Oper.wp; rw [h1]; exact hK A' _ w' h2 (put_defers _ _ _) h3 h4
theorem undef_R (S : Sta E A n ok fr h act.tmps w) {o : Oper} (hd : DstOk n o) : Sta E A n ok (pt (dst? o) (some .und) fr) h (act.put o.dst undef).tmps w :=
  S.put hd (s := .und) rfl (fun _ _ => by simp)
/-- A step of ours that goes on. -/
theorem step_norm {call : Calls'} (hcall : CallOk E P call) {loc : List Tmp} {ops : Array Oper} {o : Oper} (S : Sta E A n ok fr h act.tmps w) (hl : LooksOk ok ops o) (hd : DstOk n o) (hk : ∀ d, o.dst = some d → ok (pathOf d))
    {fr' : FT} {h' : H} (e : evStep call (stOf P loc ops o) fr h = .norm fr' h') {K : Act → World → Prop} {Q : Exit → Act → World → Prop}
    (hK : ∀ A' a' w', Sta E A' n ok fr' h' a'.tmps w' → a'.defers = act.defers → HKept A h A' h' → FKept fr fr' (dst? o) → K a' w') : OpWp P ops Q o K act w := by
  unfold OpWp
  cases hst : stOf P loc ops o with
  | no => rw [hst] at e; cases e
  | chk g f d =>
    exfalso
    unfold stOf at hst
    split at hst
    · split at hst
      · cases hst
      · split at hst <;> cases hst
    · cases hst
  | op g f d =>
    rw [hst] at e
    obtain ⟨hc, rfl, _⟩ := stOf_op hst
    simp only [evStep] at e
    split at e
    · rename_i hw
      rw [wanted_R S.frr hl hst hw, if_pos rfl]
      split at e
      · split at e
        · rename_i hv
          cases e
          exact done_wp ((pure_sound hc S.frr hl.op hv).done S hd) hK
        · cases e
      · split at e
        · rename_i hv
          cases e
          exact done_wp ((look_sound hc S.frr S.inv.hr hl.op hv).done S hd) hK
        · cases e
      · split at e
        · rename_i hv
          cases e
          exact done_wp ((new_sound hc S.frr hl.op S.inv.hr.none_next hv).done S hd) hK
        · cases e
      · split at e
        · rename_i hv
          cases e
          exact done_wp (eff_next hc S hl.op hd hk hv) hK
        · rename_i hv
          split at e
          · rename_i hr
            cases e
            obtain ⟨args, h1, h2⟩ := eff_call hc S.frr hl.op hv (hcall.body hr (fun _ => by simp))
            unfold Oper.wp
            rw [h1]
            refine Calls.mono (hcall.ret hr S.inv h2) ?_
            rintro _ w'' ⟨x, A', rfl, hx, J⟩
            exact hK A' _ w'' ((S.called J).put hd (s := .v _) hx (fun _ _ => by simp)) (put_defers _ _ _) ⟨J.next, fun p hp e => ⟨(J.ext p hp).trans e, J.phan p hp e⟩⟩ (.pt _ _ _)
          · cases e
          · cases e
        · cases e
        · cases e
    · rename_i hw
      rw [wanted_R S.frr hl hst hw]
      cases e
      exact hK A _ w (undef_R S hd) (put_defers _ _ _) (.refl A h) (.pt _ _ _)
    · cases e
/-- A step of ours that panics. -/
theorem step_pan {call : Calls'} (hcall : CallOk E P call) {loc : List Tmp} {ops : Array Oper} {o : Oper} (S : Sta E A n ok fr h act.tmps w) (hl : LooksOk ok ops o)
    {v : AV} {fr' : FT} {h' : H} (e : evStep call (stOf P loc ops o) fr h = .pan v fr' h') {K : Act → World → Prop} {Q : Exit → Act → World → Prop}
    (hQ : ∀ A' x w' older, NoExit older → VR A'.s v x → Sta E A' n ok fr' h' act.tmps w' → Q (.panic ({ v := x, recovered := false } :: older)) act w') : OpWp P ops Q o K act w := by
  unfold OpWp
  cases hst : stOf P loc ops o with
  | no => rw [hst] at e; cases e
  | chk g f d =>
    exfalso
    unfold stOf at hst
    split at hst
    · split at hst
      · cases hst
      · split at hst <;> cases hst
    · cases hst
  | op g f d =>
    rw [hst] at e
    obtain ⟨hc, rfl, _⟩ := stOf_op hst
    simp only [evStep] at e
    split at e
    · rename_i hw
      rw [wanted_R S.frr hl hst hw, if_pos rfl]
      split at e
      · split at e <;> cases e
      · split at e <;> cases e
      · split at e <;> cases e
      · split at e
        · cases e
        · rename_i hv
          split at e
          · cases e
          · rename_i hr
            cases e
            obtain ⟨args, h1, h2⟩ := eff_call hc S.frr hl.op hv (hcall.body hr (fun _ => by simp))
            unfold Oper.wp
            rw [h1]
            refine Calls.mono (hcall.pan hr S.inv h2) ?_
            rintro _ w'' ⟨x, A', older, hno, rfl, hx, J⟩
            exact hQ A' x w'' older hno hx (S.called J)
          · cases e
        · rename_i hv
          cases e
          obtain ⟨x, h1, h2⟩ := eff_pan hc S.frr hl.op hv
          unfold Oper.wp
          rw [h1]
          exact hQ A x w [] .nil h2 S
        · cases e
    · cases e
    · cases e
end Go.Ev
