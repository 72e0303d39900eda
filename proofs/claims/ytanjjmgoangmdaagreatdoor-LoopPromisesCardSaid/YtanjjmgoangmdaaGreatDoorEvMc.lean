/- The evaluator, part 3: code, functions, calls; what is known of functions. -/
import Derived.Test.YtanjjmgoangmdaaGreatDoorEvMb
import Derived.Tactics
import Derived.Recover
import Derived.Orders
import Derived.Below
noncomputable section
namespace Go.Ev
set_option linter.unusedSectionVars false
variable [Unk]
variable {P : Program} {E : Ent} {A : Asg} {n : Nat} {ok : Path → Prop} {fr : FT} {act : Act} {w : World} {h : H}

def Callable (P : Program) (f : FuncId) : Prop := ∃ fn, P.funcs[f]? = some fn ∧ fn.name ≠ "runtime.NumGoroutine" ∧ fn.body.isSome = true
structure Glob where
  n : Nat
  G : World → Prop
  stable : ∀ w w', (∀ x, x < n → w'.heap[x]? = w.heap[x]?) → G w → G w'
structure Glob.Met (Γ : Glob) (A : Asg) (w : World) : Prop where
  size : Γ.n ≤ w.heap.size
  s : ∀ p r, A.s p = some r → Γ.n ≤ r.blk ∨ A.o p = true
  b : ∀ g x, A.b g = some x → Γ.n ≤ x
  g : Γ.G w
theorem Glob.Met.go {Γ : Glob} (h0 : Γ.Met E.A E.w) (I : Inv E A h w) : Γ.Met A w where
  size := Nat.le_trans h0.size I.size
  s := fun p r hp => by
    rcases I.news p r hp with h1 | ⟨q, t, hq, ht, ho⟩
    · exact .inl (Nat.le_trans h0.size h1)
    · exact (h0.s q t hq).imp (fun h => ht ▸ h) ho
  b := fun g x hg => by
    by_cases hlt : g < E.h.gen
    · exact h0.b g x ((I.bext g hlt) ▸ hg)
    · exact Nat.le_trans h0.size (I.bnew g x (Nat.not_lt.1 hlt) hg)
  g := Γ.stable _ _ (fun x hx => by
    by_cases hx' : ∃ p r, E.A.s p = some r ∧ r.blk = x
    · obtain ⟨p, r, hp, rfl⟩ := hx'
      rcases h0.s p r hp with h1 | h1
      · omega
      · exact (I.rok p r h1 hp).2.2
    · exact I.keep x (Nat.lt_of_lt_of_le hx h0.size) (fun p r hp e => hx' ⟨p, r, hp, e⟩)) h0.g
def NoExit (l : List PanicEntry) : Prop := ∀ e ∈ l, e.goexit = false
theorem NoExit.nil : NoExit [] := fun _ h => by cases h
structure CallsOk (Γ : Glob) (P : Program) (call : Calls') : Prop where
  ret : ∀ {f as h v h'}, call f as h = .ret v h' → ∀ {A w args}, HR A h w → Γ.Met A w → VRs A.s as args.toList → Calls P f args w (fun e w' => ∃ x A', e = .returned x ∧ VR A'.s v x ∧ Inv ⟨A, h, w⟩ A' h' w')
  pan : ∀ {f as h v h'}, call f as h = .pan v h' → ∀ {A w args}, HR A h w → Γ.Met A w → VRs A.s as args.toList → Calls P f args w (fun e w' => ∃ x A' older, NoExit older ∧ e = .panicked ({ v := x, recovered := false } :: older) ∧ VR A'.s v x ∧ Inv ⟨A, h, w⟩ A' h' w')
  body : ∀ {f as h r}, call f as h = r → (∀ k, r ≠ .bad k) → Callable P f
structure CallOk (E : Ent) (P : Program) (call : Calls') : Prop where
  ret : ∀ {f as h v h'}, call f as h = .ret v h' → ∀ {A w args}, Inv E A h w → VRs A.s as args.toList → Calls P f args w (fun e w' => ∃ x A', e = .returned x ∧ VR A'.s v x ∧ Inv ⟨A, h, w⟩ A' h' w')
  pan : ∀ {f as h v h'}, call f as h = .pan v h' → ∀ {A w args}, Inv E A h w → VRs A.s as args.toList → Calls P f args w (fun e w' => ∃ x A' older, NoExit older ∧ e = .panicked ({ v := x, recovered := false } :: older) ∧ VR A'.s v x ∧ Inv ⟨A, h, w⟩ A' h' w')
  body : ∀ {f as h r}, call f as h = r → (∀ k, r ≠ .bad k) → Callable P f
theorem CallsOk.within {Γ : Glob} {call : Calls'} (hc : CallsOk Γ P call) (h0 : Γ.Met E.A E.w) : CallOk E P call where
  ret := fun e _ _ _ I ha => hc.ret e I.hr (h0.go I) ha
  pan := fun e _ _ _ I ha => hc.pan e I.hr (h0.go I) ha
  body := hc.body

def LooksOk (ok : Path → Prop) (ops : Array Oper) (o : Oper) : Prop := ∀ t ∈ o.looksAt ops, ok (pathOf t)
theorem LooksOk.op {ops : Array Oper} {o : Oper} (hl : LooksOk ok ops o) : ∀ x ∈ o.op.operands, OkO ok x := fun x hx t e => hl t (by
  subst e
  exact List.mem_append_left _ (List.mem_filterMap.2 ⟨.tmp t, by simpa using hx, rfl⟩))
theorem LooksOk.guard {ops : Array Oper} {o : Oper} (hl : LooksOk ok ops o) {j : Nat} {u : Bool} (hg : o.guard = some (j, u)) {d : Tmp} (hd : (ops[j]?).bind (·.dst) = some d) : ok (pathOf d) := hl d (by
  simp only [Oper.looksAt, hg, hd]
  simp)

theorem eff_call {loc : List Tmp} {o : Oper} {run : FT → H → OpOut} (hc : comp P loc o = some (.eff run)) (F : FrR A n ok fr act.tmps w) (hok : ∀ x ∈ o.op.operands, OkO ok x) {f : FuncId} {as : List AV} (hv : run fr h = .call f as) (hf : Callable P f) :
    ∃ args, (execOp act.eval o).run P w = .ok (.enter f args) w ∧ VRs A.s as args.toList := by
  obtain ⟨dst, op, type, pos, after, guard⟩ := o
  unfold comp at hc
  cases op <;> simp only at hc
  all_goals try (cases hc; done)
  case alloc t =>
    split at hc
    · split at hc
      · split at hc
        · cases hc; cases hv
        · cases hc
      · cases hc
    · cases hc
  case box t x =>
    split at hc
    · split at hc
      · split at hc
        · cases hc
          unfold bLocV at hv
          split at hv
          · split at hv
            · split at hv <;> cases hv
            · cases hv
          · cases hv
        · cases hc
      · cases hc
    · cases hc
  case build t ps =>
    split at hc
    · split at hc
      · split at hc <;> cases hc
      · cases hc
    · cases hc
  case buildSlice t m ps =>
    split at hc
    · split at hc
      · split at hc <;> cases hc
      · cases hc
    · cases hc
  case load t x =>
    split at hc
    · split at hc <;> cases hc
    · cases hc
  case store t x y =>
    split at hc
    · split at hc
      · cases hc
        unfold hStore at hv
        split at hv
        · split at hv
          · split at hv
            · split at hv
              · split at hv <;> cases hv
              · cases hv
            · cases hv
          · cases hv
        · cases hv
      · cases hc
    · cases hc
  case binOp op t x y yt =>
    split at hc <;> cases hc
  case convert s0 t x =>
    split at hc
    · cases hc
    · cases hc
    · split at hc <;> cases hc
    · split at hc <;> cases hc
    · cases hc
  case makeInterface t x =>
    split at hc <;> cases hc
  case typeAssert x xt t ok =>
    cases ok <;> simp only at hc
    · cases hc
    · split at hc
      · cases hc
      · split at hc <;> cases hc
      · cases hc
  case lookup t x k comma =>
    split at hc
    · split at hc <;> cases hc
    · cases hc
  case makeMap t r =>
    cases r <;> simp only at hc
    · cases hc; unfold hMakeMap at hv; cases hv
    · cases hc
  case insert t m k v =>
    split at hc
    · split at hc
      · cases hc
        unfold hInsert at hv
        repeat' (split at hv)
        all_goals cases hv
      · cases hc
    · cases hc
  case mapUpdate t m k v =>
    split at hc
    · split at hc
      · cases hc
        unfold hInsert at hv
        repeat' (split at hv)
        all_goals cases hv
      · cases hc
    · cases hc
  case makeFunc g a c =>
    cases g <;> simp only at hc
    all_goals cases hc
  case makeSlice t l c =>
    split at hc
    · split at hc <;> cases hc
    · cases hc
  case slice t x lo hi mx =>
    cases mx with
    | some _ => simp only at hc; cases hc
    | none =>
      simp only at hc
      split at hc
      · cases hc
      · split at hc
        · split at hc <;> cases hc
        · cases hc
      · cases hc
  case fieldAddr t x i =>
    split at hc
    · split at hc <;> cases hc
    · cases hc
  case field t x i =>
    split at hc
    · split at hc <;> cases hc
    · cases hc
  case indexAddr t x ix =>
    split at hc
    · split at hc <;> cases hc
    · split at hc
      · split at hc <;> cases hc
      · cases hc
  case index t x ix =>
    split at hc <;> cases hc
  case panic x =>
    cases hc
    unfold hPanic at hv
    split at hv <;> cases hv
  case call c =>
    obtain ⟨callee, args, argTypes⟩ := c
    cases callee <;> simp only at hc
    case invoke r m => cases hc
    case value g =>
      cases hc
      unfold hCall at hv
      split at hv
      · rename_i as' has
        split at hv
        · rename_i f' a cs hg
          cases hv
          have h1 := gvs_VR F (xs := args.toList) (fun x hx => hok x (by simp only [Op.operands, Call.operands]; simp; exact .inr (by simpa using hx))) has
          obtain ⟨xs, ys, h2, h3, h4⟩ := gv_VR F (hok g (by simp [Op.operands, Call.operands])) hg
          obtain ⟨fn, e1, e2, e3⟩ := hf
          refine ⟨xs ++ args.map act.eval ++ ys, ?_, ?_⟩
          · have hb : fn.body.isNone = false := by cases hb : fn.body <;> simp_all
            simp only [execOp, resolve, h2, Deferred.ofValue, Sem.run_bind, Sem.run_pure, Result.andThen_ok, invoke, callFunc, run_program, e1]
            rw [if_neg (by simpa using e2), hb]
            rfl
          · simp only [Array.toList_append, Array.toList_map]
            exact VRs.append (VRs.append h3 h1) h4
        · cases hv
      · cases hv
    case builtin b =>
      cases b <;> simp only at hc
      all_goals try (cases hc; done)
      case append =>
        split at hc
        · split at hc
          · split at hc
            · cases hc
              unfold hAppend at hv
              split at hv
              · split at hv
                · unfold apOut at hv
                  split at hv
                  · split at hv
                    · split at hv <;> cases hv
                    · cases hv
                  · cases hv
                · cases hv
              · cases hv
            · cases hc
          · split at hc
            · cases hc
              unfold hAppendS at hv
              split at hv
              · split at hv
                · unfold apOut at hv
                  split at hv
                  · split at hv
                    · split at hv <;> cases hv
                    · cases hv
                  · cases hv
                · cases hv
              · cases hv
            · cases hc
          · cases hc
        · cases hc
      case copy =>
        split at hc
        · split at hc
          · split at hc
            · cases hc
              unfold hCopy at hv
              split at hv
              · split at hv
                · split at hv <;> cases hv
                · cases hv
              · cases hv
            · cases hc
          · cases hc
        · cases hc
      case len =>
        split at hc
        · split at hc <;> cases hc
        · cases hc
      case min =>
        split at hc <;> cases hc
      case max =>
        split at hc <;> cases hc
theorem eff_pan {loc : List Tmp} {o : Oper} {run : FT → H → OpOut} (hc : comp P loc o = some (.eff run)) (F : FrR A n ok fr act.tmps w) (hok : ∀ x ∈ o.op.operands, OkO ok x) {v : AV} (hv : run fr h = .pan v) :
    ∃ x, (execOp act.eval o).run P w = .halt (.panic x) w ∧ VR A.s v x := by
  obtain ⟨dst, op, type, pos, after, guard⟩ := o
  unfold comp at hc
  cases op <;> simp only at hc
  all_goals try (cases hc; done)
  case alloc t =>
    split at hc
    · split at hc
      · split at hc
        · cases hc; cases hv
        · cases hc
      · cases hc
    · cases hc
  case box t x =>
    split at hc
    · split at hc
      · split at hc
        · cases hc
          unfold bLocV at hv
          split at hv
          · split at hv
            · split at hv <;> cases hv
            · cases hv
          · cases hv
        · cases hc
      · cases hc
    · cases hc
  case build t ps =>
    split at hc
    · split at hc
      · split at hc <;> cases hc
      · cases hc
    · cases hc
  case buildSlice t m ps =>
    split at hc
    · split at hc
      · split at hc <;> cases hc
      · cases hc
    · cases hc
  case load t x =>
    split at hc
    · split at hc <;> cases hc
    · cases hc
  case store t x y =>
    split at hc
    · split at hc
      · cases hc
        unfold hStore at hv
        split at hv
        · split at hv
          · split at hv
            · split at hv
              · split at hv <;> cases hv
              · cases hv
            · cases hv
          · cases hv
        · cases hv
      · cases hc
    · cases hc
  case binOp op t x y yt =>
    split at hc <;> cases hc
  case convert s0 t x =>
    split at hc
    · cases hc
    · cases hc
    · split at hc <;> cases hc
    · split at hc <;> cases hc
    · cases hc
  case makeInterface t x =>
    split at hc <;> cases hc
  case typeAssert x xt t ok =>
    cases ok <;> simp only at hc
    · cases hc
    · split at hc
      · cases hc
      · split at hc <;> cases hc
      · cases hc
  case lookup t x k comma =>
    split at hc
    · split at hc <;> cases hc
    · cases hc
  case makeMap t r =>
    cases r <;> simp only at hc
    · cases hc; unfold hMakeMap at hv; cases hv
    · cases hc
  case insert t m k v =>
    split at hc
    · split at hc
      · cases hc
        unfold hInsert at hv
        repeat' (split at hv)
        all_goals cases hv
      · cases hc
    · cases hc
  case mapUpdate t m k v =>
    split at hc
    · split at hc
      · cases hc
        unfold hInsert at hv
        repeat' (split at hv)
        all_goals cases hv
      · cases hc
    · cases hc
  case makeFunc g a c =>
    cases g <;> simp only at hc
    all_goals cases hc
  case makeSlice t l c =>
    split at hc
    · split at hc <;> cases hc
    · cases hc
  case slice t x lo hi mx =>
    cases mx with
    | some _ => simp only at hc; cases hc
    | none =>
      simp only at hc
      split at hc
      · cases hc
      · split at hc
        · split at hc <;> cases hc
        · cases hc
      · cases hc
  case fieldAddr t x i =>
    split at hc
    · split at hc <;> cases hc
    · cases hc
  case field t x i =>
    split at hc
    · split at hc <;> cases hc
    · cases hc
  case indexAddr t x ix =>
    split at hc
    · split at hc <;> cases hc
    · split at hc
      · split at hc <;> cases hc
      · cases hc
  case index t x ix =>
    split at hc <;> cases hc
  case panic x =>
    cases hc
    unfold hPanic at hv
    split at hv
    · rename_i t a ha
      cases hv
      have h1 := gv_VR F (hok x (by simp [Op.operands])) ha
      have h1' := h1
      obtain ⟨y, h2, h3⟩ := h1
      refine ⟨.iface t y, ?_, h2 ▸ h1'⟩
      simp [execOp, h2, Instr.panic]
    · cases hv
  case call c =>
    obtain ⟨callee, args, argTypes⟩ := c
    cases callee <;> simp only at hc
    case invoke r m => cases hc
    case value g =>
      cases hc
      unfold hCall at hv
      split at hv
      · split at hv <;> cases hv
      · cases hv
    case builtin b =>
      cases b <;> simp only at hc
      all_goals try (cases hc; done)
      case append =>
        split at hc
        · split at hc
          · split at hc
            · cases hc
              unfold hAppend at hv
              split at hv
              · split at hv
                · unfold apOut at hv
                  split at hv
                  · split at hv
                    · split at hv <;> cases hv
                    · cases hv
                  · cases hv
                · cases hv
              · cases hv
            · cases hc
          · split at hc
            · cases hc
              unfold hAppendS at hv
              split at hv
              · split at hv
                · unfold apOut at hv
                  split at hv
                  · split at hv
                    · split at hv <;> cases hv
                    · cases hv
                  · cases hv
                · cases hv
              · cases hv
            · cases hc
          · cases hc
        · cases hc
      case copy =>
        split at hc
        · split at hc
          · split at hc
            · cases hc
              unfold hCopy at hv
              split at hv
              · split at hv
                · split at hv <;> cases hv
                · cases hv
              · cases hv
            · cases hc
          · cases hc
        · cases hc
      case len =>
        split at hc
        · split at hc <;> cases hc
        · cases hc
      case min =>
        split at hc <;> cases hc
      case max =>
        split at hc <;> cases hc

theorem Sta.called (S : Sta E A n ok fr h act.tmps w) {A' : Asg} {h' : H} {w' : World} (J : Inv ⟨A, h, w⟩ A' h' w') : Sta E A' n ok fr h' act.tmps w' where
  inv := S.inv.trans J
  frr := S.frr.called S.inv.hr J
  bge := S.bge

theorem stOf_op {loc : List Tmp} {ops : Array Oper} {o : Oper} {g : Option (Path × Bool)} {f : OpF} {d : Option Path} (e : stOf P loc ops o = .op g f d) :
    comp P loc o = some f ∧ d = dst? o ∧ ((g = none ∧ o.guard = none) ∨ ∃ j u t, o.guard = some (j, u) ∧ (ops[j]?).bind (·.dst) = some t ∧ g = some (pathOf t, u)) := by
  unfold stOf at e
  split at e
  · rename_i f' hf
    split at e
    · rename_i hg
      cases e
      exact ⟨hf, rfl, .inl ⟨rfl, hg⟩⟩
    · rename_i j u hg
      split at e
      · rename_i t ht
        cases e
        exact ⟨hf, rfl, .inr ⟨j, u, t, hg, ht, rfl⟩⟩
      · cases e
  · cases e
theorem wanted_R (F : FrR A n ok fr act.tmps w) {loc : List Tmp} {ops : Array Oper} {o : Oper} (hl : LooksOk ok ops o) {g : Option (Path × Bool)} {f : OpF} {d : Option Path} (e : stOf P loc ops o = .op g f d) {b : Bool} (hw : wantedF g fr = some b) :
    Region.wanted o (yielded ops act.tmps) = b := by
  obtain ⟨_, _, ⟨rfl, hg⟩ | ⟨j, u, t, hg, ht, rfl⟩⟩ := stOf_op e
  · simp only [wantedF] at hw
    cases hw
    simp [Region.wanted, hg]
  · have hok := hl.guard hg ht
    simp only [wantedF] at hw
    have hy : ∀ v, act.tmps.getD t undef = v → (yielded ops act.tmps j = match v with | .bool b => some b | _ => none) := by
      intro v hv
      unfold yielded
      rw [ht]
      simp only [Option.bind_some]
      rw [Array.getD_eq_getD_getElem?] at hv
      cases hx : act.tmps[t]? with
      | none => rw [hx] at hv; subst hv; rfl
      | some x => rw [hx] at hv; subst hv; cases x <;> rfl
    split at hw
    · rename_i v hs
      cases hw
      have := F.slot t _ hok hs
      have := hy _ this
      simp only at this
      simp only [Region.wanted, hg, this]
      cases u <;> cases v <;> rfl
    · rename_i hs
      cases hw
      have := F.slot t _ hok hs
      have := hy _ this
      simp only [Region.wanted, hg]
      rw [this]
      rfl
    · cases hw

def OpWp (P : Program) (ops : Array Oper) (Q : Exit → Act → World → Prop) (o : Oper) (K : Act → World → Prop) (a : Act) (w : World) : Prop :=
  if Region.wanted o (yielded ops a.tmps) then o.wp P a w K Q else K (a.put o.dst undef) w
theorem done_wp {o : Oper} {fr' : FT} {h' : H} (D : Done P E A n ok act w o fr h fr' h') {K : Act → World → Prop} {Q : Exit → Act → World → Prop}
    (hK : ∀ A' a' w', Sta E A' n ok fr' h' a'.tmps w' → a'.defers = act.defers → HKept A h A' h' → FKept fr fr' (dst? o) → K a' w') : o.wp P act w K Q := by
  obtain ⟨A', w', v, h1 | ⟨h1, rfl⟩, h2, h3, h4⟩ := D
  · unfold Oper.wp; rw [h1]; exact hK A' _ w' h2 (put_defers _ _ _) h3 h4
  · unfold Oper.wp; rw [h1]; exact hK A' _ w' h2 (put_defers _ _ _) h3 h4
theorem undef_R (S : Sta E A n ok fr h act.tmps w) {o : Oper} (hd : DstOk n o) : Sta E A n ok (pt (dst? o) (some .und) fr) h (act.put o.dst undef).tmps w :=
  S.put hd (s := .und) rfl (fun _ _ => by simp)
theorem step_norm {call : Calls'} (hcall : CallOk E P call) {loc : List Tmp} {ops : Array Oper} {o : Oper} (S : Sta E A n ok fr h act.tmps w) (hl : LooksOk ok ops o) (hd : DstOk n o) (hk : ∀ d, o.dst = some d → ok (pathOf d))
    {fr' : FT} {h' : H} (e : evStep call (stOf P loc ops o) fr h = .norm fr' h') {K : Act → World → Prop} {Q : Exit → Act → World → Prop}
    (hK : ∀ A' a' w', Sta E A' n ok fr' h' a'.tmps w' → a'.defers = act.defers → HKept A h A' h' → FKept fr fr' (dst? o) → K a' w') : OpWp P ops Q o K act w := by
  unfold OpWp
  cases hst : stOf P loc ops o with
  | no => rw [hst] at e; cases e
  | chk g f d =>
    exfalso
    unfold stOf at hst
    split at hst
    · split at hst
      · cases hst
      · split at hst <;> cases hst
    · cases hst
  | op g f d =>
    rw [hst] at e
    obtain ⟨hc, rfl, _⟩ := stOf_op hst
    simp only [evStep] at e
    split at e
    · rename_i hw
      rw [wanted_R S.frr hl hst hw, if_pos rfl]
      split at e
      · split at e
        · rename_i hv
          cases e
          exact done_wp ((pure_sound hc S.frr hl.op hv).done S hd) hK
        · cases e
      · split at e
        · rename_i hv
          cases e
          exact done_wp ((look_sound hc S.frr S.inv.hr hl.op hv).done S hd) hK
        · cases e
      · split at e
        · rename_i hv
          cases e
          exact done_wp ((new_sound hc S.frr hl.op S.inv.hr.none_next hv).done S hd) hK
        · cases e
      · split at e
        · rename_i hv
          cases e
          exact done_wp (eff_next hc S hl.op hd hk hv) hK
        · rename_i hv
          split at e
          · rename_i hr
            cases e
            obtain ⟨args, h1, h2⟩ := eff_call hc S.frr hl.op hv (hcall.body hr (fun _ => by simp))
            unfold Oper.wp
            rw [h1]
            refine Calls.mono (hcall.ret hr S.inv h2) ?_
            rintro _ w'' ⟨x, A', rfl, hx, J⟩
            exact hK A' _ w'' ((S.called J).put hd (s := .v _) hx (fun _ _ => by simp)) (put_defers _ _ _) ⟨J.next, fun p hp e => ⟨(J.ext p hp).trans e, J.phan p hp e⟩⟩ (.pt _ _ _)
          · cases e
          · cases e
        · cases e
        · cases e
    · rename_i hw
      rw [wanted_R S.frr hl hst hw]
      cases e
      exact hK A _ w (undef_R S hd) (put_defers _ _ _) (.refl A h) (.pt _ _ _)
    · cases e
theorem step_pan {call : Calls'} (hcall : CallOk E P call) {loc : List Tmp} {ops : Array Oper} {o : Oper} (S : Sta E A n ok fr h act.tmps w) (hl : LooksOk ok ops o)
    {v : AV} {fr' : FT} {h' : H} (e : evStep call (stOf P loc ops o) fr h = .pan v fr' h') {K : Act → World → Prop} {Q : Exit → Act → World → Prop}
    (hQ : ∀ A' x w' older, NoExit older → VR A'.s v x → Sta E A' n ok fr' h' act.tmps w' → Q (.panic ({ v := x, recovered := false } :: older)) act w') : OpWp P ops Q o K act w := by
  unfold OpWp
  cases hst : stOf P loc ops o with
  | no => rw [hst] at e; cases e
  | chk g f d =>
    exfalso
    unfold stOf at hst
    split at hst
    · split at hst
      · cases hst
      · split at hst <;> cases hst
    · cases hst
  | op g f d =>
    rw [hst] at e
    obtain ⟨hc, rfl, _⟩ := stOf_op hst
    simp only [evStep] at e
    split at e
    · rename_i hw
      rw [wanted_R S.frr hl hst hw, if_pos rfl]
      split at e
      · split at e <;> cases e
      · split at e <;> cases e
      · split at e <;> cases e
      · split at e
        · cases e
        · rename_i hv
          split at e
          · cases e
          · rename_i hr
            cases e
            obtain ⟨args, h1, h2⟩ := eff_call hc S.frr hl.op hv (hcall.body hr (fun _ => by simp))
            unfold Oper.wp
            rw [h1]
            refine Calls.mono (hcall.pan hr S.inv h2) ?_
            rintro _ w'' ⟨x, A', older, hno, rfl, hx, J⟩
            exact hQ A' x w'' older hno hx (S.called J)
          · cases e
        · rename_i hv
          cases e
          obtain ⟨x, h1, h2⟩ := eff_pan hc S.frr hl.op hv
          unfold Oper.wp
          rw [h1]
          exact hQ A x w [] .nil h2 S
        · cases e
    · cases e
    · cases e
end Go.Ev
namespace Go.Ev
set_option linter.unusedSectionVars false
variable [Unk]
variable {P : Program} {E : Ent} {A : Asg} {n : Nat} {ok : Path → Prop} {fr : FT} {act : Act} {w : World} {h : H}

theorem wp_loop_fuel {c : Code} {Q : Exit → Act → World → Prop} {a : Act} {w : World} (R : Nat → Act → World → Prop) (i : Nat) (h₀ : R i a w) (hz : ∀ a w, ¬ R 0 a w)
    (round : ∀ i a w, R (i + 1) a w → c.wp P (Exit.then (R i) Q) a w) : (Code.loop c).wp P Q a w := by
  intro b k cs
  have key : ∀ i a w, R i a w → ∃ e a' w', Q e a' w' ∧ Arrives P (lone (b.at a (.code c :: .inLoop c :: k)) cs w) b k cs e a' w' := by
    intro i
    induction i with
    | zero => intro a w h; exact absurd h (hz a w)
    | succ i ih =>
      intro a w hI
      obtain ⟨e, a₁, w₁, hq, harr⟩ := round i a w hI b (.inLoop c :: k) cs
      cases e with
      | normal =>
        obtain ⟨e₂, a₂, w₂, hq₂, harr₂⟩ := ih a₁ w₁ hq
        exact ⟨e₂, a₂, w₂, hq₂, .of_steps (Steps.trans harr (.one step_inLoop)) harr₂⟩
      | exit id => exact ⟨_, a₁, w₁, hq, .pass (x := .inLoop c) rfl (fun _ _ => .inl (by simp)) harr⟩
      | goto l => exact ⟨_, a₁, w₁, hq, .pass (x := .inLoop c) rfl (fun _ _ => .inl (by simp)) harr⟩
      | ret => exact ⟨_, a₁, w₁, hq, .pass (x := .inLoop c) rfl (fun _ _ => .inl (by simp)) harr⟩
      | panic ch => exact ⟨_, a₁, w₁, hq, .pass (x := .inLoop c) rfl (fun _ _ => .inl (by simp)) harr⟩
      | outgrown => exact ⟨_, a₁, w₁, hq, .pass (x := .inLoop c) rfl (fun _ _ => .inl (by simp)) harr⟩
  obtain ⟨e, a', w', hq, harr⟩ := key i a w h₀
  exact ⟨e, a', w', hq, .of_steps (.one step_loop) harr⟩

def OutR (E : Ent) (n : Nat) (df : List Deferred) (Q : Exit → Act → World → Prop) (ds : List Path := []) : Out → Prop
  | .norm fr h => ∀ A a w, Sta E A n all fr h a.tmps w → a.defers = df → Q .normal a w
  | .exit id fr h => ∀ A a w, Sta E A n all fr h a.tmps w → a.defers = df → Q (.exit id) a w
  | .ret fr h => ∀ A a w, Sta E A n all fr h a.tmps w → a.defers = df → Q .ret a w
  | .pan v fr h => ∀ A x a w older, NoExit older → VR A.s v x → Sta E A n all (clr ds fr) h a.tmps w → a.defers = df → Q (.panic ({ v := x, recovered := false } :: older)) a w
  | .bad _ => False
theorem looks_all {ops : Array Oper} {o : Oper} : LooksOk all ops o := fun _ _ => trivial

theorem evSteps_cons (call : Calls') (s : St) (l : List St) (fr : FT) (h : H) : evSteps call (s :: l) fr h = match evStep call s fr h with | .norm fr h => evSteps call l fr h | x => x := rfl
theorem evSteps_nil (call : Calls') (fr : FT) (h : H) : evSteps call [] fr h = .norm fr h := rfl
theorem evStep_kinds {call : Calls'} {s : St} {fr : FT} {h : H} : (∀ id f g, evStep call s fr h ≠ .exit id f g) ∧ (∀ f g, evStep call s fr h ≠ .ret f g) := by
  constructor <;> intros <;> intro e
  all_goals
    unfold evStep at e
    split at e
    · split at e
      · split at e
        · split at e <;> cases e
        · split at e <;> cases e
        · split at e <;> cases e
        · split at e
          · cases e
          · split at e <;> cases e
          · cases e
          · cases e
      · cases e
      · cases e
    · split at e
      · split at e
        · split at e
          · split at e <;> cases e
          · cases e
        · cases e
      · cases e
    · cases e
theorem list_sound {call : Calls'} (hcall : CallOk E P call) {loc : List Tmp} {ops : Array Oper} {Q : Exit → Act → World → Prop} {df : List Deferred} : ∀ (rest : List Oper), (∀ o ∈ rest, DstOk n o) → ∀ {A fr h act w},
    Sta E A n all fr h act.tmps w → act.defers = df → OutR E n df Q [] (evSteps call (rest.map (stOf P loc ops)) fr h) → wpList P ops Q rest act w
  | [], _, A, fr, h, act, w, S, hdf, ho => ho A act w S hdf
  | o :: rest, hd, A, fr, h, act, w, S, hdf, ho => by
    rw [List.map_cons, evSteps_cons] at ho
    have hw : OpWp P ops Q o (wpList P ops Q rest) act w := by
      cases hs : evStep call (stOf P loc ops o) fr h with
      | norm fr' h' =>
        rw [hs] at ho
        exact step_norm hcall S looks_all (hd o (by simp)) (fun _ _ => trivial) hs (fun A' a' w' S' e _ _ => list_sound hcall rest (fun q hq => hd q (by simp [hq])) S' (e.trans hdf) ho)
      | pan v fr' h' =>
        rw [hs] at ho
        exact step_pan hcall S looks_all hs (fun A' x w' older hno hx S' => ho A' x act w' older hno hx S' hdf)
      | bad k => rw [hs] at ho; exact ho.elim
      | exit id f g => exact absurd hs (evStep_kinds.1 _ _ _)
      | ret f g => exact absurd hs (evStep_kinds.2 _ _)
    unfold OpWp at hw
    unfold wpList
    split
    · rename_i hq; rw [if_pos hq] at hw; exact .inl hw
    · rename_i hq; rw [if_neg hq] at hw; exact hw

def DrawnOk (E : Ent) (P : Program) (call : Calls') : Prop := ∀ {A : Asg} {n : Nat} {fr : FT} {h : H} {act : Act} {w : World} {loc : List Tmp} {id : Nat} {ops : Array Oper} {Q : Exit → Act → World → Prop},
  (∀ o ∈ ops.toList, DstOk n o) → Sta E A n all fr h act.tmps w → OutR E n act.defers Q (dstsOf ops) (evSteps call (drawnOf P loc ops) fr h) → (Code.region id ops true).wp P Q act w

theorem OutR.clr {df : List Deferred} {Q : Exit → Act → World → Prop} {ds : List Path} : ∀ {o : Out}, OutR E n df Q [] (clrOut ds o) → OutR E n df Q ds o
  | .norm _ _, h => h
  | .exit _ _ _, h => h
  | .ret _ _, h => h
  | .pan _ _ _, h => h
  | .bad _, h => h
theorem OutR.mono {df : List Deferred} {Q Q' : Exit → Act → World → Prop} (hq : ∀ e a w, Q e a w → Q' e a w) : ∀ {o : Out}, OutR E n df Q [] o → OutR E n df Q' [] o
  | .norm _ _, h => fun A a w S e => hq _ _ _ (h A a w S e)
  | .exit _ _ _, h => fun A a w S e => hq _ _ _ (h A a w S e)
  | .ret _ _, h => fun A a w S e => hq _ _ _ (h A a w S e)
  | .pan _ _ _, h => fun A x a w older hno hx S e => hq _ _ _ (h A x a w older hno hx S e)
  | .bad _, h => h
def loopF (call : Calls') (fuel : Nat) (c : EC) (i : Nat) : FT → H → Out := Nat.rec (fun _ _ => Out.bad 51) (fun _ ih fr h => match evC call fuel c fr h with
    | .norm fr h => ih fr h
    | x => x) i
theorem loopF_succ (call : Calls') (fuel : Nat) (c : EC) (i : Nat) (fr : FT) (h : H) : loopF call fuel c (i + 1) fr h = match evC call fuel c fr h with | .norm fr h => loopF call fuel c i fr h | x => x := rfl

theorem code_sound {call : Calls'} (hcall : CallOk E P call) (hdr : DrawnOk E P call) (loc : List Tmp) (fuel : Nat) : ∀ (c : Code), (∀ o ∈ opersOf c, DstOk n o) → ∀ {Q : Exit → Act → World → Prop} {A fr h act w},
    Sta E A n all fr h act.tmps w → OutR E n act.defers Q [] (evC call fuel (compC P loc c) fr h) → c.wp P Q act w
  | .skip, _, Q, A, fr, h, act, w, S, ho => wp_skip (ho A act w S rfl)
  | .region id ops false, hd, Q, A, fr, h, act, w, S, ho => wp_region_list (list_sound hcall (loc := loc) ops.toList hd S rfl ho)
  | .region id ops true, hd, Q, A, fr, h, act, w, S, ho => hdr (loc := loc) hd S (OutR.clr ho)
  | .seq a b, hd, Q, A, fr, h, act, w, S, ho => by
    have ho : OutR E n act.defers Q [] (match evC call fuel (compC P loc a) fr h with | .norm fr h => evC call fuel (compC P loc b) fr h | x => x) := ho
    refine wp_seq (code_sound hcall hdr loc fuel a (fun o h => hd o (by simp [opersOf, h])) S ?_)
    cases hs : evC call fuel (compC P loc a) fr h with
    | norm fr' h' =>
      rw [hs] at ho
      intro A' a' w' S' e
      exact code_sound hcall hdr loc fuel b (fun o h => hd o (by simp [opersOf, h])) S' (e ▸ ho)
    | exit id f g => rw [hs] at ho; exact ho
    | ret f g => rw [hs] at ho; exact ho
    | pan v f g => rw [hs] at ho; exact ho
    | bad k => rw [hs] at ho; exact ho
  | .cond c a b, hd, Q, A, fr, h, act, w, S, ho => by
    have ho : OutR E n act.defers Q [] (match gv (rd c) fr with | some (.bool true) => evC call fuel (compC P loc a) fr h | some (.bool false) => evC call fuel (compC P loc b) fr h | _ => .bad 50) := ho
    split at ho
    · rename_i hg
      have := gv_VR S.frr (x := c) (fun _ _ => trivial) hg
      simp only [VR] at this
      exact wp_cond_true this (code_sound hcall hdr loc fuel a (fun o h => hd o (by simp [opersOf, h])) S ho)
    · rename_i hg
      have := gv_VR S.frr (x := c) (fun _ _ => trivial) hg
      simp only [VR] at this
      exact wp_cond_false this (code_sound hcall hdr loc fuel b (fun o h => hd o (by simp [opersOf, h])) S ho)
    · exact ho.elim
  | .block id c, hd, Q, A, fr, h, act, w, S, ho => by
    have ho : OutR E n act.defers Q [] (match evC call fuel (compC P loc c) fr h with | .exit id' fr h => (match Nat.beq id' id with | true => .norm fr h | false => .exit id' fr h) | x => x) := ho
    refine wp_block (code_sound hcall hdr loc fuel c hd S ?_)
    cases hs : evC call fuel (compC P loc c) fr h with
    | exit id' fr' h' =>
      rw [hs] at ho
      simp only at ho
      intro A' a' w' S' e
      show (if id' = id then Q .normal a' w' else Q (.exit id') a' w')
      cases hb : Nat.beq id' id with
      | true => rw [hb] at ho; rw [if_pos (Nat.eq_of_beq_eq_true hb)]; exact ho A' a' w' S' e
      | false => rw [hb] at ho; rw [natBeq] at hb; rw [if_neg (of_decide_eq_false hb)]; exact ho A' a' w' S' e
    | norm f g => rw [hs] at ho; exact ho
    | ret f g => rw [hs] at ho; exact ho
    | pan v f g => rw [hs] at ho; exact ho
    | bad k => rw [hs] at ho; exact ho
  | .loop c, hd, Q, A, fr, h, act, w, S, ho => by
    have ho : OutR E n act.defers Q [] (loopF call fuel (compC P loc c) fuel fr h) := ho
    refine wp_loop_fuel (fun i a w => ∃ A fr h, Sta E A n all fr h a.tmps w ∧ a.defers = act.defers ∧ OutR E n act.defers Q [] (loopF call fuel (compC P loc c) i fr h)) fuel ⟨A, fr, h, S, rfl, ho⟩ (fun a w ⟨_, _, _, _, _, ho⟩ => ho.elim) ?_
    rintro i a w ⟨A, fr, h, S, e, ho⟩
    refine code_sound hcall hdr loc fuel c hd S ?_
    rw [loopF_succ] at ho
    cases hs : evC call fuel (compC P loc c) fr h with
    | norm fr' h' =>
      rw [hs] at ho
      intro A' a' w' S' e'
      exact ⟨A', fr', h', S', e'.trans e, ho⟩
    | exit id f g => rw [hs] at ho; rw [e]; exact ho
    | ret f g => rw [hs] at ho; rw [e]; exact ho
    | pan v f g => rw [hs] at ho; rw [e]; exact ho
    | bad k => rw [hs] at ho; exact ho
  | .exit id, _, Q, A, fr, h, act, w, S, ho => wp_exit (ho A act w S rfl)
  | .ret, _, Q, A, fr, h, act, w, S, ho => wp_ret (ho A act w S rfl)
  | .goto _, _, _, _, _, _, _, _, _, ho => (show False from ho).elim
  | .label _, _, _, _, _, _, _, _, _, ho => (show False from ho).elim
  | .scope _, _, _, _, _, _, _, _, _, ho => (show False from ho).elim
  | .rangeFunc .., _, _, _, _, _, _, _, _, ho => (show False from ho).elim
end Go.Ev
namespace Go.Ev
set_option linter.unusedSectionVars false
variable [Unk]
variable {P : Program} {E : Ent} {A : Asg} {n : Nat} {ok : Path → Prop} {fr : FT} {act : Act} {w : World} {h : H}

theorem get_initFr : ∀ (l : List AV) (i : Nat) (fr : FT) (t : Nat), get (pathOf t) (initFr l i fr) = if i ≤ t ∧ t < i + l.length then (l[t - i]?).map .v else get (pathOf t) fr
  | [], i, fr, t => by
    show get (pathOf t) fr = _
    rw [if_neg (by simp)]
  | a :: l, i, fr, t => by
    show get (pathOf t) (initFr l (i + 1) (set (pathOf i) (some (.v a)) fr)) = _
    rw [get_initFr l]
    by_cases e : t = i
    · subst e
      rw [if_neg (by omega), get_set, if_pos rfl, if_pos (by simp)]
      simp
    · by_cases h1 : i + 1 ≤ t ∧ t < i + 1 + l.length
      · rw [if_pos h1, if_pos (by simp; omega)]
        have e : t - i = (t - (i + 1)) + 1 := by omega
        rw [e]; simp
      · rw [if_neg h1, get_set, if_neg (fun e' => e (pathOf_inj e')), if_neg (by simp; omega)]
theorem start_R (hr : HR A h w) {as : List AV} {args : Array Value} (ha : VRs A.s as args.toList) (m : Nat) : Sta ⟨A, h, w⟩ A m all (initFr as 0 .nil) h (args ++ Array.replicate (m - args.size) undef) w where
  inv := Inv.start hr
  frr := {
    size := by simp; omega
    slot := fun t s _ hs => by
      rw [get_initFr] at hs
      split at hs
      · rename_i ht
        have ht' : t < as.length := by omega
        rw [Nat.sub_zero, List.getElem?_eq_getElem ht'] at hs
        cases hs
        obtain ⟨x, hx, hv⟩ := ha.get (List.getElem?_eq_getElem ht')
        have hl := ha.length
        have hts : t < args.size := by simp at hl; omega
        have : (args ++ Array.replicate (m - args.size) undef).getD t undef = x := by
          rw [Array.getD_eq_getD_getElem?, Array.getElem?_append_left hts]
          have : args[t]? = some x := by simpa using hx
          rw [this]; rfl
        rw [this]
        exact hv
      · rw [get_nil] at hs; cases hs
    bok := fun _ _ _ _ => trivial
    once := fun p q g l l' h1 _ => by
      rw [← pathOf_num p, get_initFr] at h1
      split at h1
      · rename_i ht
        cases hx : as[num p - 0]? <;> rw [hx] at h1 <;> cases h1
      · rw [get_nil] at h1; cases h1 }
  bge := fun p g l h1 => by
    rw [← pathOf_num p, get_initFr] at h1
    split at h1
    · rename_i ht
      cases hx : as[num p - 0]? <;> rw [hx] at h1 <;> cases h1
    · rw [get_nil] at h1; cases h1

def resOne (tmps : Array Value) : ResultVar → Sem Value
  | .tmp t => pure (tmps.getD t undef)
  | .cell a t => do loadVar t (← asAddr (tmps.getD a undef))
theorem results_R (S : Sta E A n all fr h act.tmps w) : ∀ (rs : List ResultVar) (l : List AV), resVs fr h (rs.map (erOf P)) = some l →
    ∃ xs, (rs.mapM (resOne act.tmps)).run P w = .ok xs w ∧ VRs A.s l xs
  | [], l, hl => by simp [resVs] at hl; subst hl; exact ⟨[], by simp, .nil⟩
  | r :: rs, l, hl => by
    simp only [List.map_cons, resVs] at hl
    split at hl
    · rename_i a ha
      split at hl
      · rename_i l' hl'
        cases hl
        obtain ⟨xs, h1, h2⟩ := results_R S rs l' hl'
        cases r with
        | tmp t =>
          simp only [erOf, resV] at ha
          have hv := gv_VR S.frr (x := .tmp t) (fun _ _ => trivial) ha
          refine ⟨act.tmps.getD t undef :: xs, ?_, .cons hv h2⟩
          have e0 : (resOne act.tmps (.tmp t)).run P w = .ok (act.tmps.getD t undef) w := rfl
          simp only [List.mapM_cons, Sem.run_bind, e0, Sem.run_pure, Result.andThen_ok, h1]
        | cell x t =>
          simp only [erOf] at ha
          split at ha
          · rename_i m g hm hg
            have ha' : resV fr h (.cell (.sl (pathOf x)) m g) = some a := by
              split at ha
              · simp [resV] at ha
              · exact ha
            simp only [resV] at ha'
            split at ha'
            · rename_i p hp
              split at ha'
              · rename_i lc hlc
                obtain ⟨ad, v, e1, e2, e3⟩ := loadVar_R S.frr S.inv.hr hm hg (place_R S.frr (x := .tmp x) (fun _ _ => trivial) hp) hlc ha'
                have e1' : act.tmps.getD x undef = .pointer (some ad) := e1
                refine ⟨v :: xs, ?_, .cons e3 h2⟩
                have e0 : (resOne act.tmps (.cell x t)).run P w = .ok v w := by
                  simp only [resOne, e1', asAddr, Sem.run_bind, Sem.run_pure, Result.andThen_ok, e2]
                simp only [List.mapM_cons, Sem.run_bind, e0, Result.andThen_ok, Sem.run_pure, h1]
              · cases ha'
            · cases ha'
          · simp [resV] at ha
      · cases hl
    · cases hl
theorem result_R (S : Sta E A n all fr h act.tmps w) {fn : Func} {v : AV} (hv : resultV (fn.results.toList.map (erOf P)) fr h = some v) :
    ∃ x, (results fn act.tmps).run P w = .ok x w ∧ VR A.s v x := by
  unfold resultV at hv
  have hrun : ∀ xs, (fn.results.toList.mapM (resOne act.tmps)).run P w = .ok xs w →
      (results fn act.tmps).run P w = .ok (if h : xs.toArray.size = 1 then xs.toArray[0] else .tuple xs.toArray) w := fun xs hx => by
    show (do let vs ← fn.results.mapM (resOne act.tmps); pure (if h : vs.size = 1 then vs[0] else .tuple vs) : Sem Value).run P w = _
    rw [Array.mapM_eq_mapM_toList]
    simp only [Sem.run_bind, Sem.run_map, hx, Result.andThen_ok, Sem.run_pure]
  split at hv
  · rename_i a ha
    cases hv
    obtain ⟨xs, h1, h2⟩ := results_R S _ _ ha
    obtain ⟨x, ys, rfl, h3, h4⟩ := h2
    simp only [VRs] at h4; subst h4
    exact ⟨x, by rw [hrun _ h1]; rfl, h3⟩
  · rename_i l hne ha
    cases hv
    obtain ⟨xs, h1, h2⟩ := results_R S _ _ ha
    have hl := h2.length
    refine ⟨.tuple xs.toArray, ?_, ⟨xs.toArray, rfl, h2⟩⟩
    rw [hrun _ h1, dif_neg]
    simp only [List.size_toArray]
    intro e
    cases l with
    | nil => simp at hl; simp [hl] at e
    | cons a l => cases l with
      | nil => exact hne a rfl
      | cons b l => simp at hl; omega
  · cases hv

theorem finF_R {f : FuncId} {fn : Func} {fr : FT} {h : H} {v : AV} {h' : H} (e : finF f (fn.results.toList.map (erOf P)) (.ret fr h) = .ret v h') (S : Sta E A n all fr h act.tmps w) :
    h' = h ∧ ∃ x, (results fn act.tmps).run P w = .ok x w ∧ VR A.s v x := by
  unfold finF at e
  simp only at e
  split at e
  · rename_i v' hv
    cases e
    obtain ⟨x, g1, g2⟩ := result_R (P := P) S hv
    exact ⟨rfl, x, g1, g2⟩
  · cases e
theorem finF_nopan {f : FuncId} {res : List ER} {fr : FT} {h : H} {v : AV} {h' : H} : finF f res (.ret fr h) ≠ .pan v h' := by
  unfold finF
  simp only
  split <;> simp
def Told (E : Ent) (r : CR) : Ending → World → Prop := fun e w' => match r with
  | .ret v h' => ∃ x A', e = .returned x ∧ VR A'.s v x ∧ Inv E A' h' w'
  | .pan v h' => ∃ x A' older, NoExit older ∧ e = .panicked ({ v := x, recovered := false } :: older) ∧ VR A'.s v x ∧ Inv E A' h' w'
  | .bad _ => False

theorem fin_R {f : FuncId} {fn : Func} {o : Out} (hb : ∀ k, finF f (fn.results.toList.map (erOf P)) o ≠ .bad k) : OutR E n [] (bodyPostD P fn (Told E (finF f (fn.results.toList.map (erOf P)) o))) [] o := by
  cases o with
  | norm fr h =>
    intro A a w S hd
    show Leaves P fn a.tmps _ a.defers .returning w
    rw [hd]
    cases hr : finF f (fn.results.toList.map (erOf P)) (.norm fr h) with
    | ret v h' =>
      obtain ⟨rfl, x, g1, g2⟩ := finF_R (f := f) (fr := fr) (h := h) hr S
      exact ⟨x, g1, x, A, rfl, g2, S.inv⟩
    | pan v h' => exact absurd hr (finF_nopan (f := f))
    | bad k => exact absurd hr (hb k)
  | ret fr h =>
    intro A a w S hd
    show Leaves P fn a.tmps _ a.defers .returning w
    rw [hd]
    cases hr : finF f (fn.results.toList.map (erOf P)) (.ret fr h) with
    | ret v h' =>
      obtain ⟨rfl, x, g1, g2⟩ := finF_R (f := f) (fr := fr) (h := h) hr S
      exact ⟨x, g1, x, A, rfl, g2, S.inv⟩
    | pan v h' => exact absurd hr (finF_nopan (f := f))
    | bad k => exact absurd hr (hb k)
  | pan v fr h =>
    intro A x a w older hno hx S hd
    show Leaves P fn a.tmps _ a.defers (.panicking _) w
    rw [hd]
    exact ⟨x, A, older, hno, rfl, hx, S.inv⟩
  | exit id fr h => exact absurd rfl (hb 61)
  | bad k => exact absurd rfl (hb _)

def ModeR (A : Asg) : Option AV → FrameMode → Prop
  | none, u => u = .returning
  | some v, u => ∃ x older, NoExit older ∧ VR A.s v x ∧ u = .panicking ({ v := x, recovered := false } :: older)
def ModeBy (recd : Bool) (u u' : FrameMode) : Prop := match recd with
  | false => u' = u
  | true => ∃ x older, NoExit older ∧ u = .panicking ({ v := x, recovered := false } :: older) ∧ u' = .panicking ({ v := x, recovered := true } :: older)
def ToldD (E : Ent) (u : FrameMode) (d : DR) : Ending → FrameMode → World → Prop := fun e u' w' => match d with
  | .ret recd h' => ∃ x A', e = .returned x ∧ Inv E A' h' w' ∧ ModeBy recd u u'
  | .pan v h' => ∃ x A' older, NoExit older ∧ e = .panicked ({ v := x, recovered := false } :: older) ∧ VR A'.s v x ∧ Inv E A' h' w' ∧ (ModeBy true u u' ∨ u' = u)
  | .bad _ => False
theorem finD_R {fn : Func} {recd : Bool} {u u' : FrameMode} {o : Out} (c0 : Frame) (cs : List Frame) (hb : ∀ k, finD recd (fn.results.toList.map (erOf P)) o ≠ .bad k) (hu : ModeBy recd u u') :
    OutR E n [] (fun e a w => bodyPostS P fn c0 cs (ToldD E u (finD recd (fn.results.toList.map (erOf P)) o)) e a ({ c0 with mode := u' } :: cs) w) [] o := by
  have hret : ∀ fr h, finD recd (fn.results.toList.map (erOf P)) (.ret fr h) = finD recd (fn.results.toList.map (erOf P)) o → ∀ A (a : Act) w, Sta E A n all fr h a.tmps w → a.defers = [] →
      a.defers = [] ∧ ∃ v', ({ c0 with mode := u' } :: cs : List Frame) = { c0 with mode := v' } :: cs ∧ ∃ v, (results fn a.tmps).run P w = .ok v w ∧ ToldD E u (finD recd (fn.results.toList.map (erOf P)) o) (.returned v) v' w := by
    intro fr h e A a w S hd
    refine ⟨hd, u', rfl, ?_⟩
    cases hv : resultV (fn.results.toList.map (erOf P)) fr h with
    | none => exfalso; exact hb 60 (by rw [← e]; simp [finD, hv])
    | some v =>
      obtain ⟨x, g1, g2⟩ := result_R (P := P) S hv
      refine ⟨x, g1, ?_⟩
      have e' : finD recd (fn.results.toList.map (erOf P)) o = .ret recd h := by rw [← e]; simp [finD, hv]
      rw [e']
      exact ⟨x, A, rfl, S.inv, hu⟩
  cases o with
  | norm fr h => exact fun A a w S hd => hret fr h rfl A a w S hd
  | ret fr h => exact fun A a w S hd => hret fr h rfl A a w S hd
  | pan v fr h =>
    intro A x a w older hno hx S hd
    refine ⟨hd, u', rfl, x, A, older, hno, rfl, hx, S.inv, ?_⟩
    cases recd with
    | true => exact .inl hu
    | false => exact .inr hu
  | exit id fr h => exact absurd rfl (hb 61)
  | bad k => exact absurd rfl (hb _)

theorem lastOf_eq : ∀ {l i : List Oper} {o : Oper}, lastOf l = some (i, o) → l = i ++ [o]
  | [], _, _, h => by cases h
  | [x], _, _, h => by cases h; rfl
  | x :: y :: l, i, o, h => by
    simp only [lastOf] at h
    split at h
    · rename_i i' o' h'
      cases h
      rw [lastOf_eq h']; rfl
    · cases h
theorem cutRec_eq : ∀ {l a b : List Oper} {o : Oper}, cutRec l = some (a, o, b) → l = a ++ o :: b ∧ isRecover o = true
  | [], _, _, _, h => by cases h
  | x :: l, a, b, o, h => by
    simp only [cutRec] at h
    split at h
    · rename_i hx
      cases h
      exact ⟨rfl, hx⟩
    · split at h
      · rename_i a' o' b' h'
        cases h
        obtain ⟨h1, h2⟩ := cutRec_eq h'
        exact ⟨by rw [h1]; rfl, h2⟩
      · cases h
theorem list_then {call : Calls'} (hcall : CallOk E P call) {loc : List Tmp} {ops : Array Oper} {Q : Exit → Act → World → Prop} {df : List Deferred} {rest : List Oper} : ∀ (l : List Oper), (∀ o ∈ l, DstOk n o) → ∀ {A fr h act w},
    Sta E A n all fr h act.tmps w → act.defers = df → (match evSteps call (l.map (stOf P loc ops)) fr h with
      | .norm fr h => ∀ A a w, Sta E A n all fr h a.tmps w → a.defers = df → wpList P ops Q rest a w
      | x => OutR E n df Q [] x) → wpList P ops Q (l ++ rest) act w
  | [], _, A, fr, h, act, w, S, hdf, ho => ho A act w S hdf
  | o :: l, hd, A, fr, h, act, w, S, hdf, ho => by
    rw [List.map_cons, evSteps_cons] at ho
    have hw : OpWp P ops Q o (wpList P ops Q (l ++ rest)) act w := by
      cases hs : evStep call (stOf P loc ops o) fr h with
      | norm fr' h' =>
        rw [hs] at ho
        exact step_norm hcall S looks_all (hd o (by simp)) (fun _ _ => trivial) hs (fun A' a' w' S' e _ _ => list_then hcall l (fun q hq => hd q (by simp [hq])) S' (e.trans hdf) ho)
      | pan v fr' h' =>
        rw [hs] at ho
        exact step_pan hcall S looks_all hs (fun A' x w' older hno hx S' => ho A' x act w' older hno hx S' hdf)
      | bad k => rw [hs] at ho; exact ho.elim
      | exit id f g => exact absurd hs (evStep_kinds.1 _ _ _)
      | ret f g => exact absurd hs (evStep_kinds.2 _ _)
    unfold OpWp at hw
    rw [List.cons_append]
    unfold wpList
    split
    · rename_i hq; rw [if_pos hq] at hw; exact .inl hw
    · rename_i hq; rw [if_neg hq] at hw; exact hw
theorem nobox_get : ∀ (p : Path) (t : FT), nobox t = true → ∀ g l, get p t ≠ some (.box g l)
  | _, .nil, _, g, l => by rw [get_nil]; simp
  | p, .node v a b c d, h, g, l => by
    have h : (match (match v with | some (.box _ _) => false | _ => true) with
      | true => (match nobox a with | true => (match nobox b with | true => (match nobox c with | true => nobox d | false => false) | false => false) | false => false)
      | false => false) = true := h
    split at h
    · rename_i hv
      split at h
      · rename_i ha
        split at h
        · rename_i hb
          split at h
          · rename_i hc
            cases p with
            | nil =>
              show v ≠ _
              rintro rfl
              simp at hv
            | cons x p =>
              cases x
              · exact nobox_get p a ha g l
              · exact nobox_get p b hb g l
              · exact nobox_get p c hc g l
              · exact nobox_get p d h g l
          · cases h
        · cases h
      · cases h
    · cases h
def DefR (P : Program) (A : Asg) (g : FuncId) (as : List AV) (d : Deferred) : Prop :=
  ∃ fv cap args, d.target = .fn fv cap ∧ VRs A.s as args.toList ∧ ∀ w, (∃ fn, P.funcs[g]? = some fn ∧ fn.name ≠ "runtime.NumGoroutine" ∧ fn.body.isSome = true) → (invoke d.target d.args).run P w = .ok (.enter g args) w
def TopR (P : Program) (E : Ent) (n : Nat) (Q : Exit → Act → World → Prop) : Out × Option (FuncId × List AV) → Prop
  | (o, none) => OutR E n [] Q [] o
  | (o, some (g, as)) => ∀ A h w d, Inv E A h w → HR A h w → DefR P A g as d → OutR ⟨A, h, w⟩ n [d] Q [] o
end Go.Ev
namespace Go.Ev
set_option linter.unusedSectionVars false
variable [Unk]
variable {P : Program} {fr fr' : FT}

def Same (fr fr' : FT) (x : Operand) : Prop := gv (rd x) fr' = gv (rd x) fr ∧ place (rd x) fr' = place (rd x) fr
theorem same_of {x : Operand} (hx : ∀ t, x = .tmp t → sh (get (pathOf t) fr') = sh (get (pathOf t) fr)) : Same fr fr' x := by
  cases x with
  | tmp t =>
    have h := hx t rfl
    unfold Same
    simp only [rd, gv, place]
    cases h1 : get (pathOf t) fr' with
    | none => cases h2 : get (pathOf t) fr with
      | none => exact ⟨rfl, rfl⟩
      | some b => rw [h1, h2] at h; cases b <;> simp [sh] at h
    | some a => cases h2 : get (pathOf t) fr with
      | none => rw [h1, h2] at h; cases a <;> simp [sh] at h
      | some b =>
        rw [h1, h2] at h
        cases a <;> cases b <;> simp [sh] at h <;> first | (subst h; exact ⟨rfl, rfl⟩) | exact ⟨rfl, rfl⟩ | (obtain ⟨h3, h4, h5⟩ := h; subst h3; subst h4; subst h5; exact ⟨rfl, rfl⟩)
  | const v =>
    unfold Same
    simp only [rd]
    split <;> exact ⟨rfl, rfl⟩
  | func f => exact ⟨rfl, rfl⟩
  | global g => exact ⟨rfl, rfl⟩
theorem gvs_congr : ∀ {xs : List Operand}, (∀ x ∈ xs, Same fr fr' x) → gvs (xs.map rd) fr' = gvs (xs.map rd) fr
  | [], _ => rfl
  | x :: xs, h => by
    simp only [List.map_cons, gvs]
    rw [(h x (by simp)).1, gvs_congr (xs := xs) (fun y hy => h y (by simp [hy]))]
theorem gvo_congr {x : Option Operand} (h : ∀ y, x = some y → Same fr fr' y) : gvo (rdo x) fr' = gvo (rdo x) fr := by
  cases x with
  | none => rfl
  | some y => simp only [rdo, gvo]; rw [(h y rfl).1]
theorem fill_congr : ∀ {qs : List (Nat × Nat × Rd)}, (∀ q ∈ qs, gv q.2.2 fr' = gv q.2.2 fr) → ∀ z, fill qs fr' z = fill qs fr z
  | [], _, _ => rfl
  | (off, m, r) :: qs, h, z => by
    simp only [fill]
    have h0 : gv r fr' = gv r fr := h (off, m, r) (by simp)
    rw [h0]
    split
    · split
      · split
        · split
          · exact fill_congr (fun q hq => h q (by simp [hq])) _
          · rfl
        · rfl
      · rfl
    · rfl
theorem partsL_rd {places : List (Nat × Nat)} : ∀ {ps : List (Nat × Operand)} {qs : List (Nat × Nat × Rd)}, partsL places ps = some qs → ∀ q ∈ qs, ∃ x ∈ ps.map (·.2), q.2.2 = rd x
  | [], qs, h => by simp [partsL] at h; subst h; intro q hq; simp at hq
  | (i, x) :: ps, qs, h => by
    simp only [partsL] at h
    split at h
    · rename_i off m r ho hr
      cases h
      intro q hq
      simp at hq
      rcases hq with rfl | hq
      · exact ⟨x, by simp, rfl⟩
      · obtain ⟨y, hy, e⟩ := partsL_rd hr q hq
        exact ⟨y, by simp at hy ⊢; exact .inr hy, e⟩
    · cases h

theorem pure_congr {loc : List Tmp} {o : Oper} {why : Nat} {f : FT → Option Sl} (hc : comp P loc o = some (.pure why f)) (hs : ∀ x ∈ o.op.operands, Same fr fr' x) : f fr' = f fr := by
  obtain ⟨dst, op, type, pos, after, guard⟩ := o
  unfold comp at hc
  cases op <;> simp only at hc
  all_goals try (cases hc; done)
  case move x => cases hc; simp only [vMove, (hs x (by simp [Op.operands])).1]
  case assign x => cases hc; simp only [vMove, (hs x (by simp [Op.operands])).1]
  case pick c x y => cases hc; simp only [vPick, (hs c (by simp [Op.operands])).1, (hs x (by simp [Op.operands])).1, (hs y (by simp [Op.operands])).1]
  case alloc t =>
    split at hc
    · split at hc
      · split at hc <;> cases hc
      · cases hc
    · cases hc
  case box t x =>
    split at hc
    · split at hc
      · split at hc <;> cases hc
      · cases hc
    · cases hc
  case build t ps =>
    split at hc
    · split at hc
      · split at hc
        · rename_i qs hq
          cases hc
          simp only [vBuild]
          rw [fill_congr (fun q hqq => ?_)]
          obtain ⟨x, hx, e⟩ := partsL_rd hq q hqq
          rw [e]
          exact (hs x (by simp only [Op.operands]; exact List.mem_toArray.2 hx)).1
        · cases hc
      · cases hc
    · cases hc
  case buildSlice t m ps =>
    split at hc
    · split at hc
      · split at hc <;> cases hc
      · cases hc
    · cases hc
  case load t x =>
    split at hc
    · split at hc <;> cases hc
    · cases hc
  case store t x y =>
    split at hc
    · split at hc <;> cases hc
    · cases hc
  case nilCheck x => cases hc; simp only [vNilCheck, (hs x (by simp [Op.operands])).1, (hs x (by simp [Op.operands])).2]
  case binOp op t x y yt =>
    split at hc <;> first | cases hc | skip
    simp only [vBin, (hs x (by simp [Op.operands])).1, (hs y (by simp [Op.operands])).1]
  case unOp op t x => cases hc; simp only [vUn, (hs x (by simp [Op.operands])).1]
  case convert s0 t x =>
    split at hc
    · cases hc; simp only [vConvInt, (hs x (by simp [Op.operands])).1]
    · cases hc; simp only [vConvStr, (hs x (by simp [Op.operands])).1]
    · split at hc <;> cases hc
    · split at hc <;> cases hc
    · cases hc
  case typeAssert x xt t ok =>
    cases ok <;> simp only at hc
    · cases hc
    · split at hc
      · cases hc
      · split at hc
        · cases hc; simp only [vAssert, (hs x (by simp [Op.operands])).1]
        · cases hc
      · cases hc
  case lookup t x k comma =>
    split at hc
    · split at hc <;> cases hc
    · cases hc
  case makeMap t r => cases r <;> simp only at hc <;> cases hc
  case insert t m k v =>
    split at hc
    · split at hc <;> cases hc
    · cases hc
  case mapUpdate t m k v =>
    split at hc
    · split at hc <;> cases hc
    · cases hc
  case makeInterface t x =>
    split at hc
    · cases hc
    · cases hc; simp only [vIface, (hs x (by simp [Op.operands])).1]
    · cases hc
  case makeFunc g a c =>
    cases g <;> simp only at hc
    all_goals try (cases hc; done)
    cases hc
    simp only [vFunc]
    rw [gvs_congr (xs := a.toList) (fun x hx => hs x (by simp only [Op.operands, Array.mem_append]; exact .inl (by simpa using hx))), gvs_congr (xs := c.toList) (fun x hx => hs x (by simp only [Op.operands, Array.mem_append]; exact .inr (by simpa using hx)))]
  case makeSlice t l c =>
    split at hc
    · split at hc <;> cases hc
    · cases hc
  case slice t x lo hi mx =>
    cases mx with
    | some _ => simp only at hc; cases hc
    | none =>
      simp only at hc
      have hx := hs x (by simp [Op.operands])
      have hlo := gvo_congr (fr := fr) (fr' := fr') (x := lo) (fun y e => hs y (by subst e; cases hi <;> simp [Op.operands]))
      have hhi := gvo_congr (fr := fr) (fr' := fr') (x := hi) (fun y e => hs y (by subst e; cases lo <;> simp [Op.operands]))
      split at hc
      · cases hc; simp only [vSliceS, hx.1, hlo, hhi]
      · split at hc
        · split at hc
          · cases hc; simp only [vSlice, hx.1, hlo, hhi]
          · cases hc
        · cases hc
      · cases hc
  case fieldAddr t x i =>
    split at hc
    · split at hc
      · cases hc; simp only [vFieldAddr, (hs x (by simp [Op.operands])).2]
      · cases hc
    · cases hc
  case field t x i =>
    split at hc
    · split at hc <;> first | cases hc | skip
      simp only [vField, (hs x (by simp [Op.operands])).1]
    · cases hc
  case indexAddr t x ix =>
    split at hc
    · split at hc
      · cases hc; simp only [vIndexAddr, (hs x (by simp [Op.operands])).1, (hs ix (by simp [Op.operands])).1]
      · cases hc
    · split at hc
      · split at hc
        · cases hc; simp only [vIndexArr, (hs x (by simp [Op.operands])).1, (hs ix (by simp [Op.operands])).1]
        · cases hc
      · cases hc
  case index t x ix =>
    split at hc
    · cases hc; simp only [vIndex, (hs x (by simp [Op.operands])).1, (hs ix (by simp [Op.operands])).1]
    · cases hc
  case extract x i => cases hc; simp only [vExtract, (hs x (by simp [Op.operands])).1]
  case call c =>
    obtain ⟨callee, args, argTypes⟩ := c
    cases callee <;> simp only at hc
    case value g => cases hc
    case invoke r m => cases hc
    case builtin b =>
      cases b <;> simp only at hc
      all_goals try (cases hc; done)
      case append =>
        split at hc
        · split at hc
          · split at hc <;> cases hc
          · split at hc <;> cases hc
          · cases hc
        · cases hc
      case copy =>
        split at hc
        · split at hc
          · split at hc <;> cases hc
          · cases hc
        · cases hc
      case len =>
        split at hc
        · rename_i x t ha ht0
          have ha' : args = #[x] := by rw [← Array.toList_inj]; exact ha
          subst ha'
          split at hc
          · cases hc; simp only [vLenS, (hs x (by simp [Op.operands, Call.operands])).1]
          · cases hc; simp only [vLen, (hs x (by simp [Op.operands, Call.operands])).1]
          · cases hc
        · cases hc
      case min =>
        split at hc
        · rename_i x y ha
          have ha' : args = #[x, y] := by rw [← Array.toList_inj]; exact ha
          subst ha'
          cases hc; simp only [vMinMax, (hs x (by simp [Op.operands, Call.operands])).1, (hs y (by simp [Op.operands, Call.operands])).1]
        · cases hc
      case max =>
        split at hc
        · rename_i x y ha
          have ha' : args = #[x, y] := by rw [← Array.toList_inj]; exact ha
          subst ha'
          cases hc; simp only [vMinMax, (hs x (by simp [Op.operands, Call.operands])).1, (hs y (by simp [Op.operands, Call.operands])).1]
        · cases hc
theorem new_congr {loc : List Tmp} {o : Oper} {why : Nat} {f : FT → Option (Blk × Option Nat)} (hc : comp P loc o = some (.new why f)) (hs : ∀ x ∈ o.op.operands, Same fr fr' x) : f fr' = f fr := by
  obtain ⟨dst, op, type, pos, after, guard⟩ := o
  unfold comp at hc
  cases op <;> simp only at hc
  all_goals try (cases hc; done)
  case alloc t =>
    split at hc
    · split at hc
      · split at hc
        · cases hc
        · cases hc; rfl
      · cases hc
    · cases hc
  case box t x =>
    split at hc
    · split at hc
      · split at hc
        · cases hc
        · cases hc; simp only [nBoxV, (hs x (by simp [Op.operands])).1]
      · cases hc
    · cases hc
  case build t ps =>
    split at hc
    · split at hc
      · split at hc <;> cases hc
      · cases hc
    · cases hc
  case buildSlice t m ps =>
    split at hc
    · split at hc
      · split at hc
        · cases hc
          simp only [nSlice]
          rw [fill_congr (fun q hqq => ?_)]
          obtain ⟨p, hp, rfl⟩ := List.mem_map.1 hqq
          exact (hs p.2 (by simp only [Op.operands]; exact List.mem_toArray.2 (List.mem_map.2 ⟨p, hp, rfl⟩))).1
        · cases hc
      · cases hc
    · cases hc
  case load t x =>
    split at hc
    · split at hc <;> cases hc
    · cases hc
  case store t x y =>
    split at hc
    · split at hc <;> cases hc
    · cases hc
  case binOp op t x y yt =>
    split at hc <;> cases hc
  case convert s0 t x =>
    split at hc
    · cases hc
    · cases hc
    · split at hc <;> cases hc
    · split at hc
      · cases hc; simp only [nBytes, (hs x (by simp [Op.operands])).1]
      · cases hc
    · cases hc
  case typeAssert x xt t ok =>
    cases ok <;> simp only at hc
    · cases hc
    · split at hc
      · cases hc
      · split at hc <;> cases hc
      · cases hc
  case lookup t x k comma =>
    split at hc
    · split at hc <;> cases hc
    · cases hc
  case makeMap t r => cases r <;> simp only at hc <;> cases hc
  case insert t m k v =>
    split at hc
    · split at hc <;> cases hc
    · cases hc
  case mapUpdate t m k v =>
    split at hc
    · split at hc <;> cases hc
    · cases hc
  case makeInterface t x =>
    split at hc <;> cases hc
  case makeFunc g a c =>
    cases g <;> simp only at hc
    all_goals cases hc
  case makeSlice t l c =>
    split at hc
    · split at hc
      · cases hc; simp only [nMake, (hs l (by simp [Op.operands])).1, (hs c (by simp [Op.operands])).1]
      · cases hc
    · cases hc
  case slice t x lo hi mx =>
    cases mx with
    | some _ => simp only at hc; cases hc
    | none =>
      simp only at hc
      split at hc
      · cases hc
      · split at hc
        · split at hc <;> cases hc
        · cases hc
      · cases hc
  case fieldAddr t x i =>
    split at hc
    · split at hc <;> cases hc
    · cases hc
  case field t x i =>
    split at hc
    · split at hc <;> cases hc
    · cases hc
  case indexAddr t x ix =>
    split at hc
    · split at hc <;> cases hc
    · split at hc
      · split at hc <;> cases hc
      · cases hc
  case index t x ix =>
    split at hc <;> cases hc
  case call c =>
    obtain ⟨callee, args, argTypes⟩ := c
    cases callee <;> simp only at hc
    case value g => cases hc
    case invoke r m => cases hc
    case builtin b =>
      cases b <;> simp only at hc
      all_goals try (cases hc; done)
      case append =>
        split at hc
        · split at hc
          · split at hc <;> cases hc
          · split at hc <;> cases hc
          · cases hc
        · cases hc
      case copy =>
        split at hc
        · split at hc
          · split at hc <;> cases hc
          · cases hc
        · cases hc
      case len =>
        split at hc
        · split at hc <;> cases hc
        · cases hc
      case min =>
        split at hc <;> cases hc
      case max =>
        split at hc <;> cases hc
end Go.Ev
namespace Go.Ev
set_option linter.unusedSectionVars false
variable [Unk]

theorem memN_iff {i : Nat} {l : List Nat} : memN i l = true ↔ i ∈ l := by
  unfold memN
  rw [List.any_eq_true]
  constructor
  · rintro ⟨x, hx, h⟩; rw [Nat.eq_of_beq_eq_true h]; exact hx
  · exact fun h => ⟨i, h, Nat.beq_refl i⟩
theorem preds_iff {o : Oper} {j : Nat} : j ∈ preds o ↔ ∃ e ∈ o.after, Region.binds .any e = true ∧ e.on = j := by
  unfold preds
  simp only [List.mem_map, List.mem_filter, Array.mem_toList_iff]
  constructor
  · rintro ⟨e, ⟨h1, h2⟩, h3⟩; exact ⟨e, h1, h2, h3⟩
  · rintro ⟨e, h1, h2, h3⟩; exact ⟨e, ⟨h1, h2⟩, h3⟩
theorem zip_all {L : List Oper} {f : Nat × Oper → Bool} (h : ((List.range L.length).zip L).all f = true) {i : Nat} {o : Oper} (hi : L[i]? = some o) : f (i, o) = true := by
  rw [List.all_eq_true] at h
  apply h
  rw [List.mem_iff_getElem?]
  have hlt : i < L.length := by rcases Nat.lt_or_ge i L.length with h | h; exact h; rw [List.getElem?_eq_none h] at hi; cases hi
  exact ⟨i, by rw [List.getElem?_zip_eq_some]; exact ⟨by simp [hlt], hi⟩⟩
def Lst (lst : Array Bool) (i : Nat) : Prop := lst.getD i false = true
def Unl (lst : Array Bool) (i : Nat) : Prop := lst.getD i true = false
theorem not_both {lst : Array Bool} {i : Nat} (h1 : Lst lst i) (h2 : Unl lst i) : False := by
  unfold Lst at h1; unfold Unl at h2
  rw [Array.getD_eq_getD_getElem?] at h1 h2
  cases h : lst[i]? <;> rw [h] at h1 h2 <;> simp_all
theorem either {lst : Array Bool} {i : Nat} (h : i < lst.size) : Lst lst i ∨ Unl lst i := by
  unfold Lst Unl
  simp only [Array.getD_eq_getD_getElem?, Array.getElem?_eq_getElem h, Option.getD_some]
  cases lst[i] <;> simp
theorem unl_lt {lst : Array Bool} {i : Nat} (h : Unl lst i) : i < lst.size := by
  unfold Unl at h
  rcases Nat.lt_or_ge i lst.size with h' | h'
  · exact h'
  · rw [Array.getD_eq_getD_getElem?, Array.getElem?_eq_none h'] at h; cases h
theorem lst_set {lst : Array Bool} {i j : Nat} : Lst (lst.setIfInBounds i true) j → j = i ∨ Lst lst j := fun h => by
  by_cases e : j = i
  · exact .inl e
  · right; unfold Lst at *; rwa [getD_set_ne false (fun e' => e e'.symm)] at h
theorem lst_old {lst : Array Bool} {i j : Nat} (h : Lst lst j) : Lst (lst.setIfInBounds i true) j := getD_set_true h
theorem lst_new {lst : Array Bool} {i : Nat} (h : i < lst.size) : Lst (lst.setIfInBounds i true) i := by
  unfold Lst
  simp [h]
theorem unl_set {lst : Array Bool} {i j : Nat} (h : Unl (lst.setIfInBounds i true) j) : j ≠ i ∧ Unl lst j := by
  have hne : j ≠ i := fun e => by
    subst e
    have hs := unl_lt h
    rw [Array.size_setIfInBounds] at hs
    exact not_both (lst_new hs) h
  exact ⟨hne, by unfold Unl at *; rwa [getD_set_ne true (fun e' => hne e'.symm)] at h⟩
theorem unl_keep {lst : Array Bool} {i j : Nat} (h : Unl lst j) (hne : j ≠ i) : Unl (lst.setIfInBounds i true) j := by
  unfold Unl at *; rwa [getD_set_ne true (fun e' => hne e'.symm)]

section
variable {P : Program} {E : Ent} {A : Asg} {n : Nat} {fr : FT} {act : Act} {w : World} {h : H} {loc : List Tmp} {ops : Array Oper} {call : Calls'}

theorem apart_spec (hap : apartIn ops.toList = true) {i j : Nat} {o q : Oper} (hi : ops.toList[i]? = some o) (hj : ops.toList[j]? = some q) {d : Tmp} (hd : q.dst = some d) :
    (j = i → heavy q = true ∨ d ∉ o.looksAt ops) ∧ (j ≠ i → (d ∉ o.looksAt ops ∨ j ∈ preds o ∨ (heavy q = true ∧ i ∈ preds q)) ∧ ∀ e, o.dst = some e → d ≠ e) := by
  unfold apartIn at hap
  have h1 := zip_all hap hj
  simp only [hd, Bool.and_eq_true, Array.toArray_toList] at h1
  obtain ⟨h1, h2⟩ := h1
  constructor
  · rintro rfl
    rw [hi] at hj; cases hj
    simpa using h1
  · intro hne
    have h3 := zip_all h2 hi
    have hb : Nat.beq i j = false := by rw [natBeq]; exact decide_eq_false (fun e => hne e.symm)
    simp only [hb, Bool.false_or, Bool.and_eq_true, Bool.or_eq_true, memN_iff] at h3
    obtain ⟨h3, h4⟩ := h3
    refine ⟨?_, fun e he => ?_⟩
    · rcases h3 with (h3 | h3) | h3
      · exact .inl (by simpa using h3)
      · exact .inr (.inl h3)
      · exact .inr (.inr h3)
    · rw [he] at h4
      intro e'
      subst e'
      simp at h4

def KindR (c : Bool) (Ph : Path → Prop) (fr : FT) (h : H) (dst : Option Tmp) : OpF → Prop
  | .pure _ val => ∃ s, val fr = some s ∧ ∀ t, dst = some t → get (pathOf t) fr = some s
  | .look _ val => c = true → ∃ s, val fr h = some s ∧ ∀ t, dst = some t → get (pathOf t) fr = some s
  | .new _ val => ∃ b m p, Ph p ∧ val fr = some (b, m) ∧ get p h.t = some b ∧ ∀ t, dst = some t → get (pathOf t) fr = some (newS p b.k m)
  | .eff _ => False
def PendR (P : Program) (loc : List Tmp) (ops : Array Oper) (c : Bool) (Ph : Path → Prop) (fr : FT) (h : H) (o : Oper) : Prop :=
  ∃ g f, stOf P loc ops o = .op g f (dst? o) ∧ ((wantedF g fr = some false ∧ ∀ t, o.dst = some t → get (pathOf t) fr = some .und) ∨ (wantedF g fr = some true ∧ KindR c Ph fr h o.dst f))
def okD (ops : Array Oper) (pre : List Nat) (lst : Array Bool) (p : Path) : Prop := ∀ i ∈ pre, Unl lst i → ∀ o t, ops.toList[i]? = some o → o.dst = some t → p ≠ pathOf t
structure DInv (P : Program) (loc : List Tmp) (ops : Array Oper) (E : Ent) (n : Nat) (c : Bool) (pre : List Nat) (lst : Array Bool) (A : Asg) (fr : FT) (h : H) (tmps : Array Value) (w : World) (Ph : Nat → Path → Prop) : Prop where
  size : lst.size = ops.size
  rng : ∀ i ∈ pre, i < ops.size
  pc : ∀ i ∈ pre, ∀ o, ops.toList[i]? = some o → ∀ j ∈ preds o, j ∈ pre
  sub : ∀ i, Lst lst i → i ∈ pre
  pend : ∀ i ∈ pre, Unl lst i → ∀ o, ops.toList[i]? = some o → heavy o = false ∧ PendR P loc ops c (Ph i) fr h o
  down : ∀ i o, Lst lst i → ops.toList[i]? = some o → ∀ j ∈ preds o, Lst lst j
  sta : Sta E A n (okD ops pre lst) fr h tmps w
  inj : ∀ i j p q, Ph i p → Ph j q → i ≠ j → p ≠ q
  free : ∀ i p, Ph i p → A.s p = none ∧ num E.h.next ≤ num p ∧ num p < num h.next

theorem Sta.weaken {ok ok' : Path → Prop} {tmps : Array Value} (S : Sta E A n ok fr h tmps w) (h1 : ∀ p, ok' p → ok p) (h2 : ∀ p, ok p → ok' p) : Sta E A n ok' fr h tmps w where
  inv := S.inv
  frr := ⟨S.frr.size, fun t s hk hs => S.frr.slot t s (h1 _ hk) hs, fun p g l hp => h2 _ (S.frr.bok p g l hp), S.frr.once⟩
  bge := S.bge

theorem DInv.looks {c : Bool} {pre : List Nat} {lst : Array Bool} {Ph : Nat → Path → Prop} (hap : apartIn ops.toList = true) (D : DInv P loc ops E n c pre lst A fr h act.tmps w Ph) {i : Nat} {o : Oper} (hi : ops.toList[i]? = some o)
    (hpr : ∀ j ∈ preds o, Lst lst j) : LooksOk (okD ops pre lst) ops o := by
  intro t ht j hj hu q t' hq hd e
  have e := pathOf_inj e
  subst e
  obtain ⟨h1, h2⟩ := apart_spec hap hi hq hd
  obtain ⟨hh, _⟩ := D.pend j hj hu q hq
  by_cases hji : j = i
  · rcases h1 hji with h3 | h3
    · rw [hh] at h3; cases h3
    · exact h3 ht
  · rcases (h2 hji).1 with h3 | h3 | ⟨h3, _⟩
    · exact h3 ht
    · exact not_both (hpr j h3) hu
    · rw [hh] at h3; cases h3
theorem DInv.listed {pre : List Nat} {lst : Array Bool} {Ph : Nat → Path → Prop} {tmps tmps' : Array Value} {A' : Asg} {w' : World} (D : DInv P loc ops E n true pre lst A fr h tmps w Ph) {i : Nat} {o : Oper} (hi : ops.toList[i]? = some o) (hip : i ∈ pre)
    (hpr : ∀ j ∈ preds o, Lst lst j) {Ph' : Nat → Path → Prop} (hph : ∀ j p, j ≠ i → Ph j p → Ph' j p) (hinj : ∀ i j p q, Ph' i p → Ph' j q → i ≠ j → p ≠ q)
    (hfree : ∀ i p, Ph' i p → A'.s p = none ∧ num E.h.next ≤ num p ∧ num p < num h.next) (S : Sta E A' n (okD ops pre (lst.setIfInBounds i true)) fr h tmps' w') :
    DInv P loc ops E n true pre (lst.setIfInBounds i true) A' fr h tmps' w' Ph' where
  size := by rw [Array.size_setIfInBounds]; exact D.size
  rng := D.rng
  pc := D.pc
  sub := fun j hj => (lst_set hj).elim (fun e => e ▸ hip) (D.sub j)
  pend := fun j hj hu q hq => by
    obtain ⟨hne, hu'⟩ := unl_set hu
    obtain ⟨h1, g, f, h2, h3⟩ := D.pend j hj hu' q hq
    refine ⟨h1, g, f, h2, h3.imp id fun ⟨h4, h5⟩ => ⟨h4, ?_⟩⟩
    cases f with
    | pure _ val => exact h5
    | look _ val => exact h5
    | new _ val => obtain ⟨b, m, p, h6, h7⟩ := h5; exact ⟨b, m, p, hph j p hne h6, h7⟩
    | eff _ => exact h5
  down := fun j q hj hq k hk => by
    rcases lst_set hj with rfl | hj
    · rw [hi] at hq; cases hq; exact lst_old (hpr k hk)
    · exact lst_old (D.down j q hj hq k hk)
  sta := S
  inj := hinj
  free := hfree
theorem fillD {pre : List Nat} {lst : Array Bool} (S : Sta E A n (okD ops pre lst) fr h act.tmps w) {i : Nat} {o : Oper} (hi : ops.toList[i]? = some o) (hd : DstOk n o) {s : Sl} {v : Value}
    (hsl : ∀ t, o.dst = some t → get (pathOf t) fr = some s) (hs : SlR A w s v) : Sta E A n (okD ops pre (lst.setIfInBounds i true)) fr h (act.put o.dst v).tmps w := by
  rw [put_tmps]
  have h2 : ∀ p, okD ops pre lst p → okD ops pre (lst.setIfInBounds i true) p := fun p hp j hj hu => hp j hj (unl_set hu).2
  cases hdst : o.dst with
  | none =>
    refine S.weaken (fun p hp j hj hu q t hq ht => ?_) h2
    by_cases e : j = i
    · subst e; rw [hi] at hq; cases hq; rw [hdst] at ht; cases ht
    · exact hp j hj (unl_keep hu e) q t hq ht
  | some t =>
    refine ⟨S.inv, S.frr.fill (hd t hdst) (hsl t hdst) hs (fun p hp => ?_) h2, S.bge⟩
    by_cases e : p = pathOf t
    · exact .inl e
    · refine .inr fun j hj hu q t' hq ht' => ?_
      by_cases e' : j = i
      · subst e'; rw [hi] at hq; cases hq; rw [hdst] at ht'; cases ht'; exact e
      · exact hp j hj (unl_keep hu e') q t' hq ht'

theorem light_step {pre : List Nat} {lst : Array Bool} {Ph : Nat → Path → Prop} (hap : apartIn ops.toList = true) (D : DInv P loc ops E n true pre lst A fr h act.tmps w Ph) {i : Nat} {o : Oper} (hi : ops.toList[i]? = some o) (hip : i ∈ pre) (hu : Unl lst i)
    (hpr : ∀ j ∈ preds o, Lst lst j) (hd : DstOk n o) {K : Act → World → Prop} {Q : Exit → Act → World → Prop}
    (hK : ∀ A' a' w' Ph', DInv P loc ops E n true pre (lst.setIfInBounds i true) A' fr h a'.tmps w' Ph' → a'.defers = act.defers → K a' w') : OpWp P ops Q o K act w := by
  have hl := D.looks hap hi hpr
  obtain ⟨_, g, f, hst, hcase⟩ := D.pend i hip hu o hi
  obtain ⟨hc, _, _⟩ := stOf_op hst
  unfold OpWp
  rcases hcase with ⟨hw, hsl⟩ | ⟨hw, hk⟩
  · rw [wanted_R D.sta.frr hl hst hw]
    exact hK A _ w Ph (D.listed hi hip hpr (fun _ _ _ h => h) D.inj D.free (fillD D.sta hi hd hsl rfl)) (put_defers _ _ _)
  · rw [wanted_R D.sta.frr hl hst hw, if_pos rfl]
    have does : ∀ {s}, Does P A act w o s → (∀ t, o.dst = some t → get (pathOf t) fr = some s) → o.wp P act w K Q := by
      rintro s ⟨v, h1, h2, _⟩ hsl
      unfold Oper.wp
      rw [h1]
      exact hK A _ w Ph (D.listed hi hip hpr (fun _ _ _ h => h) D.inj D.free (fillD D.sta hi hd hsl h2)) (put_defers _ _ _)
    cases f with
    | eff _ => exact hk.elim
    | pure _ val =>
      obtain ⟨s, h1, h2⟩ := hk
      exact does (pure_sound hc D.sta.frr hl.op h1) h2
    | look _ val =>
      obtain ⟨s, h1, h2⟩ := hk rfl
      exact does (look_sound hc D.sta.frr D.sta.inv.hr hl.op h1) h2
    | new _ val =>
      obtain ⟨b, m, p, hp, h1, h2, h3⟩ := hk
      obtain ⟨f1, f2, f3⟩ := D.free i p hp
      obtain ⟨v, ob, k, r, g1, g2, g3, g4⟩ := new_sound hc D.sta.frr hl.op f1 h1
      unfold Oper.wp
      rw [g1]
      have S : Sta E (A.withS p r) n (okD ops pre lst) fr h act.tmps (more w ob k) := {
        inv := (D.sta.inv.real (o := ob) h2 f1 f2 g2 (ObR.pushed g3 (fun _ _ e => e) rfl)).drew k
        frr := D.sta.frr.pushed (withS_mono f1) (fun _ _ e => e) (fun g x hg => heap_push (D.sta.inv.hr.bfresh g x hg).2)
        bge := D.sta.bge }
      refine hK (A.withS p r) _ (more w ob k) (fun j q => Ph j q ∧ j ≠ i) (D.listed hi hip hpr (fun j q hne hq => ⟨hq, hne⟩) (fun i' j' p' q' hp' hq' hne => D.inj i' j' p' q' hp'.1 hq'.1 hne) (fun j q hq => ?_) (fillD S hi hd h3 ?_)) (put_defers _ _ _)
      · obtain ⟨e1, e2, e3⟩ := D.free j q hq.1
        refine ⟨?_, e2, e3⟩
        show (if q = p then some r else A.s q) = none
        rw [if_neg (D.inj j i q p hq.1 hp hq.2)]
        exact e1
      · cases m with
        | none => exact g4
        | some m => exact g4
end
end Go.Ev
namespace Go.Ev
set_option linter.unusedSectionVars false
variable [Unk]
section
variable {P : Program} {E : Ent} {A : Asg} {n : Nat} {fr : FT} {act : Act} {w : World} {h : H} {loc : List Tmp} {ops : Array Oper} {call : Calls'}

theorem pure_nobox {o : Oper} {why : Nat} {f : FT → Option Sl} (hc : comp P loc o = some (.pure why f)) {s : Sl} (hv : f fr = some s) : ∀ g l, s ≠ .box g l := by
  obtain ⟨dst, op, type, pos, after, guard⟩ := o
  unfold comp at hc
  cases op <;> simp only at hc
  all_goals try (cases hc; done)
  all_goals (repeat' split at hc)
  all_goals try (cases hc; done)
  all_goals cases hc
  all_goals simp only [vMove, vPick, vBuild, vNilCheck, vBin, vUn, vConvInt, vConvStr, vIface, vFunc, vSliceS, vSlice, vFieldAddr, vField, vIndexAddr, vIndexArr, vIndex, vExtract, vLenS, vLen, vMinMax, vAssert] at hv
  all_goals (repeat' split at hv)
  all_goals first
    | (cases hv; done)
    | (obtain ⟨a, _, rfl⟩ := retV_some hv; intro _ _; simp; done)
    | (cases hv; intro _ _; simp; done)
    | (cases hv; intro _ _; unfold found; split <;> simp; done)
theorem look_nobox {o : Oper} {why : Nat} {f : FT → H → Option Sl} (hc : comp P loc o = some (.look why f)) {s : Sl} (hv : f fr h = some s) : ∀ g l, s ≠ .box g l := by
  obtain ⟨dst, op, type, pos, after, guard⟩ := o
  unfold comp at hc
  cases op <;> simp only at hc
  all_goals try (cases hc; done)
  all_goals (repeat' split at hc)
  all_goals try (cases hc; done)
  all_goals cases hc
  all_goals simp only [lLoad, lBytes, lLookup] at hv
  all_goals (repeat' split at hv)
  all_goals first
    | (cases hv; done)
    | (obtain ⟨a, _, rfl⟩ := retV_some hv; intro _ _; simp; done)
    | (cases hv; intro _ _; simp; done)
    | (cases hv; intro _ _; unfold found; split <;> simp; done)

theorem sh_some {s : Sl} (hs : ∀ g l, s ≠ .box g l) {x : Option Sl} (h : sh x = sh (some s)) : x = some s := by
  cases x with
  | none => cases s <;> simp [sh] at h
  | some y =>
    cases s with
    | box g l => exact absurd rfl (hs g l)
    | v a => cases y <;> simp [sh] at h; rw [h]
    | und => cases y <;> simp [sh] at h; rfl
    | lp d g o => cases y <;> simp [sh] at h; obtain ⟨h1, h2, h3⟩ := h; rw [h1, h2, h3]
theorem wanted_same {o : Oper} {g : Option (Path × Bool)} {f : OpF} {d : Option Path} {fr' : FT} (hst : stOf P loc ops o = .op g f d) (hl : ∀ t ∈ o.looksAt ops, sh (get (pathOf t) fr') = sh (get (pathOf t) fr)) {b : Bool} (hw : wantedF g fr = some b) : wantedF g fr' = some b := by
  obtain ⟨_, _, ⟨rfl, _⟩ | ⟨j, u, t, hg, ht, rfl⟩⟩ := stOf_op hst
  · exact hw
  · have hs := hl t (by simp only [Oper.looksAt, hg, ht]; simp)
    simp only [wantedF] at hw ⊢
    split at hw
    · rename_i v hv
      rw [hv] at hs
      rw [sh_some (by simp) hs]
      exact hw
    · rename_i hv
      rw [hv] at hs
      rw [sh_some (by simp) hs]
      exact hw
    · cases hw
theorem looks_same {o : Oper} {fr' : FT} (hl : ∀ t ∈ o.looksAt ops, sh (get (pathOf t) fr') = sh (get (pathOf t) fr)) : ∀ x ∈ o.op.operands, Same fr fr' x := fun x hx => same_of fun t e => hl t (by
  subst e
  exact List.mem_append_left _ (List.mem_filterMap.2 ⟨.tmp t, by simpa using hx, rfl⟩))
theorem PendR.keep {c : Bool} {Ph Ph' : Path → Prop} {o : Oper} {fr' : FT} {h' : H} (hp : PendR P loc ops c Ph fr h o) (hl : ∀ t ∈ o.looksAt ops, sh (get (pathOf t) fr') = sh (get (pathOf t) fr))
    (hd : ∀ t, o.dst = some t → sh (get (pathOf t) fr') = sh (get (pathOf t) fr) ∧ ∀ g l, get (pathOf t) fr ≠ some (.box g l)) (hph : ∀ p, Ph p → Ph' p ∧ get p h'.t = get p h.t) : PendR P loc ops false Ph' fr' h' o := by
  obtain ⟨g, f, hst, hcase⟩ := hp
  obtain ⟨hc, _, _⟩ := stOf_op hst
  have slot : ∀ t s, o.dst = some t → get (pathOf t) fr = some s → get (pathOf t) fr' = some s := fun t s ht hs => by
    obtain ⟨h1, h2⟩ := hd t ht
    rw [hs] at h1 h2
    exact sh_some (fun g l e => h2 g l (by rw [e])) h1
  refine ⟨g, f, hst, ?_⟩
  rcases hcase with ⟨hw, hs⟩ | ⟨hw, hk⟩
  · exact .inl ⟨wanted_same hst hl hw, fun t ht => slot t _ ht (hs t ht)⟩
  · refine .inr ⟨wanted_same hst hl hw, ?_⟩
    cases f with
    | pure _ val => obtain ⟨s, h1, h2⟩ := hk; exact ⟨s, by rw [pure_congr hc (looks_same hl)]; exact h1, fun t ht => slot t s ht (h2 t ht)⟩
    | look _ val => exact fun e => by cases e
    | new _ val => obtain ⟨b, m, p, h1, h2, h3, h4⟩ := hk; exact ⟨b, m, p, (hph p h1).1, by rw [new_congr hc (looks_same hl)]; exact h2, (hph p h1).2.trans h3, fun t ht => slot t _ ht (h4 t ht)⟩
    | eff _ => exact hk

theorem heavy_step (hcall : CallOk E P call) {pre : List Nat} {lst : Array Bool} {Ph : Nat → Path → Prop} (hap : apartIn ops.toList = true) (D : DInv P loc ops E n true pre lst A fr h act.tmps w Ph) {j : Nat} {o : Oper} (hj : ops.toList[j]? = some o) (hjp : j ∉ pre)
    (hu : Unl lst j) (hpr : ∀ i ∈ preds o, Lst lst i) (hd : DstOk n o) {fr' : FT} {h' : H} (e : evStep call (stOf P loc ops o) fr h = .norm fr' h') {K : Act → World → Prop} {Q : Exit → Act → World → Prop}
    (hK : ∀ A' a' w', DInv P loc ops E n false (pre ++ [j]) (lst.setIfInBounds j true) A' fr' h' a'.tmps w' Ph → a'.defers = act.defers → K a' w') : OpWp P ops Q o K act w := by
  have hl := D.looks hap hj hpr
  have hk : ∀ d, o.dst = some d → okD ops pre lst (pathOf d) := fun d hdd i hi hui q t hq ht e' => by
    have e' := pathOf_inj e'
    subst e'
    have hne : j ≠ i := fun e' => hjp (e' ▸ hi)
    exact ((apart_spec hap hq hj hdd).2 hne).2 _ ht rfl
  refine step_norm hcall D.sta hl hd hk e fun A' a' w' S' hdf hkp hfk => hK A' a' w' ?_ hdf
  have hlt := unl_lt hu
  have hsub : ∀ i ∈ pre ++ [j], Unl (lst.setIfInBounds j true) i → i ∈ pre ∧ Unl lst i := fun i hi hui => by
    obtain ⟨h1, h2⟩ := unl_set hui
    rw [List.mem_append, List.mem_singleton] at hi
    exact ⟨hi.resolve_right h1, h2⟩
  exact {
    size := by rw [Array.size_setIfInBounds]; exact D.size
    rng := fun i hi => by
      rw [List.mem_append, List.mem_singleton] at hi
      rcases hi with hi | rfl
      · exact D.rng i hi
      · rw [← D.size]; exact hlt
    pc := fun i hi q hq k hk => by
      rw [List.mem_append, List.mem_singleton] at hi
      rw [List.mem_append]
      rcases hi with hi | rfl
      · exact .inl (D.pc i hi q hq k hk)
      · rw [hj] at hq; cases hq; exact .inl (D.sub k (hpr k hk))
    sub := fun i hi => by
      rw [List.mem_append, List.mem_singleton]
      exact (lst_set hi).elim .inr fun h1 => .inl (D.sub i h1)
    pend := fun i hi hui q hq => by
      obtain ⟨hip, hui'⟩ := hsub i hi hui
      obtain ⟨h1, h2⟩ := D.pend i hip hui' q hq
      have hne : j ≠ i := fun e' => hjp (e' ▸ hip)
      refine ⟨h1, h2.keep (fun t ht => hfk _ fun e' => ?_) (fun t ht => ⟨hfk _ fun e' => ?_, fun g l hb => ?_⟩) (fun p hp => ?_)⟩
      · unfold dst? at e'
        cases hdd : o.dst with
        | none => rw [hdd] at e'; cases e'
        | some d =>
          rw [hdd] at e'
          have e' : some (pathOf d) = some (pathOf t) := e'
          have := pathOf_inj (Option.some.inj e')
          subst this
          rcases ((apart_spec hap hq hj hdd).2 hne).1 with h3 | h3 | ⟨_, h3⟩
          · exact h3 ht
          · exact hjp (D.pc i hip q hq j h3)
          · exact not_both (hpr i h3) hui'
      · unfold dst? at e'
        cases hdd : o.dst with
        | none => rw [hdd] at e'; cases e'
        | some d =>
          rw [hdd] at e'
          have e' : some (pathOf d) = some (pathOf t) := e'
          have := pathOf_inj (Option.some.inj e')
          exact ((apart_spec hap hq hj hdd).2 hne).2 t ht this
      · exact (D.sta.frr.bok _ g l hb) i hip hui' q t hq ht rfl
      · obtain ⟨f1, f2, f3⟩ := D.free i p hp
        exact ⟨hp, (hkp.ph p f3 f1).2⟩
    down := fun i q hi hq k hk => by
      rcases lst_set hi with rfl | hi
      · rw [hj] at hq; cases hq; exact lst_old (hpr k hk)
      · exact lst_old (D.down i q hi hq k hk)
    sta := S'.weaken (fun p hp i hi hui q t hq ht => hp i (by rw [List.mem_append]; exact .inl hi) (unl_keep hui (fun e' => hjp (e' ▸ hi))) q t hq ht)
      (fun p hp i hi hui q t hq ht => hp i (hsub i hi hui).1 (hsub i hi hui).2 q t hq ht)
    inj := D.inj
    free := fun i p hp => by
      obtain ⟨f1, f2, f3⟩ := D.free i p hp
      exact ⟨(hkp.ph p f3 f1).1, f2, Nat.lt_of_lt_of_le f3 hkp.next⟩ }
end
end Go.Ev
namespace Go.Ev
set_option linter.unusedSectionVars false
variable [Unk]
section
variable {P : Program} {E : Ent} {A : Asg} {n : Nat} {fr : FT} {act : Act} {w : World} {h : H} {loc : List Tmp} {ops : Array Oper} {call : Calls'} {tmps : Array Value}

theorem orderOk_cons {L : List Oper} {pre : List Nat} {i : Nat} {rest : List Nat} (ho : orderOk L pre (i :: rest) = true) :
    ∃ o, L[i]? = some o ∧ i ∉ pre ∧ (∀ j ∈ preds o, j ∈ pre) ∧ (heavy o = true → shutAt L pre i = true) ∧ orderOk L (pre ++ [i]) rest = true := by
  simp only [orderOk] at ho
  split at ho
  · rename_i o hi
    simp only [Bool.and_eq_true, Bool.not_eq_true', Bool.or_eq_true] at ho
    obtain ⟨⟨⟨h1, h2⟩, h3⟩, h4⟩ := ho
    refine ⟨o, hi, fun hm => ?_, fun j hj => ?_, fun hh => ?_, h4⟩
    · rw [memN_iff.2 hm] at h1; cases h1
    · rw [List.all_eq_true] at h2
      exact memN_iff.1 (h2 j hj)
    · rcases h3 with h3 | h3
      · rw [hh] at h3; cases h3
      · exact h3
  · cases ho

theorem ghost_gen {pre : List Nat} {lst : Array Bool} {Ph Ph1 : Nat → Path → Prop} (hap : apartIn ops.toList = true) (D : DInv P loc ops E n false pre lst A fr h tmps w Ph) {i : Nat} {o : Oper} (hi : ops.toList[i]? = some o) (hip : i ∉ pre)
    (hpr : ∀ j ∈ preds o, j ∈ pre) (hlight : heavy o = false) {s : Sl} (hs : ∀ g l, s ≠ .box g l) {h1 : H} (hinv : Inv E A h1 w) (hget : ∀ p, num p < num h.next → get p h1.t = get p h.t)
    (hph : ∀ j p, Ph j p → Ph1 j p) (hinj : ∀ i j p q, Ph1 i p → Ph1 j q → i ≠ j → p ≠ q) (hfree : ∀ i p, Ph1 i p → A.s p = none ∧ num E.h.next ≤ num p ∧ num p < num h1.next)
    (hown : PendR P loc ops false (Ph1 i) (pt (dst? o) (some s) fr) h1 o) : DInv P loc ops E n false (pre ++ [i]) lst A (pt (dst? o) (some s) fr) h1 tmps w Ph1 := by
  have hilt : i < ops.size := by rcases Nat.lt_or_ge i ops.toList.length with h | h; simpa using h; rw [List.getElem?_eq_none h] at hi; cases hi
  have hui : Unl lst i := (either (by rw [D.size]; exact hilt)).resolve_left (fun h => hip (D.sub i h))
  have hslot : ∀ t, (∀ d, o.dst = some d → d ≠ t) → get (pathOf t) (pt (dst? o) (some s) fr) = get (pathOf t) fr := fun t ht => by
    unfold dst?
    cases hdd : o.dst with
    | none => rfl
    | some d => exact get_set_other _ _ _ _ (fun e => ht d hdd (pathOf_inj e).symm)
  exact {
    size := D.size
    rng := fun k hk => by
      rw [List.mem_append, List.mem_singleton] at hk
      rcases hk with hk | rfl
      · exact D.rng k hk
      · exact hilt
    pc := fun k hk q hq j hj => by
      rw [List.mem_append, List.mem_singleton] at hk
      rw [List.mem_append]
      rcases hk with hk | rfl
      · exact .inl (D.pc k hk q hq j hj)
      · rw [hi] at hq; cases hq; exact .inl (hpr j hj)
    sub := fun k hk => by rw [List.mem_append]; exact .inl (D.sub k hk)
    pend := fun k hk hu q hq => by
      rw [List.mem_append, List.mem_singleton] at hk
      rcases hk with hk | rfl
      · obtain ⟨g1, g2⟩ := D.pend k hk hu q hq
        have hne : i ≠ k := fun e => hip (e ▸ hk)
        refine ⟨g1, g2.keep (fun t ht => congrArg sh (hslot t fun d hd e => ?_)) (fun t ht => ⟨congrArg sh (hslot t fun d hd e => ?_), fun g l hb => ?_⟩) (fun p hp => ⟨hph k p hp, hget p (D.free k p hp).2.2⟩)⟩
        · subst e
          rcases ((apart_spec hap hq hi hd).2 hne).1 with h3 | h3 | ⟨h3, _⟩
          · exact h3 ht
          · exact hip (D.pc k hk q hq i h3)
          · rw [hlight] at h3; cases h3
        · subst e
          exact ((apart_spec hap hq hi hd).2 hne).2 d ht rfl
        · exact (D.sta.frr.bok _ g l hb) k hk hu q t hq ht rfl
      · rw [hi] at hq; cases hq; exact ⟨hlight, hown⟩
    down := D.down
    sta := by
      have hback : ∀ p, okD ops (pre ++ [i]) lst p → okD ops pre lst p := fun p hp k hk => hp k (by rw [List.mem_append]; exact .inl hk)
      have hfwd : ∀ p, okD ops pre lst p → (∀ d, o.dst = some d → p ≠ pathOf d) → okD ops (pre ++ [i]) lst p := fun p hp hne k hk hu q t hq ht => by
        rw [List.mem_append, List.mem_singleton] at hk
        rcases hk with hk | rfl
        · exact hp k hk hu q t hq ht
        · rw [hi] at hq; cases hq; exact hne t ht
      unfold dst?
      cases hdd : o.dst with
      | none =>
        exact ⟨hinv, ((⟨D.sta.inv, D.sta.frr, D.sta.bge⟩ : Sta E A n (okD ops pre lst) fr h tmps w).weaken hback (fun p hp => hfwd p hp (fun d hd => by rw [hdd] at hd; cases hd))).frr, D.sta.bge⟩
      | some d =>
        refine ⟨hinv, D.sta.frr.ghost hs (fun p hp => ⟨hp i (by simp) hui o d hi hdd, hback p hp⟩) (fun p hp hne => hfwd p hp (fun d' hd' => by rw [hdd] at hd'; cases hd'; exact hne)), fun p g l hp => ?_⟩
        have hp : get p (set (pathOf d) (some s) fr) = some (.box g l) := hp
        rw [get_set] at hp
        split at hp
        · cases hp; exact absurd rfl (hs g l)
        · exact D.sta.bge p g l hp
    inj := hinj
    free := hfree }
theorem ghost_step {pre : List Nat} {lst : Array Bool} {Ph : Nat → Path → Prop} (hap : apartIn ops.toList = true) (D : DInv P loc ops E n false pre lst A fr h tmps w Ph) {i : Nat} {o : Oper} (hi : ops.toList[i]? = some o) (hip : i ∉ pre)
    (hpr : ∀ j ∈ preds o, j ∈ pre) (hlight : heavy o = false) {fr1 : FT} {h1 : H} (e : evStep call (lightOf (stOf P loc ops o)) fr h = .norm fr1 h1) : ∃ Ph1, DInv P loc ops E n false (pre ++ [i]) lst A fr1 h1 tmps w Ph1 := by
  have own : ∀ s : Option Sl, ∀ t ∈ o.looksAt ops, sh (get (pathOf t) (pt (dst? o) s fr)) = sh (get (pathOf t) fr) := fun s t ht => by
    unfold dst?
    cases hdd : o.dst with
    | none => rfl
    | some d =>
      refine congrArg sh (get_set_other _ _ _ _ (fun e' => ?_))
      have := pathOf_inj e'
      subst this
      rcases (apart_spec hap hi hi hdd).1 rfl with h3 | h3
      · rw [hlight] at h3; cases h3
      · exact h3 ht
  have mine : ∀ (s : Sl) t, o.dst = some t → get (pathOf t) (pt (dst? o) (some s) fr) = some s := fun s t ht => by
    unfold dst?
    rw [ht]
    exact get_set_same _ _ _
  cases hst : stOf P loc ops o with
  | no => rw [hst] at e; cases e
  | chk g f d =>
    exfalso
    unfold stOf at hst
    split at hst
    · split at hst
      · cases hst
      · split at hst <;> cases hst
    · cases hst
  | op g f d =>
    rw [hst] at e
    obtain ⟨hc, rfl, _⟩ := stOf_op hst
    cases f with
    | eff run => cases e
    | pure why val =>
      simp only [lightOf, evStep] at e
      split at e
      · rename_i hw
        split at e
        · rename_i s hv
          cases e
          exact ⟨Ph, ghost_gen hap D hi hip hpr hlight (pure_nobox hc hv) D.sta.inv (fun _ _ => rfl) (fun _ _ h => h) D.inj D.free
            ⟨g, _, hst, .inr ⟨wanted_same hst (own _) hw, s, by rw [pure_congr hc (looks_same (own _))]; exact hv, mine s⟩⟩⟩
        · cases e
      · rename_i hw
        cases e
        exact ⟨Ph, ghost_gen hap D hi hip hpr hlight (by simp) D.sta.inv (fun _ _ => rfl) (fun _ _ h => h) D.inj D.free ⟨g, _, hst, .inl ⟨wanted_same hst (own _) hw, mine .und⟩⟩⟩
      · cases e
    | look why val =>
      simp only [lightOf, evStep] at e
      split at e
      · rename_i hw
        split at e
        · rename_i s hv
          cases e
          exact ⟨Ph, ghost_gen hap D hi hip hpr hlight (look_nobox hc hv) D.sta.inv (fun _ _ => rfl) (fun _ _ h => h) D.inj D.free
            ⟨g, _, hst, .inr ⟨wanted_same hst (own _) hw, fun e => by cases e⟩⟩⟩
        · cases e
      · rename_i hw
        cases e
        exact ⟨Ph, ghost_gen hap D hi hip hpr hlight (by simp) D.sta.inv (fun _ _ => rfl) (fun _ _ h => h) D.inj D.free ⟨g, _, hst, .inl ⟨wanted_same hst (own _) hw, mine .und⟩⟩⟩
      · cases e
    | new why val =>
      simp only [lightOf, evStep] at e
      split at e
      · rename_i hw
        split at e
        · rename_i b m hv
          cases e
          have hnum : num (inc h.next) = num h.next + 1 := num_inc _
          refine ⟨fun j q => Ph j q ∨ (j = i ∧ q = h.next), ghost_gen hap D hi hip hpr hlight (by intro g l; cases m <;> simp [newS]) (D.sta.inv.ghost b)
            (fun p hp => get_set_other _ _ _ _ (fun e' => by subst e'; omega)) (fun _ _ h => .inl h) ?_ ?_
            ⟨g, _, hst, .inr ⟨wanted_same hst (own _) hw, b, m, h.next, .inr ⟨rfl, rfl⟩, by rw [new_congr hc (looks_same (own _))]; exact hv, get_new, mine _⟩⟩⟩
          · intro i' j' p q hp hq hne
            rcases hp with hp | ⟨rfl, rfl⟩ <;> rcases hq with hq | ⟨rfl, rfl⟩
            · exact D.inj i' j' p q hp hq hne
            · intro e'; subst e'; have := (D.free i' _ hp).2.2; omega
            · intro e'; subst e'; have := (D.free j' _ hq).2.2; omega
            · exact absurd rfl hne
          · intro j p hp
            show _ ∧ _ ∧ num p < num (inc h.next)
            rcases hp with hp | ⟨rfl, rfl⟩
            · obtain ⟨f1, f2, f3⟩ := D.free j p hp
              exact ⟨f1, f2, by omega⟩
            · exact ⟨D.sta.inv.hr.none_next, D.sta.inv.next, by omega⟩
        · cases e
      · rename_i hw
        cases e
        exact ⟨Ph, ghost_gen hap D hi hip hpr hlight (by simp) D.sta.inv (fun _ _ => rfl) (fun _ _ h => h) D.inj D.free ⟨g, _, hst, .inl ⟨wanted_same hst (own _) hw, mine .und⟩⟩⟩
      · cases e

theorem evSteps_append (call : Calls') : ∀ (l r : List St) (fr : FT) (h : H), evSteps call (l ++ r) fr h = match evSteps call l fr h with | .norm fr h => evSteps call r fr h | x => x
  | [], r, fr, h => rfl
  | s :: l, r, fr, h => by
    rw [List.cons_append, evSteps_cons, evSteps_cons]
    cases evStep call s fr h with
    | norm f g => exact evSteps_append call l r f g
    | _ => rfl
theorem holds_eq {d : Option Path} {s : Sl} {fr : FT} (e : holds d s fr = true) : ∃ p, d = some p ∧ get p fr = some s := by
  unfold holds at e
  split at e
  · split at e
    · rename_i hb; rw [aveq_eq e]; exact ⟨_, rfl, hb⟩
    · cases e
  · cases e
theorem chk_one {o : Oper} {r : Out} (e : evStep call (chkOf (stOf P loc ops o)) fr h = r) : (∃ k, r = .bad k) ∨ (r = .norm fr h ∧ ∀ g why val, stOf P loc ops o = .op g (.look why val) (dst? o) → wantedF g fr = some true → ∃ s, val fr h = some s ∧ ∀ t, o.dst = some t → get (pathOf t) fr = some s) := by
  cases hst : stOf P loc ops o with
  | no => rw [hst] at e; exact .inl ⟨_, e.symm⟩
  | chk g f d =>
    exfalso
    unfold stOf at hst
    split at hst
    · split at hst
      · cases hst
      · split at hst <;> cases hst
    · cases hst
  | op g f d =>
    rw [hst] at e
    obtain ⟨hc, rfl, _⟩ := stOf_op hst
    simp only [chkOf, evStep] at e
    split at e
    · rename_i hw
      split at e
      · split at e
        · rename_i s hv
          split at e
          · rename_i hh
            refine .inr ⟨e.symm, fun g' why' val' he _ => ?_⟩
            cases he
            obtain ⟨p, h1, h2⟩ := holds_eq hh
            refine ⟨s, hv, fun t ht => ?_⟩
            have h1 : (match o.dst with | some d => some (pathOf d) | none => none) = some p := h1
            rw [ht] at h1
            cases h1
            exact h2
          · exact .inl ⟨_, e.symm⟩
        · exact .inl ⟨_, e.symm⟩
      · rename_i hne
        exact .inr ⟨e.symm, fun g' why' val' he _ => by cases he; exact absurd rfl (hne _ _)⟩
    · rename_i hne
      exact .inr ⟨e.symm, fun g' why' val' he hw => by cases he; exact absurd hw hne⟩
def chkAt (P : Program) (loc : List Tmp) (ops : Array Oper) (i : Nat) : St := match ops.toList[i]? with | some o => chkOf (stOf P loc ops o) | none => .no
theorem chks_pass (rest : List St) : ∀ (l : List Nat), (∀ k, evSteps call (l.map (chkAt P loc ops) ++ rest) fr h ≠ .bad k) → evSteps call (l.map (chkAt P loc ops) ++ rest) fr h = evSteps call rest fr h ∧
    ∀ i ∈ l, ∀ o, ops.toList[i]? = some o → ∀ g why val, stOf P loc ops o = .op g (.look why val) (dst? o) → wantedF g fr = some true → ∃ s, val fr h = some s ∧ ∀ t, o.dst = some t → get (pathOf t) fr = some s
  | [], _ => ⟨rfl, fun i hi => by simp at hi⟩
  | i :: l, hb => by
    rw [List.map_cons, List.cons_append, evSteps_cons] at hb ⊢
    cases ho : ops.toList[i]? with
    | none =>
      exfalso
      have : chkAt P loc ops i = .no := by unfold chkAt; rw [ho]
      rw [this] at hb
      exact hb 41 rfl
    | some o =>
      have hc : chkAt P loc ops i = chkOf (stOf P loc ops o) := by unfold chkAt; rw [ho]
      rw [hc] at hb ⊢
      rcases chk_one (rfl : evStep call (chkOf (stOf P loc ops o)) fr h = _) with ⟨k, hk⟩ | ⟨hk, hk2⟩
      · rw [hk] at hb; exact absurd rfl (hb k)
      · rw [hk] at hb ⊢
        obtain ⟨h1, h2⟩ := chks_pass rest l hb
        refine ⟨h1, fun j hj q hq => ?_⟩
        rw [List.mem_cons] at hj
        rcases hj with rfl | hj
        · rw [ho] at hq; cases hq; exact hk2
        · exact h2 j hj q hq
theorem DInv.checked {pre : List Nat} {lst : Array Bool} {Ph : Nat → Path → Prop} (D : DInv P loc ops E n false pre lst A fr h tmps w Ph)
    (hc : ∀ i ∈ again ops.toList pre, ∀ o, ops.toList[i]? = some o → ∀ g why val, stOf P loc ops o = .op g (.look why val) (dst? o) → wantedF g fr = some true → ∃ s, val fr h = some s ∧ ∀ t, o.dst = some t → get (pathOf t) fr = some s) :
    DInv P loc ops E n true pre lst A fr h tmps w Ph := by
  refine { D with pend := fun i hi hu o ho => ?_ }
  obtain ⟨h1, g, f, hst, hcase⟩ := D.pend i hi hu o ho
  refine ⟨h1, g, f, hst, hcase.imp id fun ⟨hw, hk⟩ => ⟨hw, ?_⟩⟩
  cases f with
  | pure _ val => exact hk
  | new _ val => exact hk
  | eff _ => exact hk
  | look why val =>
    intro _
    refine hc i ?_ o ho g why val hst hw
    unfold again
    rw [List.mem_filter]
    refine ⟨hi, ?_⟩
    rw [ho]
    simp only [h1, Bool.not_false, Bool.true_and, Bool.not_eq_true']
    rw [Bool.eq_false_iff]
    intro ha
    rw [List.any_eq_true] at ha
    obtain ⟨j, hj, hjq⟩ := ha
    cases hq : ops.toList[j]? with
    | none => rw [hq] at hjq; cases hjq
    | some q =>
      rw [hq] at hjq
      simp only [Bool.and_eq_true] at hjq
      have hl : Lst lst j := (either (by rw [D.size]; exact D.rng j hj)).resolve_right (fun hu' => by
        have := (D.pend j hj hu' q hq).1
        rw [hjq.1] at this; cases this)
      exact not_both (D.down j q hl hq i (memN_iff.1 hjq.2)) hu

def Bound (P : Program) (loc : List Tmp) (ops : Array Oper) (call : Calls') (E : Ent) (n : Nat) (df : List Deferred) (Q : Exit → Act → World → Prop) (pre rest : List Nat) (fr : FT) (h : H) : Prop :=
  (rest = [] ∧ OutR E n df Q (dstsOf ops) (.norm fr h)) ∨ ∃ j r o, rest = j :: r ∧ ops.toList[j]? = some o ∧ heavy o = true ∧ OutR E n df Q (dstsOf ops) (match evStep call (stOf P loc ops o) fr h with | .norm fr h => evSteps call (drawnGo P loc ops (pre ++ [j]) r) fr h | x => x)
theorem settle {df : List Deferred} {Q : Exit → Act → World → Prop} {lst : Array Bool} (hap : apartIn ops.toList = true) : ∀ (rest pre : List Nat) (fr : FT) (h : H) (Ph : Nat → Path → Prop), DInv P loc ops E n false pre lst A fr h tmps w Ph →
    orderOk ops.toList pre rest = true → OutR E n df Q (dstsOf ops) (evSteps call (drawnGo P loc ops pre rest) fr h) →
    ∃ pre' rest' fr' h' Ph', DInv P loc ops E n true pre' lst A fr' h' tmps w Ph' ∧ orderOk ops.toList pre' rest' = true ∧ pre' ++ rest' = pre ++ rest ∧ Bound P loc ops call E n df Q pre' rest' fr' h'
  | [], pre, fr, h, Ph, D, ho, hout => by
    have e0 : drawnGo P loc ops pre [] = (again ops.toList pre).map (chkAt P loc ops) ++ [] := by simp only [drawnGo, List.append_nil]; rfl
    rw [e0] at hout
    obtain ⟨h1, h2⟩ := chks_pass (P := P) (loc := loc) (ops := ops) (call := call) (fr := fr) (h := h) [] (again ops.toList pre) (fun k e => by rw [e] at hout; exact hout)
    rw [h1] at hout
    exact ⟨pre, [], fr, h, Ph, D.checked h2, ho, rfl, .inl ⟨rfl, hout⟩⟩
  | i :: rest, pre, fr, h, Ph, D, ho, hout => by
    obtain ⟨o, hi, hip, hpr, _, ho'⟩ := orderOk_cons ho
    cases hh : heavy o with
    | true =>
      have e0 : drawnGo P loc ops pre (i :: rest) = (again ops.toList pre).map (chkAt P loc ops) ++ (stOf P loc ops o :: drawnGo P loc ops (pre ++ [i]) rest) := by
        simp only [drawnGo, hi, hh]; rfl
      rw [e0] at hout
      obtain ⟨h1, h2⟩ := chks_pass (P := P) (loc := loc) (ops := ops) (call := call) (fr := fr) (h := h) (stOf P loc ops o :: drawnGo P loc ops (pre ++ [i]) rest) (again ops.toList pre) (fun k e => by rw [e] at hout; exact hout)
      rw [h1, evSteps_cons] at hout
      exact ⟨pre, i :: rest, fr, h, Ph, D.checked h2, ho, rfl, .inr ⟨i, rest, o, rfl, hi, hh, hout⟩⟩
    | false =>
      have e0 : drawnGo P loc ops pre (i :: rest) = lightOf (stOf P loc ops o) :: drawnGo P loc ops (pre ++ [i]) rest := by
        simp only [drawnGo, hi, hh]
      rw [e0, evSteps_cons] at hout
      have light : (∃ fr1 h1, evStep call (lightOf (stOf P loc ops o)) fr h = .norm fr1 h1) ∨ ∃ k, evStep call (lightOf (stOf P loc ops o)) fr h = .bad k := by
        cases hst : stOf P loc ops o with
        | no => exact .inr ⟨_, rfl⟩
        | chk g f d =>
          exfalso
          unfold stOf at hst
          split at hst
          · split at hst
            · cases hst
            · split at hst <;> cases hst
          · cases hst
        | op g f d =>
          cases f with
          | eff _ => exact .inr ⟨_, rfl⟩
          | _ =>
            simp only [lightOf, evStep]
            split
            · split
              · exact .inl ⟨_, _, rfl⟩
              · exact .inr ⟨_, rfl⟩
            · exact .inl ⟨_, _, rfl⟩
            · exact .inr ⟨_, rfl⟩
      rcases light with ⟨fr1, h1, e1⟩ | ⟨k, e1⟩
      · rw [e1] at hout
        obtain ⟨Ph1, D1⟩ := ghost_step hap D hi hip hpr hh e1
        obtain ⟨pre', rest', fr', h', Ph', g1, g2, g3, g4⟩ := settle hap rest (pre ++ [i]) fr1 h1 Ph1 D1 ho' hout
        exact ⟨pre', rest', fr', h', Ph', g1, g2, by rw [g3]; simp, g4⟩
      · rw [e1] at hout; exact hout.elim

theorem all_listed {lst : Array Bool} (hsz : lst.size = ops.size) (hrd : Region.ready .any ops lst = []) : ∀ (l pre : List Nat), orderOk ops.toList pre l = true → (∀ i ∈ pre, Lst lst i) → (∀ i ∈ pre ++ l, Lst lst i) ∧ ∀ i, i < ops.size → i ∈ pre ++ l
  | [], pre, ho, hp => by
    simp only [orderOk, List.all_eq_true] at ho
    refine ⟨by simpa using hp, fun i hi => ?_⟩
    rw [List.append_nil]
    exact memN_iff.1 (ho i (by simpa using hi))
  | i :: l, pre, ho, hp => by
    obtain ⟨o, hi, hip, hpr, _, ho'⟩ := orderOk_cons ho
    have hilt : i < ops.size := by rcases Nat.lt_or_ge i ops.toList.length with h | h; simpa using h; rw [List.getElem?_eq_none h] at hi; cases hi
    have hl : Lst lst i := (either (by rw [hsz]; exact hilt)).resolve_right (fun hu => by
      have : i ∈ Region.ready .any ops lst := mem_ready.2 ⟨hu, o, by simpa using hi, fun e he hb => hp e.on (hpr e.on (preds_iff.2 ⟨e, he, hb, rfl⟩))⟩
      rw [hrd] at this
      cases this)
    obtain ⟨h1, h2⟩ := all_listed hsz hrd l (pre ++ [i]) ho' (fun k hk => by
      rw [List.mem_append, List.mem_singleton] at hk
      rcases hk with hk | rfl
      · exact hp k hk
      · exact hl)
    exact ⟨fun k hk => h1 k (by simpa using hk), fun k hk => by have := h2 k hk; simpa using this⟩

theorem get_clr : ∀ (ds : List Path) (fr : FT) (p : Path), get p (clr ds fr) = if p ∈ ds then none else get p fr
  | [], fr, p => by show get p fr = _; simp
  | d :: ds, fr, p => by
    show get p (clr ds (set d none fr)) = _
    rw [get_clr ds]
    by_cases h : p ∈ ds
    · rw [if_pos h, if_pos (by simp [h])]
    · rw [if_neg h, get_set]
      by_cases e : p = d
      · rw [if_pos e, if_pos (by simp [e])]
      · rw [if_neg e, if_neg (by simp [e, h])]
theorem clr_sta {pre : List Nat} {lst : Array Bool} (S : Sta E A n (okD ops pre lst) fr h tmps w) : Sta E A n all (clr (dstsOf ops) fr) h tmps w := by
  have hg : ∀ p s, get p (clr (dstsOf ops) fr) = some s → okD ops pre lst p ∧ get p fr = some s := fun p s hp => by
    rw [get_clr] at hp
    split at hp
    · cases hp
    · rename_i hn
      refine ⟨fun i _ _ o t ho hd e => hn ?_, hp⟩
      unfold dstsOf
      rw [List.mem_filterMap]
      exact ⟨o, List.mem_of_getElem? ho, by unfold dst?; rw [hd, e]⟩
  exact ⟨S.inv, ⟨S.frr.size, fun t s _ hs => S.frr.slot t s (hg _ _ hs).1 (hg _ _ hs).2, fun _ _ _ _ => trivial, fun p q g l l' h1 h2 => S.frr.once p q g l l' (hg _ _ h1).2 (hg _ _ h2).2⟩, fun p g l h1 => S.bge p g l (hg _ _ h1).2⟩

theorem drawn_main (hcall : CallOk E P call) {df : List Deferred} {Q : Exit → Act → World → Prop} (hap : apartIn ops.toList = true) (hd : ∀ o ∈ ops.toList, DstOk n o) : ∀ (fuel : Nat) (us : List Nat) (lst : Array Bool) (A : Asg) (act : Act) (w : World) (Ph : Nat → Path → Prop) (pre rest : List Nat) (fr : FT) (h : H),
    us.Nodup → (∀ i, i ∈ us ↔ Unl lst i) → us.length ≤ fuel → DInv P loc ops E n true pre lst A fr h act.tmps w Ph → orderOk ops.toList [] (pre ++ rest) = true → orderOk ops.toList pre rest = true →
    Bound P loc ops call E n df Q pre rest fr h → act.defers = df → wpAny P .any ops Q fuel lst act w := by
  -- nothing may come up any more
  have fin : ∀ (lst : Array Bool) (A : Asg) (act : Act) (w : World) (Ph : Nat → Path → Prop) (pre rest : List Nat) (fr : FT) (h : H), DInv P loc ops E n true pre lst A fr h act.tmps w Ph → orderOk ops.toList [] (pre ++ rest) = true → orderOk ops.toList pre rest = true →
      Bound P loc ops call E n df Q pre rest fr h → act.defers = df → Region.ready .any ops lst = [] → Q .normal act w := by
    intro lst A act w Ph pre rest fr h D ho ho' hb hdf hrd
    obtain ⟨h1, h2⟩ := all_listed D.size hrd (pre ++ rest) [] ho (fun i hi => by simp at hi)
    rw [List.nil_append] at h1 h2
    rcases hb with ⟨rfl, hout⟩ | ⟨j, r, o, rfl, hj, _, _⟩
    · refine hout A act w (D.sta.weaken (fun p _ i hi hu => absurd hu (fun hu => not_both (h1 i (by simpa using hi)) hu)) (fun _ _ => trivial)) hdf
    · obtain ⟨_, _, hjp, _⟩ := orderOk_cons ho'
      exact absurd (D.sub j (h1 j (by simp))) hjp
  intro fuel
  induction fuel with
  | zero =>
    intro us lst A act w Ph pre rest fr h hnd hus hlen D ho ho' hb hdf
    have hnil : us = [] := List.eq_nil_of_length_eq_zero (Nat.le_zero.1 hlen)
    have hrd : Region.ready .any ops lst = [] := by
      rw [List.eq_nil_iff_forall_not_mem]
      intro i hi
      have : i ∈ us := (hus i).2 (mem_ready.1 hi).1
      rw [hnil] at this
      cases this
    exact ⟨hrd, fin lst A act w Ph pre rest fr h D ho ho' hb hdf hrd⟩
  | succ fuel ih =>
    intro us lst A act w Ph pre rest fr h hnd hus hlen D ho ho' hb hdf
    refine ⟨fin lst A act w Ph pre rest fr h D ho ho' hb hdf, fun i hi => ?_⟩
    obtain ⟨hu, o, hoi, hall⟩ := mem_ready.1 hi
    have hi' : ops.toList[i]? = some o := by simpa using hoi
    have hmem : o ∈ ops.toList := List.mem_of_getElem? hi'
    have hpr : ∀ j ∈ preds o, Lst lst j := fun j hj => by
      obtain ⟨e, he, hb, rfl⟩ := preds_iff.1 hj
      exact hall e he hb
    have hwp : ∀ {K : Act → World → Prop}, OpWp P ops Q o K act w → wpOp P ops Q i K act w := fun hK => by
      unfold OpWp at hK
      unfold wpOp
      rw [hoi]
      simp only
      split
      · rename_i hq; rw [if_pos hq] at hK; exact .inl hK
      · rename_i hq; rw [if_neg hq] at hK; exact hK
    have hnd' : (us.erase i).Nodup := hnd.erase i
    have hus' : ∀ j, j ∈ us.erase i ↔ Unl (lst.setIfInBounds i true) j := fun j => by
      rw [hnd.mem_erase_iff, hus j]
      exact ⟨fun ⟨h1, h2⟩ => unl_keep h2 h1, fun h1 => unl_set h1⟩
    have hlen' : (us.erase i).length ≤ fuel := by
      rw [List.length_erase_of_mem ((hus i).2 hu)]
      omega
    refine hwp ?_
    by_cases hip : i ∈ pre
    · exact light_step hap D hi' hip hu hpr (hd o hmem) (fun A' a' w' Ph' D' hdf' => ih (us.erase i) _ A' a' w' Ph' pre rest fr h hnd' hus' hlen' D' ho ho' hb (hdf'.trans hdf))
    · rcases hb with ⟨rfl, _⟩ | ⟨j, r, o', rfl, hj, hh, hout⟩
      · exfalso
        have hilt : i < ops.size := by rw [← D.size]; exact unl_lt hu
        simp only [orderOk, List.all_eq_true] at ho'
        exact hip (memN_iff.1 (ho' i (by simpa using hilt)))
      · obtain ⟨o2, hj2, hjp, _, hshut, ho2⟩ := orderOk_cons ho'
        rw [hj] at hj2; cases hj2
        have hij : i = j := by
          have hs := zip_all (hshut hh) hi'
          simp only [Bool.or_eq_true, memN_iff] at hs
          rcases hs with (hs | hs) | hs
          · exact absurd hs hip
          · exact Nat.eq_of_beq_eq_true hs
          · exfalso
            rw [List.any_eq_true] at hs
            obtain ⟨e, he, hne⟩ := hs
            have := memN_iff.2 (D.sub e (hpr e he))
            rw [this] at hne
            cases hne
        subst hij
        rw [hj] at hi'; cases hi'
        cases hs : evStep call (stOf P loc ops o) fr h with
        | norm fr1 h1 =>
          rw [hs] at hout
          refine heavy_step hcall hap D hj hjp hu hpr (hd o hmem) hs (fun A' a' w' D' hdf' => ?_)
          obtain ⟨pre', rest', fr', h', Ph', g1, g2, g3, g4⟩ := settle hap r (pre ++ [i]) fr1 h1 Ph D' ho2 hout
          exact ih (us.erase i) _ A' a' w' Ph' pre' rest' fr' h' hnd' hus' hlen' g1 (by rw [g3]; simpa using ho) g2 g4 (hdf'.trans hdf)
        | pan v fr1 h1 =>
          rw [hs] at hout
          exact step_pan hcall D.sta (D.looks hap hj hpr) hs (fun A' x w' older hno hx S' => hout A' x act w' older hno hx (clr_sta S') hdf)
        | bad k => rw [hs] at hout; exact hout.elim
        | exit id f g => exact absurd hs (evStep_kinds.1 _ _ _)
        | ret f g => exact absurd hs (evStep_kinds.2 _ _)
end
theorem drawn_ok {P : Program} {E : Ent} (hm : P.follows .mixedOrders = true) {call : Calls'} (hcall : CallOk E P call) : DrawnOk E P call := by
  intro A n fr h act w loc id ops Q hd S hout
  refine wp_region_any hm ?_
  unfold drawnOf at hout
  split at hout
  · rename_i h1 hap ho
    have hsz : (Array.replicate ops.size false).size = ops.size := Array.size_replicate
    have hunl : ∀ i, Unl (Array.replicate ops.size false) i ↔ i < ops.size := fun i => ⟨fun hu => by have := unl_lt hu; rwa [hsz] at this, fun hlt => by unfold Unl; simp [hlt]⟩
    have hlst : ∀ i, ¬ Lst (Array.replicate ops.size false) i := fun i hl => by
      rcases Nat.lt_or_ge i ops.size with h | h
      · exact not_both hl ((hunl i).2 h)
      · unfold Lst at hl; rw [Array.getD_eq_getD_getElem?, Array.getElem?_eq_none (by rw [hsz]; exact h)] at hl; cases hl
    have D : DInv P loc ops E n false [] (Array.replicate ops.size false) A fr h act.tmps { w with drawn := w.drawn + 1 } (fun _ _ => False) := {
      size := hsz
      rng := fun i hi => by simp at hi
      pc := fun i hi => by simp at hi
      sub := fun i hi => absurd hi (hlst i)
      pend := fun i hi => by simp at hi
      down := fun i o hi => absurd hi (hlst i)
      sta := (⟨S.inv.drew _, FrR.of_heap (w := w) (w' := { w with drawn := w.drawn + 1 }) rfl S.frr, S.bge⟩ : Sta E A n all fr h act.tmps { w with drawn := w.drawn + 1 }).weaken (fun _ _ => trivial) (fun p _ i hi => by simp at hi)
      inj := fun i j p q h => h.elim
      free := fun i p h => h.elim }
    obtain ⟨pre', rest', fr', h', Ph', g1, g2, g3, g4⟩ := settle (call := call) hap (orderOf ops.toList) [] fr h _ D ho hout
    exact drawn_main hcall hap hd ops.size (List.range ops.size) _ A act _ Ph' pre' rest' fr' h' List.nodup_range (fun i => by rw [hunl]; simp) (by simp) g1 (by rw [g3]; exact ho) g2 g4 rfl
  · exact (show False from hout).elim
end Go.Ev
namespace Go.Ev
set_option linter.unusedSectionVars false
variable [Unk]
variable {P : Program} {E : Ent} {A : Asg} {n : Nat} {fr : FT} {act : Act} {w : World} {h : H}

theorem isRecover_run {o : Oper} (hr : isRecover o = true) (ρ : Operand → Value) (w : World) : (execOp ρ o).run P w = .ok .recover w ∧ o.guard = none := by
  unfold isRecover at hr
  split at hr
  · rename_i args tys ho hg
    refine ⟨?_, hg⟩
    simp only [execOp, ho, resolve, invoke, builtin, Sem.run_bind, Sem.run_pure, Result.andThen_ok]
  · cases hr
theorem listS_then {call : Calls'} (hcall : CallOk E P call) {loc : List Tmp} {ops : Array Oper} {Q : Exit → Act → List Frame → World → Prop} {df : List Deferred} {cs : List Frame} {rest : List Nat} : ∀ (L : List Oper) (l : List Nat), l.map (fun i => ops[i]?) = L.map some → (∀ o ∈ L, DstOk n o) → ∀ {A fr h act w},
    Sta E A n all fr h act.tmps w → act.defers = df → (match evSteps call (L.map (stOf P loc ops)) fr h with
      | .norm fr h => ∀ A a w, Sta E A n all fr h a.tmps w → a.defers = df → wpOpsS P ops Q rest a cs w
      | x => OutR E n df (fun e a w => Q e a cs w) [] x) → wpOpsS P ops Q (l ++ rest) act cs w
  | [], l, hl, hd, A, fr, h, act, w, S, hdf, ho => by
    cases l with
    | nil => exact ho A act w S hdf
    | cons i l => simp at hl
  | o :: L, l, hl, hd, A, fr, h, act, w, S, hdf, ho => by
    cases l with
    | nil => simp at hl
    | cons i l =>
      simp only [List.map_cons, List.cons.injEq] at hl
      rw [List.map_cons, evSteps_cons] at ho
      have hw : OpWp P ops (fun e a w => Q e a cs w) o (fun a w => wpOpsS P ops Q (l ++ rest) a cs w) act w := by
        cases hs : evStep call (stOf P loc ops o) fr h with
        | norm fr' h' =>
          rw [hs] at ho
          exact step_norm hcall S looks_all (hd o (by simp)) (fun _ _ => trivial) hs (fun A' a' w' S' e _ _ => listS_then hcall L l hl.2 (fun q hq => hd q (by simp [hq])) S' (e.trans hdf) ho)
        | pan v fr' h' =>
          rw [hs] at ho
          exact step_pan hcall S looks_all hs (fun A' x w' older hno hx S' => ho A' x act w' older hno hx S' hdf)
        | bad k => rw [hs] at ho; exact ho.elim
        | exit id f g => exact absurd hs (evStep_kinds.1 _ _ _)
        | ret f g => exact absurd hs (evStep_kinds.2 _ _)
      unfold OpWp at hw
      rw [List.cons_append]
      simp only [wpOpsS, hl.1]
      split
      · rename_i hq
        rw [if_pos hq] at hw
        unfold Oper.wp at hw
        generalize (execOp act.eval o).run P w = r at hw ⊢
        split
        · exact (show False from hw).elim
        · exact hw
      · rename_i hq
        rw [if_neg hq] at hw
        exact hw
theorem DrawnAll (hm : P.follows .mixedOrders = true) {call : Calls'} : ∀ E, CallOk E P call → DrawnOk E P call := fun _ hc => drawn_ok hm hc

theorem compC_rcv {loc : List Tmp} : ∀ {c : Code} {l1 d l2 r}, compC P loc c ≠ .rcv l1 d l2 r := by
  intro c l1 d l2 r e
  cases c <;> try (simp only [compC] at e; cases e; done)
  case region id ops dr => cases dr <;> (simp only [compC] at e; cases e)
theorem compC_dfr {loc : List Tmp} : ∀ {c : Code} {l f as r}, compC P loc c ≠ .dfr l f as r := by
  intro c l1 d l2 r e
  cases c <;> try (simp only [compC] at e; cases e; done)
  case region id ops dr => cases dr <;> (simp only [compC] at e; cases e)
theorem compC_seq {loc : List Tmp} : ∀ {c : Code} {a b}, compC P loc c = .seq a b → ∃ x y, c = .seq x y := by
  intro c a b e
  cases c <;> try (simp only [compC] at e; cases e; done)
  case region id ops dr => cases dr <;> (simp only [compC] at e; cases e)
  case seq x y => exact ⟨x, y, rfl⟩
theorem range_split {L a b : List Oper} {o : Oper} (h : L = a ++ o :: b) : List.range L.length = List.range a.length ++ (a.length :: (List.range b.length).map (fun k => a.length + 1 + k)) := by
  subst h
  rw [List.length_append, List.length_cons, List.range_add, List.range_succ_eq_map]
  simp only [List.map_cons, List.map_map, Nat.add_zero]
  congr 2
  apply List.map_congr_left
  intro k _
  simp only [Function.comp_apply, Nat.succ_eq_add_one]
  omega
theorem compF_eq {f : FuncId} {e : EF} (he : compF P f = some e) : ∃ fn c, P.funcs[f]? = some fn ∧ fn.body = some c ∧ fn.name ≠ "runtime.NumGoroutine" ∧ (∀ o ∈ opersOf c, DstOk fn.ntmps o) ∧ e.res = fn.results.toList.map (erOf P) ∧
    ((e.top = true ∧ e.code = compT P c) ∨ (e.top = false ∧ e.code = compC P (localsOf c) c)) := by
  unfold compF at he
  split at he
  · rename_i fn hfn
    split at he
    · rename_i c hc
      split at he
      · rename_i hok
        unfold fnOk at hok
        simp only [Bool.and_eq_true, bne_iff_ne, ne_eq, List.all_eq_true] at hok
        have hd : ∀ o ∈ opersOf c, DstOk fn.ntmps o := fun o ho d hd => by
          have := hok.2 o ho
          rw [hd] at this
          have this : Nat.blt d fn.ntmps = true := this
          rw [natBlt] at this
          exact of_decide_eq_true this
        split at he
        · cases he; exact ⟨fn, c, hfn, hc, hok.1, hd, rfl, .inl ⟨rfl, rfl⟩⟩
        · cases he; exact ⟨fn, c, hfn, hc, hok.1, hd, rfl, .inr ⟨rfl, rfl⟩⟩
      · cases he
    · cases he
  · cases he
theorem compT_rcv {c : Code} {l1 : List St} {d : Path} {l2 : List St} {r : EC} (e : compT P c = .rcv l1 d l2 r) : ∃ id ops b a1 o a2 t, c = .seq (.region id ops false) b ∧ cutRec ops.toList = some (a1, o, a2) ∧ o.dst = some t ∧
    l1 = a1.map (stOf P [] ops) ∧ d = pathOf t ∧ l2 = a2.map (stOf P [] ops) ∧ r = compC P [] b := by
  cases c with
  | seq a b =>
    cases a with
    | region id ops dr =>
      cases dr with
      | true => simp only [compT] at e; cases e
      | false =>
        simp only [compT, compR] at e
        split at e
        · split at e
          · cases e
          · split at e
            · rename_i a1 o' a2 hcut
              split at e
              · rename_i t ht
                cases e
                exact ⟨id, ops, b, a1, o', a2, t, rfl, hcut, ht, rfl, rfl, rfl, rfl⟩
              · cases e
            · cases e
        · cases e
    | _ => simp only [compT] at e; cases e
  | _ => simp only [compT] at e; exact absurd e compC_rcv

theorem evD_ok {Γ : Glob} {F : FuncId → Option EF} (hF : ∀ f e, F f = some e → compF P f = some e) {call : Calls'} (hcall : CallsOk Γ P call) (hdr : ∀ E, CallOk E P call → DrawnOk E P call) {fuel : Nat} {mode : Option AV} {g : FuncId} {as : List AV} {d : DR}
    (e : evD F call fuel mode g as h = d) (hb : ∀ k, d ≠ .bad k) {args : Array Value} {u : FrameMode} (hr : HR A h w) (hg : Γ.Met A w) (ha : VRs A.s as args.toList) (hm : ModeR A mode u) :
    (∃ fn, P.funcs[g]? = some fn ∧ fn.name ≠ "runtime.NumGoroutine" ∧ fn.body.isSome = true) ∧ CallsD P g args u w (ToldD ⟨A, h, w⟩ u d) := by
  unfold evD at e
  split at e
  · rename_i e0 he0
    obtain ⟨fn, c, h1, h2, h3, h4, h5, h6⟩ := compF_eq (hF _ _ he0)
    refine ⟨⟨fn, h1, h3, by rw [h2]; rfl⟩, ?_⟩
    have hin : CallOk ⟨A, h, w⟩ P call := hcall.within (E := ⟨A, h, w⟩) hg
    have S0 := start_R hr ha fn.ntmps
    split at e
    · rename_i l1 dp l2 rest hcode
      rcases h6 with ⟨_, h6⟩ | ⟨_, h6⟩
      · rw [h6] at hcode
        obtain ⟨id, ops, b, a1, o, a2, t, rfl, hcut, ht, rfl, rfl, rfl, rfl⟩ := compT_rcv hcode
        obtain ⟨hcut, hrec⟩ := cutRec_eq hcut
        have hops : ops.size = ops.toList.length := by simp
        have hmem : ∀ x ∈ ops.toList, DstOk fn.ntmps x := fun x hx => h4 x (by simp [opersOf]; exact .inl (by simpa using hx))
        refine callsD_of_wpS h1 h2 (fun c₀ cs hc₀ => wpS_seq (wpS_region ?_))
        rw [hops, range_split hcut]
        have hget1 : (List.range a1.length).map (fun i => ops[i]?) = a1.map some := by
          apply List.ext_getElem?
          intro k
          simp only [List.getElem?_map]
          by_cases hk : k < a1.length
          · rw [List.getElem?_range hk]
            simp only [Option.map_some]
            have : ops[k]? = a1[k]? := by rw [← Array.getElem?_toList, hcut, List.getElem?_append_left hk]
            rw [this, List.getElem?_eq_getElem hk]; rfl
          · rw [List.getElem?_eq_none (by simpa using hk), List.getElem?_eq_none (by simpa using hk)]; rfl
        have hget2 : ((List.range a2.length).map (fun k => a1.length + 1 + k)).map (fun i => ops[i]?) = a2.map some := by
          apply List.ext_getElem?
          intro k
          simp only [List.getElem?_map]
          by_cases hk : k < a2.length
          · rw [List.getElem?_range hk]
            simp only [Option.map_some]
            have : ops[a1.length + 1 + k]? = a2[k]? := by
              rw [← Array.getElem?_toList, hcut, List.getElem?_append_right (by omega)]
              have : a1.length + 1 + k - a1.length = k + 1 := by omega
              rw [this, List.getElem?_cons_succ]
            rw [this, List.getElem?_eq_getElem hk]; rfl
          · rw [List.getElem?_eq_none (by simpa using hk), List.getElem?_eq_none (by simpa using hk)]; rfl
        have hgo : ops[a1.length]? = some o := by rw [← Array.getElem?_toList, hcut]; simp
        refine listS_then hin (loc := []) (df := []) (Q := Exit.thenS (b.wpS P (bodyPostS P fn c₀ cs (ToldD ⟨A, h, w⟩ u d))) (bodyPostS P fn c₀ cs (ToldD ⟨A, h, w⟩ u d))) a1 _ hget1 (fun x hx => hmem x (by rw [hcut]; simp [hx])) (act := ⟨args ++ Array.replicate (fn.ntmps - args.size) undef, []⟩) S0 rfl ?_
        cases hs1 : evSteps call (a1.map (stOf P [] ops)) (initFr as 0 .nil) h with
        | norm fr1 hh1 =>
          rw [hs1] at e
          simp only at e
          intro A1 act1 w1 S1 hd1
          -- the word itself
          have hwant : Region.wanted o (yielded ops act1.tmps) = true := by simp [Region.wanted, (isRecover_run (P := P) hrec act1.eval w1).2]
          simp only [wpOpsS, hgo, hwant, if_true, (isRecover_run (P := P) hrec act1.eval w1).1]
          have hdo : DstOk fn.ntmps o := hmem o (by rw [hcut]; simp)
          have hdst : dst? o = some (pathOf t) := by unfold dst?; rw [ht]
          -- what comes behind it
          have behind : ∀ (x : Value) (v : AV) (u' : FrameMode), VR A1.s v x → (match evSteps call (a2.map (stOf P [] ops)) (set (pathOf t) (some (.v v)) fr1) hh1 with
                | .norm fr h => finD (going mode) e0.res (evC call fuel (compC P [] b) fr h)
                | .pan v _ h => .pan v h
                | _ => .bad 57) = d → ModeBy (going mode) u u' →
              wpOpsS P ops (Exit.thenS (b.wpS P (bodyPostS P fn c₀ cs (ToldD ⟨A, h, w⟩ u d))) (bodyPostS P fn c₀ cs (ToldD ⟨A, h, w⟩ u d))) ((List.range a2.length).map (fun k => a1.length + 1 + k)) (act1.put o.dst x) ({ c₀ with mode := u' } :: cs) w1 := by
            intro x v u' hx e hu
            have S2 : Sta ⟨A, h, w⟩ A1 fn.ntmps all (set (pathOf t) (some (.v v)) fr1) hh1 (act1.put o.dst x).tmps w1 := by
              have := S1.put (act := act1) hdo (s := .v v) (v := x) hx (fun _ _ => by simp)
              rw [hdst] at this
              exact this
            have := listS_then hin (loc := []) (df := []) (Q := Exit.thenS (b.wpS P (bodyPostS P fn c₀ cs (ToldD ⟨A, h, w⟩ u d))) (bodyPostS P fn c₀ cs (ToldD ⟨A, h, w⟩ u d))) (cs := { c₀ with mode := u' } :: cs) (rest := []) a2 _ hget2 (fun x hx => hmem x (by rw [hcut]; simp [hx])) S2 (by rw [put_defers]; exact hd1) (by
              cases hs2 : evSteps call (a2.map (stOf P [] ops)) (set (pathOf t) (some (.v v)) fr1) hh1 with
              | norm fr2 hh2 =>
                rw [hs2] at e
                simp only at e
                intro A2 act2 w2 S3 hd2
                show Exit.thenS _ _ .normal act2 _ w2
                refine wpS_of_wp (code_sound hin (hdr _ hin) [] fuel b (fun x hx => h4 x (by simp [opersOf, hx])) S3 ?_)
                have hd2' : act2.defers = [] := hd2
                rw [hd2']
                have hfin := finD_R (E := ⟨A, h, w⟩) (n := fn.ntmps) (P := P) (fn := fn) (recd := going mode) (u := u) (u' := u') (o := evC call fuel (compC P [] b) fr2 hh2) c₀ cs (fun k => by rw [← h5, e]; exact hb k) hu
                rw [← h5, e] at hfin
                exact hfin
              | pan v2 fr2 hh2 =>
                rw [hs2] at e
                simp only at e
                subst e
                intro A2 y a' w2 older hno hy S3 hd2
                refine ⟨hd2, u', rfl, y, A2, older, hno, rfl, hy, S3.inv, ?_⟩
                cases mode with
                | none => exact .inr hu
                | some _ => exact .inl hu
              | bad k => rw [hs2] at e; simp only at e; subst e; exact absurd rfl (hb _)
              | exit _ _ _ => rw [hs2] at e; simp only at e; subst e; exact absurd rfl (hb _)
              | ret _ _ => rw [hs2] at e; simp only at e; subst e; exact absurd rfl (hb _))
            simpa using this
          cases mode with
          | none =>
            have hm : u = .returning := hm
            have hrd : recoverD (c₀ :: cs) = none := by simp only [recoverD, hc₀, hm]
            rw [hrd]
            have hc : (c₀ :: cs) = ({ c₀ with mode := u } :: cs) := by subst hc₀; rfl
            simp only
            rw [hc]
            exact behind .nilIface .nilif u (by simp [VR]) e rfl
          | some v =>
            obtain ⟨x, older, hno, hx, hu⟩ := hm
            have hrd : recoverD (c₀ :: cs) = some (x, { c₀ with mode := .panicking ({ v := x, recovered := true } :: older) } :: cs) := by simp only [recoverD, hc₀, hu]
            rw [hrd]
            simp only
            refine behind x v (.panicking ({ v := x, recovered := true } :: older)) (VR.mono (fun p r hp => (S1.inv.ext p (hr.fresh p r hp)).trans hp) _ _ hx) e ⟨x, older, hno, hu, rfl⟩
        | pan v fr1 hh1 => rw [hs1] at e; simp only at e; subst e; exact absurd rfl (hb _)
        | bad k => rw [hs1] at e; simp only at e; subst e; exact absurd rfl (hb _)
        | exit _ _ _ => rw [hs1] at e; simp only at e; subst e; exact absurd rfl (hb _)
        | ret _ _ => rw [hs1] at e; simp only at e; subst e; exact absurd rfl (hb _)
      · rw [h6] at hcode
        exact absurd hcode compC_rcv
    · rcases h6 with ⟨h7, h6⟩ | ⟨h7, h6⟩
      · rw [h7] at e
        simp only at e
        subst e; exact absurd rfl (hb _)
      · rw [h7] at e
        simp only at e
        refine callsD_of_wpS h1 h2 (fun c₀ cs hc₀ => wpS_of_wp (code_sound hin (hdr _ hin) (localsOf c) fuel c h4 (act := ⟨args ++ Array.replicate (fn.ntmps - args.size) undef, []⟩) S0 ?_))
        have hc : (c₀ :: cs) = ({ c₀ with mode := u } :: cs) := by subst hc₀; rfl
        rw [← h6, hc]
        have hfin := finD_R (E := ⟨A, h, w⟩) (n := fn.ntmps) (P := P) (fn := fn) (recd := false) (u := u) (u' := u) (o := evC call fuel e0.code (initFr as 0 .nil) h) c₀ cs (fun k => by rw [← h5, e]; exact hb k) rfl
        rw [← h5, e] at hfin
        exact hfin
  · subst e; exact absurd rfl (hb _)

theorem compT_seq {a b : Code} : (∃ id ops, a = .region id ops false ∧ compT P (.seq a b) = compR P ops (compC P [] b) (compT P b) (compC P [] a)) ∨ compT P (.seq a b) = .seq (compC P [] a) (compT P b) := by
  cases a with
  | region id ops dr =>
    cases dr with
    | true => right; rfl
    | false => left; exact ⟨id, ops, rfl, rfl⟩
  | _ => right; rfl
theorem deferOf_eq {o : Oper} {f : Operand} {as : Array Operand} (h : deferOf o = some (f, as)) : (∃ tys, o.op = .defer ⟨.value f, as, tys⟩) ∧ o.guard = none ∧ o.dst = none := by
  unfold deferOf at h
  split at h
  · rename_i ho hg hd; cases h; exact ⟨⟨_, ho⟩, hg, hd⟩
  · cases h
theorem evT_seq {call : Calls'} {fuel : Nat} {a b : EC} : evT call fuel (.seq a b) fr h = match evC call fuel a fr h with | .norm fr h => evT call fuel b fr h | x => (x, none) := rfl
theorem evT_leaf {call : Calls'} {fuel : Nat} {c : EC} (h1 : ∀ a b, c ≠ .seq a b) (h2 : ∀ l f as r, c ≠ .dfr l f as r) : evT call fuel c fr h = (evC call fuel c fr h, none) := by
  cases c with
  | seq a b => exact absurd rfl (h1 a b)
  | dfr l f as r => exact absurd rfl (h2 l f as r)
  | _ => rfl
theorem top_sound {Γ : Glob} {call : Calls'} (hcall : CallsOk Γ P call) (hdr : ∀ E, CallOk E P call → DrawnOk E P call) (hg : Γ.Met E.A E.w) (fuel : Nat) {Q : Exit → Act → World → Prop} : ∀ (c : Code), (∀ o ∈ opersOf c, DstOk n o) → ∀ {A fr h act w},
    Sta E A n all fr h act.tmps w → act.defers = [] → TopR P E n Q (evT call fuel (compT P c) fr h) → c.wp P Q act w := by
  have hin : CallOk E P call := hcall.within hg
  intro c
  induction c with
  | seq a b _ ihb =>
    intro hd A fr h act w S hdf ho
    have plain : compT P (.seq a b) = .seq (compC P [] a) (compT P b) → (Code.seq a b).wp P Q act w := by
      intro e
      rw [e, evT_seq] at ho
      refine wp_seq (code_sound hin (hdr _ hin) [] fuel a (fun o h => hd o (by simp [opersOf, h])) S ?_)
      rw [hdf]
      cases hs : evC call fuel (compC P [] a) fr h with
      | norm fr' h' =>
        rw [hs] at ho
        intro A' a' w' S' e'
        exact ihb (fun o h => hd o (by simp [opersOf, h])) S' e' ho
      | exit id f g => rw [hs] at ho; exact ho
      | ret f g => rw [hs] at ho; exact ho
      | pan v f g => rw [hs] at ho; exact ho
      | bad k => rw [hs] at ho; exact ho
    rcases compT_seq (P := P) (a := a) (b := b) with ⟨id, ops, rfl, e⟩ | e
    · unfold compR at e
      split at e
      · rename_i i o hlast
        split at e
        · rename_i f as hdef
          rw [e] at ho
          obtain ⟨⟨tys, hop⟩, hgd, hdst⟩ := deferOf_eq hdef
          have hl := lastOf_eq hlast
          have ho : TopR P E n Q (match evSteps call (i.map (stOf P [] ops)) fr h with
            | .norm fr h => match nobox fr, gvs (as.toList.map rd) fr, gv (rd f) fr with
              | true, some xs, some (.fn g a cs) => (evC call fuel (compC P [] b) fr h, some (g, a ++ xs ++ cs))
              | _, _, _ => (.bad 55, none)
            | x => (clrOut [] x, none)) := ho
          refine wp_seq (wp_region_list ?_)
          rw [hl]
          refine list_then hin (loc := []) (df := []) i (fun o' h' => hd o' (by simp only [opersOf, List.mem_append]; exact .inl (by rw [hl]; simp [h']))) S hdf ?_
          cases hs : evSteps call (i.map (stOf P [] ops)) fr h with
          | norm fr1 h1 =>
            rw [hs] at ho
            simp only at ho
            split at ho
            · rename_i xs g a cs hbox hxs hgv
              intro A1 act1 w1 S1 hd1
              have v1 := gvs_VR S1.frr (xs := as.toList) (fun _ _ _ _ => trivial) hxs
              obtain ⟨vs, ys, h2, h3, h4⟩ := gv_VR S1.frr (x := f) (fun _ _ => trivial) hgv
              have hrun : (execOp act1.eval o).run P w1 = .ok (.defer ⟨.fn (.func g) ys, vs ++ as.map act1.eval⟩) w1 := by
                simp only [execOp, hop, resolve, h2, Deferred.ofValue, Sem.run_bind, Sem.run_pure, Result.andThen_ok]
              have hwant : Region.wanted o (yielded ops act1.tmps) = true := by simp [Region.wanted, hgd]
              unfold wpList
              rw [if_pos hwant]
              left
              unfold Oper.wp
              rw [hrun, Oper.upon_defer, hdst]
              unfold wpList
              have E1 : Inv E A1 h1 w1 := S1.inv
              refine code_sound (E := ⟨A1, h1, w1⟩) (hcall.within (E := ⟨A1, h1, w1⟩) (hg.go S1.inv)) (hdr _ (hcall.within (E := ⟨A1, h1, w1⟩) (hg.go S1.inv))) [] fuel b (fun o h => hd o (by simp [opersOf, h]))
                (act := { act1 with defers := ⟨.fn (.func g) ys, vs ++ as.map act1.eval⟩ :: act1.defers }) ⟨Inv.start S1.inv.hr, S1.frr, fun p g' l hp => absurd hp (nobox_get p fr1 hbox g' l)⟩ ?_
              have := ho A1 h1 w1 ⟨.fn (.func g) ys, vs ++ as.map act1.eval⟩ S1.inv S1.inv.hr ⟨.func g, ys, vs ++ as.map act1.eval ++ ys, rfl, ?_, ?_⟩
              · rw [hd1]; exact this
              · simp only [Array.toList_append, Array.toList_map]
                exact VRs.append (VRs.append h3 v1) h4
              · rintro w' ⟨fn, e1, e2, e3⟩
                have hb : fn.body.isNone = false := by cases hb : fn.body <;> simp_all
                simp only [invoke, callFunc, Sem.run_bind, run_program, Result.andThen_ok, e1]
                rw [if_neg (by simpa using e2), hb]
                rfl
            · exact (show False from ho).elim
          | exit id f g => rw [hs] at ho; exact ho
          | ret f g => rw [hs] at ho; exact ho
          | pan v f g => rw [hs] at ho; exact ho
          | bad k => rw [hs] at ho; exact ho
        · split at e
          · split at e
            · rw [e] at ho; exact (show False from ho).elim
            · rw [e] at ho; exact (show False from ho).elim
          · exact plain e
      · exact plain e
    · exact plain e
  | _ =>
    intro hd A fr h act w S hdf ho
    refine code_sound hin (hdr _ hin) [] fuel _ hd S ?_
    rw [hdf]
    rw [show compT P _ = compC P [] _ from rfl, evT_leaf (fun a b e => ?_) (fun _ _ _ _ e => compC_dfr e)] at ho
    · exact ho
    · obtain ⟨x, y, hxy⟩ := compC_seq e
      cases hxy

theorem finT_R {Γ : Glob} {F : FuncId → Option EF} (hF : ∀ f e, F f = some e → compF P f = some e) {call : Calls'} (hcall : CallsOk Γ P call) (hdr : ∀ E, CallOk E P call → DrawnOk E P call) {fuel : Nat} (hg : Γ.Met E.A E.w) {f : FuncId} {fn : Func} {x : Out × Option (FuncId × List AV)}
    (hb : ∀ k, finT f (fn.results.toList.map (erOf P)) (evD F call fuel) x ≠ .bad k) : TopR P E n (bodyPostD P fn (Told E (finT f (fn.results.toList.map (erOf P)) (evD F call fuel) x))) x := by
  obtain ⟨o, dd⟩ := x
  cases dd with
  | none => exact fin_R hb
  | some ga =>
    obtain ⟨g, as⟩ := ga
    intro A1 h1 w1 d I1 hr1 hdef
    obtain ⟨fv, cap, dargs, htar, hdv, hinv⟩ := hdef
    obtain ⟨dt, da⟩ := d
    simp only at htar
    subst htar
    -- the deferred call, from where the body ended
    have go : ∀ {mode : Option AV} {u : FrameMode} {fr : FT} {h : H} {A : Asg} {a : Act} {w : World} {r : DR}, Sta ⟨A1, h1, w1⟩ A n all fr h a.tmps w → a.defers = [⟨.fn fv cap, da⟩] → ModeR A mode u → u ≠ .run → evD F call fuel mode g as h = r → (∀ k, r ≠ .bad k) →
        (∀ e u' w', ToldD ⟨A, h, w⟩ u r e u' w' → (match e with
          | .returned _ => Leaves P fn a.tmps (Told E (finT f (fn.results.toList.map (erOf P)) (evD F call fuel) (o, some (g, as)))) [] (Go.settle u') w'
          | .panicked chain => Leaves P fn a.tmps (Told E (finT f (fn.results.toList.map (erOf P)) (evD F call fuel) (o, some (g, as)))) [] (raised u' chain) w'
          | .outgrown => Told E (finT f (fn.results.toList.map (erOf P)) (evD F call fuel) (o, some (g, as))) .outgrown w')) →
        Leaves P fn a.tmps (Told E (finT f (fn.results.toList.map (erOf P)) (evD F call fuel) (o, some (g, as)))) a.defers u w := by
      intro mode u fr h A a w r S hd hm hu hr hnb hK
      rw [hd]
      have hm' : ∀ p r, A1.s p = some r → A.s p = some r := fun p r hp => (S.inv.ext p (hr1.fresh p r hp)).trans hp
      obtain ⟨hc, hD⟩ := evD_ok hF hcall hdr hr hnb S.inv.hr ((hg.go I1).go (E := ⟨A1, h1, w1⟩) S.inv) (VRs.mono hm' _ _ hdv) hm
      refine leaves_cons hu (hinv w hc) (CallsD.mono hD ?_)
      intro e u' w' ht
      have := hK e u' w' ht
      cases e <;> exact this
    have back : ∀ {fr : FT} {h h2 : H} {A A' : Asg} {a : Act} {w w' : World}, Sta ⟨A1, h1, w1⟩ A n all fr h a.tmps w → Inv ⟨A, h, w⟩ A' h2 w' → Sta ⟨A1, h1, w1⟩ A' n all fr h2 a.tmps w' := fun S J => ⟨S.inv.trans J, S.frr.called S.inv.hr J, S.bge⟩
    have results : ∀ {fr : FT} {h2 : H} {A' : Asg} {a : Act} {w' : World}, Sta ⟨A1, h1, w1⟩ A' n all fr h2 a.tmps w' → finT f (fn.results.toList.map (erOf P)) (evD F call fuel) (o, some (g, as)) = finF f (fn.results.toList.map (erOf P)) (.ret fr h2) →
        Leaves P fn a.tmps (Told E (finT f (fn.results.toList.map (erOf P)) (evD F call fuel) (o, some (g, as)))) [] .returning w' := by
      intro fr h2 A' a w' S2 hfin
      cases hr : finF f (fn.results.toList.map (erOf P)) (.ret fr h2) with
      | ret v h' =>
        obtain ⟨rfl, x, g1, g2⟩ := finF_R hr S2
        refine ⟨x, g1, ?_⟩
        rw [hfin, hr]
        exact ⟨x, A', rfl, g2, I1.trans S2.inv⟩
      | pan v h' => exact absurd hr (finF_nopan (f := f))
      | bad k => exact absurd (hfin.trans hr) (hb k)
    have retcase : ∀ (fr : FT) (h : H), finT f (fn.results.toList.map (erOf P)) (evD F call fuel) (o, some (g, as)) = (match evD F call fuel none g as h with | .ret _ h => finF f (fn.results.toList.map (erOf P)) (.ret fr h) | .pan v h => .pan v h | .bad w => .bad w) →
        ∀ A (a : Act) w, Sta ⟨A1, h1, w1⟩ A n all fr h a.tmps w → a.defers = [⟨.fn fv cap, da⟩] → Leaves P fn a.tmps (Told E (finT f (fn.results.toList.map (erOf P)) (evD F call fuel) (o, some (g, as)))) a.defers .returning w := by
      intro fr h hfin A a w S hd
      cases hr : evD F call fuel none g as h with
      | bad k => rw [hr] at hfin; exact absurd hfin (hb k)
      | ret recd h2 =>
        rw [hr] at hfin
        refine go S hd (mode := none) rfl (by simp) hr (fun _ => by simp) ?_
        rintro e u' w' ⟨x, A', rfl, J, hby⟩
        have hu : u' = .returning := by
          cases recd with
          | false => exact hby
          | true => obtain ⟨_, _, _, h1, _⟩ := hby; cases h1
        subst hu
        exact results (back S J) hfin
      | pan v2 h2 =>
        rw [hr] at hfin
        simp only at hfin
        refine go S hd (mode := none) rfl (by simp) hr (fun _ => by simp) ?_
        rintro e u' w' ⟨x, A', older, hno, rfl, hx, J, hby⟩
        have hu : u' = .returning := by
          rcases hby with ⟨_, _, _, h1, _⟩ | h1
          · cases h1
          · exact h1
        subst hu
        show Told E _ (.panicked _) w'
        rw [hfin]
        exact ⟨x, A', older, hno, rfl, hx, I1.trans (S.inv.trans J)⟩
    cases o with
    | norm fr h => exact fun A a w S hd => retcase fr h rfl A a w S hd
    | ret fr h => exact fun A a w S hd => retcase fr h rfl A a w S hd
    | pan v fr h =>
      intro A x a w older hno hx S hd
      have hfin : finT f (fn.results.toList.map (erOf P)) (evD F call fuel) (.pan v fr h, some (g, as)) = (match evD F call fuel (some v) g as h with | .ret true h => finF f (fn.results.toList.map (erOf P)) (.ret fr h) | .ret false h => .pan v h | .pan v h => .pan v h | .bad w => .bad w) := rfl
      show Leaves P fn a.tmps _ a.defers (.panicking ({ v := x, recovered := false } :: older)) w
      cases hr : evD F call fuel (some v) g as h with
      | bad k => rw [hr] at hfin; exact absurd hfin (hb k)
      | ret recd h2 =>
        rw [hr] at hfin
        refine go S hd (mode := some v) ⟨x, older, hno, hx, rfl⟩ (by simp) hr (fun _ => by simp) ?_
        rintro e u' w' ⟨y, A', rfl, J, hby⟩
        cases recd with
        | false =>
          have hu : u' = .panicking ({ v := x, recovered := false } :: older) := hby
          subst hu
          show Told E _ (.panicked _) w'
          rw [hfin]
          exact ⟨x, A', older, hno, rfl, VR.mono (fun p r hp => (J.ext p (S.inv.hr.fresh p r hp)).trans hp) _ _ hx, I1.trans (S.inv.trans J)⟩
        | true =>
          obtain ⟨x', older', hno', h1', h2'⟩ := hby
          subst h2'
          have hset : Go.settle (.panicking ({ v := x', recovered := true } :: older')) = .returning := by
            have : older'.dropWhile (fun e => !e.goexit) = [] := by
              have : ∀ (l : List PanicEntry), NoExit l → l.dropWhile (fun e => !e.goexit) = [] := by
                intro l
                induction l with
                | nil => intro _; rfl
                | cons a l ih =>
                  intro hl
                  rw [List.dropWhile_cons, hl a (by simp)]
                  exact ih (fun e he => hl e (by simp [he]))
              exact this _ hno'
            simp only [Go.settle, this]
          show Leaves P fn a.tmps _ [] (Go.settle _) w'
          rw [hset]
          exact results (back S J) hfin
      | pan v2 h2 =>
        rw [hr] at hfin
        simp only at hfin
        refine go S hd (mode := some v) ⟨x, older, hno, hx, rfl⟩ (by simp) hr (fun _ => by simp) ?_
        rintro e u' w' ⟨y, A', older2, hno2, rfl, hy, J, hby⟩
        have hu : ∃ b, u' = .panicking ({ v := x, recovered := b } :: older) := by
          rcases hby with ⟨x', older', _, h1, h2⟩ | h1
          · simp only [FrameMode.panicking.injEq, List.cons.injEq, PanicEntry.mk.injEq] at h1
            obtain ⟨⟨rfl, _⟩, rfl⟩ := h1
            exact ⟨true, h2⟩
          · exact ⟨false, h1⟩
        obtain ⟨b, rfl⟩ := hu
        show Told E _ (.panicked _) w'
        rw [hfin]
        refine ⟨y, A', older2 ++ ({ v := x, recovered := b } :: older), ?_, rfl, hy, I1.trans (S.inv.trans J)⟩
        intro e he
        rw [List.mem_append, List.mem_cons] at he
        rcases he with he | rfl | he
        · exact hno2 e he
        · rfl
        · exact hno e he
    | exit id fr h => exact absurd rfl (hb 61)
    | bad k => exact absurd rfl (hb k)

theorem fun_sound {Γ : Glob} {F : FuncId → Option EF} (hF : ∀ f e, F f = some e → compF P f = some e) {call : Calls'} (hcall : CallsOk Γ P call) (hdr : ∀ E, CallOk E P call → DrawnOk E P call) (fuel : Nat) : CallsOk Γ P (evFun F call fuel) := by
  have key : ∀ {f as h r}, evFun F call fuel f as h = r → (∀ k, r ≠ .bad k) → Callable P f ∧ ∀ {A w args}, HR A h w → Γ.Met A w → VRs A.s as args.toList → Calls P f args w (Told ⟨A, h, w⟩ r) := by
    intro f as h r hr hb
    unfold evFun at hr
    split at hr
    · rename_i e0 he0
      obtain ⟨fn, c, h1, h2, h3, h4, h5, h6⟩ := compF_eq (hF _ _ he0)
      refine ⟨⟨fn, h1, h3, by rw [h2]; rfl⟩, fun {A w args} hh hg ha => ?_⟩
      have hin : CallOk ⟨A, h, w⟩ P call := hcall.within (E := ⟨A, h, w⟩) hg
      rcases h6 with ⟨h7, h6⟩ | ⟨h7, h6⟩
      · rw [h7] at hr
        simp only at hr
        refine calls_of_wp_defers h1 h2 (top_sound (E := ⟨A, h, w⟩) hcall hdr hg fuel c h4 (act := ⟨args ++ Array.replicate (fn.ntmps - args.size) undef, []⟩) (start_R hh ha fn.ntmps) rfl ?_)
        rw [← h6]
        have := finT_R (E := ⟨A, h, w⟩) (n := fn.ntmps) (f := f) (fn := fn) hF hcall hdr (fuel := fuel) hg (x := evT call fuel e0.code (initFr as 0 .nil) h) (fun k => by rw [← h5, hr]; exact hb k)
        rw [← h5, hr] at this
        exact this
      · rw [h7] at hr
        simp only at hr
        refine calls_of_wp_defers h1 h2 (code_sound hin (hdr _ hin) (localsOf c) fuel c h4 (act := ⟨args ++ Array.replicate (fn.ntmps - args.size) undef, []⟩) (start_R hh ha fn.ntmps) ?_)
        rw [← h6]
        have := fin_R (P := P) (E := ⟨A, h, w⟩) (n := fn.ntmps) (f := f) (fn := fn) (o := evC call fuel e0.code (initFr as 0 .nil) h) (fun k => by rw [← h5, hr]; exact hb k)
        rw [← h5, hr] at this
        exact this
    · subst hr; exact absurd rfl (hb _)
  exact ⟨fun hr _ _ _ hh hg ha => (key hr (fun _ => by simp)).2 hh hg ha, fun hr _ _ _ hh hg ha => (key hr (fun _ => by simp)).2 hh hg ha, fun hr hb => (key hr hb).1⟩
theorem ev_ok {Γ : Glob} (hm : P.follows .mixedOrders = true) {lib : Lib} (hlib : CallsOk Γ P (libC lib)) {F : FuncId → Option EF} (hF : ∀ f e, F f = some e → compF P f = some e) (fuel : Nat) : ∀ d, CallsOk Γ P (ev lib F fuel d)
  | 0 => hlib
  | d + 1 => by
    have ih := ev_ok hm hlib hF fuel d
    have hf := fun_sound hF ih (DrawnAll hm) fuel
    have e : ∀ f as h, ev lib F fuel (d + 1) f as h = (match lib f with | some g => g as h | none => evFun F (ev lib F fuel d) fuel f as h) := fun _ _ _ => rfl
    have e' : ∀ f as h g, lib f = some g → libC lib f as h = g as h := fun f as h g hg => by unfold libC; rw [hg]
    refine ⟨fun {f as h v h'} hr => ?_, fun {f as h v h'} hr => ?_, fun {f as h r} hr hb => ?_⟩ <;> rw [e] at hr <;> split at hr
    · rename_i g hg; rw [← e' f as h g hg] at hr; exact hlib.ret hr
    · exact hf.ret hr
    · rename_i g hg; rw [← e' f as h g hg] at hr; exact hlib.pan hr
    · exact hf.pan hr
    · rename_i g hg; rw [← e' f as h g hg] at hr; exact hlib.body hr hb
    · exact hf.body hr hb
end Go.Ev
namespace Go.Ev
theorem andl {a b : Bool} (h : (match a with | true => b | false => false) = true) : a = true := by cases a; exact h; rfl
theorem andr {a b : Bool} (h : (match a with | true => b | false => false) = true) : b = true := by cases a; cases h; exact h
def both (a b : Bool) : Bool := match a with | true => b | false => false
theorem both_l {a b : Bool} (h : both a b = true) : a = true := andl h
theorem both_r {a b : Bool} (h : both a b = true) : b = true := andr h
set_option linter.unusedSectionVars false
variable [Unk]
open Go.RowKit

def A0 : Asg := ⟨fun _ => none, fun _ => none, fun _ => false⟩
theorem HR.empty (w : World) : HR A0 H.empty w where
  fresh := fun _ _ h => by cases h
  live := fun p b h => by
    have h : get p (.nil : Tr Blk) = some b := h
    rw [get_nil] at h; cases h
  bfresh := fun _ _ h => by cases h
  blk := fun p b r h => by
    have h : get p (.nil : Tr Blk) = some b := h
    rw [get_nil] at h; cases h
  sfresh := fun _ _ h => by cases h
  apart := fun p _ b _ _ _ _ h => by
    have h : get p (.nil : Tr Blk) = some b := h
    rw [get_nil] at h; cases h
  binj := fun _ _ _ h => by cases h
  bs := fun _ _ _ _ h => by cases h
  old := fun _ h => by cases h
def saysTrue : CR → Bool
  | .ret (.bool true) _ => true
  | _ => false
def noGlob : Glob := ⟨0, fun _ => True, fun _ _ _ h => h⟩
theorem noGlob_met (w : World) : noGlob.Met A0 w := ⟨Nat.zero_le _, fun _ _ h => (by cases h), fun _ _ h => (by cases h), trivial⟩
def noLib : Lib := fun _ => none
theorem noLib_ok {P : Program} : CallsOk noGlob P (libC noLib) := ⟨fun h => (by cases h), fun h => (by cases h), fun h hb => absurd h.symm (hb _)⟩
theorem calls_true {P : Program} {Γ : Glob} (hm : P.follows .mixedOrders = true) {lib : Lib} (hlib : CallsOk Γ P (libC lib)) {F : FuncId → Option EF} (hF : ∀ f e, F f = some e → compF P f = some e) {fuel d : Nat} {f : FuncId} {as : List AV} (e : saysTrue (ev lib F fuel d f as H.empty) = true) {args : Array Value} (ha : VRs (fun _ => none) as args.toList) (w : World) (hg : Γ.Met A0 w) :
    Calls P f args w (fun e w' => e = .returned (.bool true) ∧ Below w.heap.size w w') := by
  unfold saysTrue at e
  split at e
  · rename_i h' hr
    refine Calls.mono ((ev_ok hm hlib hF fuel d).ret hr (HR.empty w) hg ha) ?_
    rintro _ w' ⟨x, A', rfl, hx, J⟩
    simp only [VR] at hx
    exact ⟨by rw [hx], ⟨J.os, J.tape, J.output, J.size, fun k hk => J.keep k hk (fun p r hp => by cases hp)⟩⟩
  · cases e
theorem res_of {a : Int} (hw : (Lit.int .u8 a).wf = true) {m : Nat} (hm : 0 < m) : ∃ r, r < m ∧ VR (fun _ => none) (.res .u8 m r) (.int .u8 a) := by
  have h : 0 ≤ a ∧ a ≤ 255 := by
    simp [Lit.wf, IntKind.min, IntKind.max, IntKind.bits, IntKind.signed] at hw
    exact hw
  obtain ⟨n, rfl⟩ := Int.eq_ofNat_of_zero_le h.1
  exact ⟨n % m, Nat.mod_lt _ hm, n, rfl, rfl, by omega⟩
end Go.Ev
namespace Go.Ev
set_option linter.unusedSectionVars false
variable [Unk]
open Go.RowKit
variable {P : Program} {A : Asg} {h : H} {w : World}

theorem HR.kept (hr : HR A h w) {w' : World} (hs : w.heap.size ≤ w'.heap.size) (hk : ∀ x, x < w.heap.size → w'.heap[x]? = w.heap[x]?) : HR A h w' where
  fresh := hr.fresh
  live := hr.live
  bfresh := fun g x hg => ⟨(hr.bfresh g x hg).1, Nat.lt_of_lt_of_le (hr.bfresh g x hg).2 hs⟩
  blk := fun p b r hp hq => (hr.blk p b r hp hq).pushed (fun _ _ e => e) (hk _ (hr.sfresh p r hq))
  sfresh := fun p r hp => Nat.lt_of_lt_of_le (hr.sfresh p r hp) hs
  apart := hr.apart
  binj := hr.binj
  bs := hr.bs
  old := hr.old
theorem Inv.below (hr : HR A h w) {w' : World} (hb : Below w.heap.size w w') : Inv ⟨A, h, w⟩ A h w' where
  hr := hr.kept hb.size hb.block
  os := hb.os
  tape := hb.tape
  output := hb.output
  size := hb.size
  next := Nat.le_refl _
  gen := Nat.le_refl _
  ext := fun _ _ => rfl
  bext := fun _ _ => rfl
  keep := fun x hx _ => hb.block x hx
  news := fun p r hp => .inr ⟨p, r, hp, rfl, id⟩
  bnew := fun g x hg hb => absurd (hr.bfresh g x hb).1 (Nat.not_lt.2 hg)
  phan := fun _ _ _ => rfl
  rok := fun p r ho hs => ⟨hs, ho, hb.block _ (hr.sfresh p r hs)⟩
structure Entry (Γ : Glob) (P : Program) (f : FuncId) (g : List AV → H → CR) : Prop where
  body : Callable P f
  told : ∀ {as h r}, g as h = r → (∀ k, r ≠ .bad k) → ∀ {A w args}, HR A h w → Γ.Met A w → VRs A.s as args.toList → Calls P f args w (Told ⟨A, h, w⟩ r)
theorem libC_ok {Γ : Glob} {lib : Lib} (hl : ∀ f g, lib f = some g → Entry Γ P f g) : CallsOk Γ P (libC lib) := by
  have key : ∀ {f as h r}, libC lib f as h = r → (∀ k, r ≠ .bad k) → ∃ g, lib f = some g ∧ g as h = r := by
    intro f as h r e hb
    unfold libC at e
    split at e
    · rename_i g hg; exact ⟨g, hg, e⟩
    · subst e; exact absurd rfl (hb _)
  refine ⟨fun e _ _ _ hh hg ha => ?_, fun e _ _ _ hh hg ha => ?_, fun e hb => ?_⟩
  · obtain ⟨g, h1, h2⟩ := key e (fun _ => by simp)
    exact (hl _ g h1).told h2 (fun _ => by simp) hh hg ha
  · obtain ⟨g, h1, h2⟩ := key e (fun _ => by simp)
    exact (hl _ g h1).told h2 (fun _ => by simp) hh hg ha
  · obtain ⟨g, h1, _⟩ := key e hb
    exact (hl _ g h1).body
def libOf : List (FuncId × (List AV → H → CR)) → Lib
  | [], _ => none
  | (f, g) :: l, f' => match Nat.beq f f' with | true => some g | false => libOf l f'
theorem libOf_ok {Γ : Glob} : ∀ {l : List (FuncId × (List AV → H → CR))}, (∀ p ∈ l, Entry Γ P p.1 p.2) → ∀ f g, libOf l f = some g → Entry Γ P f g
  | [], _, _, _, h => by cases h
  | (f', g') :: l, hl, f, g, h => by
    simp only [libOf] at h
    split at h
    · rename_i he
      have := Nat.eq_of_beq_eq_true he
      subst this
      cases h
      exact hl (f', g') (by simp)
    · exact libOf_ok (fun p hp => hl p (by simp [hp])) f g h
theorem callable {f : FuncId} {fn : Func} (h1 : P.funcs[f]? = some fn) (h2 : (fn.name != "runtime.NumGoroutine") = true) (h3 : fn.body.isSome = true) : Callable P f := ⟨fn, h1, by simpa using h2, h3⟩

theorem told_pure {f : FuncId} {args : Array Value} {v : AV} {x : Value} (hr : HR A h w) (hx : VR A.s v x) (hc : Calls P f args w fun e w' => e = .returned x ∧ Below w.heap.size w w') : Calls P f args w (Told ⟨A, h, w⟩ (.ret v h)) :=
  hc.mono fun _ _ ⟨he, hb⟩ => ⟨x, A, he, hx, Inv.below hr hb⟩
theorem rowsOf_get (k : Nat) : ∀ (n i : Nat) (l : List AV) (t : Tr (List AV)) (j : Nat), get (pathOf j) (rowsOf k n i l t) = if i ≤ j ∧ j < i + n then some ((l.drop ((j - i) * k)).take k) else get (pathOf j) t
  | 0, i, l, t, j => by
    show get (pathOf j) t = _
    rw [if_neg (by omega)]
  | n + 1, i, l, t, j => by
    show get (pathOf j) (rowsOf k n (i + 1) (l.drop k) (set (pathOf i) (some (l.take k)) t)) = _
    rw [rowsOf_get k n]
    by_cases e : j = i
    · subst e
      rw [if_neg (by omega), get_set, if_pos rfl, if_pos (by omega)]
      simp
    · by_cases h1 : i + 1 ≤ j ∧ j < i + 1 + n
      · rw [if_pos h1, if_pos (by omega)]
        have e : (j - i) * k = k + (j - (i + 1)) * k := by
          have : j - i = j - (i + 1) + 1 := by omega
          rw [this, Nat.succ_mul, Nat.add_comm]
        rw [e, List.drop_drop]
      · rw [if_neg h1, get_set, if_neg (fun e' => e (pathOf_inj e')), if_neg (by omega)]
def strBlk (l : List (List UInt8)) : Blk := ⟨1, l.length, rowsOf 1 l.length 0 (l.map fun x => .str ⟨x.toArray⟩) .nil, false, false, false, 0⟩
def retStrs (l : List (List UInt8)) (h : H) : CR := .ret (.sl h.next 1 0 l.length) (h.new (strBlk l))
theorem told_strs {f : FuncId} {args : Array Value} {l : List (List UInt8)} {T : TypeId} (hr : HR A h w) (hc : Calls P f args w fun e w' => e = .returned (.slice (some ⟨w.heap.size, 0, none⟩) l.length l.length) ∧ w' = w.alloc (.cells (l.map fun x => Value.string ⟨x.toArray⟩).toArray T)) :
    Calls P f args w (Told ⟨A, h, w⟩ (retStrs l h)) := by
  refine hc.mono fun e w' ⟨he, hw⟩ => ?_
  subst hw
  have hB : ObR (A.withS h.next ⟨w.heap.size, 0, 1, l.length⟩).s { w with heap := w.heap.push (.cells (l.map fun x => Value.string ⟨x.toArray⟩).toArray T (0, 0)) } (strBlk l) ⟨w.heap.size, 0, 1, l.length⟩ := by
    refine .of rfl { k := rfl, kpos := Nat.one_pos, cap := Nat.le_refl _, shut := fun _ => rfl, top := fun j row hj => ?_, ty := .inl rfl, cells := ⟨(l.map fun x => Value.string ⟨x.toArray⟩).toArray, T, (0, 0), ?_, fun _ => rfl, by simp, fun j row hj => ?_⟩ }
    · have hj : get (pathOf j) (rowsOf 1 l.length 0 (l.map fun x => AV.str ⟨x.toArray⟩) .nil) = some row := hj
      rw [rowsOf_get] at hj
      split at hj
      · rename_i hjl; show j < l.length; simpa using hjl
      · rw [get_nil] at hj; cases hj
    · show (w.heap.push _)[w.heap.size]? = _
      rw [Array.getElem?_push, if_pos rfl]
    · have hj : get (pathOf j) (rowsOf 1 l.length 0 (l.map fun x => AV.str ⟨x.toArray⟩) .nil) = some row := hj
      rw [rowsOf_get] at hj
      split at hj
      · rename_i hjl
        simp only [Nat.zero_add, Nat.zero_le, true_and, Nat.sub_zero, Nat.mul_one] at hj hjl
        have hd : (l.map fun x => AV.str ⟨x.toArray⟩).drop j = AV.str ⟨l[j].toArray⟩ :: (l.map fun x => AV.str ⟨x.toArray⟩).drop (j + 1) := by
          rw [List.drop_eq_getElem_cons (by simpa using hjl)]; simp
        rw [hd] at hj
        simp only [List.take_succ_cons, List.take_zero, Option.some.injEq] at hj
        subst hj
        refine ⟨rfl, rfl, fun i a ha => ?_⟩
        cases i with
        | zero =>
          simp only [List.getElem?_cons_zero, Option.some.injEq] at ha
          subst ha
          exact ⟨.string ⟨l[j].toArray⟩, by simp [hjl], rfl⟩
        | succ i => simp at ha
      · rw [get_nil] at hj; cases hj
  exact ⟨_, A.withS h.next ⟨w.heap.size, 0, 1, l.length⟩, he, ⟨_, by show (if h.next = h.next then _ else _) = _; rw [if_pos rfl], rfl, by simp, by simp⟩, (Inv.start hr).alloc (o := .cells (l.map fun x => Value.string ⟨x.toArray⟩).toArray T (0, 0)) rfl hB⟩
end Go.Ev
namespace Go.Ev
set_option linter.unusedSectionVars false
variable [Unk]
variable {P : Program} {A A' : Asg} {h h' : H} {w w' : World}

mutual
def plainV : AV → Bool
  | .bool _ => true
  | .int _ _ => true
  | .res _ _ _ => true
  | .str _ => true
  | .nilp => true
  | .nils => true
  | .nilfn => true
  | .nilif => true
  | .nilm => true
  | .sym _ _ _ _ => true
  | .ss _ => true
  | .ifc _ a => plainV a
  | .agg l => plainVs l
  | .tup l => plainVs l
  | _ => false
def plainVs : List AV → Bool
  | [] => true
  | a :: l => plainV a && plainVs l
end
mutual
theorem VR.plain {s s' : Path → Option Ref} : ∀ {a : AV} {x : Value}, plainV a = true → VR s a x → VR s' a x
  | .bool _, _, _, e => e
  | .int _ _, _, _, e => e
  | .res _ _ _, _, _, e => e
  | .str _, _, _, e => e
  | .nilp, _, _, e => e
  | .nils, _, _, e => e
  | .nilfn, _, _, e => e
  | .nilif, _, _, e => e
  | .nilm, _, _, e => e
  | .sym _ _ _ _, _, _, e => e
  | .ss _, _, _, e => e
  | .ifc _ a, _, hp, ⟨y, e, ha⟩ => ⟨y, e, VR.plain (a := a) (by simpa [plainV] using hp) ha⟩
  | .agg l, _, hp, ⟨xs, e, hl, hs⟩ => ⟨xs, e, VRs.plain (l := l) (by simpa [plainV] using hp) hl, hs⟩
  | .tup l, _, hp, ⟨xs, e, hl⟩ => ⟨xs, e, VRs.plain (l := l) (by simpa [plainV] using hp) hl⟩
  | .ptr _ _, _, hp, _ => by simp [plainV] at hp
  | .sl _ _ _ _, _, hp, _ => by simp [plainV] at hp
  | .sle, _, hp, _ => by simp [plainV] at hp
  | .fn _ _ _, _, hp, _ => by simp [plainV] at hp
  | .mp _, _, hp, _ => by simp [plainV] at hp
theorem VRs.plain {s s' : Path → Option Ref} : ∀ {l : List AV} {xs : List Value}, plainVs l = true → VRs s l xs → VRs s' l xs
  | [], _, _, e => e
  | a :: l, _, hp, ⟨y, ys, e, ha, hl⟩ => by
    simp only [plainVs, Bool.and_eq_true] at hp
    exact ⟨y, ys, e, VR.plain hp.1 ha, VRs.plain hp.2 hl⟩
end
mutual
theorem VR.back {s s' : Path → Option Ref} (hm : ∀ p r, s p = some r → s' p = some r) : ∀ {a : AV} {x x0 : Value}, VR s a x0 → VR s' a x → VR s a x
  | .bool _, _, _, _, e => e
  | .int _ _, _, _, _, e => e
  | .res _ _ _, _, _, _, e => e
  | .str _, _, _, _, e => e
  | .nilp, _, _, _, e => e
  | .nils, _, _, _, e => e
  | .nilfn, _, _, _, e => e
  | .nilif, _, _, _, e => e
  | .nilm, _, _, _, e => e
  | .sym _ _ _ _, _, _, _, e => e
  | .ss _, _, _, _, e => e
  | .sle, _, _, _, e => e
  | .ptr p o, _, _, ⟨r, hr, _⟩, ⟨r', hr', e⟩ => by
    have := hm p r hr
    rw [hr'] at this; cases this
    exact ⟨r, hr, e⟩
  | .sl p k i n, _, _, ⟨r, hr, _⟩, ⟨r', hr', e⟩ => by
    have := hm p r hr
    rw [hr'] at this; cases this
    exact ⟨r, hr, e⟩
  | .mp p, _, _, ⟨r, hr, _⟩, ⟨r', hr', e⟩ => by
    have := hm p r hr
    rw [hr'] at this; cases this
    exact ⟨r, hr, e⟩
  | .fn f a c, _, _, ⟨_, _, _, ha, hc⟩, ⟨xs, ys, e, ha', hc'⟩ => ⟨xs, ys, e, VRs.back hm ha ha', VRs.back hm hc hc'⟩
  | .ifc t a, _, _, ⟨_, _, ha⟩, ⟨y, e, ha'⟩ => ⟨y, e, VR.back hm ha ha'⟩
  | .agg l, _, _, ⟨_, _, hl, _⟩, ⟨xs, e, hl', hs⟩ => ⟨xs, e, VRs.back hm hl hl', hs⟩
  | .tup l, _, _, ⟨_, _, hl⟩, ⟨xs, e, hl'⟩ => ⟨xs, e, VRs.back hm hl hl'⟩
theorem VRs.back {s s' : Path → Option Ref} (hm : ∀ p r, s p = some r → s' p = some r) : ∀ {l : List AV} {xs xs0 : List Value}, VRs s l xs0 → VRs s' l xs → VRs s l xs
  | [], _, _, _, e => e
  | _ :: _, _, _, ⟨_, _, _, ha, hl⟩, ⟨y, ys, e, ha', hl'⟩ => ⟨y, ys, e, VR.back hm ha ha', VRs.back hm hl hl'⟩
end
def OldKept (h h' : H) : Prop := ∀ p, num p < num h.next → get p h'.t = get p h.t
theorem OldKept.refl (h : H) : OldKept h h := fun _ _ => rfl
theorem OldKept.gen {h : H} {g : Nat} : OldKept h ⟨h.next, h.t, g⟩ := fun _ _ => rfl
theorem num_new (h : H) (b : Blk) : num (h.new b).next = num h.next + 1 := num_inc _
theorem OldKept.new {h h' : H} (k : OldKept h h') (hn : num h.next ≤ num h'.next) (b : Blk) : OldKept h (h'.new b) := fun p hp => by
  show get p (set h'.next (some b) h'.t) = _
  rw [get_set_other _ _ _ _ (fun e => by subst e; omega)]
  exact k p hp
theorem Inv.forget (hr : HR A h w) (J : Inv ⟨A, h, w⟩ A' h' w') (hk : OldKept h h') : Inv ⟨A, h, w⟩ A h w' := by
  have hm : ∀ p r, A.s p = some r → A'.s p = some r := fun p r hp => (J.ext p (hr.fresh p r hp)).trans hp
  refine { hr := { fresh := hr.fresh, live := hr.live, bfresh := ?_, blk := ?_, sfresh := ?_, apart := hr.apart, binj := hr.binj, bs := hr.bs, old := hr.old }, os := J.os, tape := J.tape, output := J.output, size := J.size, next := Nat.le_refl _, gen := Nat.le_refl _, ext := fun _ _ => rfl, bext := fun _ _ => rfl, keep := J.keep,
           news := fun p r hp => .inr ⟨p, r, hp, rfl, id⟩, bnew := fun g x hg hb => absurd (hr.bfresh g x hb).1 (Nat.not_lt.2 hg), phan := fun _ _ _ => rfl, rok := fun p r ho hs => ⟨hs, ho, (J.rok p r ho hs).2.2⟩ }
  · exact fun g x hg => ⟨(hr.bfresh g x hg).1, Nat.lt_of_lt_of_le (hr.bfresh g x hg).2 J.size⟩
  · intro p b r hp hs
    have B := hr.blk p b r hp hs
    have B' := J.hr.blk p b r ((hk p (hr.live p b hp)).trans hp) (hm p r hs)
    cases hmap : b.map with
    | false =>
      have B := B.blk hmap
      have B' := B'.blk hmap
      refine .of hmap ?_
      refine ⟨B.k, B.kpos, B.cap, B.shut, B.top, B'.ty, ?_⟩
      obtain ⟨cs0, T0, fz0, _, _, _, e4⟩ := B.cells
      obtain ⟨cs, T, fz, g1, g2, g3, g4⟩ := B'.cells
      refine ⟨cs, T, fz, g1, g2, g3, fun j row hj => ?_⟩
      obtain ⟨h5, h6, h7⟩ := g4 j row hj
      refine ⟨h5, h6, fun i a ha => ?_⟩
      obtain ⟨x, hx, hv⟩ := h7 i a ha
      obtain ⟨x0, _, hv0⟩ := (e4 j row hj).2.2 i a ha
      exact ⟨x, hx, VR.back hm hv0 hv⟩
    | true =>
      have B := B.mapR hmap
      have B' := B'.mapR hmap
      refine .ofMap hmap ⟨B.ro, ?_⟩
      obtain ⟨es0, c0, _, e2, e3⟩ := B.map
      obtain ⟨es, c, g1, g2, g3⟩ := B'.map
      refine ⟨es, c, g1, g2, fun j e he => ?_⟩
      obtain ⟨ka, va, q1, q2, q3⟩ := g3 j e he
      have hj : j < es0.size := by have := (Array.getElem?_eq_some_iff.1 he).1; omega
      obtain ⟨ka0, va0, p1, p2, p3⟩ := e3 j es0[j] (Array.getElem?_eq_getElem hj)
      rw [q1] at p1
      cases p1
      exact ⟨ka, va, q1, VR.back hm p2 q2, VR.back hm p3 q3⟩
  · exact fun p r hp => Nat.lt_of_lt_of_le (hr.sfresh p r hp) J.size
def Comes (r : CR) (h : H) (r' : CR) : Prop := r = r' ∨ ∃ v h', r = .ret v h' ∧ r' = .ret v h ∧ plainV v = true ∧ OldKept h h'
def upd (call : Calls') (f : FuncId) (S : List AV → H → CR) : Calls' := fun g as h => match Nat.beq g f with | true => S as h | false => call g as h
def Spec (Γ : Glob) (P : Program) (f : FuncId) (as : List AV) (h : H) (r : CR) : Prop := Callable P f ∧ ∀ {A : Asg} {w : World} {args : Array Value}, HR A h w → Γ.Met A w → VRs A.s as args.toList → Calls P f args w (Told ⟨A, h, w⟩ r)
theorem CallsOk.spec {Γ : Glob} {call : Calls'} (hc : CallsOk Γ P call) {f : FuncId} {as : List AV} {h : H} {r : CR} (e : call f as h = r) (hb : ∀ k, r ≠ .bad k) : Spec Γ P f as h r := by
  refine ⟨hc.body e hb, fun {A w args} hh hg ha => ?_⟩
  cases r with
  | ret v h' => exact hc.ret e hh hg ha
  | pan v h' => exact hc.pan e hh hg ha
  | bad k => exact absurd rfl (hb k)
theorem CallsOk.of_spec {Γ : Glob} {call : Calls'} (hs : ∀ f as h r, call f as h = r → (∀ k, r ≠ .bad k) → Spec Γ P f as h r) : CallsOk Γ P call :=
  ⟨fun e _ _ _ hh hg ha => (hs _ _ _ _ e (fun _ => by simp)).2 hh hg ha, fun e _ _ _ hh hg ha => (hs _ _ _ _ e (fun _ => by simp)).2 hh hg ha, fun e hb => (hs _ _ _ _ e hb).1⟩
theorem spec_of {Γ : Glob} (hm : P.follows .mixedOrders = true) {call : Calls'} (hc : CallsOk Γ P call) {F : FuncId → Option EF} (hF : ∀ f e, F f = some e → compF P f = some e) {f : FuncId} {fuel : Nat} {as : List AV} {h : H} {r : CR}
    (hr : Comes (evFun F call fuel f as h) h r) (hb : ∀ k, r ≠ .bad k) : Spec Γ P f as h r := by
  have K := fun_sound hF hc (DrawnAll hm) fuel
  rcases hr with he | ⟨v, h', h1, h2, h3, h4⟩
  · exact K.spec he hb
  · subst h2
    refine ⟨K.body h1 (fun _ => by simp), fun {A w args} hh hg ha => ?_⟩
    refine (K.ret h1 hh hg ha).mono ?_
    rintro e w' ⟨x, A', rfl, hx, J⟩
    exact ⟨x, A, rfl, VR.plain h3 hx, J.forget hh h4⟩
theorem CallsOk.upd_of {Γ : Glob} {call : Calls'} (hc : CallsOk Γ P call) {f : FuncId} {S : List AV → H → CR} (hS : ∀ as h r, S as h = r → (∀ k, r ≠ .bad k) → Spec Γ P f as h r) : CallsOk Γ P (upd call f S) := by
  refine .of_spec fun g as h r e hb => ?_
  unfold upd at e
  split at e
  · rename_i hf
    have := Nat.eq_of_beq_eq_true hf
    subst this
    exact hS as h r e hb
  · exact hc.spec e hb
theorem CallsOk.add {Γ : Glob} (hm : P.follows .mixedOrders = true) {call : Calls'} (hc : CallsOk Γ P call) {F : FuncId → Option EF} (hF : ∀ f e, F f = some e → compF P f = some e) {f : FuncId} {S : List AV → H → CR}
    (hS : ∀ as h r, S as h = r → (∀ k, r ≠ .bad k) → ∃ fuel, Comes (evFun F call fuel f as h) h r) : CallsOk Γ P (upd call f S) :=
  hc.upd_of fun as h r e hb => let ⟨_, hf⟩ := hS as h r e hb; spec_of hm hc hF hf hb
def below (μ : List AV → Nat) (n : Nat) (S : List AV → H → CR) : List AV → H → CR := fun as h => match Nat.blt (μ as) n with | true => S as h | false => .bad 0
theorem CallsOk.addRec {Γ : Glob} (hm : P.follows .mixedOrders = true) {call : Calls'} (hc : CallsOk Γ P call) {F : FuncId → Option EF} (hF : ∀ f e, F f = some e → compF P f = some e) {f : FuncId} {S : List AV → H → CR} (μ : List AV → Nat)
    (hS : ∀ as h r, S as h = r → (∀ k, r ≠ .bad k) → ∃ fuel, Comes (evFun F (upd call f (below μ (μ as) S)) fuel f as h) h r) : CallsOk Γ P (upd call f S) := by
  have key : ∀ n as h r, μ as = n → S as h = r → (∀ k, r ≠ .bad k) → Spec Γ P f as h r := by
    intro n
    induction n using Nat.strongRecOn with
    | _ n ih =>
      intro as h r hn e hb
      obtain ⟨fuel, hf⟩ := hS as h r e hb
      refine spec_of hm (hc.upd_of (S := below μ (μ as) S) fun as' h' r' e' hb' => ?_) hF hf hb
      unfold below at e'
      split at e'
      · rename_i hlt
        rw [natBlt] at hlt
        exact ih (μ as') (by rw [← hn]; exact of_decide_eq_true hlt) as' h' r' rfl e' hb'
      · subst e'; exact absurd rfl (hb' _)
  exact hc.upd_of fun as h r e hb => key _ as h r rfl e hb
end Go.Ev
namespace Go.Ev
set_option linter.unusedSectionVars false
variable [Unk]
variable {P : Program}
def lookF : List (FuncId × EF) → FuncId → Option EF
  | [], _ => none
  | (g, e) :: l, f => match Nat.beq g f with | true => some e | false => lookF l f
theorem lookF_ok : ∀ {l : List (FuncId × EF)}, (∀ p ∈ l, compF P p.1 = some p.2) → ∀ f e, lookF l f = some e → compF P f = some e
  | [], _, _, _, h => by cases h
  | (g, c) :: l, hl, f, e, h => by
    simp only [lookF] at h
    split at h
    · rename_i hg
      have := Nat.eq_of_beq_eq_true hg
      subst this
      cases h
      exact hl (g, c) (by simp)
    · exact lookF_ok (fun p hp => hl p (by simp [hp])) f e h
theorem upd_hit (call : Calls') (f : FuncId) (S : List AV → H → CR) (as : List AV) (h : H) : upd call f S f as h = S as h := by unfold upd; rw [Nat.beq_refl]
theorem upd_miss {call : Calls'} {f g : FuncId} {S : List AV → H → CR} {as : List AV} {h : H} (hg : Nat.beq g f = false) : upd call f S g as h = call g as h := by unfold upd; rw [hg]
end Go.Ev
end
