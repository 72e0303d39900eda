/- Code, functions: what the evaluator tells is what the program does. -/
import Derived.Test.YtlbooinipoaapaaDoorEvRun
import Derived.Tactics
namespace Go.Ev
variable {P : Program} {E : Ent} {A : Asg} {n : Nat} {ok : Path → Prop} {fr : FT} {act : Act} {w : World} {h : H}

theorem wp_loop_fuel {c : Code} {Q : Exit → Act → World → Prop} {a : Act} {w : World} (R : Nat → Act → World → Prop) (i : Nat) (h₀ : R i a w) (hz : ∀ a w, ¬ R 0 a w)
    (round : ∀ i a w, R (i + 1) a w → c.wp P (Exit.then (R i) Q) a w) : (Code.loop c).wp P Q a w := by
  intro b k cs
  have key : ∀ i a w, R i a w → ∃ e a' w', Q e a' w' ∧ Arrives P (lone (b.at a (.code c :: .inLoop c :: k)) cs w) b k cs e a' w' := by
    intro i
    induction i with
    | zero => intro a w h; exact absurd h (hz a w)
    | succ i ih =>
      intro a w hI
      obtain ⟨e, a₁, w₁, hq, harr⟩ := round i a w hI b (.inLoop c :: k) cs
      cases e with
      | normal =>
        obtain ⟨e₂, a₂, w₂, hq₂, harr₂⟩ := ih a₁ w₁ hq
        exact ⟨e₂, a₂, w₂, hq₂, .of_steps (Steps.trans harr (.one step_inLoop)) harr₂⟩
      | exit id => exact ⟨_, a₁, w₁, hq, .pass (x := .inLoop c) rfl (fun _ _ => .inl (by simp)) harr⟩
      | goto l => exact ⟨_, a₁, w₁, hq, .pass (x := .inLoop c) rfl (fun _ _ => .inl (by simp)) harr⟩
      | ret => exact ⟨_, a₁, w₁, hq, .pass (x := .inLoop c) rfl (fun _ _ => .inl (by simp)) harr⟩
      | panic ch => exact ⟨_, a₁, w₁, hq, .pass (x := .inLoop c) rfl (fun _ _ => .inl (by simp)) harr⟩
      | outgrown => exact ⟨_, a₁, w₁, hq, .pass (x := .inLoop c) rfl (fun _ _ => .inl (by simp)) harr⟩
  obtain ⟨e, a', w', hq, harr⟩ := key i a w h₀
  exact ⟨e, a', w', hq, .of_steps (.one step_loop) harr⟩

/-- What an outcome of ours is to lead to. -/
def OutR (E : Ent) (n : Nat) (df : List Deferred) (Q : Exit → Act → World → Prop) (ds : List Path := []) : Out → Prop
  | .norm fr h => ∀ A a w, Sta E A n all fr h a.tmps w → a.defers = df → Q .normal a w
  | .exit id fr h => ∀ A a w, Sta E A n all fr h a.tmps w → a.defers = df → Q (.exit id) a w
  | .ret fr h => ∀ A a w, Sta E A n all fr h a.tmps w → a.defers = df → Q .ret a w
  | .pan v fr h => ∀ A x a w older, NoExit older → VR A.s v x → Sta E A n all (clr ds fr) h a.tmps w → a.defers = df → Q (.panic ({ v := x, recovered := false } :: older)) a w
  | .bad _ => False
theorem looks_all {ops : Array Oper} {o : Oper} : LooksOk all ops o := fun _ _ => trivial

theorem evSteps_cons (call : Calls') (s : St) (l : List St) (fr : FT) (h : H) : evSteps call (s :: l) fr h = match evStep call s fr h with | .norm fr h => evSteps call l fr h | x => x := rfl
theorem evSteps_nil (call : Calls') (fr : FT) (h : H) : evSteps call [] fr h = .norm fr h := rfl
theorem evStep_kinds {call : Calls'} {s : St} {fr : FT} {h : H} : (∀ id f g, evStep call s fr h ≠ .exit id f g) ∧ (∀ f g, evStep call s fr h ≠ .ret f g) := by
  constructor <;> intros <;> intro e
  all_goals
    unfold evStep at e
    split at e
    · split at e
      · split at e
        · split at e <;> cases e
        · split at e <;> cases e
        · split at e <;> cases e
        · split at e
          · cases e
          · split at e <;> cases e
          · cases e
          · cases e
      · cases e
      · cases e
    · split at e
      · split at e
        · split at e
          · split at e <;> cases e
          · cases e
        · cases e
      · cases e
    · cases e
theorem list_sound {call : Calls'} (hcall : CallOk E P call) {loc : List Tmp} {ops : Array Oper} {Q : Exit → Act → World → Prop} {df : List Deferred} : ∀ (rest : List Oper), (∀ o ∈ rest, DstOk n o) → ∀ {A fr h act w},
    Sta E A n all fr h act.tmps w → act.defers = df → OutR E n df Q [] (evSteps call (rest.map (stOf P loc ops)) fr h) → wpList P ops Q rest act w
  | [], _, A, fr, h, act, w, S, hdf, ho => ho A act w S hdf
  | o :: rest, hd, A, fr, h, act, w, S, hdf, ho => by
    rw [List.map_cons, evSteps_cons] at ho
    have hw : OpWp P ops Q o (wpList P ops Q rest) act w := by
      cases hs : evStep call (stOf P loc ops o) fr h with
      | norm fr' h' =>
        rw [hs] at ho
        exact step_norm hcall S looks_all (hd o (by simp)) (fun _ _ => trivial) hs (fun A' a' w' S' e _ _ => list_sound hcall rest (fun q hq => hd q (by simp [hq])) S' (e.trans hdf) ho)
      | pan v fr' h' =>
        rw [hs] at ho
        exact step_pan hcall S looks_all hs (fun A' x w' older hno hx S' => ho A' x act w' older hno hx S' hdf)
      | bad k => rw [hs] at ho; exact ho.elim
      | exit id f g => exact absurd hs (evStep_kinds.1 _ _ _)
      | ret f g => exact absurd hs (evStep_kinds.2 _ _)
    unfold OpWp at hw
    unfold wpList
    split
    · rename_i hq; rw [if_pos hq] at hw; exact .inl hw
    · rename_i hq; rw [if_neg hq] at hw; exact hw

/-- Regions that go in any order. -/
def DrawnOk (E : Ent) (P : Program) (call : Calls') : Prop := ∀ {A : Asg} {n : Nat} {fr : FT} {h : H} {act : Act} {w : World} {loc : List Tmp} {id : Nat} {ops : Array Oper} {Q : Exit → Act → World → Prop},
  (∀ o ∈ ops.toList, DstOk n o) → Sta E A n all fr h act.tmps w → OutR E n act.defers Q (dstsOf ops) (evSteps call (drawnOf P loc ops) fr h) → (Code.region id ops true).wp P Q act w

theorem OutR.clr {df : List Deferred} {Q : Exit → Act → World → Prop} {ds : List Path} : ∀ {o : Out}, OutR E n df Q [] (clrOut ds o) → OutR E n df Q ds o
  | .norm _ _, h => h
  | .exit _ _ _, h => h
  | .ret _ _, h => h
  | .pan _ _ _, h => h
  | .bad _, h => h
theorem OutR.mono {df : List Deferred} {Q Q' : Exit → Act → World → Prop} (hq : ∀ e a w, Q e a w → Q' e a w) : ∀ {o : Out}, OutR E n df Q [] o → OutR E n df Q' [] o
  | .norm _ _, h => fun A a w S e => hq _ _ _ (h A a w S e)
  | .exit _ _ _, h => fun A a w S e => hq _ _ _ (h A a w S e)
  | .ret _ _, h => fun A a w S e => hq _ _ _ (h A a w S e)
  | .pan _ _ _, h => fun A x a w older hno hx S e => hq _ _ _ (h A x a w older hno hx S e)
  | .bad _, h => h
noncomputable def loopF (call : Calls') (fuel : Nat) (c : EC) (i : Nat) : FT → H → Out := Nat.rec (fun _ _ => Out.bad 51) (fun _ ih fr h => match evC call fuel c fr h with
    | .norm fr h => ih fr h
    | x => x) i
theorem loopF_succ (call : Calls') (fuel : Nat) (c : EC) (i : Nat) (fr : FT) (h : H) : loopF call fuel c (i + 1) fr h = match evC call fuel c fr h with | .norm fr h => loopF call fuel c i fr h | x => x := rfl

theorem code_sound {call : Calls'} (hcall : CallOk E P call) (hdr : DrawnOk E P call) (loc : List Tmp) (fuel : Nat) : ∀ (c : Code), (∀ o ∈ opersOf c, DstOk n o) → ∀ {Q : Exit → Act → World → Prop} {A fr h act w},
    Sta E A n all fr h act.tmps w → OutR E n act.defers Q [] (evC call fuel (compC P loc c) fr h) → c.wp P Q act w
  | .skip, _, Q, A, fr, h, act, w, S, ho => wp_skip (ho A act w S rfl)
  | .region id ops false, hd, Q, A, fr, h, act, w, S, ho => wp_region_list (list_sound hcall (loc := loc) ops.toList hd S rfl ho)
  | .region id ops true, hd, Q, A, fr, h, act, w, S, ho => hdr (loc := loc) hd S (OutR.clr ho)
  | .seq a b, hd, Q, A, fr, h, act, w, S, ho => by
    have ho : OutR E n act.defers Q [] (match evC call fuel (compC P loc a) fr h with | .norm fr h => evC call fuel (compC P loc b) fr h | x => x) := ho
    refine wp_seq (code_sound hcall hdr loc fuel a (fun o h => hd o (by simp [opersOf, h])) S ?_)
    cases hs : evC call fuel (compC P loc a) fr h with
    | norm fr' h' =>
      rw [hs] at ho
      intro A' a' w' S' e
      exact code_sound hcall hdr loc fuel b (fun o h => hd o (by simp [opersOf, h])) S' (e ▸ ho)
    | exit id f g => rw [hs] at ho; exact ho
    | ret f g => rw [hs] at ho; exact ho
    | pan v f g => rw [hs] at ho; exact ho
    | bad k => rw [hs] at ho; exact ho
  | .cond c a b, hd, Q, A, fr, h, act, w, S, ho => by
    have ho : OutR E n act.defers Q [] (match gv (rd c) fr with | some (.bool true) => evC call fuel (compC P loc a) fr h | some (.bool false) => evC call fuel (compC P loc b) fr h | _ => .bad 50) := ho
    split at ho
    · rename_i hg
      have := gv_VR S.frr (x := c) (fun _ _ => trivial) hg
      simp only [VR] at this
      exact wp_cond_true this (code_sound hcall hdr loc fuel a (fun o h => hd o (by simp [opersOf, h])) S ho)
    · rename_i hg
      have := gv_VR S.frr (x := c) (fun _ _ => trivial) hg
      simp only [VR] at this
      exact wp_cond_false this (code_sound hcall hdr loc fuel b (fun o h => hd o (by simp [opersOf, h])) S ho)
    · exact ho.elim
  | .block id c, hd, Q, A, fr, h, act, w, S, ho => by
    have ho : OutR E n act.defers Q [] (match evC call fuel (compC P loc c) fr h with | .exit id' fr h => (match Nat.beq id' id with | true => .norm fr h | false => .exit id' fr h) | x => x) := ho
    refine wp_block (code_sound hcall hdr loc fuel c hd S ?_)
    cases hs : evC call fuel (compC P loc c) fr h with
    | exit id' fr' h' =>
      rw [hs] at ho
      simp only at ho
      intro A' a' w' S' e
      show (if id' = id then Q .normal a' w' else Q (.exit id') a' w')
      cases hb : Nat.beq id' id with
      | true => rw [hb] at ho; rw [if_pos (Nat.eq_of_beq_eq_true hb)]; exact ho A' a' w' S' e
      | false => rw [hb] at ho; rw [natBeq] at hb; rw [if_neg (of_decide_eq_false hb)]; exact ho A' a' w' S' e
    | norm f g => rw [hs] at ho; exact ho
    | ret f g => rw [hs] at ho; exact ho
    | pan v f g => rw [hs] at ho; exact ho
    | bad k => rw [hs] at ho; exact ho
  | .loop c, hd, Q, A, fr, h, act, w, S, ho => by
    have ho : OutR E n act.defers Q [] (loopF call fuel (compC P loc c) fuel fr h) := ho
    refine wp_loop_fuel (fun i a w => ∃ A fr h, Sta E A n all fr h a.tmps w ∧ a.defers = act.defers ∧ OutR E n act.defers Q [] (loopF call fuel (compC P loc c) i fr h)) fuel ⟨A, fr, h, S, rfl, ho⟩ (fun a w ⟨_, _, _, _, _, ho⟩ => ho.elim) ?_
    rintro i a w ⟨A, fr, h, S, e, ho⟩
    refine code_sound hcall hdr loc fuel c hd S ?_
    rw [loopF_succ] at ho
    cases hs : evC call fuel (compC P loc c) fr h with
    | norm fr' h' =>
      rw [hs] at ho
      intro A' a' w' S' e'
      exact ⟨A', fr', h', S', e'.trans e, ho⟩
    | exit id f g => rw [hs] at ho; rw [e]; exact ho
    | ret f g => rw [hs] at ho; rw [e]; exact ho
    | pan v f g => rw [hs] at ho; rw [e]; exact ho
    | bad k => rw [hs] at ho; exact ho
  | .exit id, _, Q, A, fr, h, act, w, S, ho => wp_exit (ho A act w S rfl)
  | .ret, _, Q, A, fr, h, act, w, S, ho => wp_ret (ho A act w S rfl)
  | .goto _, _, _, _, _, _, _, _, _, ho => (show False from ho).elim
  | .label _, _, _, _, _, _, _, _, _, ho => (show False from ho).elim
  | .scope _, _, _, _, _, _, _, _, _, ho => (show False from ho).elim
  | .rangeFunc .., _, _, _, _, _, _, _, _, ho => (show False from ho).elim
end Go.Ev
