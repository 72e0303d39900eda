/- A function with one range over a function that goes no round (slices.Chunk of nothing): what the evaluator tells of what is around it is what it does. -/
import Derived.Test.YtdfkioaoijmhbaaGreatDoorEvMc
import Derived.RangeFuncLeaves
import Derived.RangeFuncRecord
namespace Go.Ev
open Go.RowKit
/-- Does an address hold a slice of none? -/
noncomputable def emptyAt (h : H) (p : Path) (o : Nat) : Bool := match getC p h.t with
  | some b => match get (pathOf (o / b.k)) b.rows with
    | some r => match r[o % b.k]? with
      | some .sle => true
      | some .nils => true
      | _ => false
    | none => false
  | none => false
/-- What comes behind a range over the closure zf of a row, where the row is empty. -/
noncomputable def evR (P : Program) (call : Calls') (fuel : Nat) (zf : FuncId) (g : Operand) (b : Code) (fr : FT) (h : H) : Out := match gv (rd g) fr with
  | some (.fn f [] [.ptr p o, _]) => match Nat.beq f zf, emptyAt h p o, nobox fr with
    | true, true, true => evC call fuel (compC P [] b) fr h
    | _, _, _ => .bad 53
  | _ => .bad 53
/-- Code with such a range. -/
noncomputable def evG (P : Program) (call : Calls') (fuel : Nat) (zf : FuncId) : Code → FT → H → Out
  | .seq a b, fr, h => match a with
    | .block _ (.rangeFunc g _ _ _) => evR P call fuel zf g b fr h
    | .seq a1 (.block _ (.rangeFunc g _ _ _)) => match evC call fuel (compC P [] a1) fr h with
      | .norm fr h => evR P call fuel zf g b fr h
      | x => x
    | a => match evC call fuel (compC P [] a) fr h with
      | .norm fr h => evG P call fuel zf b fr h
      | x => x
  | c, fr, h => evC call fuel (compC P [] c) fr h
noncomputable def rangeG (P : Program) (call : Calls') (fuel : Nat) (zf : FuncId) (f : FuncId) (c : Code) : List AV → H → CR := fun as h => finF f [] (evG P call fuel zf c (initFr as 0 .nil) h)
set_option linter.unusedSectionVars false
variable [Unk]
variable {P : Program} {E : Ent} {A A' : Asg} {n : Nat} {ok : Path → Prop} {fr : FT} {act : Act} {w : World} {h h' : H}
theorem FrR.moved {tmps : Array Value} (F : FrR A n ok fr tmps w) (hb : ∀ p g l, get p fr ≠ some (.box g l)) (w' : World) : FrR A n ok fr tmps w' where
  size := F.size
  slot := fun t s ho hs => by
    have := F.slot t s ho hs
    cases s with
    | v a => exact this
    | und => exact this
    | box g l => exact absurd hs (hb _ _ _)
    | lp d g o => exact this
  bok := fun p g l h => absurd h (hb _ _ _)
  once := fun p q g l l' h => absurd h (hb _ _ _)
/-- Something that is none of ours, and was not there ahead, is written. -/
theorem Inv.other (I : Inv E A h w) {x : Nat} {o : Obj} (hx : E.w.heap.size ≤ x) (hs : ∀ p r, A.s p = some r → r.blk ≠ x) : Inv E A h (wr w x o) := by
  refine { hr := ?_, os := I.os, tape := I.tape, output := I.output, size := ?_, next := I.next, gen := I.gen, ext := I.ext, bext := I.bext, keep := ?_, news := I.news, bnew := I.bnew, phan := I.phan, rok := ?_ }
  · refine { fresh := I.hr.fresh, live := I.hr.live, bfresh := ?_, blk := ?_, sfresh := ?_, apart := I.hr.apart, binj := I.hr.binj, bs := I.hr.bs, old := I.hr.old }
    · intro g y hgy
      rw [wr_size]; exact I.hr.bfresh g y hgy
    · intro q c t hq ht
      exact (I.hr.blk q c t hq ht).pushed (fun _ _ e => e) (wr_other (hs q t ht))
    · intro q t hq
      rw [wr_size]; exact I.hr.sfresh q t hq
  · rw [wr_size]; exact I.size
  · intro y hy hk
    exact (wr_other (fun e => by omega)).trans (I.keep y hy hk)
  · intro q t ho hs'
    obtain ⟨h1, h2, h3⟩ := I.rok q t ho hs'
    exact ⟨h1, h2, (wr_other (hs q t h1)).trans h3⟩
/-- The statement, where the function tells nothing. -/
theorem wp_range_none {g : Operand} {ps : Array Tmp} {assign body : Code} {Q : Exit → Act → World → Prop} {a : Act} {gf : Nat} {lb : Array Value} (hg : a.eval g = .func (.func gf) #[] lb)
    (eg : ∀ args w, (callFunc gf args).run P w = .ok (.enter gf args) w)
    (hz : ∀ (y : Value) (w' : World), (∀ x, x < w.heap.size → w'.heap[x]? = w.heap[x]?) → Calls P gf (#[y] ++ lb) w' fun e w'' => e = .returned (.tuple #[]) ∧ w'' = w')
    (hq : ∀ w4, Below w.heap.size w w4 → w.heap.size < w4.heap.size → w4.heap[w.heap.size]? = some (.deferred (some [])) → Q .normal { a with defers := { target := .collected w.heap.size, args := #[] } :: a.defers } w4) :
    (Code.rangeFunc g ps assign body).wp P Q a w := by
  refine (wpIn_wide (n := 0)).1 (wpIn_rangeFunc (F := Fence.wide) (n := 0) fun fn _ => ?_)
  obtain ⟨rec, hrec⟩ : ∃ rec : Loop, rec = { state := .ready, pending := none, fn, tmps := a.tmps, params := ps, assign, body, defers := w.heap.size } := ⟨_, rfl⟩
  obtain ⟨W1, hW1⟩ : ∃ W1, (w.alloc (.deferred (some []))).alloc (.loop rec) = W1 := ⟨_, rfl⟩
  have hL1 : W1.heap[w.heap.size + 1]? = some (.loop rec) := by
    rw [← hW1]; have := World.alloc_heap_new (w.alloc (.deferred (some []))) (.loop rec); rwa [World.size_alloc] at this
  have hK1 : W1.heap[w.heap.size]? = some (.deferred (some [])) := by
    rw [← hW1]; exact (Below.heap_alloc _ _ _ (by simp)).trans (World.alloc_heap_new w _)
  have hb1 : Below w.heap.size w W1 := by
    rw [← hW1]; exact ((Below.refl _ w).alloc (Nat.le_refl _) _).alloc (by simp) _
  have hlt : w.heap.size + 1 < W1.heap.size := (Array.getElem?_eq_some_iff.1 hL1).1
  refine ⟨w.heap.size + 1, [{ target := .collected w.heap.size, args := #[] }], W1, { target := .fn (.func gf) lb, args := #[.func (.yield (w.heap.size + 1)) #[] #[]] }, W1, gf,
    #[.func (.yield (w.heap.size + 1)) #[] #[]] ++ lb, W1, ?_, ?_, fun _ _ => trivial, ?_, fun h => (by simp [Fence.wide] at h), callsIn_wide.2 ((hz _ W1 hb1.block).mono ?_)⟩
  · rw [← hW1, hrec]; exact run_enterLoop_outer _ _ _ _ _
  · simp only [resolve, hg]
    simp [go_sem]
  · simp [invoke, go_sem, eg]
  · rintro e w'' ⟨rfl, rfl⟩
    have hend := run_endLoop (P := P) hL1 (by rw [hrec]; simp)
    rw [hrec] at hend
    refine ⟨none, _, hend, hq _ ?_ ?_ ?_⟩
    · refine ⟨hb1.os, hb1.tape, hb1.output, ?_, fun k hk => ?_⟩
      · show _ ≤ (Array.setIfInBounds _ _ _).size
        rw [Array.size_setIfInBounds]; exact hb1.size
      · exact (World.putObj_heap_other (by omega)).trans (hb1.block k hk)
    · show _ < (Array.setIfInBounds _ _ _).size
      rw [Array.size_setIfInBounds]; omega
    · exact (World.putObj_heap_other (by omega)).trans hK1
theorem emptyAt_R {p : Path} {o : Nat} (he : emptyAt h p o = true) (hr : HR A h w) {r : Ref} (hs : A.s p = some r) : ∃ base cap x, w.heap[r.blk]? = some x ∧ ∀ w' : World, w'.heap[r.blk]? = some x → w'.cell? ⟨r.blk, r.off + o, none⟩ = some (.slice base 0 cap) := by
  unfold emptyAt at he
  split at he
  · rename_i b hb
    obtain ⟨hget, hmap⟩ := getC_eq hb
    have B := (hr.blk p b r hget hs).blk hmap
    obtain ⟨cs, T, fz, c1, c2, c3, c4⟩ := B.cells
    split at he
    · rename_i row hrow
      obtain ⟨f1, f2, f3⟩ := c4 _ _ hrow
      have hmod : o = o / b.k * r.k + o % b.k := by rw [B.k, Nat.mul_comm]; exact (Nat.div_add_mod o b.k).symm
      have hoff : r.off + o / b.k * r.k + o % b.k = r.off + o := by omega
      have fin : ∀ {a : AV}, row[o % b.k]? = some a → (∀ x, VR A.s a x → ∃ base cap, x = .slice base 0 cap) → ∃ base cap x, w.heap[r.blk]? = some x ∧ ∀ w' : World, w'.heap[r.blk]? = some x → w'.cell? ⟨r.blk, r.off + o, none⟩ = some (.slice base 0 cap) := by
        intro a ha hx
        obtain ⟨x, hx1, hx2⟩ := f3 _ _ ha
        obtain ⟨base, cap, rfl⟩ := hx x hx2
        rw [hoff] at hx1
        refine ⟨base, cap, _, c1, fun w' hw => ?_⟩
        unfold World.cell?
        simp only [hw, Option.isSome_none, Bool.false_eq_true, if_false]
        exact hx1
      split at he
      · rename_i ha; exact fin ha (fun x hx => by obtain ⟨a, c, rfl⟩ := hx; exact ⟨_, _, rfl⟩)
      · rename_i ha; exact fin ha (fun x hx => ⟨_, _, hx⟩)
      · cases he
    · cases he
  · cases he
theorem finF_nil {f : FuncId} {o : Out} {r : CR} (e : finF f [] o = r) (hb : ∀ k, r ≠ .bad k) : (∃ fr h, (o = .norm fr h ∨ o = .ret fr h) ∧ r = .ret (.tup []) h) ∨ ∃ v fr h, o = .pan v fr h ∧ r = .pan v h := by
  cases o with
  | norm fr h => exact .inl ⟨fr, h, .inl rfl, e.symm⟩
  | ret fr h => exact .inl ⟨fr, h, .inr rfl, e.symm⟩
  | pan v fr h => exact .inr ⟨v, fr, h, rfl, e.symm⟩
  | exit id fr h => subst e; exact absurd rfl (hb 61)
  | bad k => subst e; exact absurd rfl (hb _)
/-- Code without deferred calls, at the end of a function that tells nothing. -/
theorem endM {f : FuncId} {fn : Func} {o : Out} {r : CR} {k : Nat} (hres : fn.results = #[]) (e : finF f [] o = r) (hb : ∀ k, r ≠ .bad k) : OutR E n [] (bodyPostM Fence.wide k P fn (Told E r)) [] o := by
  rcases finF_nil e hb with ⟨fr, h, rfl | rfl, rfl⟩ | ⟨v, fr, h, rfl, rfl⟩
  · intro A a w S hd
    show LeavesInM _ _ P fn a.tmps _ a.defers .returning w
    rw [hd]
    exact ⟨_, results_none hres _ _ _, .tuple #[], A, rfl, ⟨#[], rfl, by simp [VRs]⟩, S.inv⟩
  · intro A a w S hd
    show LeavesInM _ _ P fn a.tmps _ a.defers .returning w
    rw [hd]
    exact ⟨_, results_none hres _ _ _, .tuple #[], A, rfl, ⟨#[], rfl, by simp [VRs]⟩, S.inv⟩
  · intro A x a w older hno hx S hd
    show LeavesInM _ _ P fn a.tmps _ a.defers (.panicking _) w
    rw [hd]
    exact ⟨x, A, older, hno, rfl, hx, S.inv⟩
/-- What comes behind the range. -/
theorem afterM {call : Calls'} (hcall : ∀ E', E'.A = A → E'.h = h → Below w.heap.size w E'.w → CallOk E' P call) (hdr : ∀ E, CallOk E P call → DrawnOk E P call) {f : FuncId} {fn : Func} {fuel k : Nat} {b : Code} (hd : ∀ o ∈ opersOf b, DstOk n o) {r : CR} (hres : fn.results = #[])
    (S : Sta E A n all fr h act.tmps w) (hbox : ∀ p g l, get p fr ≠ some (.box g l)) {w4 : World} (hbl : Below w.heap.size w w4) (hlt : w.heap.size < w4.heap.size) (hD : w4.heap[w.heap.size]? = some (.deferred (some [])))
    (e : finF f [] (evC call fuel (compC P [] b) fr h) = r) (hb : ∀ k, r ≠ .bad k) :
    b.wp P (bodyPostM Fence.wide k P fn (Told E r)) { act with defers := [{ target := .collected w.heap.size, args := #[] }] } w4 := by
  have hr4 : HR A h w4 := S.inv.hr.kept hbl.size hbl.block
  have S2 : Sta ⟨A, h, w4⟩ A n all fr h act.tmps w4 := ⟨Inv.start hr4, S.frr.moved hbox w4, fun p g l h => absurd h (hbox _ _ _)⟩
  have hin := hcall ⟨A, h, w4⟩ rfl rfl hbl
  have I0 : Inv E A h w4 := S.inv.trans (Inv.below S.inv.hr hbl)
  -- what is to be shown of each way out
  have key : ∀ {A' : Asg} {h' : H} {w' : World}, Inv ⟨A, h, w4⟩ A' h' w' → w'.heap[w.heap.size]? = some (.deferred (some [])) ∧ Inv E A' h' (w'.putObj w.heap.size (.deferred none)) := by
    intro A' h' w' J
    have hnot : ∀ p r, A.s p = some r → r.blk ≠ w.heap.size := fun p r hp => by have := S.inv.hr.sfresh p r hp; omega
    refine ⟨(J.keep _ hlt hnot).trans hD, ?_⟩
    refine (I0.trans J).other S.inv.size fun p r hp => ?_
    rcases J.news p r hp with h1 | ⟨q, t, hq, ht, _⟩
    · have h1 : w4.heap.size ≤ r.blk := h1; omega
    · have := S.inv.hr.sfresh q t hq; omega
  refine code_sound hin (hdr _ hin) [] fuel b hd (act := { act with defers := [{ target := .collected w.heap.size, args := #[] }] }) S2 ?_
  rcases finF_nil e hb with ⟨fr', h', ho, rfl⟩ | ⟨v, fr', h', ho, rfl⟩
  · have fin : ∀ A' (a : Act) w', Sta ⟨A, h, w4⟩ A' n all fr' h' a.tmps w' → a.defers = [{ target := .collected w.heap.size, args := #[] }] → LeavesInM Fence.wide k P fn a.tmps (Told E (.ret (.tup []) h')) a.defers .returning w' := by
      intro A' a w' S' hdf
      obtain ⟨g1, g2⟩ := key S'.inv
      rw [hdf]
      exact ⟨by simp, .inl ⟨_, _, rfl, run_takeDeferred g1, _, results_none hres _ _ _, .tuple #[], A', rfl, ⟨#[], rfl, by simp [VRs]⟩, g2⟩⟩
    rcases ho with ho | ho
    · rw [ho]; intro A' a w' S' hdf; exact fin A' a w' S' hdf
    · rw [ho]; intro A' a w' S' hdf; exact fin A' a w' S' hdf
  · rw [ho]
    intro A' x a w' older hno hx S' hdf
    obtain ⟨g1, g2⟩ := key S'.inv
    show LeavesInM _ _ P fn a.tmps _ a.defers (.panicking _) w'
    rw [hdf]
    exact ⟨by simp, .inl ⟨_, _, rfl, run_takeDeferred g1, x, A', older, hno, rfl, hx, g2⟩⟩
/-- The range, and what comes behind. -/
theorem rangeM {Γ : Glob} {call : Calls'} (hcall : CallsOk Γ P call) (hdr : ∀ E, CallOk E P call → DrawnOk E P call) (hg : Γ.Met E.A E.w) {f zf : FuncId} {fn : Func} {fuel k : Nat} (hres : fn.results = #[])
    (eg : ∀ args w, (callFunc zf args).run P w = .ok (.enter zf args) w)
    (hz : ∀ (y v : Value) (a : Addr) (base : Option Addr) (cap : Nat) (w : World), w.cell? a = some (.slice base 0 cap) → Calls P zf #[y, .pointer (some a), v] w fun e w' => e = .returned (.tuple #[]) ∧ w' = w)
    {id : Nat} {g : Operand} {ps : Array Tmp} {as bd b : Code} (hdb : ∀ o ∈ opersOf b, DstOk n o) {r : CR} (S : Sta E A n all fr h act.tmps w) (hdf : act.defers = []) (e : finF f [] (evR P call fuel zf g b fr h) = r) (hb : ∀ k, r ≠ .bad k) :
    (Code.block id (.rangeFunc g ps as bd)).wp P (Exit.then (b.wp P (bodyPostM Fence.wide k P fn (Told E r))) (bodyPostM Fence.wide k P fn (Told E r))) act w := by
  unfold evR at e
  split at e
  · rename_i f0 p o v hgv
    split at e
    · rename_i hf0 hem hnb
      have hf0 := Nat.eq_of_beq_eq_true hf0
      subst hf0
      have hbox : ∀ p g l, get p fr ≠ some (.box g l) := fun p g l => nobox_get p fr hnb g l
      obtain ⟨xs, ys, hev, hxs, hys⟩ := gv_VR S.frr (x := g) (fun _ _ => trivial) hgv
      obtain ⟨y1, t1, e1, ⟨q, hq, rfl⟩, y2, t2, e2, hy2, e3⟩ := hys
      have hxs : xs = #[] := by simpa [VRs] using hxs
      have e3 : t2 = [] := by simpa [VRs] using e3
      subst hxs e3 e2
      obtain rfl : ys = #[.pointer (some ⟨q.blk, q.off + o, none⟩), y2] := by cases ys; simp_all
      obtain ⟨base, cap, x, hx1, hx2⟩ := emptyAt_R hem S.inv.hr hq
      refine wp_block ?_
      refine wp_range_none hev eg (fun y w' hw' => ?_) (fun w4 hbl hlt hD => ?_)
      · exact hz y y2 _ base cap w' (hx2 w' ((hw' _ (S.inv.hr.sfresh p q hq)).trans hx1))
      · show b.wp P _ _ w4
        rw [hdf]
        refine afterM (fun E' h1 h2 hbl' => hcall.within ?_) hdr hdb hres S hbox hbl hlt hD e hb
        rw [h1]
        exact Glob.Met.go (E := E) hg ((S.inv.trans (Inv.below S.inv.hr hbl')))
    · subst e; exact absurd rfl (hb _)
  · subst e; exact absurd rfl (hb _)
/-- The whole of the function. -/
theorem walkM {Γ : Glob} {call : Calls'} (hcall : CallsOk Γ P call) (hdr : ∀ E, CallOk E P call → DrawnOk E P call) (hg : Γ.Met E.A E.w) {f zf : FuncId} {fn : Func} {fuel k : Nat} (hres : fn.results = #[])
    (eg : ∀ args w, (callFunc zf args).run P w = .ok (.enter zf args) w)
    (hz : ∀ (y v : Value) (a : Addr) (base : Option Addr) (cap : Nat) (w : World), w.cell? a = some (.slice base 0 cap) → Calls P zf #[y, .pointer (some a), v] w fun e w' => e = .returned (.tuple #[]) ∧ w' = w) :
    ∀ (c : Code), (∀ o ∈ opersOf c, DstOk n o) → ∀ {A fr h act w r}, Sta E A n all fr h act.tmps w → act.defers = [] → finF f [] (evG P call fuel zf c fr h) = r → (∀ k, r ≠ .bad k) → c.wp P (bodyPostM Fence.wide k P fn (Told E r)) act w := by
  have hin : CallOk E P call := hcall.within hg
  intro c
  have leaf : ∀ (c : Code), (∀ o ∈ opersOf c, DstOk n o) → ∀ {A fr h act w r}, Sta E A n all fr h act.tmps w → act.defers = [] → finF f [] (evC call fuel (compC P [] c) fr h) = r → (∀ k, r ≠ .bad k) → c.wp P (bodyPostM Fence.wide k P fn (Told E r)) act w := by
    intro c hd A fr h act w r S hdf e hb
    refine code_sound hin (hdr _ hin) [] fuel c hd S ?_
    rw [hdf]
    exact endM hres e hb
  induction c with
  | seq a b _ ihb =>
    intro hd A fr h act w r S hdf e hb
    have hda : ∀ o ∈ opersOf a, DstOk n o := fun o h => hd o (by simp [opersOf, h])
    have hdb : ∀ o ∈ opersOf b, DstOk n o := fun o h => hd o (by simp [opersOf, h])
    have plain : finF f [] (match evC call fuel (compC P [] a) fr h with | .norm fr h => evG P call fuel zf b fr h | x => x) = r → (Code.seq a b).wp P (bodyPostM Fence.wide k P fn (Told E r)) act w := by
      intro e
      refine wp_seq (code_sound hin (hdr _ hin) [] fuel a hda S ?_)
      rw [hdf]
      cases hs : evC call fuel (compC P [] a) fr h with
      | norm fr' h' =>
        rw [hs] at e
        intro A' a' w' S' e'
        exact ihb hdb S' e' e hb
      | exit id f' g => rw [hs] at e; subst e; exact absurd rfl (hb 61)
      | ret f' g => rw [hs] at e; exact endM hres e hb
      | pan v f' g => rw [hs] at e; exact endM hres e hb
      | bad k' => rw [hs] at e; subst e; exact absurd rfl (hb _)
    unfold evG at e
    split at e
    · exact wp_seq (rangeM hcall hdr hg hres eg hz hdb S hdf e hb)
    · rename_i a1 _ g _ _ _ _
      refine wp_seq (wp_seq (code_sound hin (hdr _ hin) [] fuel a1 (fun o h => hda o (by simp [opersOf, h])) S ?_))
      rw [hdf]
      cases hs : evC call fuel (compC P [] a1) fr h with
      | norm fr' h' =>
        rw [hs] at e
        intro A' a' w' S' e'
        exact rangeM hcall hdr hg hres eg hz hdb S' e' e hb
      | exit id f' g => rw [hs] at e; subst e; exact absurd rfl (hb 61)
      | ret f' g => rw [hs] at e; exact endM hres e hb
      | pan v f' g => rw [hs] at e; exact endM hres e hb
      | bad k' => rw [hs] at e; subst e; exact absurd rfl (hb _)
    · exact plain e
  | _ => intro hd A fr h act w r S hdf e hb; exact leaf _ hd S hdf e hb
theorem run_enter {f : FuncId} (hf : Callable P f) (args : Array Value) (w : World) : (callFunc f args).run P w = .ok (.enter f args) w := by
  obtain ⟨fn, e1, e2, e3⟩ := hf
  have hb : fn.body.isNone = false := by cases hb : fn.body <;> simp_all
  simp only [callFunc, Sem.run_bind, run_program, Result.andThen_ok, e1]
  rw [if_neg (by simpa using e2), hb]
  rfl
theorem range_told {Γ : Glob} {call : Calls'} (hm : P.follows .mixedOrders = true) (hcall : CallsOk Γ P call) {f zf : FuncId} {fn : Func} {c : Code} {fuel : Nat} (hf : P.funcs[f]? = some fn) (hb0 : fn.body = some c) (hok : fnOk fn c = true) (hres : fn.results = #[])
    (eg : ∀ args w, (callFunc zf args).run P w = .ok (.enter zf args) w)
    (hz : ∀ (y v : Value) (a : Addr) (base : Option Addr) (cap : Nat) (w : World), w.cell? a = some (.slice base 0 cap) → Calls P zf #[y, .pointer (some a), v] w fun e w' => e = .returned (.tuple #[]) ∧ w' = w) :
    Entry Γ P f (rangeG P call fuel zf f c) := by
  unfold fnOk at hok
  rw [Bool.and_eq_true] at hok
  obtain ⟨hn, hd⟩ := hok
  have hd : ∀ o ∈ opersOf c, DstOk fn.ntmps o := fun o ho => by
    have := List.all_eq_true.1 hd o ho
    unfold DstOk
    intro d hd
    rw [hd] at this
    simp only at this
    rw [natBlt] at this
    exact of_decide_eq_true this
  refine ⟨⟨fn, hf, by simpa using hn, by rw [hb0]; rfl⟩, fun {as h r} e hb {A w args} hh hg ha => ?_⟩
  exact callsIn_wide.1 (callsIn_of_wp_marks (F := Fence.wide) (n := 0) hf hb0 trivial (wpIn_wide.2 (walkM (E := ⟨A, h, w⟩) (n := fn.ntmps) hcall (DrawnAll hm) hg hres eg hz c hd (act := ⟨args ++ Array.replicate (fn.ntmps - args.size) undef, []⟩) (start_R hh ha fn.ntmps) rfl e hb)))
end Go.Ev
