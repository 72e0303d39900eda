/- loop's `coming`: a channel of one, a send, a select with a default: what it tells. -/
import Derived.Test.YtanjjmgoangmdaaGreatDoorProg
import Derived.Test.YtanjjmgoangmdaaGreatDoorEvMc
import Derived.Conc.LoneCalls
import Derived.Conc.LoneSelect
import Derived.KernelRfl
import Derived.Laws.Rows
namespace Go.Proofs.Lo
open Go.Ev Go.RowKit Go.Conc
set_option linter.unusedSectionVars false
variable [Unk]
theorem com_bytes : ∃ i, Tryz.prog.info? 58 = some i ∧ i.bytes = 32 := by
  have h : (Tryz.prog.info? 58).map (·.bytes) = some 32 := by kernel_rfl
  obtain ⟨i, hi, hb⟩ := Option.map_eq_some_iff.1 h
  exact ⟨i, hi, hb⟩
theorem com_mk (w : World) : (Instr.makeChan 153 (.int .i64 1)).run Tryz.prog w = .ok (.chan (some w.heap.size)) (w.alloc (.chan 1 #[] false 0 0 false)) := by
  obtain ⟨i, hi, hb⟩ := com_bytes
  simpa using run_makeChan (P := Tryz.prog) (w := w) Tryz.underlying153 hi .i64 1 (by omega) (by rw [hb]; omega)
theorem cell_kept {w : World} {a : Addr} {v : Value} (o : Obj) (h : w.cell? a = some v) : (w.alloc o).cell? a = some v := by
  unfold World.cell? at *
  cases ha : w.heap[a.block]? with
  | none => simp [ha] at h
  | some x =>
    have hlt : a.block < w.heap.size := (Array.getElem?_eq_some_iff.1 ha).1
    have : (w.alloc o).heap[a.block]? = some x := by
      show (w.heap.push o)[a.block]? = some x
      rw [heap_push hlt, ha]
    simp only [ha] at h
    simp only [this]
    exact h
set_option maxHeartbeats 4000000 in
set_option maxRecDepth 100000 in
/-- Nothing comes. -/
theorem com_none (B O n m ch ct : Nat) (ph pt : Option Addr) (w : World) (c1 : w.cell? ⟨B, O + 1, none⟩ = some (.slice ph n ch)) (c2 : w.cell? ⟨B, O + 2, none⟩ = some (.slice pt m ct)) (hmn : ¬ (m : Int) < (n : Int)) :
    Calls Tryz.prog 31 #[.pointer (some ⟨B, O, none⟩)] w fun e w' => e = .returned (.pointer none) ∧ Below w.heap.size w w' := by
  refine calls_of_loneTo fun cs => ?_
  have e : Frame.enter Tryz.prog 31 #[.pointer (some ⟨B, O, none⟩)] .normal = (base 31).at ⟨#[.pointer (some ⟨B, O, none⟩), undef, undef, undef, undef, undef, undef, undef, undef, undef, undef, undef, undef, undef, undef, undef, undef, undef, undef, undef, undef, undef, undef, undef, undef, undef, undef, undef, undef, undef, undef, undef], []⟩ [.code (Tryz.f31.body.getD .skip)] := by
    simp [Frame.enter, Frame.at, Tryz.func31, base, Tryz.f31]
    try rfl
  rw [e]
  have hmc := com_mk
  have d1 := cell_kept (.chan 1 #[] false 0 0 false) c1
  have d2 := cell_kept (.chan 1 #[] false 0 0 false) c2
  refine LoneTo.goes (n := 60) ?_
  simp only [Tryz.f31, Option.getD_some]
  repeat (s_c stepG_seq)
  s_reg
  s_op
  s_c stepG_region_end
  repeat (s_c stepG_seq)
  s_reg
  s_op
  s_op
  s_c stepG_region_end
  repeat (s_c stepG_seq)
  s_reg
  s_op
  s_op
  s_op
  s_op
  s_op
  s_op
  s_c stepG_region_end
  repeat (s_c stepG_seq)
  s_reg
  s_op
  s_op
  s_op
  s_op
  s_op
  s_op
  s_op
  s_c stepG_region_end
  repeat (s_c stepG_seq)
  s_cond false
  s_c stepG_skip
  repeat (s_c stepG_seq)
  s_reg
  s_op
  s_c stepG_region_end
  repeat (s_c stepG_seq)
  s_reg
  s_stop
  refine LoneTo.step (step_lone_select_default (c := w.heap.size) (z := (.agg #[.int .i64 0, .int .i64 0, .string ⟨#[]⟩])) (cap := 1) (s := 0) (r := 0) (tm := false) (stepG_comm (cases := #[rcase w.heap.size (.agg #[.int .i64 0, .int .i64 0, .string ⟨#[]⟩])]) (blocking := false) (shape := .select) (w' := (w.alloc (.chan 1 #[] false 0 0 false))) rfl rfl (by decide) (by simp [go_sem, execOp, rcase, Act.eval])) (heap_alloc_new _ _)) ?_
  rw [Frame.finish_at]
  walk_nrm
  refine LoneTo.goes (n := 30) ?_
  s_op
  s_op
  s_c stepG_region_end
  repeat (s_c stepG_seq)
  s_c stepG_block
  s_cond false
  repeat (s_c stepG_seq)
  s_reg
  s_op
  s_c stepG_region_end
  s_c stepG_ret'
  s_stop
  refine LoneTo.done ⟨.returned (.pointer none), _, rfl, ⟨rfl, ?_⟩, rfl, rfl, rfl, rfl, _, Tryz.func31, by simp [results, Tryz.f31, Frame.at]⟩
  exact (Below.refl _ w).alloc (Nat.le_refl _) _
set_option maxHeartbeats 4000000 in
set_option maxRecDepth 100000 in
/-- Something comes: a block of its own. -/
theorem com_take (B O n m ch ct hb ho : Nat) (pt : Option Addr) (x0 x1 x2 : Value) (w : World) (c1 : w.cell? ⟨B, O + 1, none⟩ = some (.slice (some ⟨hb, ho, none⟩) n ch)) (c2 : w.cell? ⟨B, O + 2, none⟩ = some (.slice pt m ct)) (hmn : m < n)
    (e0 : w.cell? ⟨hb, ho + m * 3 + 0, none⟩ = some x0) (e1 : w.cell? ⟨hb, ho + m * 3 + 1, none⟩ = some x1) (e2 : w.cell? ⟨hb, ho + m * 3 + 2, none⟩ = some x2) (o0 : x0.oneCell' = true) (o1 : x1.oneCell' = true) (o2 : x2.oneCell' = true) :
    Calls Tryz.prog 31 #[.pointer (some ⟨B, O, none⟩)] w fun e w' => ∃ w1, Below w.heap.size w w1 ∧ e = .returned (.pointer (some ⟨w1.heap.size, 0, none⟩)) ∧ w' = { w1 with heap := w1.heap.push (.cells #[x0, x1, x2] 58 (0, 0)) } := by
  refine calls_of_loneTo fun cs => ?_
  have e : Frame.enter Tryz.prog 31 #[.pointer (some ⟨B, O, none⟩)] .normal = (base 31).at ⟨#[.pointer (some ⟨B, O, none⟩), undef, undef, undef, undef, undef, undef, undef, undef, undef, undef, undef, undef, undef, undef, undef, undef, undef, undef, undef, undef, undef, undef, undef, undef, undef, undef, undef, undef, undef, undef, undef], []⟩ [.code (Tryz.f31.body.getD .skip)] := by
    simp [Frame.enter, Frame.at, Tryz.func31, base, Tryz.f31]
    try rfl
  rw [e]
  have hmc := com_mk
  have d1 := cell_kept (.chan 1 #[] false 0 0 false) c1
  have d2 := cell_kept (.chan 1 #[] false 0 0 false) c2
  have hmn' : (m : Int) < (n : Int) := by omega
  have f0 := cell_kept (.chan 1 #[] false 0 0 false) e0
  have f1 := cell_kept (.chan 1 #[] false 0 0 false) e1
  have f2 := cell_kept (.chan 1 #[] false 0 0 false) e2
  rw [Nat.add_zero] at f0
  refine LoneTo.goes (n := 60) ?_
  simp only [Tryz.f31, Option.getD_some]
  repeat (s_c stepG_seq)
  s_reg
  s_op
  s_c stepG_region_end
  repeat (s_c stepG_seq)
  s_reg
  s_op
  s_op
  s_c stepG_region_end
  repeat (s_c stepG_seq)
  s_reg
  s_op
  s_op
  s_op
  s_op
  s_op
  s_op
  s_c stepG_region_end
  repeat (s_c stepG_seq)
  s_reg
  s_op
  s_op
  s_op
  s_op
  s_op
  s_op
  s_op
  s_c stepG_region_end
  repeat (s_c stepG_seq)
  s_cond true
  repeat (s_c stepG_seq)
  s_reg
  s_op
  s_op
  s_op
  s_op
  s_op
  s_op
  s_op
  s_op
  s_stop
  refine LoneTo.step (step_lone_send_room (c := w.heap.size) (cap := 1) (buf := #[]) (s := 0) (r := 0) (tm := false) (stepG_comm (cases := #[scase w.heap.size (.agg #[x0, x1, x2]) (.tuple #[])]) (blocking := true) (shape := .send) (w' := (w.alloc (.chan 1 #[] false 0 0 false))) rfl rfl (by decide) (by simp [execOp, scase, Act.eval])) (heap_alloc_new _ _) (by simp)) ?_
  rw [Frame.finish_at]
  walk_nrm
  refine LoneTo.goes (n := 30) ?_
  s_c stepG_region_end
  repeat (s_c stepG_seq)
  s_reg
  s_op
  s_c stepG_region_end
  repeat (s_c stepG_seq)
  s_reg
  s_stop
  refine LoneTo.step (step_lone_select_recv_buf (c := w.heap.size) (z := (.agg #[.int .i64 0, .int .i64 0, .string ⟨#[]⟩])) (stepG_comm (cases := #[rcase w.heap.size (.agg #[.int .i64 0, .int .i64 0, .string ⟨#[]⟩])]) (blocking := false) (shape := .select) (w' := ((w.alloc (.chan 1 #[] false 0 0 false)).setChan w.heap.size 1 #[(.agg #[x0, x1, x2])] false 1 0 false)) rfl rfl (by decide) (by simp [go_sem, execOp, rcase, Act.eval])) (heap_setChan (w.alloc (.chan 1 #[] false 0 0 false)) w.heap.size 1 #[(.agg #[x0, x1, x2])] false 1 0 false (by simp)) (by simp)) ?_
  rw [Frame.finish_at]
  have hb3 : Below w.heap.size w (((w.alloc (.chan 1 #[] false 0 0 false)).setChan w.heap.size 1 #[(.agg #[x0, x1, x2])] false 1 0 false).setChan w.heap.size 1 ((#[(.agg #[x0, x1, x2])] : Array Value).extract 1 (#[(.agg #[x0, x1, x2])] : Array Value).size) false 1 (0 + 1) false) := below_setChan (below_setChan ((Below.refl _ w).alloc (Nat.le_refl _) _) (Nat.le_refl _) _ _ _ _ _ _) (Nat.le_refl _) _ _ _ _ _ _
  generalize (((w.alloc (.chan 1 #[] false 0 0 false)).setChan w.heap.size 1 #[(.agg #[x0, x1, x2])] false 1 0 false).setChan w.heap.size 1 ((#[(.agg #[x0, x1, x2])] : Array Value).extract 1 (#[(.agg #[x0, x1, x2])] : Array Value).size) false 1 (0 + 1) false) = W3 at hb3 ⊢
  walk_nrm
  clear f0 f1 f2 hmc d1 d2
  refine LoneTo.goes (n := 30) ?_
  s_op
  s_op
  s_c stepG_region_end
  repeat (s_c stepG_seq)
  s_c stepG_block
  s_cond true
  repeat (s_c stepG_seq)
  s_reg
  s_op
  s_op
  have hst : (storeVar 58 ⟨W3.heap.size, 0, none⟩ (.agg #[x0, x1, x2])).run Tryz.prog (W3.alloc (.cells #[.int .i64 0, .int .i64 0, .string ⟨#[]⟩] 58)) = .ok () { W3 with heap := W3.heap.push (.cells #[x0, x1, x2] 58 (0, 0)) } := by
    rw [run_storeVar_row (W3.alloc (.cells #[.int .i64 0, .int .i64 0, .string ⟨#[]⟩] 58)) W3.heap.size 58 58 #[.int .i64 0, .int .i64 0, .string ⟨#[]⟩] #[x0, x1, x2] (heap_alloc_new _ _) (by kernel_rfl) rfl (by simp [o0, o1, o2])]
    congr 1
    unfold World.setRow World.alloc
    congr 1
    apply Array.ext_getElem?
    intro i
    rw [Array.getElem?_modify]
    by_cases hi : W3.heap.size = i
    · subst hi; simp
    · simp only [if_neg hi]
      rw [Array.getElem?_push, Array.getElem?_push, if_neg (fun h => hi h.symm), if_neg (fun h => hi h.symm)]
  s_in
  refine goes_oper_k rfl rfl (by decide) (fun K hK => ?_)
  simp [execOp, Act.eval, Instr.storeAt, Instr.sureAddr, hst, Act.put]
  refine hK _ _ ⟨trivial, ?_⟩
  clear hK K hst
  s_c stepG_region_end
  repeat (s_c stepG_seq)
  s_reg
  s_op
  s_c stepG_region_end
  s_c stepG_ret'
  s_stop
  exact LoneTo.done ⟨.returned (.pointer (some ⟨W3.heap.size, 0, none⟩)), _, rfl, ⟨W3, hb3, rfl, rfl⟩, rfl, rfl, rfl, rfl, _, Tryz.func31, by simp [results, Tryz.f31, Frame.at]⟩
/-- A slice's length. -/
def lenSl : AV → Option Nat
  | .nils => some 0
  | .sle => some 0
  | .sl _ _ _ n => some n
  | _ => none
theorem lenSl_R {s : Path → Option Ref} {a : AV} {x : Value} {n : Nat} (h : lenSl a = some n) (hx : VR s a x) : ∃ p c, x = .slice p n c := by
  unfold lenSl at h
  split at h <;> cases h
  · exact ⟨none, 0, hx⟩
  · obtain ⟨a, c, rfl⟩ := hx; exact ⟨some a, c, rfl⟩
  · obtain ⟨r, _, _, _, rfl⟩ := hx; exact ⟨_, _, rfl⟩
/-- What comes next: nothing, or a block of the input's cells. -/
noncomputable def comG : List AV → H → CR := fun xs h => match xs with
  | [.ptr p o] => match getC p h.t with
    | some b => match Ev.get (pathOf (o / b.k)) b.rows with
      | some row => match row[o % b.k + 1]?, row[o % b.k + 2]? with
        | some hv, some tv => match lenSl hv, lenSl tv with
          | some n, some m => match Nat.blt m n with
            | false => .ret .nilp h
            | true => match hv with
              | .sl q _ i _ => match getC q h.t with
                | some bh => match Ev.get (pathOf (i + m)) bh.rows with
                  | some [a, c, d] => .ret (.ptr h.next 0) (h.new ⟨3, 1, Ev.set (pathOf 0) (some [a, c, d]) .nil, false, false, false, 58 + 1⟩)
                  | _ => .bad 0
                | none => .bad 0
              | _ => .bad 0
          | _, _ => .bad 0
        | _, _ => .bad 0
      | none => .bad 0
    | none => .bad 0
  | _ => .bad 0
theorem comBody : Callable Tryz.prog 31 := ⟨_, Tryz.func31, by decide, rfl⟩
theorem com_entry {Γ : Glob} : Entry Γ Tryz.prog 31 comG := ⟨comBody, fun {xs h r} e hb {A w args} hh hg ha => by
  unfold comG at e
  split at e
  · rename_i p o
    split at e
    · rename_i b hbl
      split at e
      · rename_i row hrow
        split at e
        · rename_i hv tv hr1 hr2
          split at e
          · rename_i n m hn hm
            obtain ⟨y, ys, e1, h1, h2⟩ := ha
            obtain ⟨q, hq, rfl⟩ := h1
            have h2 : ys = [] := by simpa [VRs] using h2
            subst h2
            obtain rfl : args = #[.pointer (some ⟨q.blk, q.off + o, none⟩)] := by cases args; simp_all
            obtain ⟨hget, hmap⟩ := getC_eq hbl
            have B := (hh.blk p b q hget hq).blk hmap
            obtain ⟨cs, T, fz, c1, c2, c3, c4⟩ := B.cells
            obtain ⟨f1, f2, f3⟩ := c4 _ _ hrow
            have hmod : o = o / b.k * q.k + o % b.k := by rw [B.k, Nat.mul_comm]; exact (Nat.div_add_mod o b.k).symm
            have hcell : ∀ {j : Nat} {a : AV}, row[o % b.k + j]? = some a → ∃ x, w.cell? ⟨q.blk, q.off + o + j, none⟩ = some x ∧ VR A.s a x := fun {j a} hr => by
              obtain ⟨x, hx, hv⟩ := f3 _ _ hr
              rw [show q.off + o / b.k * q.k + (o % b.k + j) = q.off + o + j by omega] at hx
              refine ⟨x, ?_, hv⟩
              unfold World.cell?
              simp only [c1, Option.isSome_none, Bool.false_eq_true, if_false]
              exact hx
            obtain ⟨x1, g1, v1⟩ := hcell hr1
            obtain ⟨x2, g2, v2⟩ := hcell hr2
            obtain ⟨pt, ct, rfl⟩ := lenSl_R hm v2
            split at e
            · rename_i hlt
              rw [natBlt] at hlt
              have hlt := of_decide_eq_false hlt
              obtain ⟨ph, ch, rfl⟩ := lenSl_R hn v1
              subst e
              exact told_pure hh (show VR A.s .nilp (.pointer none) from rfl) (com_none q.blk (q.off + o) n m ch ct ph pt w g1 g2 (by omega))
            · rename_i hlt
              rw [natBlt] at hlt
              have hlt := of_decide_eq_true hlt
              split at e
              · rename_i qh kk ih nh
                split at e
                · rename_i bh hbh
                  split at e
                  · rename_i a c d hrow2
                    subst e
                    have hn' : nh = n := by simpa [lenSl] using hn
                    subst hn'
                    obtain ⟨r2, hr2', hk2, hcap2, rfl⟩ := v1
                    obtain ⟨hget2, hmap2⟩ := getC_eq hbh
                    have B2 := (hh.blk qh bh r2 hget2 hr2').blk hmap2
                    obtain ⟨cs2, T2, fz2, d1, d2, d3, d4⟩ := B2.cells
                    obtain ⟨l1, l2, l3⟩ := d4 _ _ hrow2
                    have k3 : r2.k = 3 := by rw [B2.k, ← l1]; rfl
                    have hc2 : ∀ (j : Nat) (z : AV), [a, c, d][j]? = some z → ∃ x, w.cell? ⟨r2.blk, r2.off + ih * r2.k + m * 3 + j, none⟩ = some x ∧ VR A.s z x := fun j z hz => by
                      obtain ⟨x, hx, hv⟩ := l3 j z hz
                      rw [k3] at hx ⊢
                      rw [show r2.off + (ih + m) * 3 + j = r2.off + ih * 3 + m * 3 + j by omega] at hx
                      refine ⟨x, ?_, hv⟩
                      unfold World.cell?
                      simp only [d1, Option.isSome_none, Bool.false_eq_true, if_false]
                      exact hx
                    obtain ⟨y0, i0, j0⟩ := hc2 0 a rfl
                    obtain ⟨y1, i1, j1⟩ := hc2 1 c rfl
                    obtain ⟨y2, i2, j2⟩ := hc2 2 d rfl
                    have hall : [a, c, d].all sc = true := l2
                    simp only [List.all_cons, List.all_nil, Bool.and_true, Bool.and_eq_true] at hall
                    obtain ⟨s0, s1, s2⟩ := hall
                    have hone : ∀ {z : AV} {x : Value}, VR A.s z x → sc z = true → x.oneCell' = true := fun hv hs => VRs.one (.cons hv .nil) (by simp [hs]) _ (by simp)
                    refine (com_take q.blk (q.off + o) nh m (r2.cap - ih) ct r2.blk (r2.off + ih * r2.k) pt y0 y1 y2 w g1 g2 hlt i0 i1 i2 (hone j0 s0) (hone j1 s1) (hone j2 s2)).mono fun e w' ⟨w1, hb1, he, hw⟩ => ?_
                    subst hw
                    have hm : ∀ z t, A.s z = some t → (A.withS h.next ⟨w1.heap.size, 0, 3, 1⟩).s z = some t := withS_mono hh.none_next
                    have hgp : (w1.heap.push (Obj.cells #[y0, y1, y2] 58 (0, 0)))[w1.heap.size]? = some (Obj.cells #[y0, y1, y2] 58 (0, 0)) := by rw [Array.getElem?_push, if_pos rfl]
                    have hrow0 : ∀ j row, Ev.get (pathOf j) (Ev.set (pathOf 0) (some [a, c, d]) .nil) = some row → j = 0 ∧ row = [a, c, d] := fun j row hj => by
                      rw [get_set] at hj
                      split at hj
                      · rename_i hp
                        cases hj
                        exact ⟨pathOf_inj hp, rfl⟩
                      · rw [get_nil] at hj; cases hj
                    refine ⟨_, A.withS h.next ⟨w1.heap.size, 0, 3, 1⟩, he, ⟨_, by show (if h.next = h.next then _ else _) = _; rw [if_pos rfl], rfl⟩, (Inv.below hh hb1).alloc (o := .cells #[y0, y1, y2] 58 (0, 0)) rfl (.of rfl ?_)⟩
                    refine { k := rfl, kpos := by show 0 < 3; omega, cap := Nat.le_refl _, shut := fun _ => rfl, top := fun j row hj => ?_, ty := .inr ⟨_, 58, (0, 0), hgp, rfl, rfl, fun _ => rfl⟩, cells := ⟨_, 58, (0, 0), hgp, fun _ => rfl, by show 0 + 1 * 3 ≤ 3; omega, fun j row hj => ?_⟩ }
                    · obtain ⟨rfl, _⟩ := hrow0 j row hj
                      exact Nat.one_pos
                    · obtain ⟨rfl, rfl⟩ := hrow0 j row hj
                      refine ⟨rfl, l2, fun i z hz => ?_⟩
                      have hz' : i < 3 := by rcases Nat.lt_or_ge i 3 with h | h; exact h; rw [List.getElem?_eq_none h] at hz; cases hz
                      match i, hz' with
                      | 0, _ => cases hz; exact ⟨y0, rfl, VR.mono hm _ _ j0⟩
                      | 1, _ => cases hz; exact ⟨y1, rfl, VR.mono hm _ _ j1⟩
                      | 2, _ => cases hz; exact ⟨y2, rfl, VR.mono hm _ _ j2⟩
                  · subst e; exact absurd rfl (hb 0)
                · subst e; exact absurd rfl (hb 0)
              · subst e; exact absurd rfl (hb 0)
          · subst e; exact absurd rfl (hb 0)
        · subst e; exact absurd rfl (hb 0)
      · subst e; exact absurd rfl (hb 0)
    · subst e; exact absurd rfl (hb 0)
  · subst e; exact absurd rfl (hb 0)⟩
end Go.Proofs.Lo
