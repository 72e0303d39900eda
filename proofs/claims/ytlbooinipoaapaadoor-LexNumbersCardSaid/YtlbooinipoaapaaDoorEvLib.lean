/- Functions that are known by their contracts. -/
import Derived.Test.YtlbooinipoaapaaDoorEvDefer
import Derived.Below
namespace Go.Ev
open Go.RowKit
variable {P : Program} {A : Asg} {h : H} {w : World}

/-- What was there stays: our blocks stand for what they stood for. -/
theorem HR.kept (hr : HR A h w) {w' : World} (hs : w.heap.size ≤ w'.heap.size) (hk : ∀ x, x < w.heap.size → w'.heap[x]? = w.heap[x]?) : HR A h w' where
  fresh := hr.fresh
  live := hr.live
  bfresh := fun g x hg => ⟨(hr.bfresh g x hg).1, Nat.lt_of_lt_of_le (hr.bfresh g x hg).2 hs⟩
  blk := fun p b r hp hq => (hr.blk p b r hp hq).pushed (fun _ _ e => e) (hk _ (hr.sfresh p r hq))
  sfresh := fun p r hp => Nat.lt_of_lt_of_le (hr.sfresh p r hp) hs
  apart := hr.apart
  binj := hr.binj
  bs := hr.bs
theorem Inv.below (hr : HR A h w) {w' : World} (hb : Below w.heap.size w w') : Inv ⟨A, h, w⟩ A h w' where
  hr := hr.kept hb.size hb.block
  os := hb.os
  tape := hb.tape
  output := hb.output
  size := hb.size
  next := Nat.le_refl _
  gen := Nat.le_refl _
  ext := fun _ _ => rfl
  bext := fun _ _ => rfl
  keep := fun x hx _ => hb.block x hx
  news := fun p r hp => .inr ⟨p, r, hp, rfl⟩
  bnew := fun g x hg hb => absurd (hr.bfresh g x hb).1 (Nat.not_lt.2 hg)
  phan := fun _ _ _ => rfl
/-- A function that is known: what is told of it is so. -/
structure Entry (Γ : Glob) (P : Program) (f : FuncId) (g : List AV → H → CR) : Prop where
  body : Callable P f
  told : ∀ {as h r}, g as h = r → (∀ k, r ≠ .bad k) → ∀ {A w args}, HR A h w → Γ.Met A w → VRs A.s as args.toList → Calls P f args w (Told ⟨A, h, w⟩ r)
theorem libC_ok {Γ : Glob} {lib : Lib} (hl : ∀ f g, lib f = some g → Entry Γ P f g) : CallsOk Γ P (libC lib) := by
  have key : ∀ {f as h r}, libC lib f as h = r → (∀ k, r ≠ .bad k) → ∃ g, lib f = some g ∧ g as h = r := by
    intro f as h r e hb
    unfold libC at e
    split at e
    · rename_i g hg; exact ⟨g, hg, e⟩
    · subst e; exact absurd rfl (hb _)
  refine ⟨fun e _ _ _ hh hg ha => ?_, fun e _ _ _ hh hg ha => ?_, fun e hb => ?_⟩
  · obtain ⟨g, h1, h2⟩ := key e (fun _ => by simp)
    exact (hl _ g h1).told h2 (fun _ => by simp) hh hg ha
  · obtain ⟨g, h1, h2⟩ := key e (fun _ => by simp)
    exact (hl _ g h1).told h2 (fun _ => by simp) hh hg ha
  · obtain ⟨g, h1, _⟩ := key e hb
    exact (hl _ g h1).body
/-- A list of functions that are known. -/
def libOf : List (FuncId × (List AV → H → CR)) → Lib
  | [], _ => none
  | (f, g) :: l, f' => match Nat.beq f f' with | true => some g | false => libOf l f'
theorem libOf_ok {Γ : Glob} : ∀ {l : List (FuncId × (List AV → H → CR))}, (∀ p ∈ l, Entry Γ P p.1 p.2) → ∀ f g, libOf l f = some g → Entry Γ P f g
  | [], _, _, _, h => by cases h
  | (f', g') :: l, hl, f, g, h => by
    simp only [libOf] at h
    split at h
    · rename_i he
      have := Nat.eq_of_beq_eq_true he
      subst this
      cases h
      exact hl (f', g') (by simp)
    · exact libOf_ok (fun p hp => hl p (by simp [hp])) f g h
theorem callable {f : FuncId} {fn : Func} (h1 : P.funcs[f]? = some fn) (h2 : (fn.name != "runtime.NumGoroutine") = true) (h3 : fn.body.isSome = true) : Callable P f := ⟨fn, h1, by simpa using h2, h3⟩

/-- It tells a value, and nothing else is to be seen. -/
theorem told_pure {f : FuncId} {args : Array Value} {v : AV} {x : Value} (hr : HR A h w) (hx : VR A.s v x) (hc : Calls P f args w fun e w' => e = .returned x ∧ Below w.heap.size w w') : Calls P f args w (Told ⟨A, h, w⟩ (.ret v h)) :=
  hc.mono fun _ _ ⟨he, hb⟩ => ⟨x, A, he, hx, Inv.below hr hb⟩
/-- It tells a slice of texts, in a block of its own. -/
theorem rowsOf_get (k : Nat) : ∀ (n i : Nat) (l : List AV) (t : Tr (List AV)) (j : Nat), get (pathOf j) (rowsOf k n i l t) = if i ≤ j ∧ j < i + n then some ((l.drop ((j - i) * k)).take k) else get (pathOf j) t
  | 0, i, l, t, j => by
    show get (pathOf j) t = _
    rw [if_neg (by omega)]
  | n + 1, i, l, t, j => by
    show get (pathOf j) (rowsOf k n (i + 1) (l.drop k) (set (pathOf i) (some (l.take k)) t)) = _
    rw [rowsOf_get k n]
    by_cases e : j = i
    · subst e
      rw [if_neg (by omega), get_set, if_pos rfl, if_pos (by omega)]
      simp
    · by_cases h1 : i + 1 ≤ j ∧ j < i + 1 + n
      · rw [if_pos h1, if_pos (by omega)]
        have e : (j - i) * k = k + (j - (i + 1)) * k := by
          have : j - i = j - (i + 1) + 1 := by omega
          rw [this, Nat.succ_mul, Nat.add_comm]
        rw [e, List.drop_drop]
      · rw [if_neg h1, get_set, if_neg (fun e' => e (pathOf_inj e')), if_neg (by omega)]
/-- A block of texts. -/
noncomputable def strBlk (l : List (List UInt8)) : Blk := ⟨1, l.length, rowsOf 1 l.length 0 (l.map fun x => .str ⟨x.toArray⟩) .nil, false, false, false⟩
noncomputable def retStrs (l : List (List UInt8)) (h : H) : CR := .ret (.sl h.next 1 0 l.length) (h.new (strBlk l))
theorem told_strs {f : FuncId} {args : Array Value} {l : List (List UInt8)} {T : TypeId} (hr : HR A h w) (hc : Calls P f args w fun e w' => e = .returned (.slice (some ⟨w.heap.size, 0, none⟩) l.length l.length) ∧ w' = w.alloc (.cells (l.map fun x => Value.string ⟨x.toArray⟩).toArray T)) :
    Calls P f args w (Told ⟨A, h, w⟩ (retStrs l h)) := by
  refine hc.mono fun e w' ⟨he, hw⟩ => ?_
  subst hw
  have hB : ObR (A.withS h.next ⟨w.heap.size, 0, 1, l.length⟩).s { w with heap := w.heap.push (.cells (l.map fun x => Value.string ⟨x.toArray⟩).toArray T (0, 0)) } (strBlk l) ⟨w.heap.size, 0, 1, l.length⟩ := by
    refine .of rfl { k := rfl, kpos := Nat.one_pos, cap := Nat.le_refl _, shut := fun _ => rfl, top := fun j row hj => ?_, cells := ⟨(l.map fun x => Value.string ⟨x.toArray⟩).toArray, T, (0, 0), ?_, fun _ => rfl, by simp, fun j row hj => ?_⟩ }
    · have hj : get (pathOf j) (rowsOf 1 l.length 0 (l.map fun x => AV.str ⟨x.toArray⟩) .nil) = some row := hj
      rw [rowsOf_get] at hj
      split at hj
      · rename_i hjl; show j < l.length; simpa using hjl
      · rw [get_nil] at hj; cases hj
    · show (w.heap.push _)[w.heap.size]? = _
      rw [Array.getElem?_push, if_pos rfl]
    · have hj : get (pathOf j) (rowsOf 1 l.length 0 (l.map fun x => AV.str ⟨x.toArray⟩) .nil) = some row := hj
      rw [rowsOf_get] at hj
      split at hj
      · rename_i hjl
        simp only [Nat.zero_add, Nat.zero_le, true_and, Nat.sub_zero, Nat.mul_one] at hj hjl
        have hd : (l.map fun x => AV.str ⟨x.toArray⟩).drop j = AV.str ⟨l[j].toArray⟩ :: (l.map fun x => AV.str ⟨x.toArray⟩).drop (j + 1) := by
          rw [List.drop_eq_getElem_cons (by simpa using hjl)]; simp
        rw [hd] at hj
        simp only [List.take_succ_cons, List.take_zero, Option.some.injEq] at hj
        subst hj
        refine ⟨rfl, rfl, fun i a ha => ?_⟩
        cases i with
        | zero =>
          simp only [List.getElem?_cons_zero, Option.some.injEq] at ha
          subst ha
          exact ⟨.string ⟨l[j].toArray⟩, by simp [hjl], rfl⟩
        | succ i => simp at ha
      · rw [get_nil] at hj; cases hj
  exact ⟨_, A.withS h.next ⟨w.heap.size, 0, 1, l.length⟩, he, ⟨_, by show (if h.next = h.next then _ else _) = _; rw [if_pos rfl], rfl, by simp, by simp⟩, (Inv.start hr).alloc (o := .cells (l.map fun x => Value.string ⟨x.toArray⟩).toArray T (0, 0)) rfl hB⟩
end Go.Ev
