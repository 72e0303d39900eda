/- The evaluator's state and the world's: what is kept, and how it goes on. -/
import Derived.Test.YtlbooinipoaapaaDoorEvRel
namespace Go.Ev

structure BlkR (s : Path → Option Ref) (w : World) (b : Blk) (r : Ref) : Prop where
  k : r.k = b.k
  kpos : 0 < b.k
  cap : b.n ≤ r.cap
  shut : b.grows = false → r.cap = b.n
  top : ∀ j row, get (pathOf j) b.rows = some row → j < b.n
  cells : ∃ cs T fz, w.heap[r.blk]? = some (.cells cs T fz) ∧ (b.ro = false → fz = (0, 0)) ∧ r.off + r.cap * r.k ≤ cs.size ∧
    ∀ j row, get (pathOf j) b.rows = some row → row.length = b.k ∧ row.all sc = true ∧ ∀ (i : Nat) a, row[i]? = some a → ∃ x, cs[r.off + j * r.k + i]? = some x ∧ VR s a x

/-- Entries of a map. -/
def EntR (s : Path → Option Ref) (rows : Tr (List AV)) (j : Nat) (e : MapEntry) : Prop := ∃ ka va, get (pathOf j) rows = some [ka, va] ∧ VR s ka e.key ∧ VR s va e.val
structure MapR (s : Path → Option Ref) (w : World) (b : Blk) (r : Ref) : Prop where
  ro : b.ro = false
  map : ∃ es clock, w.heap[r.blk]? = some (.map es clock) ∧ es.size = b.n ∧ ∀ (j : Nat) e, es[j]? = some e → EntR s b.rows j e
def ObR (s : Path → Option Ref) (w : World) (b : Blk) (r : Ref) : Prop := match b.map with
  | false => BlkR s w b r
  | true => MapR s w b r
theorem ObR.of {s : Path → Option Ref} {w : World} {b : Blk} {r : Ref} (hm : b.map = false) (B : BlkR s w b r) : ObR s w b r := by unfold ObR; rw [hm]; exact B
theorem ObR.blk {s : Path → Option Ref} {w : World} {b : Blk} {r : Ref} (B : ObR s w b r) (hm : b.map = false) : BlkR s w b r := by unfold ObR at B; rw [hm] at B; exact B
theorem ObR.ofMap {s : Path → Option Ref} {w : World} {b : Blk} {r : Ref} (hm : b.map = true) (B : MapR s w b r) : ObR s w b r := by unfold ObR; rw [hm]; exact B
theorem ObR.mapR {s : Path → Option Ref} {w : World} {b : Blk} {r : Ref} (B : ObR s w b r) (hm : b.map = true) : MapR s w b r := by unfold ObR at B; rw [hm] at B; exact B
theorem getC_eq {p : Path} {t : Tr Blk} {b : Blk} (h : getC p t = some b) : get p t = some b ∧ b.map = false := by
  unfold getC at h
  split at h
  · rename_i b' hb
    split at h
    · cases h
    · rename_i hm; cases h; exact ⟨hb, hm⟩
  · cases h

structure HR (A : Asg) (h : H) (w : World) : Prop where
  fresh : ∀ p r, A.s p = some r → num p < num h.next
  live : ∀ p b, get p h.t = some b → num p < num h.next
  bfresh : ∀ g x, A.b g = some x → g < h.gen ∧ x < w.heap.size
  blk : ∀ p b r, get p h.t = some b → A.s p = some r → ObR A.s w b r
  sfresh : ∀ p r, A.s p = some r → r.blk < w.heap.size
  apart : ∀ p q b c r t, p ≠ q → get p h.t = some b → get q h.t = some c → A.s p = some r → A.s q = some t → b.ro = false → r.blk ≠ t.blk
  binj : ∀ g g' x, A.b g = some x → A.b g' = some x → g = g'
  bs : ∀ g x p r, A.b g = some x → A.s p = some r → r.blk ≠ x

/-- What a slot's content stands for. -/
def SlR (A : Asg) (w : World) : Sl → Value → Prop
  | .v a, x => VR A.s a x
  | .und, x => x = undef
  | .box g l, x => ∃ blk, A.b g = some blk ∧ x = .pointer (some ⟨blk, 0, none⟩) ∧ ∃ cs T, w.heap[blk]? = some (.cells cs T (0, 0)) ∧ VRs A.s l cs.toList ∧ l.all sc = true
  | .lp _ g o, x => ∃ blk, A.b g = some blk ∧ x = .pointer (some ⟨blk, o, none⟩)

/-- The frame: what the slots that are filled (ok) stand for. -/
structure FrR (A : Asg) (n : Nat) (ok : Path → Prop) (fr : FT) (tmps : Array Value) (w : World) : Prop where
  size : n ≤ tmps.size
  slot : ∀ t s, ok (pathOf t) → get (pathOf t) fr = some s → SlR A w s (tmps.getD t undef)
  bok : ∀ p g l, get p fr = some (.box g l) → ok p
  once : ∀ p q g l l', get p fr = some (.box g l) → get q fr = some (.box g l') → p = q

/-- Where a call began. -/
structure Ent where
  A : Asg
  h : H
  w : World

structure Inv (E : Ent) (A : Asg) (h : H) (w : World) : Prop where
  hr : HR A h w
  os : w.os = E.w.os
  tape : w.tape = E.w.tape
  output : w.output = E.w.output
  size : E.w.heap.size ≤ w.heap.size
  next : num E.h.next ≤ num h.next
  gen : E.h.gen ≤ h.gen
  ext : ∀ p, num p < num E.h.next → A.s p = E.A.s p
  bext : ∀ g, g < E.h.gen → A.b g = E.A.b g
  keep : ∀ x, x < E.w.heap.size → (∀ p r, E.A.s p = some r → r.blk ≠ x) → w.heap[x]? = E.w.heap[x]?
  news : ∀ p r, A.s p = some r → E.w.heap.size ≤ r.blk ∨ ∃ q t, E.A.s q = some t ∧ t.blk = r.blk
  bnew : ∀ g x, E.h.gen ≤ g → A.b g = some x → E.w.heap.size ≤ x
  phan : ∀ p, num p < num E.h.next → E.A.s p = none → get p h.t = get p E.h.t

theorem Inv.start {A : Asg} {h : H} {w : World} (hr : HR A h w) : Inv ⟨A, h, w⟩ A h w where
  hr := hr
  os := rfl
  tape := rfl
  output := rfl
  size := Nat.le_refl _
  next := Nat.le_refl _
  gen := Nat.le_refl _
  ext := fun _ _ => rfl
  bext := fun _ _ => rfl
  keep := fun _ _ _ => rfl
  news := fun p r h => .inr ⟨p, r, h, rfl⟩
  bnew := fun g x hg hb => absurd (hr.bfresh g x hb).1 (Nat.not_lt.2 hg)
  phan := fun _ _ _ => rfl

/-- A call within. -/
theorem Inv.trans {E : Ent} {A A' : Asg} {h h' : H} {w w' : World} (I : Inv E A h w) (J : Inv ⟨A, h, w⟩ A' h' w') : Inv E A' h' w' where
  hr := J.hr
  os := J.os.trans I.os
  tape := J.tape.trans I.tape
  output := J.output.trans I.output
  size := Nat.le_trans I.size J.size
  next := Nat.le_trans I.next J.next
  gen := Nat.le_trans I.gen J.gen
  ext := fun p hp => (J.ext p (Nat.lt_of_lt_of_le hp I.next)).trans (I.ext p hp)
  bext := fun g hg => (J.bext g (Nat.lt_of_lt_of_le hg I.gen)).trans (I.bext g hg)
  keep := fun x hx hn => (J.keep x (Nat.lt_of_lt_of_le hx I.size) (fun p r hp e => by
    rcases I.news p r hp with h1 | ⟨q, t, hq, ht⟩
    · omega
    · exact hn q t hq (ht.trans e))).trans (I.keep x hx hn)
  news := fun p r hp => by
    rcases J.news p r hp with h1 | ⟨q, t, hq, ht⟩
    · exact .inl (Nat.le_trans I.size h1)
    · rcases I.news q t hq with h2 | ⟨q', t', hq', ht'⟩
      · exact .inl (ht ▸ h2)
      · exact .inr ⟨q', t', hq', ht'.trans ht⟩
  bnew := fun g x hg hb => by
    by_cases hlt : g < h.gen
    · exact I.bnew g x hg ((J.bext g hlt) ▸ hb)
    · exact Nat.le_trans I.size (J.bnew g x (Nat.not_lt.1 hlt) hb)
  phan := fun p hp hn => (J.phan p (Nat.lt_of_lt_of_le hp I.next) ((I.ext p hp).trans hn)).trans (I.phan p hp hn)

/-- What the caller's slots stand for, behind a call. -/
theorem FrR.called {A A' : Asg} {h h' : H} {w w' : World} {n : Nat} {ok : Path → Prop} {fr : FT} {tmps : Array Value} (F : FrR A n ok fr tmps w) (hr : HR A h w) (J : Inv ⟨A, h, w⟩ A' h' w') : FrR A' n ok fr tmps w' where
  bok := F.bok
  size := F.size
  once := F.once
  slot := fun t s hk hs => by
    have hm : ∀ p r, A.s p = some r → A'.s p = some r := fun p r hp => (J.ext p (hr.fresh p r hp)).trans hp
    have hb : ∀ g x, A.b g = some x → A'.b g = some x := fun g x hg => (J.bext g (hr.bfresh g x hg).1).trans hg
    have H := F.slot t s hk hs
    cases s with
    | v a => exact VR.mono hm _ _ H
    | und => exact H
    | box g l =>
      obtain ⟨blk, h1, h2, cs, T, h3, h4, h5⟩ := H
      exact ⟨blk, hb g blk h1, h2, cs, T, (J.keep blk (hr.bfresh g blk h1).2 (fun p r hp => hr.bs g blk p r h1 hp)).trans h3, VRs.mono hm _ _ h4, h5⟩
    | lp d g o =>
      obtain ⟨blk, h1, h2⟩ := H
      exact ⟨blk, hb g blk h1, h2⟩

/-! ### Worlds that differ in what has been drawn alone -/
theorem HR.of_heap {A : Asg} {h : H} {w w' : World} (e : w'.heap = w.heap) (hr : HR A h w) : HR A h w' where
  fresh := hr.fresh
  live := hr.live
  bfresh := fun g x hg => by rw [e]; exact hr.bfresh g x hg
  blk := fun p b r hp hs => by
    have B := hr.blk p b r hp hs
    unfold ObR at B ⊢
    split at B
    · exact ⟨B.k, B.kpos, B.cap, B.shut, B.top, by rw [e]; exact B.cells⟩
    · exact ⟨B.ro, by rw [e]; exact B.map⟩
  sfresh := fun p r hp => by rw [e]; exact hr.sfresh p r hp
  apart := hr.apart
  binj := hr.binj
  bs := hr.bs
theorem Inv.drew {E : Ent} {A : Asg} {h : H} {w : World} (I : Inv E A h w) (k : Nat) : Inv E A h { w with drawn := k } where
  hr := HR.of_heap (w := w) rfl I.hr
  os := I.os
  tape := I.tape
  output := I.output
  size := I.size
  next := I.next
  gen := I.gen
  ext := I.ext
  bext := I.bext
  keep := I.keep
  news := I.news
  bnew := I.bnew
  phan := I.phan
theorem SlR.of_heap {A : Asg} {w w' : World} (e : w'.heap = w.heap) {s : Sl} {x : Value} (h : SlR A w s x) : SlR A w' s x := by
  cases s with
  | v a => exact h
  | und => exact h
  | box g l => obtain ⟨blk, h1, h2, cs, T, h3, h4, h5⟩ := h; exact ⟨blk, h1, h2, cs, T, by rw [e]; exact h3, h4, h5⟩
  | lp d g o => exact h
theorem FrR.of_heap {A : Asg} {w w' : World} (e : w'.heap = w.heap) {n : Nat} {ok : Path → Prop} {fr : FT} {tmps : Array Value} (F : FrR A n ok fr tmps w) : FrR A n ok fr tmps w' :=
  ⟨F.size, fun t s hk hs => (F.slot t s hk hs).of_heap e, F.bok, F.once⟩

/-! ### A slot is written -/
theorem getD_setIfInBounds {xs : Array Value} {d t : Nat} {x y : Value} (hd : d < xs.size) : (xs.setIfInBounds d x).getD t y = if t = d then x else xs.getD t y := by
  simp only [Array.getD_eq_getD_getElem?, Array.getElem?_setIfInBounds]
  by_cases h : d = t
  · subst h; simp [hd]
  · rw [if_neg h, if_neg (fun e => h e.symm)]

/-- A slot is filled. -/
theorem FrR.fill {A : Asg} {n : Nat} {ok ok' : Path → Prop} {fr : FT} {tmps : Array Value} {w : World} (F : FrR A n ok fr tmps w) {d : Nat} (hd : d < n) {s : Sl} {x : Value}
    (hg : get (pathOf d) fr = some s) (hs : SlR A w s x) (h1 : ∀ p, ok' p → p = pathOf d ∨ ok p) (h2 : ∀ p, ok p → ok' p) : FrR A n ok' fr (tmps.setIfInBounds d x) w where
  size := by rw [Array.size_setIfInBounds]; exact F.size
  slot := fun t s' hk h => by
    rw [getD_setIfInBounds (Nat.lt_of_lt_of_le hd F.size)]
    by_cases e : t = d
    · subst e
      rw [if_pos rfl]
      rw [hg] at h
      cases h
      exact hs
    · rw [if_neg e]
      exact F.slot t s' ((h1 _ hk).resolve_left (fun e' => e (pathOf_inj e'))) h
  bok := fun p g l h => h2 p (F.bok p g l h)
  once := F.once
/-- A slot that is written ahead of its time. -/
theorem FrR.ghost {A : Asg} {n : Nat} {ok ok' : Path → Prop} {fr : FT} {tmps : Array Value} {w : World} (F : FrR A n ok fr tmps w) {d : Nat} {s : Sl}
    (hb : ∀ g l, s ≠ .box g l) (h1 : ∀ p, ok' p → p ≠ pathOf d ∧ ok p) (h2 : ∀ p, ok p → p ≠ pathOf d → ok' p) : FrR A n ok' (set (pathOf d) (some s) fr) tmps w where
  size := F.size
  slot := fun t s' hk h => by
    rw [get_set_other _ _ _ _ (fun e => (h1 _ hk).1 e)] at h
    exact F.slot t s' (h1 _ hk).2 h
  bok := fun p g l h => by
    rw [get_set] at h
    split at h
    · cases h; exact absurd rfl (hb g l)
    · exact h2 p (F.bok p g l h) ‹_›
  once := fun p q g l l' h1 h2 => by
    rw [get_set] at h1 h2
    split at h1
    · cases h1; exact absurd rfl (hb g l)
    · split at h2
      · cases h2; exact absurd rfl (hb g l')
      · exact F.once p q g l l' h1 h2
/-- All slots. -/
def all : Path → Prop := fun _ => True
theorem FrR.put {A : Asg} {n : Nat} {ok : Path → Prop} {fr : FT} {tmps : Array Value} {w : World} (F : FrR A n ok fr tmps w) {d : Nat} (hd : d < n) {s : Sl} {x : Value} (hs : SlR A w s x) (hb : ∀ g l, s ≠ .box g l) :
    FrR A n ok (set (pathOf d) (some s) fr) (tmps.setIfInBounds d x) w :=
  (F.ghost (ok' := fun p => p ≠ pathOf d ∧ ok p) hb (fun _ h => h) (fun _ h h' => ⟨h', h⟩)).fill hd (by rw [get_set, if_pos rfl]) hs (fun p h => (Classical.em (p = pathOf d)).imp id fun e => ⟨e, h⟩) (fun p h => h.2)

/-! ### A block more -/
theorem heap_push {w : World} {o : Obj} {x : Nat} (h : x < w.heap.size) : (w.heap.push o)[x]? = w.heap[x]? := by
  rw [Array.getElem?_push, if_neg (Nat.ne_of_lt h)]
theorem BlkR.pushed {s s' : Path → Option Ref} {w w' : World} {b : Blk} {r : Ref} (B : BlkR s w b r) (hm : ∀ p r, s p = some r → s' p = some r) (e : w'.heap[r.blk]? = w.heap[r.blk]?) : BlkR s' w' b r where
  k := B.k
  kpos := B.kpos
  cap := B.cap
  shut := B.shut
  top := B.top
  cells := by
    obtain ⟨cs, T, fz, h1, h2, h3, h4⟩ := B.cells
    refine ⟨cs, T, fz, e.trans h1, h2, h3, fun j row hj => ?_⟩
    obtain ⟨h5, h6, h7⟩ := h4 j row hj
    exact ⟨h5, h6, fun i a ha => by obtain ⟨x, hx, hv⟩ := h7 i a ha; exact ⟨x, hx, VR.mono hm _ _ hv⟩⟩

theorem ObR.pushed {s s' : Path → Option Ref} {w w' : World} {b : Blk} {r : Ref} (B : ObR s w b r) (hm : ∀ p r, s p = some r → s' p = some r) (e : w'.heap[r.blk]? = w.heap[r.blk]?) : ObR s' w' b r := by
  unfold ObR at B ⊢
  split at B
  · exact BlkR.pushed B hm e
  · refine ⟨B.ro, ?_⟩
    obtain ⟨es, clock, h1, h2, h3⟩ := B.map
    refine ⟨es, clock, e.trans h1, h2, fun j x hj => ?_⟩
    obtain ⟨ka, va, g1, g2, g3⟩ := h3 j x hj
    exact ⟨ka, va, g1, VR.mono hm _ _ g2, VR.mono hm _ _ g3⟩

/-- The assignment with a block of the heap more. -/
def Asg.withS (A : Asg) (p : Path) (r : Ref) : Asg := ⟨fun q => if q = p then some r else A.s q, A.b⟩
def Asg.withB (A : Asg) (g x : Nat) : Asg := ⟨A.s, fun g' => if g' = g then some x else A.b g'⟩
theorem withS_mono {A : Asg} {p : Path} {r : Ref} (h : A.s p = none) : ∀ q t, A.s q = some t → (A.withS p r).s q = some t := fun q t hq => by
  show (if q = p then some r else A.s q) = some t
  rw [if_neg (fun e => by rw [e, h] at hq; cases hq)]
  exact hq
theorem HR.none_next {A : Asg} {h : H} {w : World} (hr : HR A h w) : A.s h.next = none := by
  cases e : A.s h.next with
  | none => rfl
  | some r => exact absurd (hr.fresh _ _ e) (Nat.lt_irrefl _)
theorem HR.get_next {A : Asg} {h : H} {w : World} (hr : HR A h w) : get h.next h.t = none := by
  cases e : get h.next h.t with
  | none => rfl
  | some r => exact absurd (hr.live _ _ e) (Nat.lt_irrefl _)

theorem FrR.pushed {A A' : Asg} {w w' : World} {n : Nat} {ok : Path → Prop} {fr : FT} {tmps : Array Value} (F : FrR A n ok fr tmps w) (hm : ∀ p r, A.s p = some r → A'.s p = some r)
    (hb : ∀ g x, A.b g = some x → A'.b g = some x) (hw : ∀ g x, A.b g = some x → w'.heap[x]? = w.heap[x]?) : FrR A' n ok fr tmps w' where
  size := F.size
  bok := F.bok
  once := F.once
  slot := fun t s hk hs => by
    have H := F.slot t s hk hs
    cases s with
    | v a => exact VR.mono hm _ _ H
    | und => exact H
    | box g l =>
      obtain ⟨blk, h1, h2, cs, T, h3, h4, h5⟩ := H
      exact ⟨blk, hb g blk h1, h2, cs, T, (hw g blk h1).trans h3, VRs.mono hm _ _ h4, h5⟩
    | lp d g o =>
      obtain ⟨blk, h1, h2⟩ := H
      exact ⟨blk, hb g blk h1, h2⟩

/-- A new block of the call's own. -/
theorem Inv.allocB {E : Ent} {A : Asg} {h : H} {w : World} (I : Inv E A h w) (o : Obj) :
    Inv E (A.withB h.gen w.heap.size) ⟨h.next, h.t, h.gen + 1⟩ { w with heap := w.heap.push o } := by
  have hsz : (w.heap.push o).size = w.heap.size + 1 := Array.size_push _
  have hb : ∀ g x, (A.withB h.gen w.heap.size).b g = some x → (g = h.gen ∧ x = w.heap.size) ∨ (g ≠ h.gen ∧ A.b g = some x) := fun g x hg => by
    have hg : (if g = h.gen then some w.heap.size else A.b g) = some x := hg
    split at hg
    · cases hg; exact .inl ⟨‹_›, rfl⟩
    · exact .inr ⟨‹_›, hg⟩
  refine { hr := ?_, os := I.os, tape := I.tape, output := I.output, size := ?_, next := I.next, gen := Nat.le_succ_of_le I.gen, ext := I.ext, bext := ?_, keep := ?_, news := I.news, bnew := ?_, phan := I.phan }
  · refine { fresh := I.hr.fresh, live := I.hr.live, bfresh := ?_, blk := ?_, sfresh := ?_, apart := I.hr.apart, binj := ?_, bs := ?_ }
    · intro g x hg
      show g < h.gen + 1 ∧ x < (w.heap.push o).size
      rcases hb g x hg with ⟨rfl, rfl⟩ | ⟨_, h1⟩
      · omega
      · have := I.hr.bfresh g x h1; omega
    · intro p c t hp ht
      exact (I.hr.blk p c t hp ht).pushed (fun _ _ e => e) (heap_push (I.hr.sfresh p t ht))
    · intro p t hp
      show t.blk < (w.heap.push o).size
      have := I.hr.sfresh p t hp; omega
    · intro g g' x h1 h2
      rcases hb g x h1 with ⟨rfl, rfl⟩ | ⟨_, h3⟩ <;> rcases hb g' _ h2 with ⟨rfl, e⟩ | ⟨_, h4⟩
      · rfl
      · have := (I.hr.bfresh g' _ h4).2; omega
      · have := (I.hr.bfresh g _ h3).2; omega
      · exact I.hr.binj g g' x h3 h4
    · intro g x p t hg hp
      rcases hb g x hg with ⟨rfl, rfl⟩ | ⟨_, h1⟩
      · have := I.hr.sfresh p t hp; omega
      · exact I.hr.bs g x p t h1 hp
  · show E.w.heap.size ≤ (w.heap.push o).size
    have := I.size; omega
  · intro g hg
    rw [← I.bext g hg]
    show (if g = h.gen then some w.heap.size else A.b g) = A.b g
    rw [if_neg (fun e => by subst e; have := I.gen; omega)]
  · intro x hx hk
    exact (heap_push (Nat.lt_of_lt_of_le hx I.size)).trans (I.keep x hx hk)
  · intro g x hg hx
    rcases hb g x hx with ⟨rfl, rfl⟩ | ⟨_, h1⟩
    · exact I.size
    · exact I.bnew g x hg h1

/-- The world with a block written anew. -/
def wr (w : World) (x : Nat) (o : Obj) : World := { w with heap := w.heap.setIfInBounds x o }
theorem wr_other {w : World} {x y : Nat} {o : Obj} (h : y ≠ x) : (wr w x o).heap[y]? = w.heap[y]? := by
  show (w.heap.setIfInBounds x o)[y]? = _
  rw [Array.getElem?_setIfInBounds, if_neg (fun e => h e.symm)]
theorem wr_same {w : World} {x : Nat} {o : Obj} (h : x < w.heap.size) : (wr w x o).heap[x]? = some o := by
  show (w.heap.setIfInBounds x o)[x]? = _
  rw [Array.getElem?_setIfInBounds, if_pos rfl, if_pos h]
theorem wr_size {w : World} {x : Nat} {o : Obj} : (wr w x o).heap.size = w.heap.size := Array.size_setIfInBounds

theorem withS_cases {A : Asg} {p : Path} {r : Ref} : ∀ q t, (A.withS p r).s q = some t → (q = p ∧ t = r) ∨ (q ≠ p ∧ A.s q = some t) := fun q t hq => by
  have hq : (if q = p then some r else A.s q) = some t := hq
  split at hq
  · cases hq; exact .inl ⟨‹_›, rfl⟩
  · exact .inr ⟨‹_›, hq⟩
/-- A block of the heap that is there ahead of its time: the world is as it was. -/
theorem Inv.ghost {E : Ent} {A : Asg} {h : H} {w : World} (I : Inv E A h w) (b : Blk) : Inv E A (h.new b) w := by
  have hn := I.hr.none_next
  have hnum : num (inc h.next) = num h.next + 1 := num_inc _
  have hg : ∀ q c, get q (h.new b).t = some c → (q = h.next ∧ c = b) ∨ (q ≠ h.next ∧ get q h.t = some c) := fun q c hq => by
    have hq : get q (set h.next (some b) h.t) = some c := hq
    rw [get_set] at hq
    split at hq
    · cases hq; exact .inl ⟨‹_›, rfl⟩
    · exact .inr ⟨‹_›, hq⟩
  refine { hr := ?_, os := I.os, tape := I.tape, output := I.output, size := I.size, next := ?_, gen := I.gen, ext := I.ext, bext := I.bext, keep := I.keep, news := I.news, bnew := I.bnew, phan := ?_ }
  · refine { fresh := ?_, live := ?_, bfresh := I.hr.bfresh, blk := ?_, sfresh := I.hr.sfresh, apart := ?_, binj := I.hr.binj, bs := I.hr.bs }
    · intro p t hp
      show num p < num (inc h.next)
      have := I.hr.fresh p t hp; omega
    · intro p c hp
      show num p < num (inc h.next)
      rcases hg p c hp with ⟨rfl, _⟩ | ⟨_, h1⟩
      · omega
      · have := I.hr.live p c h1; omega
    · intro p c t hp ht
      rcases hg p c hp with ⟨rfl, _⟩ | ⟨_, h1⟩
      · rw [hn] at ht; cases ht
      · exact I.hr.blk p c t h1 ht
    · intro p q c c' t t' hpq hp hq hpt hqt hro
      rcases hg p c hp with ⟨rfl, _⟩ | ⟨_, h1⟩
      · rw [hn] at hpt; cases hpt
      · rcases hg q c' hq with ⟨rfl, _⟩ | ⟨_, h2⟩
        · rw [hn] at hqt; cases hqt
        · exact I.hr.apart p q c c' t t' hpq h1 h2 hpt hqt hro
  · show num E.h.next ≤ num (inc h.next)
    have := I.next; omega
  · intro p hp hn'
    show get p (set h.next (some b) h.t) = _
    rw [get_set_other _ _ _ _ (fun e => by subst e; have := I.next; omega)]
    exact I.phan p hp hn'
/-- A block that was there ahead of its time comes. -/
theorem Inv.real {E : Ent} {A : Asg} {h : H} {w : World} (I : Inv E A h w) {p : Path} {b : Blk} {r : Ref} {o : Obj} (hp : get p h.t = some b) (hn : A.s p = none) (hge : num E.h.next ≤ num p) (hr : r.blk = w.heap.size)
    (hB : ObR (A.withS p r).s { w with heap := w.heap.push o } b r) : Inv E (A.withS p r) h { w with heap := w.heap.push o } := by
  have hm := withS_mono (r := r) hn
  have hsz : (w.heap.push o).size = w.heap.size + 1 := Array.size_push _
  refine { hr := ?_, os := I.os, tape := I.tape, output := I.output, size := ?_, next := I.next, gen := I.gen, ext := ?_, bext := I.bext, keep := ?_, news := ?_, bnew := I.bnew, phan := I.phan }
  · refine { fresh := ?_, live := I.hr.live, bfresh := ?_, blk := ?_, sfresh := ?_, apart := ?_, binj := I.hr.binj, bs := ?_ }
    · intro q t hq
      rcases withS_cases q t hq with ⟨rfl, _⟩ | ⟨_, h1⟩
      · exact I.hr.live _ _ hp
      · exact I.hr.fresh q t h1
    · intro g x hgx
      have := I.hr.bfresh g x hgx
      exact ⟨this.1, by show x < (w.heap.push o).size; omega⟩
    · intro q c t hq ht
      rcases withS_cases q t ht with ⟨rfl, rfl⟩ | ⟨_, h1⟩
      · rw [hp] at hq; cases hq; exact hB
      · exact (I.hr.blk q c t hq h1).pushed hm (heap_push (I.hr.sfresh q t h1))
    · intro q t hq
      show t.blk < (w.heap.push o).size
      rcases withS_cases q t hq with ⟨rfl, rfl⟩ | ⟨_, h1⟩
      · omega
      · have := I.hr.sfresh q t h1; omega
    · intro q q' c c' t t' hqq hq hq' ht ht' hro
      rcases withS_cases q t ht with ⟨rfl, rfl⟩ | ⟨_, h1⟩ <;> rcases withS_cases q' t' ht' with ⟨rfl, rfl⟩ | ⟨_, h2⟩
      · exact absurd rfl hqq
      · have := I.hr.sfresh q' t' h2; omega
      · have := I.hr.sfresh q t h1; omega
      · exact I.hr.apart q q' c c' t t' hqq hq hq' h1 h2 hro
    · intro g x q t hgx hqt
      rcases withS_cases q t hqt with ⟨rfl, rfl⟩ | ⟨_, h1⟩
      · have := (I.hr.bfresh g x hgx).2; omega
      · exact I.hr.bs g x q t hgx h1
  · show E.w.heap.size ≤ (w.heap.push o).size
    have := I.size; omega
  · intro q hq
    rw [← I.ext q hq]
    show (if q = p then some r else A.s q) = A.s q
    rw [if_neg (fun e => by subst e; omega)]
  · intro x hx hk
    exact (heap_push (Nat.lt_of_lt_of_le hx I.size)).trans (I.keep x hx hk)
  · intro q t hq
    rcases withS_cases q t hq with ⟨rfl, rfl⟩ | ⟨_, h1⟩
    · exact .inl (by have := I.size; omega)
    · exact I.news q t h1
theorem get_new {h : H} {b : Blk} : get h.next (h.new b).t = some b := by
  show get h.next (set h.next (some b) h.t) = some b
  rw [get_set, if_pos rfl]
/-- A new block of the heap: one object more in the world, and its rows. -/
theorem Inv.alloc {E : Ent} {A : Asg} {h : H} {w : World} (I : Inv E A h w) {b : Blk} {r : Ref} {o : Obj} (hr : r.blk = w.heap.size)
    (hB : ObR (A.withS h.next r).s { w with heap := w.heap.push o } b r) : Inv E (A.withS h.next r) (h.new b) { w with heap := w.heap.push o } :=
  (I.ghost b).real get_new I.hr.none_next I.next hr hB
/-- A block is given up. -/
theorem Inv.drop {E : Ent} {A : Asg} {h : H} {w : World} (I : Inv E A h w) {p : Path} {r : Ref} (hs : A.s p = some r) : Inv E A (h.put p none) w := by
  have hg : ∀ q c, get q (h.put p none).t = some c → q ≠ p ∧ get q h.t = some c := fun q c hq => by
    have hq : get q (set p none h.t) = some c := hq
    rw [get_set] at hq
    split at hq
    · cases hq
    · exact ⟨‹_›, hq⟩
  refine { hr := ?_, os := I.os, tape := I.tape, output := I.output, size := I.size, next := I.next, gen := I.gen, ext := I.ext, bext := I.bext, keep := I.keep, news := I.news, bnew := I.bnew, phan := ?_ }
  · exact { fresh := I.hr.fresh, live := fun q c hq => I.hr.live q c (hg q c hq).2, bfresh := I.hr.bfresh, blk := fun q c t hq => I.hr.blk q c t (hg q c hq).2, sfresh := I.hr.sfresh,
            apart := fun q q' c c' t t' hqq hq hq' => I.hr.apart q q' c c' t t' hqq (hg q c hq).2 (hg q' c' hq').2, binj := I.hr.binj, bs := I.hr.bs }
  · intro q hq hn
    show get q (set p none h.t) = _
    rw [get_set_other _ _ _ _ (fun e => by subst e; have := I.ext q hq; rw [hn, hs] at this; cases this)]
    exact I.phan q hq hn
/-- A block that grows where it lies: from now on it goes by another name. -/
theorem Inv.grow {E : Ent} {A : Asg} {h : H} {w : World} (I : Inv E A h w) {p : Path} {b b' : Blk} {r r' : Ref} {o : Obj} (hp : get p h.t = some b) (hs : A.s p = some r) (hro : b.ro = false) (hblk : r'.blk = r.blk)
    (hB : ObR (A.withS h.next r').s (wr w r.blk o) b' r') : Inv E (A.withS h.next r') ((h.put p none).new b') (wr w r.blk o) := by
  have hn := I.hr.none_next
  have hm := withS_mono (r := r') hn
  have hnum : num (inc h.next) = num h.next + 1 := num_inc _
  have hg : ∀ q c, get q ((h.put p none).new b').t = some c → (q = h.next ∧ c = b') ∨ (q ≠ h.next ∧ q ≠ p ∧ get q h.t = some c) := fun q c hq => by
    have hq : get q (set h.next (some b') (set p none h.t)) = some c := hq
    rw [get_set] at hq
    split at hq
    · cases hq; exact .inl ⟨‹_›, rfl⟩
    · rw [get_set] at hq
      split at hq
      · cases hq
      · exact .inr ⟨‹_›, ‹_›, hq⟩
  refine { hr := ?_, os := I.os, tape := I.tape, output := I.output, size := ?_, next := ?_, gen := I.gen, ext := ?_, bext := I.bext, keep := ?_, news := ?_, bnew := I.bnew, phan := ?_ }
  · refine { fresh := ?_, live := ?_, bfresh := ?_, blk := ?_, sfresh := ?_, apart := ?_, binj := I.hr.binj, bs := ?_ }
    · intro q t hq
      show num q < num (inc h.next)
      rcases withS_cases q t hq with ⟨rfl, _⟩ | ⟨_, h1⟩
      · omega
      · have := I.hr.fresh q t h1; omega
    · intro q c hq
      show num q < num (inc h.next)
      rcases hg q c hq with ⟨rfl, _⟩ | ⟨_, _, h1⟩
      · omega
      · have := I.hr.live q c h1; omega
    · intro g x hgx
      rw [wr_size]; exact I.hr.bfresh g x hgx
    · intro q c t hq ht
      rcases hg q c hq with ⟨rfl, rfl⟩ | ⟨h0, h1, h2⟩
      · rcases withS_cases _ t ht with ⟨_, rfl⟩ | ⟨h3, _⟩
        · exact hB
        · exact absurd rfl h3
      · rcases withS_cases q t ht with ⟨e, _⟩ | ⟨_, h3⟩
        · exact absurd e h0
        · exact (I.hr.blk q c t h2 h3).pushed hm (wr_other (fun e => I.hr.apart p q b c r t (fun e' => h1 e'.symm) hp h2 hs h3 hro e.symm))
    · intro q t hq
      rw [wr_size]
      rcases withS_cases q t hq with ⟨rfl, rfl⟩ | ⟨_, h1⟩
      · rw [hblk]; exact I.hr.sfresh p r hs
      · exact I.hr.sfresh q t h1
    · intro q q' c c' t t' hqq hq hq' ht ht' hc
      rcases hg q c hq with ⟨rfl, rfl⟩ | ⟨h0, h1, h2⟩ <;> rcases hg q' c' hq' with ⟨rfl, rfl⟩ | ⟨h3, h4, h5⟩
      · exact absurd rfl hqq
      · rcases withS_cases _ t ht with ⟨_, rfl⟩ | ⟨e, _⟩
        · rcases withS_cases _ t' ht' with ⟨e, _⟩ | ⟨_, h6⟩
          · exact absurd e h3
          · rw [hblk]; exact I.hr.apart p q' b c' r t' (fun e' => h4 e'.symm) hp h5 hs h6 hro
        · exact absurd rfl e
      · rcases withS_cases _ t' ht' with ⟨_, rfl⟩ | ⟨e, _⟩
        · rcases withS_cases _ t ht with ⟨e, _⟩ | ⟨_, h6⟩
          · exact absurd e h0
          · rw [hblk]; exact fun e => I.hr.apart p q b c r t (fun e' => h1 e'.symm) hp h2 hs h6 hro e.symm
        · exact absurd rfl e
      · rcases withS_cases _ t ht with ⟨e, _⟩ | ⟨_, h6⟩
        · exact absurd e h0
        · rcases withS_cases _ t' ht' with ⟨e, _⟩ | ⟨_, h7⟩
          · exact absurd e h3
          · exact I.hr.apart q q' c c' t t' hqq h2 h5 h6 h7 hc
    · intro g x q t hgx hqt
      rcases withS_cases q t hqt with ⟨rfl, rfl⟩ | ⟨_, h1⟩
      · rw [hblk]; exact I.hr.bs g x p r hgx hs
      · exact I.hr.bs g x q t hgx h1
  · rw [wr_size]; exact I.size
  · show num E.h.next ≤ num (inc h.next)
    have := I.next; omega
  · intro q hq
    rw [← I.ext q hq]
    show (if q = h.next then some r' else A.s q) = A.s q
    rw [if_neg (fun e => by subst e; have := I.next; omega)]
  · intro x hx hk
    refine (wr_other fun e => ?_).trans (I.keep x hx hk)
    rcases I.news p r hs with h1 | ⟨q, t, hq, ht⟩
    · omega
    · exact hk q t hq (ht.trans e.symm)
  · intro q t hq
    rcases withS_cases q t hq with ⟨rfl, rfl⟩ | ⟨_, h1⟩
    · rw [hblk]; exact I.news p r hs
    · exact I.news q t h1
  · intro q hq hn'
    show get q (set h.next (some b') (set p none h.t)) = _
    rw [get_set_other _ _ _ _ (fun e => by subst e; have := I.next; omega), get_set_other _ _ _ _ (fun e => by subst e; have := I.ext q hq; rw [hn', hs] at this; cases this)]
    exact I.phan q hq hn'

/-- A block of the heap that may be written is written: its rows are other ones. -/
theorem Inv.write {E : Ent} {A : Asg} {h : H} {w : World} (I : Inv E A h w) {p : Path} {b b' : Blk} {r : Ref} {o : Obj} (hp : get p h.t = some b) (hs : A.s p = some r) (hro : b.ro = false) (hro' : b'.ro = false)
    (hB : ObR A.s (wr w r.blk o) b' r) : Inv E A (h.put p (some b')) (wr w r.blk o) := by
  have hg : ∀ q c, get q (h.put p (some b')).t = some c → (q = p ∧ c = b') ∨ (q ≠ p ∧ get q h.t = some c) := fun q c hq => by
    have hq : get q (set p (some b') h.t) = some c := hq
    rw [get_set] at hq
    split at hq
    · cases hq; exact .inl ⟨‹_›, rfl⟩
    · exact .inr ⟨‹_›, hq⟩
  refine { hr := ?_, os := I.os, tape := I.tape, output := I.output, size := ?_, next := I.next, gen := I.gen, ext := I.ext, bext := I.bext, keep := ?_, news := I.news, bnew := I.bnew, phan := ?_ }
  · refine { fresh := I.hr.fresh, live := ?_, bfresh := ?_, blk := ?_, sfresh := ?_, apart := ?_, binj := I.hr.binj, bs := I.hr.bs }
    · intro q c hq
      rcases hg q c hq with ⟨rfl, _⟩ | ⟨_, h1⟩
      · exact I.hr.live _ _ hp
      · exact I.hr.live _ _ h1
    · intro g x hgx
      rw [wr_size]; exact I.hr.bfresh g x hgx
    · intro q c t hq ht
      rcases hg q c hq with ⟨rfl, rfl⟩ | ⟨h0, h1⟩
      · rw [hs] at ht; cases ht; exact hB
      · exact (I.hr.blk q c t h1 ht).pushed (fun _ _ e => e) (wr_other (fun e => I.hr.apart p q b c r t (fun e' => h0 e'.symm) hp h1 hs ht hro e.symm))
    · intro q t hq
      rw [wr_size]; exact I.hr.sfresh q t hq
    · intro q q' c c' t t' hqq hq hq' ht ht' hc
      rcases hg q c hq with ⟨rfl, rfl⟩ | ⟨h0, h1⟩ <;> rcases hg q' c' hq' with ⟨rfl, rfl⟩ | ⟨h2, h3⟩
      · exact absurd rfl hqq
      · exact I.hr.apart _ _ b c' t t' hqq hp h3 ht ht' hro
      · exact I.hr.apart _ _ c b t t' hqq h1 hp ht ht' hc
      · exact I.hr.apart _ _ c c' t t' hqq h1 h3 ht ht' hc
  · rw [wr_size]; exact I.size
  · intro x hx hk
    refine (wr_other fun e => ?_).trans (I.keep x hx hk)
    rcases I.news p r hs with h1 | ⟨q, t, hq, ht⟩
    · omega
    · exact hk q t hq (ht.trans e.symm)
  · intro q hq hn
    show get q (set p (some b') h.t) = _
    rw [get_set_other _ _ _ _ (fun e => by subst e; have := I.ext q hq; rw [hn, hs] at this; cases this)]
    exact I.phan q hq hn

/-- Slots, behind a write to a block of the heap. -/
theorem FrR.wrote {A : Asg} {h : H} {w : World} {n : Nat} {ok : Path → Prop} {fr : FT} {tmps : Array Value} (F : FrR A n ok fr tmps w) (hr : HR A h w) {p : Path} {r : Ref} {o : Obj} (hs : A.s p = some r) : FrR A n ok fr tmps (wr w r.blk o) :=
  F.pushed (fun _ _ e => e) (fun _ _ e => e) (fun g x hg => wr_other (fun e => hr.bs g x p r hg hs e.symm))

/-- A block of the call's own is written. -/
theorem Inv.writeB {E : Ent} {A : Asg} {h : H} {w : World} (I : Inv E A h w) {g x : Nat} {o : Obj} (hg : A.b g = some x) (hge : E.h.gen ≤ g) : Inv E A h (wr w x o) := by
  refine { hr := ?_, os := I.os, tape := I.tape, output := I.output, size := ?_, next := I.next, gen := I.gen, ext := I.ext, bext := I.bext, keep := ?_, news := I.news, bnew := I.bnew, phan := I.phan }
  · refine { fresh := I.hr.fresh, live := I.hr.live, bfresh := ?_, blk := ?_, sfresh := ?_, apart := I.hr.apart, binj := I.hr.binj, bs := I.hr.bs }
    · intro g x hgx
      rw [wr_size]; exact I.hr.bfresh g x hgx
    · intro q c t hq ht
      exact (I.hr.blk q c t hq ht).pushed (fun _ _ e => e) (wr_other (I.hr.bs g x q t hg ht))
    · intro q t hq
      rw [wr_size]; exact I.hr.sfresh q t hq
  · rw [wr_size]; exact I.size
  · intro y hy hk
    exact (wr_other (fun e => by have := I.bnew g x hge hg; omega)).trans (I.keep y hy hk)

theorem FrR.wroteB {A : Asg} {h : H} {w : World} {n : Nat} {ok : Path → Prop} {fr : FT} {tmps : Array Value} (F : FrR A n ok fr tmps w) (hr : HR A h w) {p : Path} {g x : Nat} {l l' : List AV} {cs : Array Value} {T : TypeId}
    (hp : get p fr = some (.box g l)) (hg : A.b g = some x) (hl : VRs A.s l' cs.toList) (hsc : l'.all sc = true) : FrR A n ok (set p (some (.box g l')) fr) tmps (wr w x (.cells cs T (0, 0))) where
  size := F.size
  bok := fun q g' l1 h => by
    rw [get_set] at h
    split at h
    · rename_i e; rw [e]; exact F.bok p g l hp
    · exact F.bok q g' l1 h
  once := fun q q' g1 l1 l2 h1 h2 => by
    rw [get_set] at h1 h2
    split at h1 <;> split at h2
    · rename_i e1 e2; rw [e1, e2]
    · rename_i e1 e2; cases h1; exact e1.trans (F.once p q' g _ _ hp h2)
    · rename_i e1 e2; cases h2; exact (F.once q p g _ _ h1 hp).trans e2.symm
    · exact F.once q q' g1 l1 l2 h1 h2
  slot := fun t s hk hs => by
    rw [get_set] at hs
    split at hs
    · rename_i e
      cases hs
      have hx := (hr.bfresh g x hg).2
      have H := F.slot t _ hk (e ▸ hp)
      obtain ⟨blk, h1, h2, _⟩ := H
      rw [hg] at h1
      cases h1
      exact ⟨x, hg, h2, cs, T, wr_same hx, hl, hsc⟩
    · rename_i e
      have H := F.slot t s hk hs
      cases s with
      | v a => exact H
      | und => exact H
      | box g' l1 =>
        obtain ⟨blk, h1, h2, cs1, T1, h3, h4, h5⟩ := H
        refine ⟨blk, h1, h2, cs1, T1, (wr_other (fun e' => ?_)).trans h3, h4, h5⟩
        subst e'
        have := hr.binj g g' blk hg h1
        subst this
        exact e (F.once _ _ g _ _ hs hp)
      | lp d g' o => exact H

/-- A new block of the call's own comes into a slot. -/
theorem FrR.putB {A : Asg} {h : H} {w : World} {n : Nat} {ok : Path → Prop} {fr : FT} {tmps : Array Value} (F : FrR A n ok fr tmps w) (hr : HR A h w) {d : Nat} (hd : d < n) (hk : ok (pathOf d)) {l : List AV} {cs : Array Value} {T : TypeId}
    (hl : VRs A.s l cs.toList) (hsc : l.all sc = true) :
    FrR (A.withB h.gen w.heap.size) n ok (set (pathOf d) (some (.box h.gen l)) fr) (tmps.setIfInBounds d (.pointer (some ⟨w.heap.size, 0, none⟩))) { w with heap := w.heap.push (.cells cs T (0, 0)) } := by
  have hb : ∀ g x, A.b g = some x → (A.withB h.gen w.heap.size).b g = some x := fun g x hg => by
    show (if g = h.gen then some w.heap.size else A.b g) = some x
    rw [if_neg (fun e => by have := (hr.bfresh g x hg).1; omega)]
    exact hg
  have F' := F.pushed (A' := A.withB h.gen w.heap.size) (w' := { w with heap := w.heap.push (.cells cs T (0, 0)) }) (fun _ _ e => e) hb (fun g x hg => heap_push (hr.bfresh g x hg).2)
  have hold : ∀ q l1, get q fr ≠ some (.box h.gen l1) := fun q l1 hq => by
    have e : pathOf (num q) = q := num_inj (num_pathOf _)
    obtain ⟨blk, h1, _⟩ := F.slot (num q) _ (e.symm ▸ F.bok q _ _ hq) (e.symm ▸ hq)
    exact absurd (hr.bfresh _ _ h1).1 (Nat.lt_irrefl _)
  refine ⟨by rw [Array.size_setIfInBounds]; exact F.size, fun t s hkt hs => ?_, fun p g l h1 => ?_, fun p q g l1 l2 h1 h2 => ?_⟩
  · rw [getD_setIfInBounds (Nat.lt_of_lt_of_le hd F.size)]
    rw [get_set] at hs
    by_cases e : t = d
    · subst e
      rw [if_pos rfl] at hs ⊢
      cases hs
      refine ⟨w.heap.size, ?_, rfl, cs, T, ?_, hl, hsc⟩
      · show (if h.gen = h.gen then some w.heap.size else A.b h.gen) = some w.heap.size
        rw [if_pos rfl]
      · show (w.heap.push _)[w.heap.size]? = _
        rw [Array.getElem?_push, if_pos rfl]
    · rw [if_neg (fun e' => e (pathOf_inj e'))] at hs
      rw [if_neg e]
      exact F'.slot t s hkt hs
  · rw [get_set] at h1
    split at h1
    · rename_i e; rw [e]; exact hk
    · exact F.bok p g l h1
  · rw [get_set] at h1 h2
    split at h1 <;> split at h2
    · rename_i e1 e2; rw [e1, e2]
    · cases h1; exact absurd h2 (hold _ _)
    · cases h2; exact absurd h1 (hold _ _)
    · exact F.once p q g l1 l2 h1 h2
end Go.Ev
