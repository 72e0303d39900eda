/- What the evaluator's values and blocks stand for in a world. -/
import Derived.Test.YtlbooinipoaapaaDoorEvTree
import Derived.Tactics
namespace Go.Ev

/-- Where a block of ours lies: the world's block, the first cell, cells a row, how many rows there are room for. -/
structure Ref where
  blk : Nat
  off : Nat
  k : Nat
  cap : Nat
/-- Which blocks stand where: those of the heap by path, the calls' own by number. -/
structure Asg where
  s : Path → Option Ref
  b : Nat → Option Nat

/-- A value of one cell. -/
def sc : AV → Bool
  | .agg _ => false
  | .tup _ => false
  | _ => true

mutual
def VR (s : Path → Option Ref) : AV → Value → Prop
  | .bool b, x => x = .bool b
  | .int k n, x => x = .int k n
  | .res k m r, x => ∃ n : Nat, x = .int k (.ofNat n) ∧ n % m = r ∧ n < 256
  | .str t, x => x = .string t
  | .ptr p o, x => ∃ r, s p = some r ∧ x = .pointer (some ⟨r.blk, r.off + o, none⟩)
  | .nilp, x => x = .pointer none
  | .sl p k i n, x => ∃ r, s p = some r ∧ r.k = k ∧ i + n ≤ r.cap ∧ x = .slice (some ⟨r.blk, r.off + i * r.k, none⟩) n (r.cap - i)
  | .sle, x => ∃ a c, x = .slice (some a) 0 c
  | .nils, x => x = .slice none 0 0
  | .fn f a c, x => ∃ xs ys, x = .func (.func f) xs ys ∧ VRs s a xs.toList ∧ VRs s c ys.toList
  | .nilfn, x => x = .nilFunc
  | .ifc t a, x => ∃ y, x = .iface t y ∧ VR s a y
  | .nilif, x => x = .nilIface
  | .mp p, x => ∃ r, s p = some r ∧ x = .map (some r.blk)
  | .nilm, x => x = .map none
  | .agg l, x => ∃ xs, x = .agg xs ∧ VRs s l xs.toList ∧ l.all sc = true
  | .tup l, x => ∃ xs, x = .tuple xs ∧ VRs s l xs.toList
def VRs (s : Path → Option Ref) : List AV → List Value → Prop
  | [], xs => xs = []
  | a :: l, xs => ∃ y ys, xs = y :: ys ∧ VR s a y ∧ VRs s l ys
end

mutual
theorem VR.mono {s s' : Path → Option Ref} (h : ∀ p r, s p = some r → s' p = some r) : ∀ (a : AV) (x : Value), VR s a x → VR s' a x
  | .bool _, _, e => e
  | .int _ _, _, e => e
  | .res _ _ _, _, e => e
  | .str _, _, e => e
  | .ptr _ _, _, ⟨r, hr, e⟩ => ⟨r, h _ _ hr, e⟩
  | .nilp, _, e => e
  | .sl _ _ _ _, _, ⟨r, hr, e⟩ => ⟨r, h _ _ hr, e⟩
  | .sle, _, e => e
  | .nils, _, e => e
  | .fn _ a c, _, ⟨xs, ys, e, ha, hc⟩ => ⟨xs, ys, e, VRs.mono h a _ ha, VRs.mono h c _ hc⟩
  | .nilfn, _, e => e
  | .ifc _ a, _, ⟨y, e, ha⟩ => ⟨y, e, VR.mono h a y ha⟩
  | .nilif, _, e => e
  | .mp _, _, ⟨r, hr, e⟩ => ⟨r, h _ _ hr, e⟩
  | .nilm, _, e => e
  | .agg l, _, ⟨xs, e, hl, hs⟩ => ⟨xs, e, VRs.mono h l _ hl, hs⟩
  | .tup l, _, ⟨xs, e, hl⟩ => ⟨xs, e, VRs.mono h l _ hl⟩
theorem VRs.mono {s s' : Path → Option Ref} (h : ∀ p r, s p = some r → s' p = some r) : ∀ (l : List AV) (xs : List Value), VRs s l xs → VRs s' l xs
  | [], _, e => e
  | a :: l, _, ⟨y, ys, e, ha, hl⟩ => ⟨y, ys, e, VR.mono h a y ha, VRs.mono h l ys hl⟩
end

variable {s : Path → Option Ref}
theorem VRs.iff : ∀ {l : List AV} {xs : List Value}, VRs s l xs ↔ l.length = xs.length ∧ ∀ (i : Nat) (a : AV) (x : Value), l[i]? = some a → xs[i]? = some x → VR s a x
  | [], xs => by
    constructor
    · intro h; simp only [VRs] at h; subst h; exact ⟨rfl, fun i a x h => by simp at h⟩
    · intro ⟨h, _⟩; simp only [VRs]; exact List.eq_nil_of_length_eq_zero h.symm
  | a :: l, xs => by
    simp only [VRs]
    constructor
    · rintro ⟨y, ys, rfl, ha, hl⟩
      obtain ⟨h1, h2⟩ := VRs.iff.1 hl
      refine ⟨by simp [h1], ?_⟩
      intro i b x hb hx
      cases i with
      | zero => simp at hb hx; subst hb; subst hx; exact ha
      | succ i => exact h2 i b x (by simpa using hb) (by simpa using hx)
    · intro ⟨h1, h2⟩
      cases xs with
      | nil => simp at h1
      | cons y ys => exact ⟨y, ys, rfl, h2 0 a y rfl rfl, VRs.iff.2 ⟨by simpa using h1, fun i b x hb hx => h2 (i + 1) b x (by simpa using hb) (by simpa using hx)⟩⟩
theorem VRs.length {l : List AV} {xs : List Value} (h : VRs s l xs) : xs.length = l.length := (VRs.iff.1 h).1.symm
theorem VRs.get {l : List AV} {xs : List Value} (h : VRs s l xs) {i : Nat} {a : AV} (ha : l[i]? = some a) : ∃ x, xs[i]? = some x ∧ VR s a x := by
  obtain ⟨h1, h2⟩ := VRs.iff.1 h
  have hi : i < l.length := by rcases Nat.lt_or_ge i l.length with h | h; exact h; rw [List.getElem?_eq_none h] at ha; cases ha
  exact ⟨xs[i]'(by omega), List.getElem?_eq_getElem _, h2 i a _ ha (List.getElem?_eq_getElem _)⟩
theorem VRs.nil : VRs s [] [] := by simp [VRs]
theorem VRs.cons {a : AV} {x : Value} {l : List AV} {xs : List Value} (ha : VR s a x) (hl : VRs s l xs) : VRs s (a :: l) (x :: xs) := ⟨x, xs, rfl, ha, hl⟩
theorem VRs.append : ∀ {l l' : List AV} {xs ys : List Value}, VRs s l xs → VRs s l' ys → VRs s (l ++ l') (xs ++ ys)
  | [], _, xs, _, h, h' => by simp only [VRs] at h; subst h; exact h'
  | a :: l, _, _, _, ⟨y, ys, e, ha, hl⟩, h' => by subst e; exact ⟨y, _, rfl, ha, VRs.append hl h'⟩
theorem VRs.take : ∀ {l : List AV} {xs : List Value} (n : Nat), VRs s l xs → VRs s (l.take n) (xs.take n)
  | [], xs, n, h => by simp only [VRs] at h; subst h; simp [VRs]
  | a :: l, _, 0, _ => by simp [VRs]
  | a :: l, _, n + 1, ⟨y, ys, e, ha, hl⟩ => by subst e; exact ⟨y, _, rfl, ha, VRs.take n hl⟩
theorem VRs.drop : ∀ {l : List AV} {xs : List Value} (n : Nat), VRs s l xs → VRs s (l.drop n) (xs.drop n)
  | [], xs, n, h => by simp only [VRs] at h; subst h; simp [VRs]
  | a :: l, _, 0, h => h
  | a :: l, _, n + 1, ⟨y, ys, e, ha, hl⟩ => by subst e; exact VRs.drop n hl

theorem VR.cells {a : AV} {x : Value} (h : VR s a x) {c : List AV} (hc : Go.Ev.cells a = some c) : VRs s c x.cells.toList ∧ c.all sc = true := by
  cases a with
  | agg l =>
    obtain ⟨xs, rfl, hl, hs⟩ := h
    cases hc
    exact ⟨hl, hs⟩
  | tup l => cases hc
  | bool b => simp only [VR] at h; subst h; cases hc; exact ⟨.cons (by simp [VR]) .nil, rfl⟩
  | int k n => simp only [VR] at h; subst h; cases hc; exact ⟨.cons (by simp [VR]) .nil, rfl⟩
  | res k m r => have h' := h; obtain ⟨n, rfl, _⟩ := h; cases hc; exact ⟨.cons h' .nil, rfl⟩
  | str t => simp only [VR] at h; subst h; cases hc; exact ⟨.cons (by simp [VR]) .nil, rfl⟩
  | ptr p o => have h' := h; obtain ⟨r, hr, rfl⟩ := h; cases hc; exact ⟨.cons h' .nil, rfl⟩
  | nilp => simp only [VR] at h; subst h; cases hc; exact ⟨.cons (by simp [VR]) .nil, rfl⟩
  | sl p k i n => have h' := h; obtain ⟨r, hr, _, _, rfl⟩ := h; cases hc; exact ⟨.cons h' .nil, rfl⟩
  | sle => have h' := h; obtain ⟨b, d, rfl⟩ := h; cases hc; exact ⟨.cons h' .nil, rfl⟩
  | nils => simp only [VR] at h; subst h; cases hc; exact ⟨.cons (by simp [VR]) .nil, rfl⟩
  | fn f a c => have h' := h; obtain ⟨xs, ys, rfl, _, _⟩ := h; cases hc; exact ⟨.cons h' .nil, rfl⟩
  | nilfn => simp only [VR] at h; subst h; cases hc; exact ⟨.cons (by simp [VR]) .nil, rfl⟩
  | ifc t b => have h' := h; obtain ⟨y, rfl, _⟩ := h; cases hc; exact ⟨.cons h' .nil, rfl⟩
  | nilif => simp only [VR] at h; subst h; cases hc; exact ⟨.cons (by simp [VR]) .nil, rfl⟩
  | mp p => have h' := h; obtain ⟨r, hr, rfl⟩ := h; cases hc; exact ⟨.cons h' .nil, rfl⟩
  | nilm => simp only [VR] at h; subst h; cases hc; exact ⟨.cons (by simp [VR]) .nil, rfl⟩

/-- A value of one cell is no aggregate. -/
theorem VR.one {a : AV} {x : Value} (h : VR s a x) (hs : sc a = true) : (∀ c, x ≠ .agg c) ∧ (∀ c, x ≠ .tuple c) := by
  cases a with
  | agg l => cases hs
  | tup l => cases hs
  | bool b => simp only [VR] at h; subst h; exact ⟨fun _ => by simp, fun _ => by simp⟩
  | int k n => simp only [VR] at h; subst h; exact ⟨fun _ => by simp, fun _ => by simp⟩
  | res k m r => obtain ⟨n, rfl, _⟩ := h; exact ⟨fun _ => by simp, fun _ => by simp⟩
  | str t => simp only [VR] at h; subst h; exact ⟨fun _ => by simp, fun _ => by simp⟩
  | ptr p o => obtain ⟨r, hr, rfl⟩ := h; exact ⟨fun _ => by simp, fun _ => by simp⟩
  | nilp => simp only [VR] at h; subst h; exact ⟨fun _ => by simp, fun _ => by simp⟩
  | sl p k i n => obtain ⟨r, hr, hk, hc, rfl⟩ := h; exact ⟨fun _ => by simp, fun _ => by simp⟩
  | sle => obtain ⟨b, c, rfl⟩ := h; exact ⟨fun _ => by simp, fun _ => by simp⟩
  | nils => simp only [VR] at h; subst h; exact ⟨fun _ => by simp, fun _ => by simp⟩
  | fn f a c => obtain ⟨xs, ys, rfl, _, _⟩ := h; exact ⟨fun _ => by simp, fun _ => by simp⟩
  | nilfn => simp only [VR] at h; subst h; exact ⟨fun _ => by simp, fun _ => by simp⟩
  | ifc t b => obtain ⟨y, rfl, _⟩ := h; exact ⟨fun _ => by simp, fun _ => by simp⟩
  | nilif => simp only [VR] at h; subst h; exact ⟨fun _ => by simp, fun _ => by simp⟩
  | mp p => obtain ⟨r, hr, rfl⟩ := h; exact ⟨fun _ => by simp, fun _ => by simp⟩
  | nilm => simp only [VR] at h; subst h; exact ⟨fun _ => by simp, fun _ => by simp⟩

theorem ofCell_VR {v : Value} {a : AV} (h : ofCell v = some a) : VR s a v ∧ sc a = true := by
  unfold ofCell at h
  split at h <;> first | (cases h; exact ⟨by simp [VR], rfl⟩) | cases h
theorem ofCells_VR : ∀ {l : List Value} {r : List AV}, ofCells l = some r → VRs s r l ∧ r.all sc = true
  | [], r, h => by simp [ofCells] at h; subst h; exact ⟨.nil, rfl⟩
  | v :: l, r, h => by
    simp only [ofCells] at h
    split at h
    · rename_i a r' ha hr
      cases h
      obtain ⟨h1, h2⟩ := ofCell_VR (s := s) ha
      obtain ⟨h3, h4⟩ := ofCells_VR hr
      exact ⟨.cons h1 h3, by simp [h2, h4]⟩
    · cases h
theorem ofValue_VR {v : Value} {a : AV} (h : ofValue v = some a) : VR s a v := by
  unfold ofValue at h
  split at h
  · split at h
    · rename_i l hl
      cases h
      obtain ⟨h1, h2⟩ := ofCells_VR (s := s) hl
      exact ⟨_, rfl, h1, h2⟩
    · cases h
  · exact (ofCell_VR h).1
end Go.Ev
