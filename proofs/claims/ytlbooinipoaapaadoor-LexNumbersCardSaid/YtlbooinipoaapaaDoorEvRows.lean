/- Rows of blocks: plain facts. -/
import Derived.Test.YtlbooinipoaapaaDoorEvOps1
namespace Go.Ev

theorem get_rowsOf (k : Nat) : ∀ (n i : Nat) (l : List AV) (t : Tr (List AV)) (j : Nat),
    get (pathOf j) (rowsOf k n i l t) = if i ≤ j ∧ j < i + n then some ((l.drop ((j - i) * k)).take k) else get (pathOf j) t
  | 0, i, l, t, j => by
    show get (pathOf j) t = _
    rw [if_neg (by omega)]
  | n + 1, i, l, t, j => by
    show get (pathOf j) (rowsOf k n (i + 1) (l.drop k) (set (pathOf i) (some (l.take k)) t)) = _
    rw [get_rowsOf k n]
    by_cases h : j = i
    · subst h
      rw [if_neg (by omega), get_set, if_pos rfl, if_pos (by omega)]
      simp
    · by_cases h1 : i + 1 ≤ j ∧ j < i + 1 + n
      · rw [if_pos h1, if_pos (by omega), List.drop_drop]
        have : k + (j - (i + 1)) * k = (j - i) * k := by
          have e : j - i = (j - (i + 1)) + 1 := by omega
          rw [e, Nat.add_mul]; omega
        rw [this]
      · rw [if_neg h1, get_set, if_neg (fun e => h (pathOf_inj e)), if_neg (by omega)]
theorem get_repRows (z : List AV) : ∀ (n i : Nat) (t : Tr (List AV)) (j : Nat),
    get (pathOf j) (repRows z n i t) = if i ≤ j ∧ j < i + n then some z else get (pathOf j) t
  | 0, i, t, j => by
    show get (pathOf j) t = _
    rw [if_neg (by omega)]
  | n + 1, i, t, j => by
    show get (pathOf j) (repRows z n (i + 1) (set (pathOf i) (some z) t)) = _
    rw [get_repRows z n]
    by_cases h : j = i
    · subst h
      rw [if_neg (by omega), get_set, if_pos rfl, if_pos (by omega)]
    · by_cases h1 : i + 1 ≤ j ∧ j < i + 1 + n
      · rw [if_pos h1, if_pos (by omega)]
      · rw [if_neg h1, get_set, if_neg (fun e => h (pathOf_inj e)), if_neg (by omega)]
theorem get_byteRows : ∀ (l : List UInt8) (i : Nat) (t : Tr (List AV)) (j : Nat),
    get (pathOf j) (byteRows l i t) = if i ≤ j ∧ j < i + l.length then (l[j - i]?).map (fun c => [AV.int .u8 (.ofNat c.toNat)]) else get (pathOf j) t
  | [], i, t, j => by
    show get (pathOf j) t = _
    rw [if_neg (by simp)]
  | c :: l, i, t, j => by
    show get (pathOf j) (byteRows l (i + 1) (set (pathOf i) (some [AV.int .u8 (.ofNat c.toNat)]) t)) = _
    rw [get_byteRows l]
    by_cases h : j = i
    · subst h
      rw [if_neg (by omega), get_set, if_pos rfl, if_pos (by simp)]
      simp
    · by_cases h1 : i + 1 ≤ j ∧ j < i + 1 + l.length
      · rw [if_pos h1, if_pos (by simp; omega)]
        have e : j - i = (j - (i + 1)) + 1 := by omega
        rw [e]; simp
      · rw [if_neg h1, get_set, if_neg (fun e => h (pathOf_inj e)), if_neg (by simp; omega)]
theorem copyRows_succ (src : Tr (List AV)) (n i j : Nat) (t : Tr (List AV)) :
    copyRows src (n + 1) i j t = match get (pathOf i) src with | none => none | some r => copyRows src n (i + 1) (j + 1) (set (pathOf j) (some r) t) := by
  show Option.casesOn (motive := fun _ => Option (Tr (List AV))) (get (pathOf i) src) none (fun r => copyRows src n (i + 1) (j + 1) (set (pathOf j) (some r) t)) = _
  cases get (pathOf i) src <;> rfl
theorem get_copyRows (src : Tr (List AV)) : ∀ (n i j0 : Nat) (t t' : Tr (List AV)), copyRows src n i j0 t = some t' →
    (∀ j, get (pathOf j) t' = if j0 ≤ j ∧ j < j0 + n then get (pathOf (i + (j - j0))) src else get (pathOf j) t) ∧ ∀ m, m < n → (get (pathOf (i + m)) src).isSome = true
  | 0, i, j0, t, t', h => by
    have h : some t = some t' := h
    cases h
    exact ⟨fun j => by rw [if_neg (by omega)], fun m hm => by omega⟩
  | n + 1, i, j0, t, t', h => by
    rw [copyRows_succ] at h
    split at h
    · cases h
    · rename_i r hr
      obtain ⟨h1, h2⟩ := get_copyRows src n (i + 1) (j0 + 1) _ t' h
      refine ⟨fun j => ?_, fun m hm => ?_⟩
      · rw [h1]
        by_cases e : j = j0
        · subst e
          rw [if_neg (by omega), get_set, if_pos rfl, if_pos (by omega)]
          simp [hr]
        · by_cases h3 : j0 + 1 ≤ j ∧ j < j0 + 1 + n
          · rw [if_pos h3, if_pos (by omega)]
            congr 2
            omega
          · rw [if_neg h3, get_set, if_neg (fun e' => e (pathOf_inj e')), if_neg (by omega)]
      · cases m with
        | zero => simp [hr]
        | succ m => have := h2 m (by omega); rwa [show i + 1 + m = i + (m + 1) by omega] at this
theorem bytesIn_spec (rows : Tr (List AV)) : ∀ (n i : Nat) (l : List UInt8), bytesIn rows n i = some l →
    ∃ ns : List Nat, ns.length = n ∧ l = ns.map UInt8.ofNat ∧ ∀ (j c : Nat), ns[j]? = some c → get (pathOf (i + j)) rows = some [.int .u8 (.ofNat c)]
  | 0, i, l, h => by
    have h : some [] = some l := h
    cases h
    exact ⟨[], rfl, rfl, fun j c h => by simp at h⟩
  | n + 1, i, l, h => by
    have h : (match get (pathOf i) rows with
      | some [.int .u8 (.ofNat c)] => match bytesIn rows n (i + 1) with | some l => some (UInt8.ofNat c :: l) | none => none
      | _ => none) = some l := h
    split at h
    · rename_i c hc
      split at h
      · rename_i l' hl
        cases h
        obtain ⟨ns, h1, h2, h3⟩ := bytesIn_spec rows n (i + 1) l' hl
        refine ⟨c :: ns, by simp [h1], by simp [h2], fun j d hd => ?_⟩
        cases j with
        | zero => simp at hd; subst hd; exact hc
        | succ j => have := h3 j d (by simpa using hd); rwa [show i + 1 + j = i + (j + 1) by omega] at this
      · cases h
    · cases h

theorem flatten_rep {α : Type} (z : List α) (k : Nat) (hk : z.length = k) : ∀ (n j : Nat), ((List.replicate n z).flatten)[j]? = if j < n * k then z[j % k]? else none
  | 0, j => by simp
  | n + 1, j => by
    rw [List.replicate_succ, List.flatten_cons, List.getElem?_append, hk]
    by_cases h : j < k
    · rw [if_pos h, if_pos (by rw [Nat.add_mul]; omega), Nat.mod_eq_of_lt h]
    · rw [if_neg h, flatten_rep z k hk n (j - k)]
      by_cases h1 : j - k < n * k
      · rw [if_pos h1, if_pos (by rw [Nat.add_mul]; omega), ← Nat.mod_eq_sub_mod (by omega)]
      · rw [if_neg h1, if_neg (by rw [Nat.add_mul]; omega)]
theorem flatten_len {α : Type} (z : List α) (k : Nat) (hk : z.length = k) (n : Nat) : ((List.replicate n z).flatten).length = n * k := by
  simp [List.length_flatten, hk]
theorem madeCells_at (z : Array Value) (m j : Nat) (hz : 0 < z.size) : (madeCells z m)[j]? = if j < m then z[j % z.size]? else none := by
  unfold madeCells
  by_cases h : j < m
  · rw [if_pos h, Array.getElem?_map, Array.getElem?_range, if_pos h]
    have : j % z.size < z.size := Nat.mod_lt _ hz
    simp [this]
  · rw [if_neg h, Array.getElem?_eq_none (by simp; omega)]
theorem VRs.rep {s : Path → Option Ref} {z : List AV} {zs : Array Value} (h : VRs s z zs.toList) {k : Nat} (hk : z.length = k) (h0 : 0 < k) (n : Nat) : VRs s ((List.replicate n z).flatten) (madeCells zs (n * k)).toList := by
  have hzs : zs.size = k := by have := h.length; simp at this; omega
  refine VRs.iff.2 ⟨by rw [flatten_len z k hk]; simp [size_madeCells], fun i a x ha hx => ?_⟩
  rw [flatten_rep z k hk] at ha
  split at ha
  · rename_i hi
    rw [Array.getElem?_toList, madeCells_at zs (n * k) i (by omega), if_pos hi, hzs] at hx
    exact (VRs.iff.1 h).2 (i % k) a x ha (by simpa using hx)
  · cases ha
end Go.Ev
