/- Appending. -/
import Derived.Test.YtlbooinipoaapaaDoorEvEff
namespace Go.Ev
variable {P : Program} {E : Ent} {A : Asg} {n : Nat} {ok : Path → Prop} {fr : FT} {act : Act} {w : World} {h : H}

/-- Rows i to i + m of a tree, as they lie in a list of cells. -/
def RowsR (s : Path → Option Ref) (k : Nat) (rows : Tr (List AV)) (i m : Nat) (xs : List Value) : Prop :=
  xs.length = m * k ∧ ∀ j, j < m → ∀ row, get (pathOf (i + j)) rows = some row → row.length = k ∧ row.all sc = true ∧ ∀ (q : Nat) a, row[q]? = some a → ∃ x, xs[j * k + q]? = some x ∧ VR s a x
theorem RowsR.mono {s s' : Path → Option Ref} (hm : ∀ p r, s p = some r → s' p = some r) {k : Nat} {rows : Tr (List AV)} {i m : Nat} {xs : List Value} (h : RowsR s k rows i m xs) : RowsR s' k rows i m xs :=
  ⟨h.1, fun j hj row hr => let ⟨h1, h2, h3⟩ := h.2 j hj row hr; ⟨h1, h2, fun q a ha => let ⟨x, hx, hv⟩ := h3 q a ha; ⟨x, hx, VR.mono hm _ _ hv⟩⟩⟩
theorem RowsR.one {s : Path → Option Ref} {k : Nat} {rows : Tr (List AV)} {i m : Nat} {xs : List Value} (h : RowsR s k rows i m xs) (hk : 0 < k) (hp : ∀ j, j < m → (get (pathOf (i + j)) rows).isSome = true) : ∀ v ∈ xs, v.oneCell' = true := by
  intro v hv
  obtain ⟨c, hc, e⟩ := List.getElem_of_mem hv
  have hcm : c < m * k := by rw [← h.1]; exact hc
  have hj : c / k < m := Nat.div_lt_of_lt_mul (by rw [Nat.mul_comm]; exact hcm)
  obtain ⟨row, hrow⟩ := Option.isSome_iff_exists.1 (hp (c / k) hj)
  obtain ⟨h1, h2, h3⟩ := h.2 (c / k) hj row hrow
  have hq : c % k < row.length := by rw [h1]; exact Nat.mod_lt _ hk
  obtain ⟨x, hx, hvr⟩ := h3 (c % k) _ (List.getElem?_eq_getElem hq)
  have hcc : c / k * k + c % k = c := by rw [Nat.mul_comm]; exact Nat.div_add_mod c k
  rw [hcc, List.getElem?_eq_getElem hc, e] at hx
  cases hx
  rw [List.all_eq_true] at h2
  obtain ⟨h4, h5⟩ := hvr.one (h2 _ (List.getElem_mem hq))
  cases v <;> first | rfl | exact absurd rfl (h4 _) | exact absurd rfl (h5 _)
/-- A part of a block. -/
theorem BlkR.seg {s : Path → Option Ref} {b : Blk} {r : Ref} (B : BlkR s w b r) {i m : Nat} (hi : i + m ≤ r.cap) :
    ∃ xs : List Value, (∀ j v, xs[j]? = some v → w.cell? ((⟨r.blk, r.off + i * r.k, none⟩ : Addr).add j) = some v) ∧ RowsR s b.k b.rows i m xs := by
  obtain ⟨cs, T, fz, e1, e2, e3, e4⟩ := B.cells
  have hk := B.k
  have hmul : (i + m) * r.k ≤ r.cap * r.k := Nat.mul_le_mul_right _ hi
  rw [Nat.add_mul] at hmul
  refine ⟨(cs.toList.drop (r.off + i * r.k)).take (m * r.k), fun j v hv => ?_, ?_, fun j hj row hrow => ?_⟩
  · rw [add_none, cell_of_row w r.blk _ cs T fz e1]
    rw [List.getElem?_take] at hv
    split at hv
    · rw [List.getElem?_drop] at hv; simpa using hv
    · cases hv
  · simp only [List.length_take, List.length_drop, Array.length_toList, hk] at *
    omega
  · obtain ⟨h1, h2, h3⟩ := e4 (i + j) row hrow
    refine ⟨h1, h2, fun q a ha => ?_⟩
    obtain ⟨x, hx, hv⟩ := h3 q a ha
    have hq : q < b.k := by rcases Nat.lt_or_ge q row.length with h | h; omega; rw [List.getElem?_eq_none h] at ha; cases ha
    have hjm : (j + 1) * b.k ≤ m * b.k := Nat.mul_le_mul_right _ hj
    rw [Nat.succ_mul] at hjm
    refine ⟨x, ?_, hv⟩
    rw [List.getElem?_take, if_pos (by rw [hk]; omega), List.getElem?_drop]
    rw [show r.off + i * r.k + (j * b.k + q) = r.off + (i + j) * r.k + q by rw [hk, Nat.add_mul]; omega]
    simpa using hx

/-! ### What append does -/
/-- What is put behind: m elements, these cells. -/
structure Tail (P : Program) (w : World) (size m : Nat) (x : Value) (news : List Value) : Prop where
  len : ∀ w', (Builtin.lenOf x).run P w' = .ok m w'
  first : ∀ w', w'.heap = w.heap → (Builtin.firstCells size m x).run P w' = .ok news.toArray w'
  size : news.length = m * size
section
variable {t u ty e : TypeId} {i : TypeInfo} {z : Value} (ht : P.underlying t = some (.slice e)) (hu : (∃ e', P.underlying u = some (.slice e')) ∨ P.underlying u = some .string) (hi : P.info? e = some i) (hz : i.zero = some z)
include ht hu hi
theorem run_append_in {base : Option Addr} {sLen sCap m : Nat} {x : Value} {news : List Value} (hx : Tail P w i.size m x news) (hroom : sLen + m ≤ sCap) {w' : World}
    (hst : ∀ a, base = some a → (storeCells (a.add (sLen * i.size)) news).run P w = .ok () w') (hno : base = none → w' = w) :
    (Builtin.append_ #[t, u] ty #[.slice base sLen sCap, x]).run P w = .ok (.slice base (sLen + m) sCap) w' := by
  have hf := hx.first w rfl
  have hl := hx.len
  rcases hu with ⟨e', hu⟩ | hu
  · cases base with
    | none => simp [Builtin.append_, run_underlying ht, run_underlying hu, sizeOf, typeInfo, hi, hl, hroom, hf, hno rfl]
    | some a => simp [Builtin.append_, run_underlying ht, run_underlying hu, sizeOf, typeInfo, hi, hl, hroom, hf, hst a rfl]
  · cases base with
    | none => simp [Builtin.append_, run_underlying ht, run_underlying hu, sizeOf, typeInfo, hi, hl, hroom, hf, hno rfl]
    | some a => simp [Builtin.append_, run_underlying ht, run_underlying hu, sizeOf, typeInfo, hi, hl, hroom, hf, hst a rfl]
include hz
theorem run_append_out {base : Option Addr} {sLen sCap m : Nat} {x : Value} {olds news : List Value} (hx : Tail P w i.size m x news) (ho : ∀ w', w'.heap = w.heap → (Builtin.firstCells i.size sLen (.slice base sLen sCap)).run P w' = .ok olds.toArray w')
    (hroom : sCap < sLen + m) (hmost : sLen + m ≤ 16777216) (hby : i.bytes ≤ 8388608) :
    ∃ cap, sLen + m ≤ cap ∧ (Builtin.append_ #[t, u] ty #[.slice base sLen sCap, x]).run P w =
      .ok (.slice (some ⟨w.heap.size, 0, none⟩) (sLen + m) cap) (more w (.cells (olds ++ news ++ (Builtin.zeroCells z.cells (cap - (sLen + m))).toList).toArray e (0, 0)) (w.drawn + 1)) := by
  refine ⟨grownCap w (sLen + m) sCap e, grownCap_ge _ _ _ _, ?_⟩
  have hn : ¬ (sLen + m ≤ sCap) := by omega
  have h63' : ¬ (9223372036854775807 < ((sLen : Int) + (m : Int))) := by omega
  have hcap := nextslicecap_le hroom
  have h48 : Builtin.nextslicecap (sLen + m) sCap * i.bytes ≤ 2 * 16777216 * 8388608 := Nat.mul_le_mul (by omega) hby
  have h48' : ¬ (281474976710656 < Builtin.nextslicecap (sLen + m) sCap * i.bytes) := by omega
  have hf := hx.first w.drew rfl
  have hl := hx.len
  have hfo := ho w.drew rfl
  rcases hu with ⟨e', hu⟩ | hu
  · simp [Builtin.append_, run_underlying ht, run_underlying hu, sizeOf, typeInfo, zeroValue, hi, hz, hl, hn, h63', h48', Question.forced, hf, hfo, newRow, grownCap, more]
    rw [show ∀ Z : Array Value, olds.toArray ++ (news.toArray ++ Z) = (olds ++ (news ++ Z.toList)).toArray from fun Z => by apply Array.ext'; simp]
    rfl
  · simp [Builtin.append_, run_underlying ht, run_underlying hu, sizeOf, typeInfo, zeroValue, hi, hz, hl, hn, h63', h48', Question.forced, hf, hfo, newRow, grownCap, more]
    rw [show ∀ Z : Array Value, olds.toArray ++ (news.toArray ++ Z) = (olds ++ (news ++ Z.toList)).toArray from fun Z => by apply Array.ext'; simp]
    rfl
end

/-- New rows behind old ones, in a block of their own. -/
theorem appended_R {p : Path} (hp : A.s p = none) {k m0 m i0 j0 cap : Nat} (h0 : 0 < k) {src0 src t1 t2 : Tr (List AV)} {olds news zs : List Value} (ho : RowsR A.s k src0 i0 m0 olds) (hn : RowsR A.s k src j0 m news)
    (h1 : ∀ j row, get (pathOf j) t1 = some row → j < m0 ∧ get (pathOf (i0 + j)) src0 = some row) (h2 : copyRows src m j0 m0 t1 = some t2) (hcap : m0 + m ≤ cap) (hzs : zs.length = (cap - (m0 + m)) * k) (T : TypeId) (d : Nat) :
    BlkR (A.withS p ⟨w.heap.size, 0, k, cap⟩).s (more w (.cells (olds ++ news ++ zs).toArray T (0, 0)) d) ⟨k, m0 + m, t2, true, false, false⟩ ⟨w.heap.size, 0, k, cap⟩ where
  k := rfl
  kpos := h0
  cap := hcap
  shut := fun h => (by cases h)
  top := fun j row hj => by
    rw [(get_copyRows src m j0 m0 t1 t2 h2).1 j] at hj
    split at hj
    · simp only; omega
    · have := (h1 j row hj).1; simp only; omega
  cells := by
    have hol := ho.1
    have hnl := hn.1
    refine ⟨_, T, (0, 0), more_heap _ _ _, fun _ => rfl, ?_, fun j row hj => ?_⟩
    · simp only [List.size_toArray, List.length_append, hol, hnl, hzs, ← Nat.add_mul]
      rw [show m0 + m + (cap - (m0 + m)) = cap by omega]
      omega
    · rw [(get_copyRows src m j0 m0 t1 t2 h2).1 j] at hj
      split at hj
      · rename_i hjm
        obtain ⟨g1, g2, g3⟩ := hn.2 (j - m0) (by omega) row hj
        refine ⟨g1, g2, fun q a ha => ?_⟩
        obtain ⟨x, hx, hv⟩ := g3 q a ha
        have hq : q < k := by rcases Nat.lt_or_ge q row.length with h | h; omega; rw [List.getElem?_eq_none h] at ha; cases ha
        have hjk : j * k = m0 * k + (j - m0) * k := by rw [← Nat.add_mul]; congr 1; omega
        have hlt : (j - m0 + 1) * k ≤ m * k := Nat.mul_le_mul_right _ (by omega)
        rw [Nat.succ_mul] at hlt
        refine ⟨x, (?_ : (olds ++ news ++ zs).toArray[0 + j * k + q]? = some x), VR.mono (withS_mono hp) _ _ hv⟩
        rw [List.getElem?_toArray, List.getElem?_append_left (by simp; omega), List.getElem?_append_right (by omega)]
        rw [show 0 + j * k + q - olds.length = (j - m0) * k + q by omega]
        exact hx
      · rename_i hjm
        obtain ⟨hj0, hj⟩ := h1 j row hj
        · obtain ⟨g1, g2, g3⟩ := ho.2 j (by omega) row hj
          refine ⟨g1, g2, fun q a ha => ?_⟩
          obtain ⟨x, hx, hv⟩ := g3 q a ha
          have hq : q < k := by rcases Nat.lt_or_ge q row.length with h | h; omega; rw [List.getElem?_eq_none h] at ha; cases ha
          have hlt : (j + 1) * k ≤ m0 * k := Nat.mul_le_mul_right _ (by omega)
          rw [Nat.succ_mul] at hlt
          refine ⟨x, (?_ : (olds ++ news ++ zs).toArray[0 + j * k + q]? = some x), VR.mono (withS_mono hp) _ _ hv⟩
          rw [List.getElem?_toArray, List.append_assoc, List.getElem?_append_left (by omega)]
          rw [show 0 + j * k + q = j * k + q by omega]
          exact hx
/-- Rows that are written into a block, one behind the other. -/
theorem written_R {b : Blk} {r : Ref} (B : BlkR A.s w b r) (hro : b.ro = false) {i m j0 : Nat} {src : Tr (List AV)} {news : List Value} (hn : RowsR A.s b.k src j0 m news)
    (hm : i + m ≤ r.cap) : ∃ cs T, w.heap[r.blk]? = some (.cells cs T (0, 0)) ∧ r.off + i * r.k + news.length ≤ cs.size ∧
    ∃ cs' : Array Value, cs'.size = cs.size ∧ cs' = (cs.toList.take (r.off + i * r.k) ++ news ++ cs.toList.drop (r.off + i * r.k + news.length)).toArray ∧
    (∀ j q, q < b.k → j < i ∨ i + m ≤ j → cs'[r.off + j * r.k + q]? = cs[r.off + j * r.k + q]?) ∧ (∀ j q, q < b.k → j < m → cs'[r.off + (i + j) * r.k + q]? = news[j * b.k + q]?) := by
  obtain ⟨cs, T, fz, e1, e2, e3, e4⟩ := B.cells
  have hfz := e2 hro
  subst hfz
  have hk := B.k
  have hnl := hn.1
  have hmul : (i + m) * r.k ≤ r.cap * r.k := Nat.mul_le_mul_right _ hm
  rw [Nat.add_mul] at hmul
  rw [← hk] at hnl
  refine ⟨cs, T, e1, by omega, _, ?_, rfl, fun j q hq hj => ?_, fun j q hq hj => ?_⟩
  · simp only [List.size_toArray, List.length_append, List.length_take, List.length_drop, Array.length_toList]
    omega
  · rcases hj with hj | hj
    · have hlt : (j + 1) * r.k ≤ i * r.k := Nat.mul_le_mul_right _ hj
      rw [Nat.succ_mul] at hlt
      rw [List.getElem?_toArray, List.append_assoc, List.getElem?_append_left (by simp; omega), List.getElem?_take, if_pos (by omega)]
      simp
    · have hlt : (i + m) * r.k ≤ j * r.k := Nat.mul_le_mul_right _ hj
      rw [Nat.add_mul] at hlt
      rw [List.getElem?_toArray, List.getElem?_append_right (by simp; omega), List.getElem?_drop]
      simp only [List.length_append, List.length_take, Array.length_toList]
      rw [show r.off + i * r.k + news.length + (r.off + j * r.k + q - (min (r.off + i * r.k) cs.size + news.length)) = r.off + j * r.k + q by omega]
      simp
  · have hlt : (j + 1) * r.k ≤ m * r.k := Nat.mul_le_mul_right _ hj
    rw [Nat.succ_mul] at hlt
    rw [List.getElem?_toArray, List.append_assoc, List.getElem?_append_right (by simp; rw [Nat.add_mul]; omega), List.getElem?_append_left (by simp; rw [Nat.add_mul]; omega)]
    simp only [List.length_take, Array.length_toList]
    rw [show r.off + (i + j) * r.k + q - min (r.off + i * r.k) cs.size = j * b.k + q by rw [Nat.add_mul, ← hk]; omega]
end Go.Ev
