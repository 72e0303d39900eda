/- slices.Delete at elements of any number of cells. -/
import Derived.Test.YtanjjmgoangmdaaGreatDoorEvMc
import Derived.Test.YtanjjmgoangmdaaGreatDoorEvMb
import Derived.Shelf.SlicesE.Delete
set_option linter.unusedVariables false
namespace Go.Ev.Del
set_option linter.unusedSectionVars false
variable [Unk]
open Go Go.Shelf Go.RowKit Go.Proofs
variable {P : Program} {ρ : Ren}
/-- What is wanted of a program for Delete at elements of k cells with the zero value z. -/
structure DelL (P : Program) (ρ : Ren) (k : Nat) (z : Value) : Prop where
  mixed : P.follows .mixedOrders = true
  f45 : Bears P (ρ.f 45) (SlBodyN.n45 ρ)
  t0 : P.underlying (ρ.t 0) = some (TypeDesc.tuple #[])
  a0 : ∀ w, (isAgg (ρ.t 0)).run P w = .ok false w
  z0 : ∀ w, (Go.sizeOf (ρ.t 0)).run P w = .ok 1 w
  v0 : ∀ w, (zeroValue (ρ.t 0)).run P w = .ok (Value.tuple #[]) w
  t3 : P.underlying (ρ.t 3) = some (TypeDesc.int IntKind.i64)
  a3 : ∀ w, (isAgg (ρ.t 3)).run P w = .ok false w
  z3 : ∀ w, (Go.sizeOf (ρ.t 3)).run P w = .ok 1 w
  v3 : ∀ w, (zeroValue (ρ.t 3)).run P w = .ok (Value.int IntKind.i64 0) w
  t4 : P.underlying (ρ.t 4) = some (TypeDesc.bool)
  a4 : ∀ w, (isAgg (ρ.t 4)).run P w = .ok false w
  z4 : ∀ w, (Go.sizeOf (ρ.t 4)).run P w = .ok 1 w
  v4 : ∀ w, (zeroValue (ρ.t 4)).run P w = .ok (Value.bool false) w
  t22 : P.underlying (ρ.t 22) = some (TypeDesc.slice (ρ.t 23))
  a22 : ∀ w, (isAgg (ρ.t 22)).run P w = .ok false w
  z22 : ∀ w, (Go.sizeOf (ρ.t 22)).run P w = .ok 1 w
  v22 : ∀ w, (zeroValue (ρ.t 22)).run P w = .ok (Value.slice none 0 0) w
  z23 : ∀ w, (Go.sizeOf (ρ.t 23)).run P w = .ok k w
  v23 : ∀ w, (zeroValue (ρ.t 23)).run P w = .ok z w
  info : ∃ i, P.info? (ρ.t 23) = some i ∧ i.size = k
  zc : z.cells.size = k
  zone : ∀ v ∈ z.cells.toList, v.oneCell' = true
  kpos : 0 < k
set_option maxHeartbeats 4000000 in
set_option maxRecDepth 1000000 in
/-- Nothing is taken out. -/
theorem del_none {k : Nat} {z : Value} (L : DelL P ρ k z) (blk off cap i n : Nat) (w : World) (hcap : n ≤ cap) (hm : n ≤ 9223372036854775807) (hj : i ≤ n) :
    Calls P (ρ.f 45) #[.slice (some ⟨blk, off, none⟩) n cap, .int .i64 i, .int .i64 i] w fun e w' => e = .returned (.slice (some ⟨blk, off, none⟩) n cap) ∧ w' = w := by
  have mixed := L.mixed; have t0 := L.t0; have a0 := L.a0; have z0 := L.z0; have v0 := L.v0; have t3 := L.t3; have a3 := L.a3; have z3 := L.z3; have v3 := L.v3; have t4 := L.t4; have a4 := L.a4; have z4 := L.z4; have v4 := L.v4; have t22 := L.t22; have a22 := L.a22; have z22 := L.z22; have v22 := L.v22; have z23 := L.z23
  obtain ⟨_, _, FG⟩ := L.f45
  go_enter FG, SlBodyN.n45_ntmps ρ
  go_wp2
  all_goals (go_ret; exact ⟨rfl, rfl⟩)
theorem wr_wr (w : World) (g : Nat) (o1 o2 : Obj) : wr (wr w g o1) g o2 = wr w g o2 := by
  unfold wr
  congr 1
  apply Array.ext_getElem?
  intro i
  simp only [Array.getElem?_setIfInBounds, Array.size_setIfInBounds]
  by_cases h : g = i <;> simp [h]
theorem setCell_wr1 {w : World} {g k : Nat} {cs : Array Value} {T : TypeId} {fz : Nat × Nat} {v : Value} (hg : w.heap[g]? = some (.cells cs T fz)) (hk : k < cs.size) :
    w.setCell ⟨g, k, none⟩ v = wr w g (.cells (cs.toList.take k ++ [v] ++ cs.toList.drop (k + [v].length)).toArray T fz) := by
  have hlt : g < w.heap.size := (Array.getElem?_eq_some_iff.1 hg).1
  have hc : cs.setIfInBounds k v = (cs.toList.take k ++ [v] ++ cs.toList.drop (k + [v].length)).toArray := by
    apply Array.ext'
    rw [Array.toList_setIfInBounds, List.set_eq_take_append_cons_drop, if_pos (by simpa using hk)]
    simp
  unfold World.setCell wr
  congr 1
  apply Array.ext_getElem?
  intro i
  rw [Array.getElem?_modify, Array.getElem?_setIfInBounds]
  by_cases h : g = i
  · subst h
    rw [if_pos rfl, if_pos rfl, if_pos hlt, hg]
    simp [hc]
  · rw [if_neg h, if_neg h]
theorem setCells_wr {g : Nat} {T : TypeId} {fz : Nat × Nat} : ∀ (vs : List Value) (o : Nat) (w : World) (cs : Array Value), w.heap[g]? = some (.cells cs T fz) → o + vs.length ≤ cs.size →
    w.setCells g o vs = wr w g (.cells (cs.toList.take o ++ vs ++ cs.toList.drop (o + vs.length)).toArray T fz)
  | [], o, w, cs, hg, h => by
    have hlt : g < w.heap.size := (Array.getElem?_eq_some_iff.1 hg).1
    show w = _
    have : (cs.toList.take o ++ [] ++ cs.toList.drop (o + ([] : List Value).length)).toArray = cs := by apply Array.ext'; simp
    rw [this]
    unfold wr
    have hw : w.heap.setIfInBounds g (.cells cs T fz) = w.heap := by
      apply Array.ext_getElem?
      intro i
      rw [Array.getElem?_setIfInBounds]
      by_cases h : g = i
      · subst h; rw [if_pos rfl, if_pos hlt, hg]
      · rw [if_neg h]
    rw [hw]
  | v :: vs, o, w, cs, hg, h => by
    have h : o + (vs.length + 1) ≤ cs.size := h
    have hlt : g < w.heap.size := (Array.getElem?_eq_some_iff.1 hg).1
    show (w.setCell ⟨g, o, none⟩ v).setCells g (o + 1) vs = _
    rw [setCell_wr1 hg (by omega)]
    have hs : (cs.toList.take o ++ [v] ++ cs.toList.drop (o + [v].length)).toArray.size = cs.size := by
      simp only [List.size_toArray, List.length_append, List.length_take, List.length_drop, Array.length_toList, List.length_cons, List.length_nil]; omega
    rw [setCells_wr vs (o + 1) _ _ (wr_same hlt) (by rw [hs]; omega), wr_wr]
    congr 2
    apply Array.ext'
    dsimp only
    have e1 : (cs.toList.take o ++ [v] ++ cs.toList.drop (o + [v].length)).take (o + 1) = cs.toList.take o ++ [v] := by
      rw [List.take_append_of_le_length (by simp; omega)]
      rw [List.take_of_length_le (by simp; omega)]
    have e2 : (cs.toList.take o ++ [v] ++ cs.toList.drop (o + [v].length)).drop (o + 1 + vs.length) = cs.toList.drop (o + (vs.length + 1)) := by
      rw [List.drop_append]
      have : (cs.toList.take o ++ [v]).length = o + 1 := by simp; omega
      rw [this, List.drop_of_length_le (by rw [this]; omega), List.nil_append, List.drop_drop]
      congr 1
      simp; omega
    rw [e1, e2]
    simp
/-- clear, at elements of any number of cells. -/
theorem run_clear {k : Nat} {z : Value} (L : DelL P ρ k z) (ty : TypeId) (g o n c : Nat) (w : World) (cs : Array Value) (T : TypeId) (hg : w.heap[g]? = some (.cells cs T (0, 0))) (hn : 0 < n) (hsz : o + n * k ≤ cs.size) :
    (Builtin.clear_ #[ρ.t 22] ty #[.slice (some ⟨g, o, none⟩) n c]).run P w = .ok (.tuple #[]) (w.setCells g o (Builtin.zeroCells z.cells n).toList) := by
  have hzl : (Builtin.zeroCells z.cells n).toList.length = n * k := by rw [zeroCells_len, L.zc]
  have hst := run_storeCells_cells (P := P) g o (Builtin.zeroCells z.cells n).toList 0 w
    (fun j hj => by unfold World.cell?; simp only [hg, Option.isSome_none, Bool.false_eq_true, if_false]; rw [Array.getElem?_eq_getElem (by omega)]; rfl)
    (fun j hj => by unfold World.frozen?; simp [hg])
    (fun v hv => by
      have hv : v ∈ Builtin.zeroCells z.cells n := by simpa using hv
      unfold Builtin.zeroCells at hv
      simp only [Array.mem_map] at hv
      obtain ⟨i, hi, rfl⟩ := hv
      have hlt : i % z.cells.size < z.cells.size := Nat.mod_lt _ (by rw [L.zc]; exact L.kpos)
      rw [getElem!_pos z.cells _ hlt]
      exact L.zone _ (by simp))
  simp only [Nat.add_zero] at hst
  obtain ⟨m, rfl⟩ : ∃ m, n = m + 1 := ⟨n - 1, by omega⟩
  simp [Builtin.clear_, run_underlying L.t22, L.v23, hst]
set_option maxHeartbeats 4000000 in
set_option maxRecDepth 1000000 in
/-- Some are taken out. -/
theorem del_some {k : Nat} {z : Value} (L : DelL P ρ k z) (blk off cap i j n : Nat) (w : World) (cs : Array Value) (T : TypeId) (hg : w.heap[blk]? = some (.cells cs T (0, 0))) (hcap : n ≤ cap) (hm : n ≤ 9223372036854775807) (hij : i < j) (hj : j ≤ n) (hsz : off + n * k ≤ cs.size)
    (hone : ∀ u ∈ (cs.toList.drop (off + j * k)).take ((n - j) * k), u.oneCell' = true) :
    Calls P (ρ.f 45) #[.slice (some ⟨blk, off, none⟩) n cap, .int .i64 i, .int .i64 j] w fun e w' => e = .returned (.slice (some ⟨blk, off, none⟩) (i + (n - j)) cap) ∧
      w' = (w.drew.setCells blk (off + i * k) ((cs.toList.drop (off + j * k)).take ((n - j) * k))).setCells blk (off + (i + (n - j)) * k) (Builtin.zeroCells z.cells (n - (i + (n - j)))).toList := by
  have mixed := L.mixed; have t0 := L.t0; have a0 := L.a0; have z0 := L.z0; have v0 := L.v0; have t3 := L.t3; have a3 := L.a3; have z3 := L.z3; have v3 := L.v3; have t4 := L.t4; have a4 := L.a4; have z4 := L.z4; have v4 := L.v4; have t22 := L.t22; have a22 := L.a22; have z22 := L.z22; have v22 := L.v22; have z23 := L.z23
  obtain ⟨i0, hi0, hz1⟩ := L.info
  have hmul1 : j * k + (n - j) * k = n * k := by rw [← Nat.add_mul]; congr 1; omega
  have hmul2 : i * k + (n - j) * k ≤ n * k := by rw [← Nat.add_mul]; exact Nat.mul_le_mul_right _ (by omega)
  have hmul3 : (i + (n - j)) * k + (n - (i + (n - j))) * k = n * k := by rw [← Nat.add_mul]; congr 1; omega
  obtain ⟨news, hnews⟩ : ∃ news, news = (cs.toList.drop (off + j * k)).take ((n - j) * k) := ⟨_, rfl⟩
  rw [← hnews] at hone ⊢
  have hlen : news.length = (n - j) * k := by rw [hnews]; simp; omega
  have hget : ∀ t u, news[t]? = some u → w.drew.cell? ⟨blk, off + j * k + t, none⟩ = some u := by
    intro t u hu
    rw [hnews, List.getElem?_take] at hu
    split at hu
    · rw [List.getElem?_drop] at hu
      show w.cell? _ = _
      unfold World.cell?
      simp only [hg, Option.isSome_none, Bool.false_eq_true, if_false]
      simpa using hu
    · cases hu
  obtain ⟨A, hA, hsrc⟩ : ∃ A : Addr, (if cap = j then some (⟨blk, off, none⟩ : Addr) else some ⟨blk, off + j * k, none⟩) = some A ∧ Hid (∀ t u, news[t]? = some u → w.drew.cell? (A.add t) = some u) := by
    by_cases h : cap = j
    · refine ⟨⟨blk, off, none⟩, by simp [h], fun t u hu => ?_⟩
      have h0 : news.length = 0 := by rw [hlen]; have : n - j = 0 := by omega
                                      rw [this]; simp
      rw [List.length_eq_zero_iff.1 h0] at hu
      simp at hu
    · refine ⟨⟨blk, off + j * k, none⟩, by simp [h], fun t u hu => ?_⟩
      rw [add_none]
      exact hget t u hu
  have s1 : Hid (news.length = (n - j) * k) := hlen
  have s2 : Hid (∀ u ∈ news, u.oneCell' = true) := hone
  have s3 : Hid (∀ t, t < news.length → (w.drew.cell? ⟨blk, off + i * k + t, none⟩).isSome = true ∧ w.drew.frozen? ⟨blk, off + i * k + t, none⟩ = false) := by
    intro t ht
    rw [hlen] at ht
    refine ⟨?_, ?_⟩
    · show (w.cell? _).isSome = true
      unfold World.cell?
      simp only [hg, Option.isSome_none, Bool.false_eq_true, if_false]
      rw [Array.getElem?_eq_getElem (by omega)]; rfl
    · show w.frozen? _ = false
      unfold World.frozen?; simp [hg]
  obtain ⟨W1, hW1⟩ : ∃ W1, W1 = w.drew.setCells blk (off + i * k) news := ⟨_, rfl⟩
  have hg1 : W1.heap[blk]? = some (.cells (cs.toList.take (off + i * k) ++ news ++ cs.toList.drop (off + i * k + news.length)).toArray T (0, 0)) := by
    have hlt : blk < w.drew.heap.size := (Array.getElem?_eq_some_iff.1 hg).1
    rw [hW1, setCells_wr (fz := (0, 0)) news (off + i * k) w.drew cs hg (by omega)]
    exact wr_same hlt
  have hcl : ∀ ty, (Builtin.clear_ #[ρ.t 22] ty #[.slice (some ⟨blk, off + (i + (n - j)) * k, none⟩) (n - (i + (n - j))) (cap - (i + (n - j)))]).run P W1 = .ok (.tuple #[]) (W1.setCells blk (off + (i + (n - j)) * k) (Builtin.zeroCells z.cells (n - (i + (n - j)))).toList) :=
    fun ty => run_clear L ty _ _ _ _ W1 _ T hg1 (by omega) (by simp only [List.size_toArray, List.length_append, List.length_take, List.length_drop, Array.length_toList, hlen]; omega)
  have hW : Hid (W1 = w.drew.setCells blk (off + i * k) news) := hW1
  rw [← hW1]
  obtain ⟨zs, hzs⟩ : ∃ zs, zs = (Builtin.zeroCells z.cells (n - (i + (n - j)))).toList := ⟨_, rfl⟩
  rw [← hzs] at hcl ⊢
  clear hzs
  have hic : i ≤ cap := by omega
  have hjc : j ≤ cap := by omega
  clear hW1 hg1 hget hnews hlen hone hmul1 hmul2 hmul3
  obtain ⟨_, _, FG⟩ := L.f45
  go_enter FG, SlBodyN.n45_ntmps ρ
  go_wp2_with fail
  go_region_law_o (refine step_append_room rfl (.tmp 22) (.tmp 25) (ρ.t 22) rfl (ρ.t 23) i0 k t22 hi0 hz1 blk off i cap (by simp [Act.eval, Act.put]) A (n - j) (cap - j) news (by simp [Act.eval, Act.put]) s1.out hsrc.out s2.out (by omega) s3.out ?_; rw [← hW.out])
  go_wp2
  go_ret
  exact ⟨rfl, rfl⟩
/-- Rows that are written into a block: what it is then. -/
theorem wrote {s : Asg} {w : World} {b : Blk} {r : Ref} (B : BlkR s.s w b r) (hro : b.ro = false) {src t' : Tr (List AV)} {m j0 i : Nat} {news : List Value} (hn : RowsR s.s b.k src j0 m news) (hc : copyRows src m j0 i b.rows = some t') (hcap : i + m ≤ b.n) :
    ∃ cs T, w.heap[r.blk]? = some (.cells cs T (0, 0)) ∧ r.off + i * r.k + news.length ≤ cs.size ∧ (∀ u ∈ news, u.oneCell' = true) ∧
      BlkR s.s (wr w r.blk (.cells (cs.toList.take (r.off + i * r.k) ++ news ++ cs.toList.drop (r.off + i * r.k + news.length)).toArray T (0, 0))) { b with rows := t' } r := by
  have hcap' : i + m ≤ r.cap := Nat.le_trans hcap B.cap
  obtain ⟨hcp, hpres⟩ := get_copyRows _ _ _ _ _ _ hc
  obtain ⟨cs, T, e1, e2, cs', e3, e4, e5, e6⟩ := written_R B hro (i := i) hn hcap'
  have hlt : r.blk < w.heap.size := (Array.getElem?_eq_some_iff.1 e1).1
  refine ⟨cs, T, e1, by omega, hn.one B.kpos hpres, ?_⟩
  rw [← e4]
  obtain ⟨cs0, T0, fz0, f1, f2, f3, f4⟩ := B.cells
  rw [e1] at f1; cases f1
  refine { k := B.k, kpos := B.kpos, cap := B.cap, shut := B.shut, top := fun j row hj => by
              have hj : get (pathOf j) t' = some row := hj
              rw [hcp j] at hj
              split at hj
              · simp only; omega
              · exact B.top _ _ hj
            , ty := B.ty.imp id fun ⟨cs2, T2, fz2, x1, x2⟩ => ⟨_, T, (0, 0), wr_same hlt, by rw [e1] at x1; cases x1; exact x2.1, x2.2.1, fun hg => by rw [e1] at x1; cases x1; rw [e3]; exact x2.2.2 hg⟩
            , cells := ⟨cs', T, (0, 0), wr_same hlt, fun _ => rfl, by rw [e3]; exact f3, fun j row hj => ?_⟩ }
  have hj : get (pathOf j) t' = some row := hj
  rw [hcp j] at hj
  split at hj
  · rename_i hjm
    obtain ⟨g1, g2, g3⟩ := hn.2 (j - i) (by omega) row hj
    refine ⟨g1, g2, fun p a ha => ?_⟩
    obtain ⟨x, hx, hv⟩ := g3 p a ha
    have hp : p < b.k := by rcases Nat.lt_or_ge p row.length with h | h; omega; rw [List.getElem?_eq_none h] at ha; cases ha
    refine ⟨x, ?_, hv⟩
    have := e6 (j - i) p hp (by omega)
    rw [show i + (j - i) = j by omega] at this
    rw [this]; exact hx
  · rename_i hjm
    obtain ⟨g1, g2, g3⟩ := f4 j row hj
    refine ⟨g1, g2, fun p a ha => ?_⟩
    obtain ⟨x, hx, hv⟩ := g3 p a ha
    have hp : p < b.k := by rcases Nat.lt_or_ge p row.length with h | h; omega; rw [List.getElem?_eq_none h] at ha; cases ha
    exact ⟨x, by rw [e5 j p hp (by omega)]; exact hx, hv⟩
/-- slices.Delete (rows of k cells; z: the zero value's cells). -/
noncomputable def delG (k : Nat) (z : List AV) : List AV → H → CR := fun xs h => match xs with
  | [.sl p kk i n, .int .i64 (.ofNat a), .int .i64 (.ofNat b)] => match getC p h.t with
    | some bl => match bl.ro, Nat.beq bl.k k, Nat.beq kk k, Nat.ble a b, Nat.ble b n, Nat.ble (i + n) bl.n, Nat.ble n most with
      | false, true, true, true, true, true, true => match Nat.beq a b with
        | true => .ret (.sl p kk i n) h
        | false => match copyRows bl.rows (n - b) (i + b) (i + a) bl.rows with
          | some t1 => match copyRows (repRows z (n - (a + (n - b))) 0 .nil) (n - (a + (n - b))) 0 (i + (a + (n - b))) t1 with
            | some t2 => .ret (.sl p kk i (a + (n - b))) (h.put p (some { bl with rows := t2 }))
            | none => .bad 0
          | none => .bad 0
      | _, _, _, _, _, _, _ => .bad 0
    | none => .bad 0
  | _ => .bad 0
theorem repRows_get (z : List AV) : ∀ (n i : Nat) (t : Tr (List AV)) (j : Nat), get (pathOf j) (repRows z n i t) = if i ≤ j ∧ j < i + n then some z else get (pathOf j) t
  | 0, i, t, j => by rw [if_neg (by omega)]; rfl
  | n + 1, i, t, j => by
    show get (pathOf j) (repRows z n (i + 1) (set (pathOf i) (some z) t)) = _
    rw [repRows_get z n (i + 1)]
    by_cases h : i + 1 ≤ j ∧ j < i + 1 + n
    · rw [if_pos h, if_pos (by omega)]
    · rw [if_neg h, get_set]
      by_cases e : i = j
      · subst e; rw [if_pos rfl, if_pos (by omega)]
      · rw [if_neg (fun h' => e (pathOf_inj h').symm), if_neg (by omega)]
theorem zeros_R {s : Asg} {k : Nat} {z : Value} {zl : List AV} (hzl : VRs s.s zl z.cells.toList) (hz : zl.all sc = true) (hl : zl.length = k) (hc : z.cells.size = k) (m : Nat) :
    RowsR s.s k (repRows zl m 0 .nil) 0 m (Builtin.zeroCells z.cells m).toList := by
  refine ⟨by rw [zeroCells_len, hc], fun j hj row hr => ?_⟩
  rw [repRows_get, if_pos (by omega)] at hr
  cases hr
  refine ⟨hl, hz, fun q a ha => ?_⟩
  obtain ⟨x, hx, hv⟩ := hzl.get ha
  have hq : q < k := by rcases Nat.lt_or_ge q zl.length with h | h; omega; rw [List.getElem?_eq_none h] at ha; cases ha
  have hjk : (j + 1) * k ≤ m * k := Nat.mul_le_mul_right _ hj
  rw [Nat.succ_mul] at hjk
  refine ⟨x, ?_, hv⟩
  unfold Builtin.zeroCells
  simp only [hc, Array.getElem?_toList, Array.getElem?_map]
  rw [Array.getElem?_range, if_pos (by omega)]
  simp only [Option.map_some]
  have : (j * k + q) % k = q := by rw [Nat.add_comm, Nat.add_mul_mod_self_right, Nat.mod_eq_of_lt hq]
  rw [this]
  rw [getElem!_pos z.cells q (by omega)]
  rw [Array.getElem?_toList] at hx
  rw [Array.getElem?_eq_getElem (by omega)] at hx
  exact hx
theorem del_entry {Γ : Glob} {k : Nat} {z : Value} {zl : List AV} (L : DelL P ρ k z) (body : Callable P (ρ.f 45)) (hzl : ∀ s : Path → Option Ref, VRs s zl z.cells.toList) (hz : zl.all sc = true) (hl : zl.length = k) :
    Entry Γ P (ρ.f 45) (delG k zl) := ⟨body, fun {xs h r} e hb {A w args} hh hg ha => by
  unfold delG at e
  split at e
  · rename_i p kk i n a b
    split at e
    · rename_i bl hbl
      split at e
      · rename_i hro hk hkk hab hbn hin hn
        obtain ⟨y, ys, e1, h1, y2, ys2, e2, h2, y3, ys3, e3, h3, h4⟩ := ha
        obtain ⟨q, hq, hqk, hqc, rfl⟩ := h1
        have h2 : y2 = .int .i64 (.ofNat a) := h2
        have h3 : y3 = .int .i64 (.ofNat b) := h3
        have h4 : ys3 = [] := by simpa [VRs] using h4
        subst h2 h3 h4 e3 e2
        obtain rfl : args = #[.slice (some ⟨q.blk, q.off + i * q.k, none⟩) n (q.cap - i), .int .i64 (.ofNat a), .int .i64 (.ofNat b)] := by cases args; simp_all
        obtain ⟨hget, hmap⟩ := getC_eq hbl
        have B := (hh.blk p bl q hget hq).blk hmap
        have hk := Nat.eq_of_beq_eq_true hk
        have hkk := Nat.eq_of_beq_eq_true hkk
        have hab := Nat.le_of_ble_eq_true hab
        have hbn := Nat.le_of_ble_eq_true hbn
        have hin := Nat.le_of_ble_eq_true hin
        have hn := Nat.le_of_ble_eq_true hn
        have hmost : most = 16777216 := rfl
        have hqk' : q.k = k := by rw [B.k, hk]
        have hBc := B.cap
        split at e
        · rename_i heq
          have heq := Nat.eq_of_beq_eq_true heq
          subst heq
          subst e
          refine told_pure hh (show VR A.s (.sl p kk i n) _ from ⟨q, hq, hqk, hqc, rfl⟩) ((del_none L q.blk (q.off + i * q.k) (q.cap - i) a n w (by omega) (by omega) hbn).mono fun e w' ⟨he, hw⟩ => ⟨he, by subst hw; exact Below.refl _ _⟩)
        · rename_i hne
          rw [natBeq] at hne
          have hne := of_decide_eq_false hne
          split at e
          · rename_i t1 ht1
            split at e
            · rename_i t2 ht2
              subst e
              obtain ⟨mid, g1, g2⟩ := B.seg (i := i + b) (m := n - b) (by omega)
              obtain ⟨cs, T, c1, c2, c3, c4⟩ := wrote (s := A) B hro g2 ht1 (by omega)
              have hzr := zeros_R (s := A) (hzl A.s) hz hl L.zc (n - (a + (n - b)))
              rw [← hk] at hzr
              obtain ⟨cs1, T1, d1, d2, d3, d4⟩ := wrote (s := A) c4 hro hzr ht2 (by show i + (a + (n - b)) + (n - (a + (n - b))) ≤ bl.n; omega)
              have hlt : q.blk < w.heap.size := (Array.getElem?_eq_some_iff.1 c1).1
              rw [wr_same hlt] at d1
              cases d1
              have hcsz : (cs.toList.take (q.off + (i + a) * q.k) ++ mid ++ cs.toList.drop (q.off + (i + a) * q.k + mid.length)).toArray.size = cs.size := by
                simp only [List.size_toArray, List.length_append, List.length_take, List.length_drop, Array.length_toList]; omega
              have hsz : q.off + i * q.k + n * k ≤ cs.size := by
                obtain ⟨cs0, T0, fz0, f1, f2, f3, f4⟩ := B.cells
                rw [c1] at f1; cases f1
                have : (i + n) * q.k ≤ q.cap * q.k := Nat.mul_le_mul_right _ (by omega)
                rw [Nat.add_mul] at this
                rw [hqk'] at this f3 ⊢
                omega
              have hmid : (cs.toList.drop (q.off + i * q.k + b * k)).take ((n - b) * k) = mid := by
                have hml := g2.1
                rw [hk] at hml
                have hmul : b * k + (n - b) * k = n * k := by rw [← Nat.add_mul]; congr 1; omega
                apply List.ext_getElem?
                intro t
                rw [List.getElem?_take]
                split
                · rename_i ht
                  have hmt : mid[t]? = some mid[t] := List.getElem?_eq_getElem (by omega)
                  have := g1 t _ hmt
                  rw [add_none] at this
                  unfold World.cell? at this
                  simp only [c1, Option.isSome_none, Bool.false_eq_true, if_false] at this
                  rw [List.getElem?_drop, hmt, Array.getElem?_toList, ← this]
                  congr 1
                  rw [Nat.add_mul, hqk']; omega
                · rename_i ht
                  rw [List.getElem?_eq_none (by omega)]
              have hcall := del_some L q.blk (q.off + i * q.k) (q.cap - i) a b n w cs T c1 (by omega) (by omega) (by omega) hbn hsz (by rw [hmid]; exact c3)
              refine hcall.mono fun e w' ⟨he, hw⟩ => ?_
              rw [hmid] at hw
              have c1' : w.drew.heap[q.blk]? = some (.cells cs T (0, 0)) := c1
              have hlt' : q.blk < w.drew.heap.size := hlt
              have ho1 : q.off + i * q.k + a * k = q.off + (i + a) * q.k := by rw [Nat.add_mul, hqk']; omega
              have ho2 : q.off + i * q.k + (a + (n - b)) * k = q.off + (i + (a + (n - b))) * q.k := by rw [Nat.add_mul i, hqk']; omega
              rw [ho1, ho2, setCells_wr (fz := (0, 0)) mid _ w.drew cs c1' (by omega), setCells_wr (fz := (0, 0)) _ _ _ _ (wr_same hlt') (by rw [hcsz]; rw [hcsz] at d2; exact d2), wr_wr] at hw
              subst hw
              have I : Inv ⟨A, h, w⟩ A h w.drew := Inv.below hh (Below.drew (Below.refl _ _))
              rw [wr_wr] at d4
              refine ⟨_, A, he, ⟨q, hq, hqk, by omega, rfl⟩, I.write (b' := { bl with rows := t2 }) hget hq hro hro (.of hmap ?_)⟩
              exact d4.pushed (fun _ _ e => e) (by rw [wr_same hlt', wr_same hlt])
            · subst e; exact absurd rfl (hb 0)
          · subst e; exact absurd rfl (hb 0)
      · subst e; exact absurd rfl (hb 0)
    · subst e; exact absurd rfl (hb 0)
  · subst e; exact absurd rfl (hb 0)⟩
end Go.Ev.Del
