/- Operations that make a block. -/
import Derived.Test.YtlbooinipoaapaaDoorEvOps5
namespace Go.Ev
variable {P : Program} {A : Asg} {n : Nat} {ok : Path → Prop} {fr : FT} {act : Act} {w : World} {h : H}

/-- The world with an object more, when so much has been drawn. -/
def more (w : World) (o : Obj) (k : Nat) : World := { w with heap := w.heap.push o, drawn := k }
theorem more_heap (w : World) (o : Obj) (k : Nat) : (more w o k).heap[w.heap.size]? = some o := by
  show (w.heap.push o)[w.heap.size]? = some o
  rw [Array.getElem?_push, if_pos rfl]
/-- An operation makes a block and tells it. -/
def Makes (P : Program) (A : Asg) (act : Act) (w : World) (o : Oper) (p : Path) (b : Blk) (m : Option Nat) : Prop :=
  ∃ v ob k r, (execOp act.eval o).run P w = .ok (.value v) (more w ob k) ∧ r.blk = w.heap.size ∧ ObR (A.withS p r).s (more w ob k) b r ∧ VR (A.withS p r).s (match m with | some m => .sl p b.k 0 m | none => .ptr p 0) v
theorem withS_same (A : Asg) (p : Path) (r : Ref) : (A.withS p r).s p = some r := by
  show (if p = p then some r else A.s p) = some r
  rw [if_pos rfl]
/-- A block of one row. -/
theorem oneRow_R {p : Path} (hp : A.s p = none) {c : List AV} {cs : Array Value} (hc : VRs A.s c cs.toList) (hs : c.all sc = true) (h0 : 0 < c.length) (T : TypeId) (k : Nat) :
    BlkR (A.withS p ⟨w.heap.size, 0, c.length, 1⟩).s (more w (.cells cs T (0, 0)) k) (oneRow c) ⟨w.heap.size, 0, c.length, 1⟩ where
  k := rfl
  kpos := h0
  cap := Nat.le_refl _
  shut := fun _ => rfl
  top := fun j row hj => by
    have hj : get (pathOf j) (set [] (some c) .nil) = some row := hj
    rw [get_set] at hj
    split at hj
    · rename_i e
      have : j = 0 := pathOf_inj (by rw [e, pathOf_zero])
      subst this
      exact Nat.one_pos
    · rw [get_nil] at hj; cases hj
  cells := by
    have hl := hc.length
    refine ⟨cs, T, (0, 0), more_heap _ _ _, fun _ => rfl, by simp at hl; simp; omega, fun j row hj => ?_⟩
    have hj : get (pathOf j) (set [] (some c) .nil) = some row := hj
    rw [get_set] at hj
    split at hj
    · rename_i e
      cases hj
      have : j = 0 := pathOf_inj (by rw [e, pathOf_zero])
      subst this
      refine ⟨rfl, hs, fun i a ha => ?_⟩
      obtain ⟨x, hx, hv⟩ := (VRs.mono (withS_mono hp) _ _ hc).get ha
      exact ⟨x, by simpa using hx, hv⟩
    · rw [get_nil] at hj; cases hj
theorem box_makes {o : Oper} {p : Path} (hp : A.s p = none) {c : List AV} {v : Value} (hc : VRs A.s c v.cells.toList) (hs : c.all sc = true) (h0 : 0 < c.length) {T : TypeId}
    (hrun : (execOp act.eval o).run P w = .ok (.value (.pointer (some ⟨w.heap.size, 0, none⟩))) { w with heap := w.heap.push (.cells v.cells T) }) : Makes P A act w o p (oneRow c) none := by
  refine ⟨_, .cells v.cells T (0, 0), w.drawn, ⟨w.heap.size, 0, c.length, 1⟩, hrun, rfl, .of rfl (oneRow_R hp hc hs h0 T _), ?_⟩
  exact ⟨_, withS_same _ _ _, rfl⟩
/-- A block of rows as they lie in a list of cells. -/
theorem rows_R {p : Path} (hp : A.s p = none) {k m : Nat} {l : List AV} {cs : Array Value} (hc : VRs A.s l cs.toList) (hs : l.all sc = true) (h0 : 0 < k) (hl : l.length = m * k) {rows : Tr (List AV)}
    (hrows : ∀ j row, get (pathOf j) rows = some row → j < m ∧ row = (l.drop (j * k)).take k) (T : TypeId) (d : Nat) :
    BlkR (A.withS p ⟨w.heap.size, 0, k, m⟩).s (more w (.cells cs T (0, 0)) d) ⟨k, m, rows, false, false, false⟩ ⟨w.heap.size, 0, k, m⟩ where
  k := rfl
  kpos := h0
  cap := Nat.le_refl _
  shut := fun _ => rfl
  top := fun j row hj => (hrows j row hj).1
  cells := by
    have hcl := hc.length
    refine ⟨cs, T, (0, 0), more_heap _ _ _, fun _ => rfl, by simp at hcl; simp; omega, fun j row hj => ?_⟩
    obtain ⟨h1, rfl⟩ := hrows j row hj
    have h2 : j * k + k ≤ m * k := by rw [← Nat.succ_mul]; exact Nat.mul_le_mul_right _ h1
    refine ⟨by simp; omega, all_take (all_drop hs _) k, fun i a ha => ?_⟩
    rw [List.getElem?_take] at ha
    split at ha
    · rw [List.getElem?_drop] at ha
      obtain ⟨x, hx, hv⟩ := (VRs.mono (withS_mono hp) _ _ hc).get ha
      exact ⟨x, by simpa using hx, hv⟩
    · cases ha

theorem elT_eq {e : TypeId} {k : Nat} {z : List AV} (he : elT P e = some (k, z)) : ∃ i v, P.info? e = some i ∧ i.zero = some v ∧ i.size = k ∧ 0 < k ∧ z.length = k ∧ v.cells.size = k ∧ i.bytes ≤ 8388608 ∧ (∀ s : Path → Option Ref, VRs s z v.cells.toList) ∧ z.all sc = true := by
  unfold elT at he
  split at he
  · rename_i k' z' hk hz hs
    split at he
    · rename_i h0 hl
      cases he
      obtain ⟨i, v, hi, hv, hzr⟩ := ofCells_zero hz
      obtain ⟨i', hi', hsz⟩ := sizeT_info hk
      rw [hi] at hi'; cases hi'
      rw [natBlt] at h0
      have hl := Nat.eq_of_beq_eq_true hl
      have hvl := (hzr (fun _ => none)).1.length
      refine ⟨i, v, hi, hv, hsz, of_decide_eq_true h0, hl, by simp at hvl; omega, ?_, fun s => (hzr s).1, (hzr (fun _ => none)).2⟩
      unfold smallT at hs
      rw [hi] at hs
      exact Nat.le_of_ble_eq_true hs
    · cases he
  · cases he
theorem sizeT_of {e : TypeId} {i : TypeInfo} (hi : P.info? e = some i) : sizeT P e = some i.size := by simp [sizeT, hi]

theorem modify_push {α : Type} (xs : Array α) (o : α) (f : α → α) : (xs.push o).modify xs.size f = xs.push (f o) := by
  apply Array.ext
  · simp
  · intro i h1 h2
    rw [Array.getElem_modify, Array.getElem_push, Array.getElem_push]
    by_cases h : i < xs.size
    · rw [if_neg (by omega), dif_pos h, dif_pos h]
    · rw [if_pos (by simp at h2; omega), dif_neg h, dif_neg h]
/-- A text's bytes in a block of their own. -/
theorem run_bytesOf (e : TypeId) (s : ByteArray) : ∃ cap, s.size ≤ cap ∧ (Conv.stringToBytes e s).run P w =
    .ok (.slice (some ⟨w.heap.size, 0, none⟩) s.size cap) (more w (.cells (s.data.map (fun b => Value.int .u8 b.toNat) ++ Array.replicate (cap - s.size) (.int .u8 0)) e (cap, cap + 1)) (w.drawn + 1)) := by
  refine ⟨(Question.appendCap s.size 0 e).cut (w.tape w.drawn (.appendCap s.size 0 e)), by simp [Question.cut], ?_⟩
  generalize hcap : (Question.appendCap s.size 0 e).cut (w.tape w.drawn (.appendCap s.size 0 e)) = cap
  have hge : s.size ≤ cap := by rw [← hcap]; simp [Question.cut]
  have hsz : (s.data.map (fun b => Value.int .u8 (b.toNat : Int)) ++ Array.replicate (cap - s.size) (Value.int .u8 0)).size = cap := by
    simp only [Array.size_append, Array.size_map, Array.size_replicate]
    have : s.data.size = s.size := rfl
    omega
  unfold Conv.stringToBytes
  simp only [Sem.run_bind, run_choose, Question.forced, Bool.false_eq_true, if_false, Result.andThen_ok, hcap, newRow, run_newObj, Sem.run_pure, markStringish, run_shape]
  have hshape : World.shape? { heap := w.heap.push (Obj.cells (s.data.map (fun b => Value.int .u8 (b.toNat : Int)) ++ Array.replicate (cap - s.size) (Value.int .u8 0)) e (0, 0)), tape := w.tape, drawn := w.drawn + 1, os := w.os, output := w.output } w.heap.size = some (e, cap) := by
    simp only [World.shape?, Array.getElem?_push, if_true, hsz]
  simp only [hshape, run_freeze, Result.andThen_ok, World.freeze, more]
  rw [if_neg (by omega)]
  congr 2
  rw [modify_push]
  simp

theorem new_sound {loc : List Tmp} {o : Oper} {why : Nat} {f : FT → Option (Blk × Option Nat)} (hc : comp P loc o = some (.new why f)) (F : FrR A n ok fr act.tmps w) (hok : ∀ x ∈ o.op.operands, OkO ok x)
    {p : Path} (hp : A.s p = none) {b : Blk} {m : Option Nat} (hv : f fr = some (b, m)) : Makes P A act w o p b m := by
  obtain ⟨dst, op, type, pos, after, guard⟩ := o
  unfold comp at hc
  cases op <;> simp only at hc
  all_goals try (cases hc; done)
  case alloc t =>
    split at hc
    · rename_i z m' d hz hm
      split at hc
      · rename_i hl h0
        have hl := Nat.eq_of_beq_eq_true hl
        rw [natBlt] at h0
        have h0 := of_decide_eq_true h0
        split at hc
        · cases hc
        · cases hc
          unfold nBox at hv
          cases hv
          obtain ⟨i, v, hi, hzv, hzr⟩ := ofCells_zero hz
          obtain ⟨h1, h2⟩ := hzr A.s
          refine box_makes hp h1 h2 (by omega) (T := t) ?_
          simp [execOp, Instr.alloc, run_zero hi hzv, newVar, newRow]
      · cases hc
    · cases hc
  case box t x =>
    split at hc
    · rename_i m' d hm
      split at hc
      · rename_i h0
        rw [natBlt] at h0
        have h0 := of_decide_eq_true h0
        split at hc
        · cases hc
        · cases hc
          unfold nBoxV at hv
          split at hv
          · rename_i a ha
            split at hv
            · rename_i c hca
              split at hv
              · rename_i hl
                have hl := Nat.eq_of_beq_eq_true hl
                cases hv
                obtain ⟨h1, h2⟩ := (gv_VR F (hok x (by simp [Op.operands])) ha).cells hca
                refine box_makes hp h1 h2 (by omega) (T := t) ?_
                simp [execOp, Instr.box, newVar, newRow]
              · cases hv
            · cases hv
          · cases hv
      · cases hc
    · cases hc
  case build t ps =>
    split at hc
    · split at hc
      · split at hc <;> cases hc
      · cases hc
    · cases hc
  case buildSlice t m' ps =>
    split at hc
    · rename_i e he
      split at hc
      · rename_i k z hel
        split at hc
        · rename_i hbig
          have hbig := Nat.le_of_ble_eq_true hbig
          cases hc
          have ht := elemT_eq he
          obtain ⟨i, v, hi, hzv, hsz, h0, hzl, hvs, _, hzr, hzs⟩ := elT_eq hel
          unfold nSlice at hv
          split at hv
          · rename_i l hl
            cases hv
            have hop : ∀ x ∈ ps.toList.map (·.2), OkO ok x := fun x hx => hok x (by
              simp only [Op.operands]
              exact List.mem_toArray.2 hx)
            have hz0 := VRs.rep (hzr A.s) hzl h0 m'
            obtain ⟨cs', e1, e2, e3⟩ := fill_R F (fun i => some (i * k, k)) ps.toList (ps.toList.map fun (i, x) => (i * k, k, rd x)) ⟨by simp, fun i p q hp hq' => by
                simp [hp] at hq'; subst hq'; exact ⟨rfl, rfl⟩⟩ hop _ l (madeCells v.cells (m' * k)) hl hz0 (by
                rw [List.all_eq_true]
                intro a ha
                obtain ⟨y, hy, hay⟩ := List.mem_flatten.1 ha
                rw [List.mem_replicate] at hy
                rw [List.all_eq_true] at hzs
                exact hzs a (hy.2 ▸ hay))
            have hll : l.length = m' * k := by
              have h1 : cs'.size = (madeCells v.cells (m' * k)).size := by
                have : ∀ (place : Nat → Option (Nat × Nat)) (parts : List (Nat × Value)) (cs cs' : Array Value), Instr.fill place cs parts = some cs' → cs'.size = cs.size := by
                  intro place parts
                  induction parts with
                  | nil => intro cs cs' h; simp [Instr.fill] at h; rw [h]
                  | cons q parts ih =>
                    intro cs cs' h
                    obtain ⟨i, v⟩ := q
                    simp only [Instr.fill] at h
                    split at h
                    · cases h
                    · rename_i off size ho
                      split at h
                      · cases h
                      · rename_i hcond
                        rw [ih _ _ h]
                        simp only [gt_iff_lt, Bool.or_eq_true, decide_eq_true_eq, not_or] at hcond
                        rw [← Array.foldl_toList, Array.toList_zipIdx]
                        have := congrArg List.length (foldl_put off v.cells.toList 0 cs (by simp; omega))
                        simp at this
                        rw [this]
                        omega
                exact this _ _ _ _ e1
              have h2 := e2.length
              rw [size_madeCells] at h1
              simp at h2
              omega
            have hrun : (execOp act.eval ⟨dst, .buildSlice t m' ps, type, pos, after, guard⟩).run P w = .ok (.value (.slice (some ⟨w.heap.size, 0, none⟩) m' m')) (more w (.cells cs' e (0, 0)) w.drawn) := by
              have e1' : Instr.fill (fun i => some (i * k, k)) (madeCells v.cells (m' * k)) (ps.map fun (i, x) => (i, act.eval x)).toList = some cs' := by simpa using e1
              have hk : sizeT P e = some k := by rw [sizeT_of hi, hsz]
              simp only [execOp, Instr.buildSlice, Sem.run_bind, run_underlying ht, Result.andThen_ok, run_size hk]
              rw [if_neg (by omega)]
              by_cases hz : m' * k = 0
              · have hmz : madeCells v.cells (m' * k) = (Array.range (m' * k)).map ((#[] : Array Value)[· % (#[] : Array Value).size]!) := by
                  rw [hz]; simp [madeCells]
                rw [hmz] at e1'
                simp only [if_pos hz, Sem.run_pure, Result.andThen_ok, e1', newRow, Sem.run_bind, run_newObj]
                rfl
              · have hmz : madeCells v.cells (m' * k) = (Array.range (m' * k)).map (v.cells[· % v.cells.size]!) := rfl
                rw [hmz] at e1'
                simp only [if_neg hz, Sem.run_pure, Sem.run_bind, run_zero hi hzv, Result.andThen_ok, e1', newRow, run_newObj]
                rfl
            refine ⟨_, _, _, ⟨w.heap.size, 0, k, m'⟩, hrun, rfl, .of rfl (rows_R hp e2 e3 h0 hll (fun j row hj => ?_) e w.drawn), ⟨_, withS_same _ _ _, rfl, by simp, by simp⟩⟩
            rw [get_rowsOf] at hj
            split at hj
            · rename_i hjm
              cases hj
              exact ⟨by omega, by simp⟩
            · rw [get_nil] at hj; cases hj
          · cases hv
        · cases hc
      · cases hc
    · cases hc
  case load t x =>
    split at hc
    · split at hc <;> cases hc
    · cases hc
  case store t x y =>
    split at hc
    · split at hc <;> cases hc
    · cases hc
  case binOp op t x y yt =>
    split at hc <;> cases hc
  case convert s0 t x =>
    split at hc
    · cases hc
    · cases hc
    · split at hc <;> cases hc
    · rename_i e hs ht
      split at hc
      · rename_i he
        cases hc
        unfold nBytes at hv
        split at hv
        · rename_i st ha
          cases hv
          have h1 := gv_VR F (hok x (by simp [Op.operands])) ha
          simp only [VR] at h1
          obtain ⟨cap, hcap, hrun⟩ := run_bytesOf (P := P) (w := w) e st
          have hlen : st.data.toList.length = st.size := Array.length_toList
          refine ⟨_, .cells (st.data.map (fun b => Value.int .u8 b.toNat) ++ Array.replicate (cap - st.size) (.int .u8 0)) e (cap, cap + 1), w.drawn + 1, ⟨w.heap.size, 0, 1, cap⟩, ?_, rfl, ?_, ⟨_, withS_same _ _ _, rfl, by simp only [hlen]; omega, by simp [hlen]; rfl⟩⟩
          · simp only [execOp, h1, convert, Sem.run_bind, run_underlying hs, run_underlying ht, Result.andThen_ok, run_underlying he, hrun, Sem.run_pure]
          · refine { k := rfl, kpos := Nat.one_pos, cap := by simp only [hlen]; exact hcap, shut := fun h => (by cases h), top := fun j row hj => ?_, cells := ⟨_, e, _, more_heap _ _ _, fun h => (by cases h), ?_, fun j row hj => ?_⟩ }
            · rw [get_byteRows] at hj
              split at hj
              · rename_i hjm; simp only; omega
              · rw [get_nil] at hj; cases hj
            · simp only [Array.size_append, Array.size_map, Array.size_replicate]
              have : st.data.size = st.size := rfl
              omega
            · rw [get_byteRows] at hj
              split at hj
              · rename_i hjm
                have hj' : j < st.data.toList.length := by omega
                rw [Nat.sub_zero, List.getElem?_eq_getElem hj'] at hj
                cases hj
                refine ⟨rfl, rfl, fun i a ha => ?_⟩
                cases i with
                | zero =>
                  simp at ha
                  subst ha
                  refine ⟨.int .u8 (st.data.toList[j].toNat : Int), ?_, rfl⟩
                  have hjs : j < st.data.size := by simpa using hj'
                  simp only [Nat.zero_add, Nat.mul_one, Nat.add_zero]
                  rw [Array.getElem?_append_left (by simpa using hjs), Array.getElem?_map, Array.getElem?_eq_getElem hjs]
                  simp
                | succ i => simp at ha
              · rw [get_nil] at hj; cases hj
        · cases hv
      · cases hc
    · cases hc
  case makeInterface t x =>
    split at hc <;> cases hc
  case typeAssert x xt t ok =>
    cases ok <;> simp only at hc
    · cases hc
    · split at hc
      · cases hc
      · split at hc <;> cases hc
      · cases hc
  case lookup t x k comma =>
    split at hc
    · split at hc <;> cases hc
    · cases hc
  case makeMap t r => cases r <;> simp only at hc <;> cases hc
  case insert t m k v =>
    split at hc
    · split at hc <;> cases hc
    · cases hc
  case mapUpdate t m k v =>
    split at hc
    · split at hc <;> cases hc
    · cases hc
  case makeFunc g a c =>
    cases g <;> simp only at hc
    all_goals cases hc
  case makeSlice t l c =>
    split at hc
    · rename_i e he
      split at hc
      · rename_i k z hel
        cases hc
        have ht := elemT_eq he
        obtain ⟨i, v, hi, hzv, hsz, h0, hzl, hvs, hby, hzr, hzs⟩ := elT_eq hel
        unfold nMake at hv
        split at hv
        · rename_i a ha
          split at hv
          · rename_i b' hb
            split at hv
            · rename_i l' c' hl' hc'
              split at hv
              · rename_i h1 h2
                have h1 := Nat.le_of_ble_eq_true h1
                have h2 := Nat.le_of_ble_eq_true h2
                cases hv
                obtain ⟨kl, rfl⟩ := natOf_int hl'
                obtain ⟨kc, rfl⟩ := natOf_int hc'
                have g1 := gv_VR F (hok l (by simp [Op.operands])) ha
                have g2 := gv_VR F (hok c (by simp [Op.operands])) hb
                simp only [VR] at g1 g2
                have hmost : most = 16777216 := rfl
                rw [hmost] at h2
                have hbc : i.bytes * c' ≤ 8388608 * 16777216 := Nat.mul_le_mul hby h2
                have hrun := run_make (P := P) w t e i v ht hi hzv kl kc (Int.ofNat l') (Int.ofNat c') (by simp) (by simpa using h1) (by
                  have : ((i.bytes * c' : Nat) : Int) ≤ 281474976710656 := by omega
                  simpa [Int.natCast_mul] using this) (by simp; omega)
                simp only [Int.ofNat_eq_natCast, Int.toNat_natCast] at hrun
                refine ⟨_, _, w.drawn, ⟨w.heap.size, 0, k, c'⟩, ?_, rfl, rows_R hp (VRs.rep (hzr A.s) hzl h0 c') (by
                  rw [List.all_eq_true]
                  intro a ha
                  obtain ⟨y, hy, hay⟩ := List.mem_flatten.1 ha
                  rw [List.mem_replicate] at hy
                  rw [List.all_eq_true] at hzs
                  exact hzs a (hy.2 ▸ hay)) h0 (flatten_len z k hzl c') (fun j row hj => ?_) e w.drawn, ⟨_, withS_same _ _ _, rfl, by simpa using h1, by simp; rfl⟩⟩
                · simp only [execOp, g1, g2, Sem.run_bind, Int.ofNat_eq_natCast, hrun, Result.andThen_ok, hsz]
                  rfl
                · rw [get_repRows] at hj
                  split at hj
                  · rename_i hjm
                    cases hj
                    refine ⟨by omega, ?_⟩
                    apply List.ext_getElem?
                    intro q
                    rw [List.getElem?_take, List.getElem?_drop, flatten_rep z k hzl]
                    have hjk : j * k + k ≤ c' * k := by rw [← Nat.succ_mul]; exact Nat.mul_le_mul_right _ (by omega)
                    by_cases hq : q < k
                    · rw [if_pos hq, if_pos (by omega), Nat.mul_comm j k, Nat.mul_add_mod, Nat.mod_eq_of_lt hq]
                    · rw [if_neg hq, List.getElem?_eq_none (by omega)]
                  · rw [get_nil] at hj; cases hj
              · cases hv
            · cases hv
          · cases hv
        · cases hv
      · cases hc
    · cases hc
  case slice t x lo hi mx =>
    cases mx with
    | some _ => simp only at hc; cases hc
    | none =>
      simp only at hc
      split at hc
      · cases hc
      · split at hc
        · split at hc <;> cases hc
        · cases hc
      · cases hc
  case fieldAddr t x i =>
    split at hc
    · split at hc <;> cases hc
    · cases hc
  case field t x i =>
    split at hc
    · split at hc <;> cases hc
    · cases hc
  case indexAddr t x ix =>
    split at hc
    · split at hc <;> cases hc
    · cases hc
  case index t x ix =>
    split at hc <;> cases hc
  case call c =>
    obtain ⟨callee, args, argTypes⟩ := c
    cases callee <;> simp only at hc
    case value g => cases hc
    case invoke r m => cases hc
    case builtin b =>
      cases b <;> simp only at hc
      all_goals try (cases hc; done)
      case append =>
        split at hc
        · split at hc
          · split at hc <;> cases hc
          · split at hc <;> cases hc
          · cases hc
        · cases hc
      case len =>
        split at hc
        · split at hc <;> cases hc
        · cases hc
      case min =>
        split at hc <;> cases hc
      case max =>
        split at hc <;> cases hc
end Go.Ev
