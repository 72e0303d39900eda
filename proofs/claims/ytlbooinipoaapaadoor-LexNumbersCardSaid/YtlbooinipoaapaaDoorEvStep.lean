/- A step: an operation that writes, calls, panics; any operation. -/
import Derived.Test.YtlbooinipoaapaaDoorEvApp2
import Derived.Test.YtlbooinipoaapaaDoorEvMap2
namespace Go.Ev
variable {P : Program} {E : Ent} {A : Asg} {n : Nat} {ok : Path → Prop} {fr : FT} {act : Act} {w : World} {h : H}

/-- A slot is to hold it. -/
def DstOk (n : Nat) (o : Oper) : Prop := ∀ d, o.dst = some d → d < n
theorem put_tmps (a : Act) (v : Value) : ∀ d : Option Tmp, (a.put d v).tmps = match d with | some d => a.tmps.setIfInBounds d v | none => a.tmps
  | none => rfl
  | some _ => rfl
theorem put_defers (a : Act) (v : Value) : ∀ d : Option Tmp, (a.put d v).defers = a.defers
  | none => rfl
  | some _ => rfl
/-- A slot is filled with what was told. -/
theorem Sta.put (S : Sta E A n ok fr h act.tmps w) {o : Oper} (hd : DstOk n o) {s : Sl} {v : Value} (hs : SlR A w s v) (hb : ∀ g l, s ≠ .box g l) : Sta E A n ok (pt (dst? o) (some s) fr) h (act.put o.dst v).tmps w := by
  rw [put_tmps]
  unfold dst?
  cases hdst : o.dst with
  | none => exact S
  | some d =>
    refine ⟨S.inv, S.frr.put (hd d hdst) hs hb, fun p g l hp => ?_⟩
    have hp : get p (set (pathOf d) (some s) fr) = some (.box g l) := hp
    rw [get_set] at hp
    split at hp
    · cases hp; exact absurd rfl (hb g l)
    · exact S.bge p g l hp
/-- A slot, whatever lies in the block that it holds. -/
def sh : Option Sl → Option Sl
  | some (.box g _) => some (.box g [])
  | s => s
/-- Slots but one are as they were. -/
def FKept (fr fr' : FT) (d : Option Path) : Prop := ∀ p, d ≠ some p → sh (get p fr') = sh (get p fr)
theorem FKept.pt (fr : FT) (d : Option Path) (s : Option Sl) : FKept fr (Go.Ev.pt d s fr) d := fun p hp => by
  cases d with
  | none => rfl
  | some d => exact congrArg sh (get_set_other _ _ _ _ (fun e => hp (by rw [e])))
theorem FKept.refl (fr : FT) (d : Option Path) : FKept fr fr d := fun _ _ => rfl
/-- What an operation that is done leaves behind. -/
def Done (P : Program) (E : Ent) (A : Asg) (n : Nat) (ok : Path → Prop) (act : Act) (w : World) (o : Oper) (fr : FT) (h : H) (fr' : FT) (h' : H) : Prop :=
  ∃ A' w' v, ((execOp act.eval o).run P w = .ok (.value v) w' ∨ ((execOp act.eval o).run P w = .ok .skip w' ∧ v = undef)) ∧ Sta E A' n ok fr' h' (act.put o.dst v).tmps w' ∧ HKept A h A' h' ∧ FKept fr fr' (dst? o)
theorem Does.done {o : Oper} {s : Sl} (D : Does P A act w o s) (S : Sta E A n ok fr h act.tmps w) (hd : DstOk n o) : Done P E A n ok act w o fr h (pt (dst? o) (some s) fr) h := by
  obtain ⟨v, h1, h2, h3⟩ := D
  exact ⟨A, w, v, .inl h1, S.put hd h2 h3, .refl A h, .pt _ _ _⟩
theorem Makes.done {o : Oper} {b : Blk} {m : Option Nat} (M : Makes P A act w o h.next b m) (S : Sta E A n ok fr h act.tmps w) (hd : DstOk n o) : Done P E A n ok act w o fr h (pt (dst? o) (some (newS h.next b.k m)) fr) (h.new b) := by
  obtain ⟨v, ob, k, r, h1, h2, h3, h4⟩ := M
  refine ⟨A.withS h.next r, more w ob k, v, .inl h1, (S.alloc h2 h3).put hd ?_ ?_, .new A h _ _, .pt _ _ _⟩
  · cases m with
    | none => exact h4
    | some m => exact h4
  · intro g l
    cases m <;> simp [newS]
/-- A block of the call's own. -/
theorem Sta.box (S : Sta E A n ok fr h act.tmps w) {d : Nat} (hd : d < n) (hk : ok (pathOf d)) {l : List AV} {cs : Array Value} {T : TypeId} (hl : VRs A.s l cs.toList) (hs : l.all sc = true) :
    Sta E (A.withB h.gen w.heap.size) n ok (set (pathOf d) (some (.box h.gen l)) fr) ⟨h.next, h.t, h.gen + 1⟩ (act.put (some d) (.pointer (some ⟨w.heap.size, 0, none⟩))).tmps { w with heap := w.heap.push (.cells cs T (0, 0)) } where
  inv := S.inv.allocB _
  frr := S.frr.putB S.inv.hr hd hk hl hs
  bge := fun p g l' hp => by
    rw [get_set] at hp
    split at hp
    · cases hp; exact S.inv.gen
    · exact S.bge p g l' hp

theorem tail_nil {x : Value} {size : Nat} (hx : x = .slice none 0 0 ∨ ∃ a c, x = .slice (some a) 0 c) : Tail P w size 0 x [] := by
  rcases hx with rfl | ⟨a, c, rfl⟩
  · exact ⟨fun w' => by simp [Builtin.lenOf], fun w' _ => by simp [Builtin.firstCells], by simp⟩
  · exact ⟨fun w' => by simp [Builtin.lenOf], fun w' _ => by simp [Builtin.firstCells, loadCells, loadCellsFrom], by simp⟩
theorem apOut_next {d : Option Path} {fr fr' : FT} {h' : H} {r : Option (AV × H)} (e : apOut d fr r = .next fr' h') : ∃ a c, r = some (a, h') ∧ lenOf a = some c ∧ c ≤ 16777216 ∧ fr' = pt d (some (.v a)) fr := by
  unfold apOut at e
  split at e
  · split at e
    · split at e
      · rename_i hm; cases e; exact ⟨_, _, rfl, by assumption, Nat.le_of_ble_eq_true hm, rfl⟩
      · cases e
    · cases e
  · cases e
theorem append_done (S : Sta E A n ok fr h act.tmps w) {o : Oper} (hd : DstOk n o) {t u e : TypeId} {s x : Operand} (ho : o.op = .call ⟨.builtin .append, #[s, x], #[t, u]⟩)
    (ht : P.underlying t = some (.slice e)) (hu : (∃ e', P.underlying u = some (.slice e')) ∨ P.underlying u = some .string) {k : Nat} {z : List AV} (hel : elT P e = some (k, z))
    {sa a : AV} (hs : VR A.s sa (act.eval s)) {m : Nat} {src : Tr (List AV)} {i0 : Nat} {h' : H} (hr : appendRows h k sa m src i0 = some (a, h')) {c : Nat} (hlen : lenOf a = some c) (hc : c ≤ 16777216)
    {news : List Value} (hx : Tail P w k m (act.eval x) news) (hn : RowsR A.s k src i0 m news) : Done P E A n ok act w o fr h (pt (dst? o) (some (.v a)) fr) h' := by
  obtain ⟨i, v, hi, hzv, hsz, h0, hzl, hvs, hby, hzr, hzs⟩ := elT_eq hel
  obtain ⟨v', w', A', h1, h2, h3, h4⟩ := appendRows_R (ty := o.type) S ht hu hi hzv hsz h0 hvs hby hr hlen hc hs hx hn
  refine ⟨A', w', v', .inl ?_, h3.put hd (s := .v a) h2 (fun _ _ => by simp), h4, .pt _ _ _⟩
  simp only [execOp, ho, resolve, invoke, builtin, Sem.run_bind, Sem.run_pure, Result.andThen_ok, List.map_toArray, List.map_cons, List.map_nil, h1]

theorem store_R' (S : Sta E A n ok fr h act.tmps w) {x : Value} {p : Place} (hp : PlR A x p) {c : List AV} {vs : List Value} (hv : VRs A.s c vs) (hs : c.all sc = true) {fr' : FT} {h' : H} (hst : storeAt fr h p c = some (fr', h')) :
    ∃ ad w', x = .pointer (some ad) ∧ (storeCells ad vs).run P w = .ok () w' ∧ Sta E A n ok fr' h' act.tmps w' ∧ HKept A h A h' ∧ ∀ p, sh (get p fr') = sh (get p fr) := by
  obtain ⟨ad, w', h1, h2, h3⟩ := store_R (P := P) S hp hv hs hst
  refine ⟨ad, w', h1, h2, h3, ?_⟩
  cases p with
  | loc d g o =>
    simp only [storeAt] at hst
    split at hst
    · rename_i g' l hd
      split at hst
      · split at hst
        · cases hst
          refine ⟨.refl A h, fun p => ?_⟩
          rw [get_set]
          split
          · rename_i e; rw [e, hd]; rfl
          · rfl
        · cases hst
      · cases hst
    · cases hst
  | mem b o =>
    simp only [storeAt] at hst
    split at hst
    · split at hst
      · cases hst
      · split at hst
        · split at hst
          · cases hst
            obtain ⟨r, h4, _⟩ := hp
            exact ⟨.put A h h4 _, fun _ => rfl⟩
          · cases hst
        · cases hst
    · cases hst
theorem eff_next {loc : List Tmp} {o : Oper} {run : FT → H → OpOut} (hc : comp P loc o = some (.eff run)) (S : Sta E A n ok fr h act.tmps w) (hok : ∀ x ∈ o.op.operands, OkO ok x) (hd : DstOk n o)
    (hk : ∀ d, o.dst = some d → ok (pathOf d)) {fr' : FT} {h' : H} (hv : run fr h = .next fr' h') : Done P E A n ok act w o fr h fr' h' := by
  obtain ⟨dst, op, type, pos, after, guard⟩ := o
  unfold comp at hc
  cases op <;> simp only at hc
  all_goals try (cases hc; done)
  case alloc t =>
    split at hc
    · rename_i z m' d hz hm
      split at hc
      · split at hc
        · cases hc
          unfold bLoc at hv
          cases hv
          obtain ⟨i, v, hi, hzv, hzr⟩ := ofCells_zero hz
          obtain ⟨h1, h2⟩ := hzr A.s
          refine ⟨_, _, .pointer (some ⟨w.heap.size, 0, none⟩), .inl ?_, S.box (T := t) (hd d rfl) (hk d rfl) h1 h2, ⟨Nat.le_refl _, fun _ _ e => ⟨e, rfl⟩⟩, .pt _ (some (pathOf d)) _⟩
          simp [execOp, Instr.alloc, run_zero hi hzv, newVar, newRow]
        · cases hc
      · cases hc
    · cases hc
  case box t x =>
    split at hc
    · rename_i m' d hm
      split at hc
      · split at hc
        · cases hc
          unfold bLocV at hv
          split at hv
          · rename_i a ha
            split at hv
            · rename_i c hca
              split at hv
              · unfold bLoc at hv
                cases hv
                obtain ⟨h1, h2⟩ := (gv_VR S.frr (hok x (by simp [Op.operands])) ha).cells hca
                refine ⟨_, _, .pointer (some ⟨w.heap.size, 0, none⟩), .inl ?_, S.box (T := t) (hd d rfl) (hk d rfl) h1 h2, ⟨Nat.le_refl _, fun _ _ e => ⟨e, rfl⟩⟩, .pt _ (some (pathOf d)) _⟩
                simp [execOp, Instr.box, newVar, newRow]
              · cases hv
            · cases hv
          · cases hv
        · cases hc
      · cases hc
    · cases hc
  case build t ps =>
    split at hc
    · split at hc
      · split at hc <;> cases hc
      · cases hc
    · cases hc
  case buildSlice t m ps =>
    split at hc
    · split at hc
      · split at hc <;> cases hc
      · cases hc
    · cases hc
  case load t x =>
    split at hc
    · split at hc <;> cases hc
    · cases hc
  case store t x y =>
    split at hc
    · rename_i m hm
      split at hc
      · cases hc
        unfold hStore at hv
        split at hv
        · rename_i p hp
          split at hv
          · rename_i a ha
            split at hv
            · rename_i c hca
              split at hv
              · rename_i hl
                have hl := Nat.eq_of_beq_eq_true hl
                split at hv
                · rename_i hst
                  cases hv
                  obtain ⟨h1, h2⟩ := (gv_VR S.frr (hok y (by simp [Op.operands])) ha).cells hca
                  obtain ⟨ad, w', g1, g2, g3, g4, g5⟩ := store_R' (P := P) S (place_R S.frr (hok x (by simp [Op.operands])) hp) h1 h2 hst
                  refine ⟨A, w', undef, .inr ⟨?_, rfl⟩, g3, g4, fun p hp => g5 p⟩
                  have hlen := h1.length
                  simp only [execOp, Instr.storeAt, g1, Instr.sureAddr, storeVar, Sem.run_bind, Sem.run_pure, Result.andThen_ok, run_size hm]
                  rw [if_neg (by simp at hlen; omega)]
                  simp only [Result.andThen_ok, g2]
                · cases hv
              · cases hv
            · cases hv
          · cases hv
        · cases hv
      · cases hc
    · cases hc
  case binOp op t x y yt =>
    split at hc <;> cases hc
  case convert s0 t x =>
    split at hc
    · cases hc
    · cases hc
    · split at hc <;> cases hc
    · split at hc <;> cases hc
    · cases hc
  case makeInterface t x =>
    split at hc <;> cases hc
  case typeAssert x xt t ok =>
    cases ok <;> simp only at hc
    · cases hc
    · split at hc
      · cases hc
      · split at hc <;> cases hc
      · cases hc
  case lookup t x k comma =>
    split at hc
    · split at hc <;> cases hc
    · cases hc
  case makeMap t r =>
    cases r <;> simp only at hc
    · cases hc
      unfold hMakeMap at hv
      cases hv
      have hB : ObR (A.withS h.next ⟨w.heap.size, 0, 2, 0⟩).s (more w (.map #[] 0) w.drawn) ⟨2, 0, .nil, true, false, true⟩ ⟨w.heap.size, 0, 2, 0⟩ := .ofMap rfl ⟨rfl, #[], 0, more_heap _ _ _, rfl, fun j e he => by simp at he⟩
      refine ⟨A.withS h.next ⟨w.heap.size, 0, 2, 0⟩, more w (.map #[] 0) w.drawn, .map (some w.heap.size), .inl ?_, (S.alloc (d := w.drawn) rfl hB).put hd (s := .v (.mp h.next)) ⟨_, withS_same _ _ _, rfl⟩ (fun _ _ => by simp), .new A h _ _, .pt _ _ _⟩
      simp [execOp, Instr.makeMap]
      rfl
    · cases hc
  case insert t m k v =>
    split at hc
    · rename_i kt et hu
      split at hc
      · rename_i kk hkt
        cases hc
        obtain ⟨w', h1, rfl, h2, h3⟩ := insert_R S (hok m (by simp [Op.operands])) (hok k (by simp [Op.operands])) (hok v (by simp [Op.operands])) hu hkt hv
        exact ⟨A, w', undef, .inr ⟨by simp [execOp, h1], rfl⟩, h2, h3, .refl _ _⟩
      · cases hc
    · cases hc
  case mapUpdate t m k v =>
    split at hc
    · rename_i kt et hu
      split at hc
      · rename_i kk hkt
        cases hc
        obtain ⟨w', h1, rfl, h2, h3⟩ := insert_R S (hok m (by simp [Op.operands])) (hok k (by simp [Op.operands])) (hok v (by simp [Op.operands])) hu hkt hv
        exact ⟨A, w', undef, .inr ⟨by simp [execOp, h1], rfl⟩, h2, h3, .refl _ _⟩
      · cases hc
    · cases hc
  case makeFunc g a c =>
    cases g <;> simp only at hc
    all_goals cases hc
  case makeSlice t l c =>
    split at hc
    · split at hc <;> cases hc
    · cases hc
  case slice t x lo hi mx =>
    cases mx with
    | some _ => simp only at hc; cases hc
    | none =>
      simp only at hc
      split at hc
      · cases hc
      · split at hc
        · split at hc <;> cases hc
        · cases hc
      · cases hc
  case fieldAddr t x i =>
    split at hc
    · split at hc <;> cases hc
    · cases hc
  case field t x i =>
    split at hc
    · split at hc <;> cases hc
    · cases hc
  case indexAddr t x ix =>
    split at hc
    · split at hc <;> cases hc
    · cases hc
  case index t x ix =>
    split at hc <;> cases hc
  case panic x =>
    cases hc
    unfold hPanic at hv
    split at hv <;> cases hv
  case call c =>
    obtain ⟨callee, args, argTypes⟩ := c
    cases callee <;> simp only at hc
    case invoke r m => cases hc
    case value g =>
      cases hc
      unfold hCall at hv
      split at hv
      · split at hv <;> cases hv
      · cases hv
    case builtin b =>
      cases b <;> simp only at hc
      all_goals try (cases hc; done)
      case append =>
        split at hc
        · rename_i s x t u ha ht0
          have ha' : args = #[s, x] := by rw [← Array.toList_inj]; exact ha
          have ht' : argTypes = #[t, u] := by rw [← Array.toList_inj]; exact ht0
          subst ha'
          subst ht'
          have hos := hok s (by simp [Op.operands, Call.operands])
          have hox := hok x (by simp [Op.operands, Call.operands])
          split at hc
          · rename_i e e' he hu
            split at hc
            · rename_i k z hel
              cases hc
              have ht := elemT_eq he
              unfold hAppend at hv
              split at hv
              · rename_i sa hsa
                split at hv
                · rename_i xa hxa
                  obtain ⟨a, c, hr, hlen, hcm, rfl⟩ := apOut_next hv
                  have hsv := gv_VR S.frr hos hsa
                  have hxv := gv_VR S.frr hox hxa
                  unfold appendV at hr
                  split at hr
                  · simp only [VR] at hxv
                    exact append_done S hd rfl ht (.inl ⟨e', hu⟩) hel hsv hr hlen hcm (tail_nil (.inl hxv)) ⟨by simp, fun j hj => by omega⟩
                  · exact append_done S hd rfl ht (.inl ⟨e', hu⟩) hel hsv hr hlen hcm (tail_nil (.inr hxv)) ⟨by simp, fun j hj => by omega⟩
                  · rename_i b kk i1 n1
                    split at hr
                    · rename_i bl hbl
                      split at hr
                      · rename_i hbk
                        have hbk := Nat.eq_of_beq_eq_true hbk
                        obtain ⟨q, hq, hqk, hqc, hxe⟩ := hxv
                        have B := (S.inv.hr.blk b bl q (getC_eq hbl).1 hq).blk (getC_eq hbl).2
                        obtain ⟨xs, g1, g2⟩ := B.seg (i := i1) (m := n1) hqc
                        rw [hbk] at g2
                        refine append_done S hd rfl ht (.inl ⟨e', hu⟩) hel hsv hr hlen hcm (news := xs) ⟨fun w' => by simp [hxe, Builtin.lenOf], fun w' ew => ?_, g2.1⟩ g2
                        rw [hxe]
                        exact run_firstCells_some (P := P) w' k n1 _ n1 _ xs g2.1 (fun j v hv => (World.cell?_of_block (w := w) (w' := w') (by rw [ew])).trans (g1 j v hv))
                      · cases hr
                    · cases hr
                  · cases hr
                · cases hv
              · cases hv
            · cases hc
          · rename_i e he hu
            split at hc
            · rename_i k z hel
              cases hc
              have ht := elemT_eq he
              unfold hAppendS at hv
              split at hv
              · rename_i sa hsa
                split at hv
                · rename_i xa hxa
                  obtain ⟨a, c, hr, hlen, hcm, rfl⟩ := apOut_next hv
                  have hsv := gv_VR S.frr hos hsa
                  have hxv := gv_VR S.frr hox hxa
                  unfold appendS at hr
                  split at hr
                  · rename_i y
                    split at hr
                    · rename_i hk1
                      have hk1 := Nat.eq_of_beq_eq_true hk1
                      subst hk1
                      simp only [VR] at hxv
                      have hyl : y.data.toList.length = y.size := Array.length_toList
                      refine append_done S hd rfl ht (.inr hu) hel hsv hr hlen hcm (news := y.data.toList.map fun b => Value.int .u8 b.toNat) ⟨fun w' => by rw [hxv, hyl]; rfl, fun w' _ => ?_, by simp⟩ ⟨by simp, fun j hj row hrow => ?_⟩
                      · rw [hxv, hyl]
                        simp only [Builtin.firstCells]
                        have : y.extract 0 y.size = y := by simp
                        rw [this]
                        show Result.ok _ _ = Result.ok _ _
                        congr 1
                        apply Array.ext'
                        simp
                      · rw [get_byteRows] at hrow
                        split at hrow
                        · rename_i hjm
                          have hj' : j < y.data.toList.length := by omega
                          rw [show 0 + j - 0 = j by omega, List.getElem?_eq_getElem hj'] at hrow
                          cases hrow
                          refine ⟨rfl, rfl, fun q a ha => ?_⟩
                          cases q with
                          | zero =>
                            simp at ha
                            subst ha
                            refine ⟨.int .u8 (y.data.toList[j].toNat : Int), ?_, rfl⟩
                            rw [show j * 1 + 0 = j by omega, List.getElem?_map, List.getElem?_eq_getElem hj']
                            rfl
                          | succ q => simp at ha
                        · rw [get_nil] at hrow; cases hrow
                    · cases hr
                  · cases hr
                · cases hv
              · cases hv
            · cases hc
          · cases hc
        · cases hc
      case len =>
        split at hc
        · split at hc <;> cases hc
        · cases hc
      case min =>
        split at hc <;> cases hc
      case max =>
        split at hc <;> cases hc
end Go.Ev
