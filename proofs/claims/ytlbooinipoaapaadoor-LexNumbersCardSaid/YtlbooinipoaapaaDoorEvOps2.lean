/- Operations of slots alone: each tells what the evaluator tells, and changes nothing. -/
import Derived.Test.YtlbooinipoaapaaDoorEvOps1
namespace Go.Ev
variable {P : Program} {A : Asg} {n : Nat} {ok : Path → Prop} {fr : FT} {act : Act} {w : World} {h : H}

/-- An operation tells what the slot is to hold, and changes nothing. -/
def Does (P : Program) (A : Asg) (act : Act) (w : World) (o : Oper) (s : Sl) : Prop :=
  ∃ v, (execOp act.eval o).run P w = .ok (.value v) w ∧ SlR A w s v ∧ ∀ g l, s ≠ .box g l
theorem Does.v {o : Oper} {a : AV} {v : Value} (h1 : (execOp act.eval o).run P w = .ok (.value v) w) (h2 : VR A.s a v) : Does P A act w o (.v a) :=
  ⟨v, h1, h2, fun _ _ => by simp⟩
theorem retV_some {r : Option AV} {s : Sl} (e : retV r = some s) : ∃ a, r = some a ∧ s = .v a := by
  unfold retV at e
  split at e
  · cases e; exact ⟨_, rfl, rfl⟩
  · cases e
theorem natOf_int {a : AV} {m : Nat} (e : natOf a = some m) : ∃ k, a = .int k (.ofNat m) := by
  unfold natOf at e
  split at e
  · cases e; exact ⟨_, rfl⟩
  · cases e
theorem elemT_eq {t e : TypeId} (h : elemT P t = some e) : P.underlying t = some (.slice e) := by
  unfold elemT at h
  split at h
  · cases h; assumption
  · cases h
theorem P_elem {t e : TypeId} (h : P.underlying t = some (.slice e)) : P.elem t = e := by simp [Program.elem, h]
theorem sizeT_info {t : TypeId} {m : Nat} (h : sizeT P t = some m) : ∃ i, P.info? t = some i ∧ i.size = m := by
  unfold sizeT at h
  split at h
  · cases h; exact ⟨_, ‹_›, rfl⟩
  · cases h

/-! ### Sums and comparisons -/
theorem bin_int {op : BinOp} {k : IntKind} {x y : Int} {r : AV} (e : binInt op k x y = some r) (t : TypeId) (hop : op ≠ .shl ∧ op ≠ .shr) :
    ∃ v, (binOp op t (.int k x) (.int k y)).run P w = .ok v w ∧ VR A.s r v := by
  unfold binInt at e
  split at e
  · cases e; exact ⟨.int k (k.wrap (x + y)), by rw [binOp_add]; rfl, by simp only [VR, wrapF_eq]⟩
  · cases e; exact ⟨.int k (k.wrap (x - y)), by rw [binOp_sub]; rfl, by simp only [VR, wrapF_eq]⟩
  · cases e; exact ⟨.int k (k.wrap (x * y)), by rw [binOp_mul]; rfl, by simp only [VR, wrapF_eq]⟩
  · split at e
    · cases e
    · rename_i hy
      rw [ieq_iff] at hy
      have hy : y ≠ 0 := of_decide_eq_false hy
      cases e; exact ⟨.int k (k.wrap (x.tdiv y)), by rw [binOp_quo]; simp [Op.intDiv, hy], by simp only [VR, wrapF_eq]⟩
  · split at e
    · cases e
    · rename_i hy
      rw [ieq_iff] at hy
      have hy : y ≠ 0 := of_decide_eq_false hy
      cases e; exact ⟨.int k (x.tmod y), by rw [binOp_rem]; simp [Op.intDiv, hy], by simp only [VR]⟩
  · cases e; exact ⟨_, by rw [binOp_eql]; rfl, by simp [VR, ieq_beq]⟩
  · cases e; exact ⟨_, by rw [binOp_neq]; rfl, by simp [VR, ieq_beq, bne]⟩
  · cases e; exact ⟨_, by rw [binOp_lss]; rfl, by simp [VR, ilt_iff]⟩
  · cases e; exact ⟨_, by rw [binOp_leq]; rfl, by show Value.bool _ = Value.bool _; rw [ilt_iff]; congr 1; rw [Bool.eq_iff_iff]; simp⟩
  · cases e; exact ⟨_, by rw [binOp_gtr]; rfl, by simp [VR, ilt_iff]⟩
  · cases e; exact ⟨_, by rw [binOp_geq]; rfl, by show Value.bool _ = Value.bool _; rw [ilt_iff]; congr 1; rw [Bool.eq_iff_iff]; simp⟩
  · cases e
theorem str_append (x y : ByteArray) : x ++ y = ⟨(x.data.toList ++ y.data.toList).toArray⟩ := by
  cases x with | mk x => cases y with | mk y =>
  apply ByteArray.ext
  rw [ByteArray.data_append]
  simp
theorem bin_str {op : BinOp} {x y : ByteArray} {r : AV} (e : binStr op x y = some r) (t : TypeId) :
    ∃ v, (binOp op t (.string x) (.string y)).run P w = .ok v w ∧ VR A.s r v := by
  unfold binStr at e
  split at e
  · split at e
    · rename_i hb
      have hb := Nat.le_of_ble_eq_true hb
      cases e
      refine ⟨.string (x ++ y), ?_, by simp only [VR, str_append]⟩
      have h1 : x.data.toList.length = x.size := Array.length_toList
      have h2 : y.data.toList.length = y.size := Array.length_toList
      have h3 : ¬ (((x.size + y.size : Nat) : Int) > IntKind.i64.max) := by rw [IntKind.max_i64]; omega
      simp only [binOp, Op.stringOp, if_neg h3]
      rfl
    · cases e
  · cases e; exact ⟨.bool (x.toList == y.toList), by rw [binOp_string_eql]; rfl, by show Value.bool _ = Value.bool _; rw [ByteArray.toList_eq, ByteArray.toList_eq, bytesEq_iff]⟩
  · cases e; exact ⟨.bool !(x.toList == y.toList), by rw [binOp_string_neq]; rfl, by show Value.bool _ = Value.bool _; rw [ByteArray.toList_eq, ByteArray.toList_eq, bytesEq_iff]⟩
  · cases e; exact ⟨.bool (Op.bytesLess x.toList y.toList), by rw [binOp_string_lss]; rfl, by show Value.bool _ = Value.bool _; rw [ByteArray.toList_eq, ByteArray.toList_eq]⟩
  · cases e; exact ⟨.bool (Op.bytesLess x.toList y.toList || x.toList == y.toList), by simp [binOp, Op.stringOp], by show Value.bool _ = Value.bool _; rw [ByteArray.toList_eq, ByteArray.toList_eq, bytesEq_iff]; cases Op.bytesLess x.data.toList y.data.toList <;> rfl⟩
  · cases e; exact ⟨.bool !(Op.bytesLess x.toList y.toList || x.toList == y.toList), by simp [binOp, Op.stringOp], by show Value.bool _ = Value.bool _; rw [ByteArray.toList_eq, ByteArray.toList_eq, bytesEq_iff]; cases Op.bytesLess x.data.toList y.data.toList <;> rfl⟩
  · cases e; exact ⟨.bool !Op.bytesLess x.toList y.toList, by simp [binOp, Op.stringOp], by show Value.bool _ = Value.bool _; rw [ByteArray.toList_eq, ByteArray.toList_eq]⟩
  · cases e

/-- Two values that are held against each other as the type says. -/
def ETy (P : Program) (t : TypeId) : ET → Prop
  | .bool => P.underlying t = some .bool
  | .int => ∃ k, P.underlying t = some (.int k)
  | .str => P.underlying t = some .string
  | .ptr => ∃ e, P.underlying t = some (.pointer e)
  | .slc => ∃ e, P.underlying t = some (.slice e)
  | .fn => ∃ a b c, P.underlying t = some (.func a b c)
  | .ifc => ∃ m, P.underlying t = some (.interface m)
theorem equal_R {t : TypeId} {e : ET} (ht : ETy P t e) {a b : AV} {r : Bool} (hr : aeq e a b = some r) {x y : Value} (hx : VR A.s a x) (hy : VR A.s b y) (d : Nat) :
    (Op.equalIn (d + 1) t x y).run P w = .ok r w := by
  cases e with
  | bool =>
    simp only [aeq] at hr
    split at hr
    · rename_i u v
      simp only [VR] at hx hy; subst hx; subst hy
      cases hr
      have ht : P.underlying t = some .bool := ht
      simp only [Op.equalIn, Sem.run_bind, run_underlying ht, Result.andThen_ok, Sem.run_pure]
      cases u <;> cases v <;> rfl
    · cases hr
  | int =>
    simp only [aeq] at hr
    obtain ⟨k0, ht⟩ := ht
    split at hr
    · split at hr
      · rename_i hk
        simp only [VR] at hx hy; subst hx; subst hy
        cases hr
        rw [keq_eq hk, run_equalIn_int w d t _ k0 _ _ ht, ieq_beq]
      · cases hr
    · cases hr
  | str =>
    simp only [aeq] at hr
    split at hr
    · simp only [VR] at hx hy; subst hx; subst hy
      cases hr
      rw [run_equalIn_string w d t _ _ ht, bytesEq_iff, ByteArray.toList_eq, ByteArray.toList_eq]
    · cases hr
  | ptr =>
    simp only [aeq] at hr
    obtain ⟨e, ht⟩ := ht
    split at hr
    · simp only [VR] at hx hy; subst hx; subst hy; cases hr; simp [Op.equalIn, run_underlying ht]
    · simp only [VR] at hx; obtain ⟨q, _, rfl⟩ := hy; subst hx; cases hr; simp [Op.equalIn, run_underlying ht]
    · simp only [VR] at hy; obtain ⟨q, _, rfl⟩ := hx; subst hy; cases hr; simp [Op.equalIn, run_underlying ht]
    · cases hr
  | slc =>
    simp only [aeq] at hr
    obtain ⟨e, ht⟩ := ht
    split at hr
    · simp only [VR] at hx hy; subst hx; subst hy; cases hr; simp [Op.equalIn, run_underlying ht]
    · simp only [VR] at hx; obtain ⟨q, _, _, _, rfl⟩ := hy; subst hx; cases hr; simp [Op.equalIn, run_underlying ht]
    · simp only [VR] at hy; obtain ⟨q, _, _, _, rfl⟩ := hx; subst hy; cases hr; simp [Op.equalIn, run_underlying ht]
    · simp only [VR] at hx; obtain ⟨q, _, rfl⟩ := hy; subst hx; cases hr; simp [Op.equalIn, run_underlying ht]
    · simp only [VR] at hy; obtain ⟨q, _, rfl⟩ := hx; subst hy; cases hr; simp [Op.equalIn, run_underlying ht]
    · cases hr
  | fn =>
    simp only [aeq] at hr
    obtain ⟨e1, e2, e3, ht⟩ := ht
    split at hr
    · simp only [VR] at hx hy; subst hx; subst hy; cases hr; simp [Op.equalIn, run_underlying ht]
    · simp only [VR] at hx; obtain ⟨q, _, rfl, _⟩ := hy; subst hx; cases hr; simp [Op.equalIn, run_underlying ht]
    · simp only [VR] at hy; obtain ⟨q, _, rfl, _⟩ := hx; subst hy; cases hr; simp [Op.equalIn, run_underlying ht]
    · cases hr
  | ifc =>
    simp only [aeq] at hr
    obtain ⟨e, ht⟩ := ht
    split at hr
    · simp only [VR] at hx hy; subst hx; subst hy; cases hr; simp [Op.equalIn, run_underlying ht]
    · simp only [VR] at hx; obtain ⟨q, rfl, _⟩ := hy; subst hx; cases hr; simp [Op.equalIn, run_underlying ht]
    · simp only [VR] at hy; obtain ⟨q, rfl, _⟩ := hx; subst hy; cases hr; simp [Op.equalIn, run_underlying ht]
    · cases hr

theorem cellT_eq {t : TypeId} {e : ET} (h : cellT P t = some e) : ETy P t e ∧ isAggT P t = some false := by
  unfold cellT at h
  split at h
  · cases h; rename_i k hu; exact ⟨⟨k, hu⟩, by simp [isAggT, hu]⟩
  · cases h; rename_i hu; exact ⟨hu, by simp [isAggT, hu]⟩
  · cases h; rename_i hu; exact ⟨hu, by simp [isAggT, hu]⟩
  · cases h
theorem run_part {t : TypeId} (ht : isAggT P t = some false) {cs : Array Value} {i : Nat} {v : Value} (hv : cs[i]? = some v) : (part t cs i).run P w = .ok v w := by
  simp [part, run_isAgg ht, hv]
theorem eqFields_R : ∀ (fs : List Field) (i : Nat) (es : List ET) (xs ys : List AV) (r : Bool) (cs ds : Array Value) (d : Nat), cellsT P fs i = some es → aeqs es xs ys = some r →
    (VRs A.s xs (cs.toList.drop i)) → (VRs A.s ys (ds.toList.drop i)) → (Op.eqFields (d + 1) cs ds fs).run P w = .ok r w
  | [], i, es, xs, ys, r, cs, ds, d, he, hr, hx, hy => by
    simp only [cellsT] at he; cases he
    cases xs <;> cases ys <;> simp [aeqs] at hr
    subst hr
    rfl
  | f :: fs, i, es, xs, ys, r, cs, ds, d, he, hr, hx, hy => by
    simp only [cellsT] at he
    split at he
    · rename_i e es' ho hn ht hrest
      cases he
      have ho := Nat.eq_of_beq_eq_true ho
      have hn : f.name ≠ "_" := by simpa using hn
      obtain ⟨hty, hag⟩ := cellT_eq ht
      cases xs with
      | nil => simp [aeqs] at hr
      | cons a xs =>
        cases ys with
        | nil => simp [aeqs] at hr
        | cons b ys =>
          obtain ⟨x, xs', hxe, hxa, hxs⟩ := hx
          obtain ⟨y, ys', hye, hya, hys⟩ := hy
          have hci : cs[i]? = some x := by
            have : (cs.toList.drop i)[0]? = some x := by rw [hxe]; rfl
            simpa using this
          have hdi : ds[i]? = some y := by
            have : (ds.toList.drop i)[0]? = some y := by rw [hye]; rfl
            simpa using this
          have hcd : cs.toList.drop (i + 1) = xs' := by rw [← List.drop_drop, hxe]; rfl
          have hdd : ds.toList.drop (i + 1) = ys' := by rw [← List.drop_drop, hye]; rfl
          simp only [Op.eqFields, if_pos hn, Sem.run_bind, ho, run_part hag hci, run_part hag hdi, Result.andThen_ok]
          simp only [aeqs] at hr
          split at hr
          · rename_i he
            rw [equal_R hty he hxa hya d]
            simp only [Result.andThen_ok, Bool.not_true, Bool.false_eq_true, if_false]
            exact eqFields_R fs (i + 1) es' xs ys r cs ds d hrest hr (by rw [hcd]; exact hxs) (by rw [hdd]; exact hys)
          · rename_i he
            cases hr
            rw [equal_R hty he hxa hya d]
            rfl
          · cases hr
    · cases he
theorem eqlV_some {op : BinOp} {r : Option Bool} {a : AV} (e : eqlV op r = some a) : ∃ b, r = some b ∧ ((op = .eql ∧ a = .bool b) ∨ (op = .neq ∧ a = .bool !b)) := by
  unfold eqlV at e
  split at e
  · cases e; exact ⟨_, rfl, .inl ⟨rfl, rfl⟩⟩
  · cases e; exact ⟨_, rfl, .inr ⟨rfl, rfl⟩⟩
  · cases e
theorem cellsT_guard : ∀ {fs : List Field} {i : Nat} {es : List ET}, cellsT P fs i = some es → ∀ d, fs.any (fun f => f.name != "_" && P.eqGuardType (d + 1) f.type) = false
  | [], _, _, _, _ => rfl
  | f :: fs, i, es, he, d => by
    simp only [cellsT] at he
    split at he
    · rename_i e es' ho hn ht hrest
      have h1 : P.eqGuardType (d + 1) f.type = false := by
        obtain ⟨hty, _⟩ := cellT_eq ht
        unfold cellT at ht
        split at ht <;> first | cases ht | skip
        all_goals (rename_i hu; simp [Program.eqGuardType, hu])
      simp only [List.any_cons, h1, Bool.and_false, Bool.false_or]
      exact cellsT_guard hrest d
    · cases he

theorem VR.nofloat {s : Path → Option Ref} {a : AV} {x : Value} (h : VR s a x) : (∀ k m, x ≠ .float k m) ∧ (∀ k l m, x ≠ .complex k l m) := by
  cases a with
  | bool b => simp only [VR] at h; subst h; simp
  | int k n => simp only [VR] at h; subst h; simp
  | res k m r => obtain ⟨n, rfl, _⟩ := h; simp
  | str t => simp only [VR] at h; subst h; simp
  | ptr p o => obtain ⟨r, hr, rfl⟩ := h; simp
  | nilp => simp only [VR] at h; subst h; simp
  | sl p k i n => obtain ⟨r, hr, _, _, rfl⟩ := h; simp
  | sle => obtain ⟨b, d, rfl⟩ := h; simp
  | nils => simp only [VR] at h; subst h; simp
  | fn f a c => obtain ⟨xs, ys, rfl, _, _⟩ := h; simp
  | nilfn => simp only [VR] at h; subst h; simp
  | ifc t b => obtain ⟨y, rfl, _⟩ := h; simp
  | nilif => simp only [VR] at h; subst h; simp
  | mp p => obtain ⟨r, hr, rfl⟩ := h; simp
  | nilm => simp only [VR] at h; subst h; simp
  | agg l => obtain ⟨xs, rfl, _⟩ := h; simp
  | tup l => obtain ⟨xs, rfl, _⟩ := h; simp
/-- A value of this kind that is held against another one is no struct; it is no interface's, but at an interface. -/
theorem aeq_shape {e : ET} {a b : AV} {u : Bool} (hu : aeq e a b = some u) {x : Value} (hx : VR A.s a x) : (∀ c, x ≠ .agg c) ∧ (x = .nilIface → e = .ifc) := by
  cases e <;> simp only [aeq] at hu <;> (split at hu <;> first | cases hu | skip)
  all_goals first
    | (simp only [VR] at hx; subst hx; simp; done)
    | (obtain ⟨_, _, rfl, _⟩ := hx; simp; done)
    | (obtain ⟨_, _, rfl⟩ := hx; simp; done)
    | (obtain ⟨_, _, _, rfl⟩ := hx; simp; done)
    | (obtain ⟨_, _, _, _, rfl⟩ := hx; simp; done)
    | (obtain ⟨_, rfl, _⟩ := hx; simp; done)
theorem eqOf_one {t : TypeId} {xo yo : Operand} {e : ET} (he : eqOf P t xo yo = .one e) : ETy P t e ∧ (e = .ifc → (∃ c, xo = .const c) ∨ (∃ c, yo = .const c)) := by
  unfold eqOf at he
  split at he
  · split at he <;> cases he
  · rename_i m hu
    split at he
    · cases he; exact ⟨⟨m, hu⟩, fun _ => .inl ⟨_, rfl⟩⟩
    · cases he; exact ⟨⟨m, hu⟩, fun _ => .inr ⟨_, rfl⟩⟩
    · cases he
  · rename_i h1 h2
    split at he
    · rename_i e' hq
      cases he
      unfold eqT at hq
      split at hq
      · cases hq; exact ⟨by assumption, by simp⟩
      · cases hq; exact ⟨⟨_, by assumption⟩, by simp⟩
      · cases hq; exact ⟨⟨_, by assumption⟩, by simp⟩
      · cases hq; exact ⟨⟨_, _, _, by assumption⟩, by simp⟩
      · rename_i m hu; exact absurd hu (h2 m)
      · cases hq
    · cases he
/-- == and != by what the type says. -/
theorem eql_R {t : TypeId} {xo yo : Operand} {op : BinOp} {e : ET} (he : eqOf P t xo yo = .one e) {a b r : AV} (hq : eqlV op (aeq e a b) = some r) {x y : Value} (hx : VR A.s a x) (hy : VR A.s b y)
    (hni : ∀ k m, x ≠ .int k m) (hns : ∀ m, x ≠ .string m) : ∃ v, (do eqGuard op t xo yo x y; binOp op t x y : Sem Value).run P w = .ok v w ∧ VR A.s r v := by
  obtain ⟨u, hu, hcase⟩ := eqlV_some hq
  obtain ⟨hty, hif⟩ := eqOf_one he
  obtain ⟨hs1, hs2⟩ := aeq_shape hu hx
  have hg : (eqGuard op t xo yo x y).run P w = .ok () w := by
    by_cases h0 : x = .nilIface
    · subst h0
      by_cases hy0 : y = .nilIface
      · subst hy0
        rcases hif (hs2 rfl) with ⟨c, rfl⟩ | ⟨c, rfl⟩
        · rw [eqGuard_nil_constL]; rfl
        · rw [eqGuard_nil_constR]; rfl
      · rcases hcase with ⟨rfl, _⟩ | ⟨rfl, _⟩ <;> cases y <;> first | rfl | exact absurd rfl hy0
    · rcases hcase with ⟨rfl, _⟩ | ⟨rfl, _⟩ <;> cases x <;> first | rfl | exact absurd rfl (hs1 _) | exact absurd rfl h0
  have heq : (Op.equal t x y).run P w = .ok u w := equal_R (w := w) (P := P) hty hu hx hy 9999
  obtain ⟨hf1, hf2⟩ := hx.nofloat
  rcases hcase with ⟨rfl, rfl⟩ | ⟨rfl, rfl⟩
  · refine ⟨.bool u, ?_, rfl⟩
    rw [Sem.run_bind, hg, Result.andThen_ok]
    cases x <;> first
      | exact absurd rfl (hni _ _)
      | exact absurd rfl (hns _)
      | exact absurd rfl (hf1 _ _)
      | exact absurd rfl (hf2 _ _ _)
      | (simp only [binOp, Sem.run_bind, heq, Result.andThen_ok]; rfl)
  · refine ⟨.bool !u, ?_, rfl⟩
    rw [Sem.run_bind, hg, Result.andThen_ok]
    cases x <;> first
      | exact absurd rfl (hni _ _)
      | exact absurd rfl (hns _)
      | exact absurd rfl (hf1 _ _)
      | exact absurd rfl (hf2 _ _ _)
      | (simp only [binOp, Sem.run_bind, heq, Result.andThen_ok]; rfl)
theorem eqGuard_arith (op : BinOp) (t : TypeId) (xo yo : Operand) (x y : Value) (h : (∃ k n, x = .int k n) ∨ (∃ s, x = .string s)) : (eqGuard op t xo yo x y) = pure () := by
  rcases h with ⟨k, n, rfl⟩ | ⟨s, rfl⟩
  · exact eqGuard_at_int op t xo yo y k n
  · exact eqGuard_at_string op t xo yo y s
/-- Two values and what is to be made of them. -/
theorem bin_R {t : TypeId} {xo yo : Operand} {op : BinOp} (hop : op ≠ .shl ∧ op ≠ .shr) {a b r : AV} (hr : bin (eqOf P t xo yo) op a b = some r) {x y : Value} (hx : VR A.s a x) (hy : VR A.s b y) :
    ∃ v, (do eqGuard op t xo yo x y; binOp op t x y : Sem Value).run P w = .ok v w ∧ VR A.s r v := by
  have one : (match eqOf P t xo yo with | .one e => eqlV op (aeq e a b) | _ => none) = some r → (∀ k m, x ≠ .int k m) → (∀ m, x ≠ .string m) → ∃ v, (do eqGuard op t xo yo x y; binOp op t x y : Sem Value).run P w = .ok v w ∧ VR A.s r v := by
    intro h1 h2 h3
    split at h1
    · rename_i e he; exact eql_R he h1 hx hy h2 h3
    · cases h1
  unfold bin at hr
  split at hr
  · split at hr
    · split at hr
      · rename_i hk
        simp only [VR] at hx hy; subst hx; subst hy
        rw [eqGuard_at_int, keq_eq hk]
        exact bin_int hr t hop
      · cases hr
    · cases hr
  · split at hr
    · split at hr
      · split at hr
        · rename_i hk hm hn0
          have hm := Nat.eq_of_beq_eq_true hm
          have hk := keq_eq hk
          subst hm
          subst hk
          obtain ⟨n0, rfl, h1, h2⟩ := hx
          simp only [VR] at hy; subst hy
          cases hr
          rw [natBeq] at hn0
          have hn0 := of_decide_eq_false hn0
          rw [eqGuard_at_int]
          refine ⟨.int _ (.ofNat _), ?_, rfl⟩
          show (binOp .rem t (.int _ (.ofNat n0)) (.int _ (.ofNat _))).run P w = _
          rw [binOp_rem]
          simp only [Op.intDiv, Int.ofNat_eq_natCast]
          rw [if_neg (by omega)]
          subst h1
          rfl
        · cases hr
      · cases hr
    · cases hr
  · split at hr
    · simp only [VR] at hx hy; subst hx; subst hy
      rw [eqGuard_at_string]
      exact bin_str hr t
    · cases hr
  · split at hr
    · split at hr
      · rename_i l he
        obtain ⟨u, hu, hcase⟩ := eqlV_some hr
        obtain ⟨xs, rfl, hxs, _⟩ := hx
        obtain ⟨ys, rfl, hys, _⟩ := hy
        unfold eqOf at he
        split at he
        · rename_i fs hu'
          split at he
          · rename_i es hst hc
            cases he
            have hfs : P.fieldsOf t = fs := by simp [Program.fieldsOf, hu']
            have hg : P.eqGuardType P.depth t = false := by
              have e : P.depth = (2 * (P.types.size + Made.depth) + 1) + 1 := rfl
              rw [e]
              simp only [Program.eqGuardType, hu']
              have := cellsT_guard (P := P) hc (2 * (P.types.size + Made.depth))
              rw [← Array.any_toList]
              exact this
            have heq : (Op.equalIn 10000 t (.agg xs) (.agg ys)).run P w = .ok u w := by
              rw [run_equalIn_agg w 9999 t xs ys (by rw [hfs]; exact hu') hst, hfs]
              exact eqFields_R fs.toList 0 _ _ _ u xs ys 9998 hc hu (by simpa using hxs) (by simpa using hys)
            rcases hcase with ⟨rfl, rfl⟩ | ⟨rfl, rfl⟩
            · refine ⟨.bool u, ?_, rfl⟩
              rw [Sem.run_bind, run_eqGuard_agg w .eql t xo yo xs ys hg, Result.andThen_ok, run_eql_struct, heq]
              rfl
            · refine ⟨.bool !u, ?_, rfl⟩
              rw [Sem.run_bind, run_eqGuard_agg w .neq t xo yo xs ys hg, Result.andThen_ok, run_neq_struct, heq]
              rfl
          · cases he
        · split at he <;> cases he
        · split at he <;> cases he
      · cases hr
    · cases hr
  · rename_i n1 n2 n3 n4
    refine one hr ?_ ?_
    · intro k m e
      subst e
      cases a <;> first
        | exact n1 _ _ rfl
        | exact n2 _ _ _ rfl
        | (simp only [VR] at hx; cases hx; done)
        | (obtain ⟨_, _, hx, _⟩ := hx; cases hx; done)
        | (obtain ⟨_, _, hx⟩ := hx; cases hx; done)
        | (obtain ⟨_, _, _, hx⟩ := hx; cases hx; done)
        | (obtain ⟨_, _, _, _, hx⟩ := hx; cases hx; done)
        | (obtain ⟨_, hx, _⟩ := hx; cases hx; done)
    · intro m e
      subst e
      cases a <;> first
        | exact n3 _ rfl
        | (simp only [VR] at hx; cases hx; done)
        | (obtain ⟨_, _, hx, _⟩ := hx; cases hx; done)
        | (obtain ⟨_, _, hx⟩ := hx; cases hx; done)
        | (obtain ⟨_, _, _, hx⟩ := hx; cases hx; done)
        | (obtain ⟨_, _, _, _, hx⟩ := hx; cases hx; done)
        | (obtain ⟨_, hx, _⟩ := hx; cases hx; done)
end Go.Ev
