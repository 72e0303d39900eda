/- Maps: keys of whole numbers, texts, bools. -/
import Derived.Test.YtlbooinipoaapaaDoorEvOps4
import Derived.MapKept
namespace Go.Ev
variable {P : Program} {A : Asg} {n : Nat} {ok : Path → Prop} {fr : FT} {act : Act} {w : World} {h : H}

def KT.desc : KT → TypeDesc
  | .int k => .int k
  | .str => .string
  | .bool => .bool
theorem keyT_eq {t : TypeId} {k : KT} (h : keyT P t = some k) : P.underlying t = some k.desc := by
  unfold keyT at h
  split at h <;> first | (cases h; assumption) | cases h
theorem isKey_R {s : Path → Option Ref} {k : KT} {a : AV} {x : Value} (h : isKey k a = true) (hx : VR s a x) : Go.MapKept.IsKey k.desc x := by
  cases k <;> cases a <;> simp only [isKey] at h <;> first | cases h | skip
  all_goals (simp only [VR] at hx; subst hx)
  · exact keq_eq h ▸ rfl
  · trivial
  · trivial
theorem keyEq_R {s : Path → Option Ref} {k : KT} {a b : AV} {x y : Value} {u : Bool} (hk : isKey k a = true) (hx : VR s a x) (hy : VR s b y) (h : keyEq a b = some u) : Instr.sameNow k.desc x y = some u := by
  cases k <;> cases a <;> simp only [isKey] at hk <;> first | cases hk | skip
  all_goals (cases b <;> simp only [keyEq] at h <;> first | cases h | skip)
  all_goals (simp only [VR] at hx hy; subst hx; subst hy)
  · split at h
    · rename_i he
      cases h
      have he := keq_eq he
      simp [Instr.sameNow, KT.desc, he, ieq_beq]
    · cases h
  · rename_i c d
    have hd : (c == d) = (c.data.toList == d.data.toList) := by
      rw [Bool.eq_iff_iff, Go.MapKept.bytes_beq, beq_iff_eq]
      constructor
      · intro e; rw [e]
      · intro e
        exact str_eq (by rw [bytesEq_iff, e]; exact beq_self_eq_true _)
    simp [Instr.sameNow, KT.desc, hd, bytesEq_iff]
  · rename_i c d
    cases c <;> cases d <;> rfl
/-- Where a key stands. -/
theorem findRow_R {s : Path → Option Ref} {k : KT} {a : AV} {x : Value} (hk : isKey k a = true) (hx : VR s a x) {rows : Tr (List AV)} {es : Array MapEntry} (hes : ∀ (j : Nat) e, es[j]? = some e → EntR s rows j e) : ∀ (m i : Nat) (r : Option (Nat × AV)),
    i + m = es.size → findRow a rows m i = some r → match r with
      | none => Instr.findNow k.desc x (es.toList.drop i) i = some none
      | some (j, va) => ∃ e, es[j]? = some e ∧ Instr.findNow k.desc x (es.toList.drop i) i = some (some (j, e.val)) ∧ VR s va e.val ∧ ∃ ka, keyEq a ka = some true ∧ VR s ka e.key
  | 0, i, r, hm, h => by
    have h : (some none : Option (Option (Nat × AV))) = some r := h
    cases h
    have : es.toList.drop i = [] := by rw [List.drop_eq_nil_iff]; simp; omega
    rw [this]; rfl
  | m + 1, i, r, hm, h => by
    have h : (match get (pathOf i) rows with
      | some [ka, va] => match keyEq a ka with
        | some true => some (some (i, va))
        | some false => findRow a rows m (i + 1)
        | none => none
      | _ => none) = some r := h
    have hi : i < es.size := by omega
    have hdrop : es.toList.drop i = es[i] :: es.toList.drop (i + 1) := by
      rw [List.drop_eq_getElem_cons (by simpa using hi)]; simp
    obtain ⟨ka', va', g1, g2, g3⟩ := hes i es[i] (Array.getElem?_eq_getElem hi)
    split at h
    · rename_i ka va hrow
      rw [g1] at hrow; cases hrow
      split at h
      · rename_i he
        cases h
        have hs := keyEq_R hk hx g2 he
        refine ⟨es[i], Array.getElem?_eq_getElem hi, ?_, g3, _, he, g2⟩
        rw [hdrop]
        simp only [Instr.findNow, hs]
      · rename_i he
        have hs := keyEq_R hk hx g2 he
        have ih := findRow_R hk hx hes m (i + 1) r (by omega) h
        cases r with
        | none => simp only at ih ⊢; rw [hdrop]; simp only [Instr.findNow, hs]; exact ih
        | some jv =>
          obtain ⟨j, va1⟩ := jv
          obtain ⟨e, h1, h2, h3, h4⟩ := ih
          refine ⟨e, h1, ?_, h3, h4⟩
          rw [hdrop]; simp only [Instr.findNow, hs]; exact h2
      · cases h
    · cases h
theorem mapAt_eq {p : Path} {b : Blk} (e : mapAt p h = some b) : get p h.t = some b ∧ b.map = true := by
  unfold mapAt at e
  split at e
  · split at e
    · cases e; exact ⟨by assumption, by assumption⟩
    · cases e
  · cases e
theorem found_R {s : Path → Option Ref} {comma ok : Bool} {v : AV} {x : Value} (hv : VR s v x) : ∃ a, found comma v ok = .v a ∧ VR s a (if comma then .tuple #[x, .bool ok] else x) := by
  cases comma
  · exact ⟨v, rfl, hv⟩
  · exact ⟨_, rfl, _, rfl, .cons hv (.cons (by simp [VR]) .nil)⟩
/-- Looking a key up. -/
theorem lookup_R (F : FrR A n ok fr act.tmps w) (hr : HR A h w) {t kt et : TypeId} {kk : KT} {z : AV} {comma : Bool} {x k : Operand} (hx : OkO ok x) (hk : OkO ok k) (hu : P.underlying t = some (.map kt et)) (hkt : keyT P kt = some kk) (hz : zeroV P et = some z)
    {s : Sl} (hv : lLookup kk z comma (rd x) (rd k) fr h = some s) : ∃ v a, s = .v a ∧ (Instr.lookup t (act.eval x) (act.eval k) comma).run P w = .ok v w ∧ VR A.s a v := by
  unfold lLookup at hv
  have hund := run_underlying (w := w) hu
  obtain ⟨zv, hzr, hz'⟩ := zeroV_eq (s := A.s) hz
  split at hv
  · rename_i ka hka
    have hkv := gv_VR F hk hka
    split at hv
    · rename_i hik
      have hkd := isKey_R hik hkv
      have hck := fun e n => Go.MapKept.run_checkKey (P := P) (w := w) (keyT_eq hkt) hkd e n
      split at hv
      · rename_i ha
        cases hv
        have h1 := gv_VR F hx ha
        simp only [VR] at h1
        obtain ⟨a, h2, h3⟩ := found_R (comma := comma) (ok := false) hz'
        refine ⟨_, a, h2, ?_, h3⟩
        have hf := Go.MapKept.run_findKey (P := P) (w := w) (k := act.eval k) (l := []) (a := none) (keyT_eq hkt) rfl
        simp only [Instr.lookup, Sem.run_bind, hund, Result.andThen_ok, h1, Sem.run_pure, hck, hf, hzr]
      · rename_i p ha
        obtain ⟨r, hr1, h1⟩ := gv_VR F hx ha
        split at hv
        · rename_i b hb
          obtain ⟨hb1, hb2⟩ := mapAt_eq hb
          obtain ⟨es, clock, e1, e2, e3⟩ := ((hr.blk p b r hb1 hr1).mapR hb2).map
          have hg := Go.MapKept.run_getObj_map (P := P) e1
          split at hv
          · rename_i j va hf
            cases hv
            obtain ⟨e, g1, g2, g3, _⟩ := findRow_R hik hkv e3 b.n 0 _ (by omega) hf
            have hf := Go.MapKept.run_findKey (P := P) (w := w) (keyT_eq hkt) g2
            obtain ⟨a, h2, h3⟩ := found_R (comma := comma) (ok := true) g3
            refine ⟨_, a, h2, ?_, h3⟩
            rw [List.drop_zero] at hf
            simp only [Instr.lookup, Sem.run_bind, hund, Result.andThen_ok, h1, Sem.run_pure, hck, hf, hg]
          · rename_i hf
            cases hv
            have g2 := findRow_R hik hkv e3 b.n 0 _ (by omega) hf
            have hf := Go.MapKept.run_findKey (P := P) (w := w) (keyT_eq hkt) g2
            obtain ⟨a, h2, h3⟩ := found_R (comma := comma) (ok := false) hz'
            refine ⟨_, a, h2, ?_, h3⟩
            rw [List.drop_zero] at hf
            simp only [Instr.lookup, Sem.run_bind, hund, Result.andThen_ok, h1, Sem.run_pure, hck, hf, hg, hzr]
          · cases hv
        · cases hv
      · cases hv
    · cases hv
  · cases hv
end Go.Ev
