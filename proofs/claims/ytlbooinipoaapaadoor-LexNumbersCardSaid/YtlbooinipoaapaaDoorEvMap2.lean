/- Maps that are made, and written. -/
import Derived.Test.YtlbooinipoaapaaDoorEvMap
import Derived.Test.YtlbooinipoaapaaDoorEvApp2
namespace Go.Ev
variable {P : Program} {E : Ent} {A : Asg} {n : Nat} {ok : Path → Prop} {fr : FT} {act : Act} {w : World} {h : H}

theorem keyEq_same {s : Path → Option Ref} {k : KT} {a b : AV} {x y : Value} (hk : isKey k a = true) (hx : VR s a x) (hy : VR s b y) (h : keyEq a b = some true) : y = x ∧ Instr.sameBits 10000 x x = true := by
  cases k <;> cases a <;> simp only [isKey] at hk <;> first | cases hk | skip
  all_goals (cases b <;> simp only [keyEq] at h <;> first | cases h | skip)
  all_goals (simp only [VR] at hx hy; subst hx; subst hy)
  · split at h
    · rename_i he
      simp only [Option.some.injEq, ieq_iff, decide_eq_true_eq] at h
      have he := keq_eq he
      subst he; subst h
      exact ⟨rfl, by simp [Instr.sameBits]⟩
    · cases h
  · rename_i c d
    simp only [Option.some.injEq] at h
    have := str_eq h
    subst this
    exact ⟨rfl, by simp [Instr.sameBits, Go.MapKept.bytes_beq]⟩
  · rename_i c d
    cases c <;> cases d <;> simp at h <;> exact ⟨rfl, by simp [Instr.sameBits]⟩
theorem modify_get {es : Array MapEntry} {j : Nat} {f : MapEntry → MapEntry} {i : Nat} {e : MapEntry} (h : (es.modify j f)[i]? = some e) : (i = j ∧ ∃ e0, es[j]? = some e0 ∧ e = f e0) ∨ (i ≠ j ∧ es[i]? = some e) := by
  rw [Array.getElem?_modify] at h
  split at h
  · rename_i hij
    subst hij
    cases he : es[j]? with
    | none => rw [he] at h; cases h
    | some e0 => rw [he] at h; cases h; exact .inl ⟨rfl, e0, rfl, rfl⟩
  · rename_i hij; exact .inr ⟨fun e => hij e.symm, h⟩
/-- An entry is written, or comes. -/
theorem insert_R (S : Sta E A n ok fr h act.tmps w) {t kt et : TypeId} {kk : KT} {m k v : Operand} (hm : OkO ok m) (hk : OkO ok k) (hv : OkO ok v) (hu : P.underlying t = some (.map kt et)) (hkt : keyT P kt = some kk) {fr' : FT} {h' : H}
    (e : hInsert kk (rd m) (rd k) (rd v) fr h = .next fr' h') : ∃ w', (Instr.mapUpdate t (act.eval m) (act.eval k) (act.eval v)).run P w = .ok () w' ∧ fr' = fr ∧ Sta E A n ok fr h' act.tmps w' ∧ HKept A h A h' := by
  unfold hInsert at e
  have hund := run_underlying (w := w) hu
  split at e
  · rename_i p hp
    obtain ⟨r, hr1, h1⟩ := gv_VR S.frr hm hp
    split at e
    · rename_i b hb
      obtain ⟨hb1, hb2⟩ := mapAt_eq hb
      have M := (S.inv.hr.blk p b r hb1 hr1).mapR hb2
      obtain ⟨es, clock, e1, e2, e3⟩ := M.map
      have hg := Go.MapKept.run_getObj_map (P := P) e1
      have hlt : r.blk < w.heap.size := (Array.getElem?_eq_some_iff.1 e1).1
      split at e
      · rename_i ka hka
        have hkv := gv_VR S.frr hk hka
        split at e
        · rename_i hik
          have hkd := isKey_R hik hkv
          have hck := fun e n => Go.MapKept.run_checkKey (P := P) (w := w) (keyT_eq hkt) hkd e n
          split at e
          · rename_i va hva
            have hvv := gv_VR S.frr hv hva
            split at e
            · rename_i j va0 hf
              cases e
              obtain ⟨e0, g1, g2, g3, ka0, g4, g5⟩ := findRow_R hik hkv e3 b.n 0 _ (by omega) hf
              rw [List.drop_zero] at g2
              have hf := Go.MapKept.run_findKey (P := P) (w := w) (keyT_eq hkt) g2
              obtain ⟨g6, g7⟩ := keyEq_same hik hkv g5 g4
              have hso := Go.MapKept.run_setObj_map (P := P) (.map (es.modify j fun e => { e with key := act.eval k, val := act.eval v }) clock) e1
              refine ⟨wr w r.blk (.map (es.modify j fun e => { e with key := act.eval k, val := act.eval v }) clock), ?_, rfl, ?_, .put A h hr1 _⟩
              · simp only [Instr.mapUpdate, Sem.run_bind, hund, Result.andThen_ok, h1, hg, hck, hf, g1, Option.map_some, Option.getD_some, g6, Instr.keyThatStays, g7, if_true, Sem.run_pure]
                exact hso
              · refine S.write hb1 hr1 M.ro M.ro (.ofMap hb2 ⟨M.ro, _, _, wr_same hlt, by rw [Array.size_modify]; exact e2, fun i x hx => ?_⟩)
                rcases modify_get hx with ⟨rfl, e0', _, rfl⟩ | ⟨hij, hx'⟩
                · exact ⟨ka, va, by show get _ (set _ _ _) = _; rw [get_set, if_pos rfl], hkv, hvv⟩
                · obtain ⟨ka', va', q1, q2, q3⟩ := e3 i x hx'
                  exact ⟨ka', va', by show get _ (set _ _ _) = _; rw [get_set, if_neg (fun e => hij (pathOf_inj e))]; exact q1, q2, q3⟩
            · rename_i hf
              cases e
              have g2 := findRow_R hik hkv e3 b.n 0 _ (by omega) hf
              rw [List.drop_zero] at g2
              have hf := Go.MapKept.run_findKey (P := P) (w := w) (keyT_eq hkt) g2
              have hso := Go.MapKept.run_setObj_map (P := P) (.map (es.push { key := act.eval k, val := act.eval v, born := clock }) (clock + 1)) e1
              refine ⟨wr w r.blk (.map (es.push { key := act.eval k, val := act.eval v, born := clock }) (clock + 1)), ?_, rfl, ?_, .put A h hr1 _⟩
              · simp only [Instr.mapUpdate, Sem.run_bind, hund, Result.andThen_ok, h1, hg, hck, hf]
                exact hso
              · refine S.write (b' := { b with n := b.n + 1, rows := set (pathOf b.n) (some [ka, va]) b.rows }) hb1 hr1 M.ro M.ro (.ofMap hb2 ⟨M.ro, _, _, wr_same hlt, by rw [Array.size_push]; simp only; omega, fun i x hx => ?_⟩)
                rw [Array.getElem?_push] at hx
                split at hx
                · rename_i hi
                  cases hx
                  exact ⟨ka, va, by show get _ (set _ _ _) = _; rw [get_set, if_pos (by rw [hi, e2])], hkv, hvv⟩
                · rename_i hi
                  obtain ⟨ka', va', q1, q2, q3⟩ := e3 i x hx
                  have hilt : i < es.size := (Array.getElem?_eq_some_iff.1 hx).1
                  exact ⟨ka', va', by show get _ (set _ _ _) = _; rw [get_set, if_neg (fun e => by have := pathOf_inj e; omega)]; exact q1, q2, q3⟩
            · cases e
          · cases e
        · cases e
      · cases e
    · cases e
  · cases e
end Go.Ev
