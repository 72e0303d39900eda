/- strings.Builder within a block of any type: copyCheck and String, as the evaluator's functions. -/
import Derived.Test.YtdfkioaoijmhbaaGreatDoorEvMc
import Derived.Test.YtdfkioaoijmhbaaGreatDoorEvMb
import Derived.Shelf.Strings.Builder1
set_option linter.unusedVariables false
namespace Go.Ev.Bd
set_option linter.unusedSectionVars false
variable [Unk]
open Go Go.Shelf Go.RowKit Go.Proofs
variable {P : Program} {ρ : Ren}
set_option maxHeartbeats 1000000 in
set_option maxRecDepth 100000 in
/-- copyCheck at a builder that has been used: nothing turns. -/
theorem copyUsed (L : Lays.n240 P ρ) (hsz : (P.info? (ρ.t 72)).map (·.size) = some 2) (a : Addr) (w : World) (h0 : w.cell? a = some (.pointer (some a))) :
    Calls P (ρ.f 240) #[.pointer (some a)] w fun e w' => e = .returned (.tuple #[]) ∧ w' = w := by
  obtain ⟨j, hj, _⟩ := Option.map_eq_some_iff.1 hsz
  have mixed := L.mixed
  have t72 := L.t72; have a72 := L.a72; have z72 := L.z72; have v72 := L.v72; have u72 := run_underlying L.t72
  have t70 := L.t70; have a70 := L.a70; have z70 := L.z70; have v70 := L.v70; have u70 := run_underlying L.t70
  have t9 := L.t9; have a9 := L.a9; have z9 := L.z9; have v9 := L.v9; have u9 := run_underlying L.t9
  have t4 := L.t4; have a4 := L.a4; have z4 := L.z4; have v4 := L.v4; have u4 := run_underlying L.t4
  have t164 := L.t164; have a164 := L.a164; have z164 := L.z164; have v164 := L.v164; have u164 := run_underlying L.t164
  obtain ⟨b, o, q⟩ := a
  go_enter L.f240, Body.n240_ntmps ρ
  go_wp2
  rw [Lib.run_neq_ptr_same w _ L.t70 hj]
  go_wp2
  go_end0
  exact ⟨rfl, rfl⟩
set_option maxHeartbeats 1000000 in
set_option maxRecDepth 100000 in
/-- copyCheck at a fresh builder, wherever it lies: it stores its own address. -/
theorem copyFresh (L : Lays.n240 P ρ) (hsz : (P.info? (ρ.t 72)).map (·.size) = some 2) (b o : Nat) (e : TypeId) (cells : Nat) (w : World) (h0 : w.cell? ⟨b, o, none⟩ = some (.pointer none)) (hsh : w.shape? b = some (e, cells)) (ho : o < cells)
    (hl : liesAt P P.depth e (cells / P.cellsOf e) o (ρ.t 72) 1 = true) (hfz : w.frozen? ⟨b, o, none⟩ = false) :
    Calls P (ρ.f 240) #[.pointer (some ⟨b, o, none⟩)] w fun e w' => e = .returned (.tuple #[]) ∧ w' = w.setCell ⟨b, o, none⟩ (.pointer (some ⟨b, o, none⟩)) := by
  obtain ⟨j, hj, hjs⟩ := Option.map_eq_some_iff.1 hsz
  have mixed := L.mixed
  have t72 := L.t72; have a72 := L.a72; have z72 := L.z72; have v72 := L.v72; have u72 := run_underlying L.t72
  have t70 := L.t70; have a70 := L.a70; have z70 := L.z70; have v70 := L.v70; have u70 := run_underlying L.t70
  have t9 := L.t9; have a9 := L.a9; have z9 := L.z9; have v9 := L.v9; have u9 := run_underlying L.t9
  have t4 := L.t4; have a4 := L.a4; have z4 := L.z4; have v4 := L.v4; have u4 := run_underlying L.t4
  have t164 := L.t164; have a164 := L.a164; have z164 := L.z164; have v164 := L.v164; have u164 := run_underlying L.t164
  go_enter L.f240, Body.n240_ntmps ρ
  go_wp2
  rw [Lib.run_to_unsafe w ⟨b, o, none⟩ L.t70 L.t164 hj (by rw [hjs]; decide) hsh ho]
  simp only [Result.andThen]
  rw [Oper.upon_value]
  go_wp2
  rw [run_callFunc_extern L.f276 (by kernel_rfl) (by kernel_rfl) (by kernel_rfl) (e := Extern.AbiNoEscape.same) (by kernel_rfl)]
  rw [Lib.run_noEscape]
  simp only [Result.andThen]
  rw [Oper.upon_value]
  go_wp2
  rw [Lib.run_from_unsafe w ⟨b, o, none⟩ L.t164 L.t70 hj hsh hl]
  simp only [Result.andThen]
  rw [Oper.upon_value]
  go_wp2
  go_end0
  exact ⟨rfl, rfl⟩
theorem setCell_wr {w : World} {g k : Nat} {cs : Array Value} {T : TypeId} {fz : Nat × Nat} {v : Value} (hg : w.heap[g]? = some (.cells cs T fz)) (hk : k < cs.size) :
    w.setCell ⟨g, k, none⟩ v = wr w g (.cells (cs.toList.take k ++ [v] ++ cs.toList.drop (k + [v].length)).toArray T fz) := by
  have hlt : g < w.heap.size := (Array.getElem?_eq_some_iff.1 hg).1
  have hc : cs.setIfInBounds k v = (cs.toList.take k ++ [v] ++ cs.toList.drop (k + [v].length)).toArray := by
    apply Array.ext'
    rw [Array.toList_setIfInBounds, List.set_eq_take_append_cons_drop, if_pos (by simpa using hk)]
    simp
  unfold World.setCell wr
  congr 1
  apply Array.ext_getElem?
  intro i
  rw [Array.getElem?_modify, Array.getElem?_setIfInBounds]
  by_cases h : g = i
  · subst h
    rw [if_pos rfl, if_pos rfl, if_pos hlt, hg]
    simp [hc]
  · rw [if_neg h, if_neg h]
/-- copyCheck: okT says which types, of so many cells, have a builder at which place. -/
noncomputable def ccG (okT : Nat → Nat → Nat → Bool) : List AV → H → CR := fun xs h => match xs with
  | [.ptr p o] => match getC p h.t with
    | some b => match get (pathOf (o / b.k)) b.rows with
      | some row => match row[o % b.k]? with
        | some .nilp => match okT b.ty (b.n * b.k) o, b.ro, b.grows, patch (o % b.k) [.ptr p o] row with
          | true, false, false, some row' => .ret (.tup []) (h.put p (some { b with rows := set (pathOf (o / b.k)) (some row') b.rows }))
          | _, _, _, _ => .bad 0
        | some (.ptr q u) => match aveq (.ptr q u) (.ptr p o) with | true => .ret (.tup []) h | false => .bad 0
        | _ => .bad 0
      | none => .bad 0
    | none => .bad 0
  | _ => .bad 0
theorem cc_entry {Γ : Glob} (L : Lays.n240 P ρ) (hsz : (P.info? (ρ.t 72)).map (·.size) = some 2) (body : Callable P (ρ.f 240)) {okT : Nat → Nat → Nat → Bool}
    (hok : ∀ ty k o, okT ty k o = true → o < k ∧ ∃ T, ty = T + 1 ∧ liesAt P P.depth T (k / P.cellsOf T) o (ρ.t 72) 1 = true) : Entry Γ P (ρ.f 240) (ccG okT) := ⟨body, fun {xs h r} e hb {A w args} hh hg ha => by
  unfold ccG at e
  split at e
  · rename_i p o
    split at e
    · rename_i b hbl
      split at e
      · rename_i row hrow
        obtain ⟨y, ys, e1, h1, h2⟩ := ha
        obtain ⟨q, hq, rfl⟩ := h1
        have h2 : ys = [] := by simpa [VRs] using h2
        subst h2
        obtain rfl : args = #[.pointer (some ⟨q.blk, q.off + o, none⟩)] := by cases args; simp_all
        obtain ⟨hget, hmap⟩ := getC_eq hbl
        have B := (hh.blk p b q hget hq).blk hmap
        obtain ⟨cs, T, fz, c1, c2, c3, c4⟩ := B.cells
        obtain ⟨f1, f2, f3⟩ := c4 _ _ hrow
        have hmod : o = o / b.k * q.k + o % b.k := by rw [B.k, Nat.mul_comm]; exact (Nat.div_add_mod o b.k).symm
        have hoff : q.off + o / b.k * q.k + o % b.k = q.off + o := by omega
        have hcell : ∀ {a : AV}, row[o % b.k]? = some a → ∃ x, cs[q.off + o]? = some x ∧ VR A.s a x := fun {a} hr => by
          obtain ⟨x, hx, hv⟩ := f3 _ _ hr
          rw [hoff] at hx
          exact ⟨x, hx, hv⟩
        have hc? : ∀ {x : Value}, cs[q.off + o]? = some x → w.cell? ⟨q.blk, q.off + o, none⟩ = some x := fun {x} hx => by
          unfold World.cell?
          simp only [c1, Option.isSome_none, Bool.false_eq_true, if_false]
          exact hx
        split at e
        · rename_i hr0
          split at e
          · rename_i row' hT hro hgr hp
            subst e
            obtain ⟨x, hx, hv⟩ := hcell hr0
            have hv : x = .pointer none := hv
            subst hv
            obtain ⟨ho, T1, ht, hlies⟩ := hok _ _ _ hT
            have hfz := c2 hro
            subst hfz
            have hty := B.ty
            rcases hty with h0 | ⟨cs2, T2, fz2, t1, t2, t3, t4⟩
            · omega
            · rw [c1] at t1; cases t1
              have : T1 = T := by omega
              subst this
              have hlt : q.off + o < cs.size := (Array.getElem?_eq_some_iff.1 hx).1
              have hcall := copyFresh L hsz q.blk (q.off + o) T1 cs.size w (hc? hx) (by unfold World.shape?; simp only [c1]) hlt (by rw [t4 hgr, t3, Nat.zero_add]; exact hlies) (by unfold World.frozen?; simp [c1])
              refine hcall.mono fun e w' ⟨he, hw⟩ => ?_
              rw [setCell_wr c1 hlt] at hw
              subst hw
              have hvs : VRs A.s [AV.ptr p o] [.pointer (some ⟨q.blk, q.off + o, none⟩)] := ⟨_, _, rfl, ⟨q, hq, rfl⟩, by simp [VRs]⟩
              obtain ⟨cs3, T3, s1, s2, s3⟩ := B.patched hro hrow hp hvs rfl
              rw [c1] at s1; cases s1
              rw [hoff] at s3
              exact ⟨_, A, he, ⟨#[], rfl, by simp [VRs]⟩, (Inv.start hh).write hget hq hro hro (.of hmap s3)⟩
          · subst e; exact absurd rfl (hb 0)
        · rename_i q' u hr0
          split at e
          · rename_i hae
            subst e
            have := aveq_eq hae
            cases this
            obtain ⟨x, hx, q2, hq2, rfl⟩ := hcell hr0
            rw [hq] at hq2; cases hq2
            exact told_pure hh (show VR A.s (.tup []) (.tuple #[]) from ⟨#[], rfl, by simp [VRs]⟩) ((copyUsed L hsz _ w (hc? hx)).mono fun e w' ⟨he, hw⟩ => ⟨he, by subst hw; exact Below.refl _ _⟩)
          · subst e; exact absurd rfl (hb 0)
        · subst e; exact absurd rfl (hb 0)
      · subst e; exact absurd rfl (hb 0)
    · subst e; exact absurd rfl (hb 0)
  · subst e; exact absurd rfl (hb 0)⟩
theorem freeze_wr {w : World} {g n : Nat} {cs : Array Value} {T : TypeId} (hg : w.heap[g]? = some (.cells cs T (0, 0))) (hn : n ≠ 0) : w.freeze ⟨g, 0, none⟩ n = wr w g (.cells cs T (0, n)) := by
  have hlt : g < w.heap.size := (Array.getElem?_eq_some_iff.1 hg).1
  unfold World.freeze wr
  rw [if_neg hn]
  congr 1
  apply Array.ext_getElem?
  intro i
  rw [Array.getElem?_modify, Array.getElem?_setIfInBounds]
  by_cases h : g = i
  · subst h
    rw [if_pos rfl, if_pos rfl, if_pos hlt, hg]
    simp
  · rw [if_neg h, if_neg h]
set_option maxHeartbeats 2000000 in
set_option maxRecDepth 100000 in
/-- String at a builder that was never written. -/
theorem strNil (L : Lays.n169 P ρ) (X : Builder.Extra P ρ) (b o : Nat) (w : World) (c0 : w.cell? ⟨b, o + 1, none⟩ = some (.slice none 0 0)) :
    Calls P (ρ.f 169) #[.pointer (some ⟨b, o, none⟩)] w fun e w' => e = .returned (.string ⟨#[]⟩) ∧ w' = w.drew := by
  have hUS := Any.unsafeString_none L X
  have c1 : w.drew.cell? ⟨b, o + 1, none⟩ = some (.slice none 0 0) := c0
  have hSD : (Builtin.unsafeSliceData_ #[(ρ.t 37)] (ρ.t 127) #[.slice none 0 0]).run P w.drew = .ok (.pointer none) w.drew := rfl
  have mixed := L.mixed
  have t72 := L.t72; have a72 := L.a72; have z72 := L.z72; have v72 := L.v72; have u72 := run_underlying L.t72
  have t70 := L.t70; have a70 := L.a70; have z70 := L.z70; have v70 := L.v70; have u70 := run_underlying L.t70
  have t37 := L.t37; have a37 := L.a37; have z37 := L.z37; have v37 := L.v37; have u37 := run_underlying L.t37
  have t127 := L.t127; have a127 := L.a127; have z127 := L.z127; have v127 := L.v127; have u127 := run_underlying L.t127
  have t3 := L.t3; have a3 := L.a3; have z3 := L.z3; have v3 := L.v3; have u3 := run_underlying L.t3
  have t9 := L.t9; have a9 := L.a9; have z9 := L.z9; have v9 := L.v9; have u9 := run_underlying L.t9
  have t5 := X.t5; have a5 := X.a5; have z5 := X.z5; have v5 := X.v5; have u5 := run_underlying X.t5
  go_enter L.f169, Body.n169_ntmps ρ
  go_wp2
  go_region_o
  all_goals (go_wp2; go_ret; exact ⟨rfl, rfl⟩)
set_option maxHeartbeats 2000000 in
set_option maxRecDepth 100000 in
/-- String at a builder that holds bytes: they are frozen. -/
theorem strRow (L : Lays.n169 P ρ) (X : Builder.Extra P ρ) (b o g cap : Nat) (l : List UInt8) (cur : Array Value) (w : World) (hl : l ≠ []) (hcap : l.length ≤ cap) (h63 : l.length ≤ 9223372036854775807)
    (c0 : w.cell? ⟨b, o + 1, none⟩ = some (.slice (some ⟨g, 0, none⟩) l.length cap)) (hg : w.heap[g]? = some (.cells cur (ρ.t 5) (0, 0))) (hsz : l.length ≤ cur.size)
    (hcell : ∀ j x, l[j]? = some x → w.cell? ((⟨g, 0, none⟩ : Addr).add j) = some (.int .u8 x.toNat)) :
    Calls P (ρ.f 169) #[.pointer (some ⟨b, o, none⟩)] w fun e w' => e = .returned (.string ⟨l.toArray⟩) ∧ w' = w.drew.freeze ⟨g, 0, none⟩ l.length := by
  have hl0 : l.length ≠ 0 := by simpa using hl
  have c1 : w.drew.cell? ⟨b, o + 1, none⟩ = some (.slice (some ⟨g, 0, none⟩) l.length cap) := c0
  have hSD : (Builtin.unsafeSliceData_ #[(ρ.t 37)] (ρ.t 127) #[.slice (some ⟨g, 0, none⟩) l.length cap]).run P w.drew = .ok (.pointer (some ⟨g, 0, none⟩)) w.drew :=
    Lib.run_unsafeSliceData_row _ _ _ _ _ _ (by omega)
  have hUS : (Builtin.unsafeString_ #[(ρ.t 127), (ρ.t 3)] (ρ.t 9) #[.pointer (some ⟨g, 0, none⟩), .int .i64 l.length]).run P w.drew = .ok (.string ⟨l.toArray⟩) (w.drew.freeze ⟨g, 0, none⟩ l.length) :=
    Lib.run_unsafeString_row w.drew (ρ.t 127) (ρ.t 3) (ρ.t 9) (ρ.t 5) L.t127 X.cellsByte g cur.size (by have hg' : w.drew.heap[g]? = some (.cells cur (ρ.t 5) (0, 0)) := hg; simp [World.shape?, hg']) l hl hsz h63 hcell
  have mixed := L.mixed
  have t72 := L.t72; have a72 := L.a72; have z72 := L.z72; have v72 := L.v72; have u72 := run_underlying L.t72
  have t70 := L.t70; have a70 := L.a70; have z70 := L.z70; have v70 := L.v70; have u70 := run_underlying L.t70
  have t37 := L.t37; have a37 := L.a37; have z37 := L.z37; have v37 := L.v37; have u37 := run_underlying L.t37
  have t127 := L.t127; have a127 := L.a127; have z127 := L.z127; have v127 := L.v127; have u127 := run_underlying L.t127
  have t3 := L.t3; have a3 := L.a3; have z3 := L.z3; have v3 := L.v3; have u3 := run_underlying L.t3
  have t9 := L.t9; have a9 := L.a9; have z9 := L.z9; have v9 := L.v9; have u9 := run_underlying L.t9
  have t5 := X.t5; have a5 := X.a5; have z5 := X.z5; have v5 := X.v5; have u5 := run_underlying X.t5
  go_enter L.f169, Body.n169_ntmps ρ
  go_wp2
  go_region_o
  all_goals (go_wp2; go_ret; exact ⟨rfl, rfl⟩)
/-- String: the bytes are there to be read alone from then on. -/
noncomputable def strG (bT : Nat) : List AV → H → CR := fun xs h => match xs with
  | [.ptr p o] => match getC p h.t with
    | some b => match get (pathOf ((o + 1) / b.k)) b.rows with
      | some row => match row[(o + 1) % b.k]? with
        | some .nils => .ret (.str ⟨#[]⟩) h
        | some (.sl g _ i n) => match getC g h.t with
          | some bg => match i, Nat.beq bg.ty (bT + 1), Nat.beq bg.k 1, bg.ro, Nat.ble n 9223372036854775807, sbIn bg.rows n 0 with
            | 0, true, true, false, true, some (c :: l) => .ret (mkS (c :: l)) ((h.put g none).new { bg with ro := true })
            | _, _, _, _, _, _ => .bad 0
          | none => .bad 0
        | _ => .bad 0
      | none => .bad 0
    | none => .bad 0
  | _ => .bad 0
theorem str_entry {Γ : Glob} (L : Lays.n169 P ρ) (X : Builder.Extra P ρ) (body : Callable P (ρ.f 169)) : Entry Γ P (ρ.f 169) (strG (ρ.t 5)) := ⟨body, fun {xs h r} e hb {A w args} hh hg ha => by
  unfold strG at e
  split at e
  · rename_i p o
    split at e
    · rename_i b hbl
      split at e
      · rename_i row hrow
        obtain ⟨y, ys, e1, h1, h2⟩ := ha
        obtain ⟨q, hq, rfl⟩ := h1
        have h2 : ys = [] := by simpa [VRs] using h2
        subst h2
        obtain rfl : args = #[.pointer (some ⟨q.blk, q.off + o, none⟩)] := by cases args; simp_all
        obtain ⟨hget, hmap⟩ := getC_eq hbl
        have B := (hh.blk p b q hget hq).blk hmap
        obtain ⟨cs, T, fz, c1, c2, c3, c4⟩ := B.cells
        obtain ⟨f1, f2, f3⟩ := c4 _ _ hrow
        have hmod : o + 1 = (o + 1) / b.k * q.k + (o + 1) % b.k := by rw [B.k, Nat.mul_comm]; exact (Nat.div_add_mod (o + 1) b.k).symm
        have hoff : q.off + (o + 1) / b.k * q.k + (o + 1) % b.k = q.off + o + 1 := by omega
        have hcell : ∀ {a : AV}, row[(o + 1) % b.k]? = some a → ∃ x, w.cell? ⟨q.blk, q.off + o + 1, none⟩ = some x ∧ VR A.s a x := fun {a} hr => by
          obtain ⟨x, hx, hv⟩ := f3 _ _ hr
          rw [hoff] at hx
          refine ⟨x, ?_, hv⟩
          unfold World.cell?
          simp only [c1, Option.isSome_none, Bool.false_eq_true, if_false]
          exact hx
        split at e
        · rename_i hr0
          subst e
          obtain ⟨x, hx, hv⟩ := hcell hr0
          have hv : x = .slice none 0 0 := hv
          subst hv
          exact told_pure hh (show VR A.s (.str ⟨#[]⟩) (.string ⟨#[]⟩) from rfl) ((strNil L X q.blk (q.off + o) w hx).mono fun e w' ⟨he, hw⟩ => ⟨he, by subst hw; exact Below.drew (Below.refl _ _)⟩)
        · rename_i g kk i n hr0
          split at e
          · rename_i bg hbg
            split at e
            · rename_i c l hty hk hro hn hby
              subst e
              obtain ⟨x, hx, q2, hq2, hk2, hcap2, rfl⟩ := hcell hr0
              obtain ⟨hget2, hmap2⟩ := getC_eq hbg
              have B2 := (hh.blk g bg q2 hget2 hq2).blk hmap2
              obtain ⟨cs2, T2, fz2, d1, d2, d3, d4⟩ := B2.cells
              have hfz := d2 hro
              subst hfz
              have hk := Nat.eq_of_beq_eq_true hk
              have hty := Nat.eq_of_beq_eq_true hty
              have hn := Nat.le_of_ble_eq_true hn
              obtain ⟨l1, l2⟩ := sbIn_spec _ _ _ _ hby
              have each : ∀ (j : Nat) x, (c :: l)[j]? = some x → cs2[q2.off + (0 + j) * q2.k + 0]? = some (.int .u8 x.byte.toNat) ∧ x.ok := fun j x hj => by
                obtain ⟨a, r1, r2⟩ := l2 j x hj
                obtain ⟨_, _, r3⟩ := d4 _ _ r1
                obtain ⟨v, hv1, hv2⟩ := r3 0 _ rfl
                obtain ⟨rfl, hc⟩ := avSB_R r2 hv2
                exact ⟨hv1, hc⟩
              have hall : ∀ p ∈ c :: l, p.ok := fun p hp => by
                obtain ⟨j, hj⟩ := List.getElem?_of_mem hp
                exact (each j p hj).2
              obtain ⟨bs, hL⟩ : ∃ bs, bs = (c :: l).map SB.byte := ⟨_, rfl⟩
              have hLl : bs.length = (c :: l).length := by rw [hL, List.length_map]
              have hqk : q2.k = 1 := by rw [B2.k, hk]
              rcases B2.ty with h0 | ⟨cs3, T3, fz3, t1, t2, t3, _⟩
              · rw [hty] at h0; exact absurd h0 (Nat.succ_ne_zero _)
              · rw [d1] at t1; cases t1
                have hT : T2 = ρ.t 5 := Nat.succ.inj (t2.symm.trans hty)
                rw [hT] at d1 t2
                have hx : w.cell? ⟨q.blk, q.off + o + 1, none⟩ = some (.slice (some ⟨q2.blk, 0, none⟩) bs.length q2.cap) := by
                  rw [hx, t3, hLl, l1]; simp
                have hcell2 : ∀ j x, bs[j]? = some x → w.cell? ((⟨q2.blk, 0, none⟩ : Addr).add j) = some (.int .u8 x.toNat) := fun j x hj => by
                  rw [hL, List.getElem?_map] at hj
                  obtain ⟨y, hy, rfl⟩ := Option.map_eq_some_iff.1 hj
                  obtain ⟨hv1, _⟩ := each j y hy
                  rw [add_none]
                  unfold World.cell?
                  simp only [d1]
                  rw [t3, hqk] at hv1
                  simpa using hv1
                have hsz : bs.length ≤ cs2.size := by
                  rw [t3, hqk] at d3
                  omega
                have hne : bs.length ≠ 0 := by rw [hLl]; simp
                refine (strRow L X q.blk (q.off + o) q2.blk q2.cap bs cs2 w (fun e => hne (by rw [e]; rfl)) (by omega) (by omega) hx d1 hsz hcell2).mono fun e w' ⟨he, hw⟩ => ?_
                have d1' : w.drew.heap[q2.blk]? = some (.cells cs2 (ρ.t 5) (0, 0)) := d1
                rw [freeze_wr d1' hne] at hw
                subst hw
                have hlt : q2.blk < w.drew.heap.size := (Array.getElem?_eq_some_iff.1 d1').1
                have I : Inv ⟨A, h, w⟩ A h w.drew := Inv.below hh (Below.drew (Below.refl _ _))
                refine ⟨_, A.withS h.next q2, he, hL ▸ mkS_R hall, I.grow (r' := q2) hget2 hq2 hro rfl (.of hmap2 ?_)⟩
                have hm := withS_mono (r := q2) I.hr.none_next
                refine { k := B2.k, kpos := B2.kpos, cap := B2.cap, shut := B2.shut, top := B2.top, ty := .inr ⟨cs2, ρ.t 5, _, wr_same hlt, t2, t3, fun hg => ?_⟩, cells := ⟨cs2, ρ.t 5, _, wr_same hlt, (fun hr => by cases hr), d3, fun j row hj => ?_⟩ }
                · rcases B2.ty with h0 | ⟨cs3, T3, fz3, x1, x2, x3, x4⟩
                  · rw [hty] at h0; exact absurd h0 (Nat.succ_ne_zero _)
                  · rw [d1] at x1; cases x1; exact x4 hg
                · obtain ⟨r1, r2, r3⟩ := d4 j row hj
                  exact ⟨r1, r2, fun i a ha => by obtain ⟨x, hx, hv⟩ := r3 i a ha; exact ⟨x, hx, VR.mono hm _ _ hv⟩⟩
            · subst e; exact absurd rfl (hb 0)
          · subst e; exact absurd rfl (hb 0)
        · subst e; exact absurd rfl (hb 0)
      · subst e; exact absurd rfl (hb 0)
    · subst e; exact absurd rfl (hb 0)
  · subst e; exact absurd rfl (hb 0)⟩
end Go.Ev.Bd
